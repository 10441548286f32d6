/- Calls through an interface whose dynamic type is known. -/
import Derived.Test.YthamhaomfdgdjaaReg
import Derived.Test.YthamhaomfdgdjaaStR
import Derived.Test.YthamhaomfdgdjaaAgg
namespace Go.Proofs.Ythamhaomfdgdjaa
open Go.RowKit
variable {P : Program} {md : Region.Mode} {ops : Array Oper} {Q : Exit → Act → World → Prop} {R : World → World → Prop}

/-- What stands behind an interface value of this type under this name. -/
def Meth (P : Program) (t : TypeId) (rv : Value) (name : String) (f : FuncId) (rv' : Value) : Prop := (∀ w, (method (P.types.size + Made.depth) t rv name).run P w = .ok (f, rv') w) ∧ ∀ w, (nilAhead (P.types.size + Made.depth) t rv name).run P w = .ok (some false) w
theorem extract_one (v : Value) (us : Array Value) : (#[v] ++ us).extract 1 (#[v] ++ us).size = us := by
  apply Array.ext'
  simp
theorem run_invoke {f : FuncId} {fn : Func} {c : Code} (hf : P.funcs[f]? = some fn) (hname : (fn.name == "runtime.NumGoroutine") = false) (hb : fn.body = some c) {o : Oper} {a : Act} {x : Operand} {name : String} {xs : Array Operand} {ts : Array TypeId}
    (hop : o.op = .call { callee := .invoke x name, args := xs, argTypes := ts }) {t : TypeId} {rv rv' : Value} (hrv : a.eval x = .iface t rv) (hm : Meth P t rv name f rv') {args : Array Value} (hargs : #[rv'] ++ xs.map a.eval = args) (w : World) :
    (execOp a.eval o).run P w = .ok (.enter f args) w := by
  subst hargs
  unfold execOp
  rw [hop]
  have hen := enters_of hf hname hb (#[rv'] ++ xs.map a.eval) w
  have h0 : (#[Value.iface t rv] ++ xs.map a.eval)[0]? = some (.iface t rv) := by rw [Array.getElem?_append_left (show 0 < 1 from Nat.one_pos)]; rfl
  have e1 := extract_one (.iface t rv) (xs.map a.eval)
  have hp : (program).run P w = .ok P w := rfl
  simp only [resolve, invoke, hrv, Sem.run_bind, Sem.run_pure, Result.andThen_ok, Array.append_empty, h0, callMethod, e1, hp, hm.1 w]
  exact hen
theorem run_nilCheckI {o : Oper} {a : Act} {x : Operand} {name : String} {t : TypeId} {rv rv' : Value} {f : FuncId} {cap : Array Value} (ho : o.op = .nilCheck x) (hx : a.eval x = .func (.method name) #[.iface t rv] cap) (hm : Meth P t rv name f rv') (w : World) :
    (execOp a.eval o).run P w = .ok (.value (.func (.method name) #[.iface t rv] cap)) w := by
  unfold execOp
  rw [ho]
  have hp : (program).run P w = .ok P w := rfl
  have h0 : (#[Value.iface t rv])[0]? = some (.iface t rv) := rfl
  simp only [hx, h0, Sem.run_bind, hp, Result.andThen_ok, hm.2 w]
  rfl
theorem run_makeFn {o : Oper} {a : Act} {fn : Fn} {first cap : Array Operand} (ho : o.op = .makeFunc fn first cap) {F C : Array Value} (hF : first.map a.eval = F) (hC : cap.map a.eval = C) (w : World) :
    (execOp a.eval o).run P w = .ok (.value (.func fn F C)) w := by
  subst hF hC
  unfold execOp
  rw [ho]
  rfl
theorem E_callI1 {i : Nat} {N : Option Tmp} {oi : Oper} {fuel : Nat} {l : Array Bool} {a : Act} {w : World} (l' : Array Bool) (hi : ops[i]? = some oi) (hN : oi.dst = N) (hc : (l.setIfInBounds i true == l') = true) (hw : Region.wanted oi (yielded ops a.tmps) = true)
    {f : FuncId} {fn : Func} {c : Code} (hf : P.funcs[f]? = some fn) (hname : (fn.name == "runtime.NumGoroutine") = false) (hb : fn.body = some c)
    {x : Operand} {name : String} {xs : Array Operand} {ts : Array TypeId} (hop : oi.op = .call { callee := .invoke x name, args := xs, argTypes := ts }) {t : TypeId} {rv rv' : Value} (hrv : a.eval x = .iface t rv) (hm : Meth P t rv name f rv') {args : Array Value} (hargs : #[rv'] ++ xs.map a.eval = args)
    (h : Calls P f args w fun e w' => ∃ v, e = .returned v ∧ R w w' ∧ ∀ a', a.put N v = a' → wpE R P md ops Q fuel l' a' w') : wpE1 R P md ops Q fuel l a w i := by
  subst hN
  refine E_one1 l' hi hc hw ?_
  have hr := run_invoke (P := P) hf hname hb hop hrv hm hargs w
  unfold Oper.wp
  rw [hr]
  refine h.mono fun e w' hv => ?_
  obtain ⟨v, rfl, hx, hk⟩ := hv
  exact ⟨hx, hk _ rfl⟩
/-- .. where it stands in no region of open order. -/
theorem S_invoke {rest : List Oper} {o : Oper} {a : Act} {w : World} (hgd : o.guard = none) {f : FuncId} {fn : Func} {c : Code} (hf : P.funcs[f]? = some fn) (hname : (fn.name == "runtime.NumGoroutine") = false) (hb : fn.body = some c)
    {x : Operand} {name : String} {xs : Array Operand} {ts : Array TypeId} (hop : o.op = .call { callee := .invoke x name, args := xs, argTypes := ts }) {t : TypeId} {rv rv' : Value} (hrv : a.eval x = .iface t rv) (hm : Meth P t rv name f rv') {args : Array Value} (hargs : #[rv'] ++ xs.map a.eval = args)
    (h : Calls P f args w fun e w' => ∃ v, e = .returned v ∧ wpList P ops Q rest (a.put o.dst v) w') : wpList P ops Q (o :: rest) a w := by
  have hr := run_invoke (P := P) hf hname hb hop hrv hm hargs w
  refine wpList_plain hgd fun K hK => ?_
  unfold Oper.wp
  rw [hr]
  refine h.mono fun e w' hv => ?_
  obtain ⟨v, rfl, hk⟩ := hv
  exact hK _ _ hk
end Go.Proofs.Ythamhaomfdgdjaa
