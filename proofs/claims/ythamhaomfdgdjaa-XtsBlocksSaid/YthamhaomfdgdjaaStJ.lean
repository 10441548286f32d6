/- A walk over known memory begun anew, and joined to what was known before; calls of function values. -/
import Derived.Test.YthamhaomfdgdjaaSt
import Derived.Test.YthamhaomfdgdjaaInv
namespace Go.Proofs.Ythamhaomfdgdjaa
open Go.RowKit
variable {K K2 : Nat → Prop} {w0 w w' : World} {H H' : List Ent} {x y : Ent} {f : Ent → List Ent}

/-- All that lies there but what the entries tell of. -/
def Kr (w : World) (H : List Ent) (k : Nat) : Prop := k < w.heap.size ∧ ∀ x ∈ H, x.foot ≠ some k
theorem St.restart (h : St K w0 w H) : St (Kr w H) w w H :=
  ⟨fun _ hk => hk.1, rfl, rfl, rfl, Nat.le_refl _, fun _ _ => rfl, h.all, fun x hx b hb hk => hk.2 x hx hb, h.apart⟩
theorem St.join (h : St K w0 w H) (h2 : St (Kr w H) w w' H') : St K w0 w' H' :=
  ⟨h.base, h2.os.trans h.os, h2.tape.trans h.tape, h2.output.trans h.output, Nat.le_trans h.size h2.size,
   fun k hk => (h2.keep k ⟨Nat.lt_of_lt_of_le (h.base k hk) h.size, fun x hx e => h.off x hx k e hk⟩).trans (h.keep k hk),
   h2.all, fun x hx b hb hk => h2.off x hx b hb ⟨Nat.lt_of_lt_of_le (h.base b hk) h.size, fun y hy e => h.off y hy b e hk⟩, h2.apart⟩
theorem St.rdr (h : St K w0 w H) (h2 : St (Kr w H) w w' H') {A : Option Addr} {xs : List Value} (hr : Rd w0 A xs) (hK : ∀ a, A = some a → a.block < w0.heap.size → K a.block) : Rd w' A xs := (h.join h2).rd hr hK
theorem kr_below {w : World} {H : List Ent} {B : Nat} (hB : B ≤ w.heap.size) (hH : ∀ x ∈ H, ∀ b, x.foot = some b → B ≤ b) {k : Nat} (hk : k < B) : Kr w H k := ⟨Nat.lt_of_lt_of_le hk hB, fun x hx e => by have := hH x hx k e; omega⟩
/-- One entry more, of what lies there already. -/
theorem St.more (h : St K w0 w H) (hy : y.holds w) (hoff : ∀ b, y.foot = some b → ¬ K b) (hap : ∀ x ∈ H, ∀ b, y.foot = some b → x.foot ≠ some b) : St K w0 w (y :: H) :=
  ⟨h.base, h.os, h.tape, h.output, h.size, h.keep, fun z hz => by rcases List.mem_cons.1 hz with rfl | hz <;> first | exact hy | exact h.all z hz,
   fun z hz b hb => by rcases List.mem_cons.1 hz with rfl | hz <;> first | exact hoff b hb | exact h.off z hz b hb, List.pairwise_cons.2 ⟨fun z hz b hb => hap z hz b hb, h.apart⟩⟩

variable {P : Program} {md : Region.Mode} {ops : Array Oper} {Q : Exit → Act → World → Prop} {R : World → World → Prop}
theorem run_callV {fi : FuncId} {fn : Func} {c : Code} (hf : P.funcs[fi]? = some fn) (hname : (fn.name == "runtime.NumGoroutine") = false) (hb : fn.body = some c) {o : Oper} {a : Act} {x : Operand} {xs : Array Operand} {ts : Array TypeId}
    (hop : o.op = .call { callee := .value x, args := xs, argTypes := ts }) {F C : Array Value} (hx : a.eval x = .func (.func fi) F C) {args : Array Value} (hargs : F ++ xs.map a.eval ++ C = args) (w : World) :
    (execOp a.eval o).run P w = .ok (.enter fi args) w := by
  subst hargs
  unfold execOp
  rw [hop]
  have hen := enters_of hf hname hb (F ++ xs.map a.eval ++ C) w
  simp only [resolve, invoke, Deferred.ofValue, hx, Sem.run_bind, Sem.run_pure, Result.andThen_ok]
  exact hen
theorem E_callV1 {i : Nat} {N : Option Tmp} {oi : Oper} {fuel : Nat} {l : Array Bool} {a : Act} {w : World} (l' : Array Bool) (hi : ops[i]? = some oi) (hN : oi.dst = N) (hc : (l.setIfInBounds i true == l') = true) (hw : Region.wanted oi (yielded ops a.tmps) = true)
    {fi : FuncId} {fn : Func} {c : Code} (hf : P.funcs[fi]? = some fn) (hname : (fn.name == "runtime.NumGoroutine") = false) (hb : fn.body = some c)
    {x : Operand} {xs : Array Operand} {ts : Array TypeId} (hop : oi.op = .call { callee := .value x, args := xs, argTypes := ts }) {F C : Array Value} (hx : a.eval x = .func (.func fi) F C) {args : Array Value} (hargs : F ++ xs.map a.eval ++ C = args)
    (h : Calls P fi args w fun e w' => ∃ v, e = .returned v ∧ R w w' ∧ ∀ a', a.put N v = a' → wpE R P md ops Q fuel l' a' w') : wpE1 R P md ops Q fuel l a w i := by
  subst hN
  refine E_one1 l' hi hc hw ?_
  have hr := run_callV (P := P) hf hname hb hop hx hargs w
  unfold Oper.wp
  rw [hr]
  refine h.mono fun e w' hv => ?_
  obtain ⟨v, rfl, hx, hk⟩ := hv
  exact ⟨hx, hk _ rfl⟩
end Go.Proofs.Ythamhaomfdgdjaa
