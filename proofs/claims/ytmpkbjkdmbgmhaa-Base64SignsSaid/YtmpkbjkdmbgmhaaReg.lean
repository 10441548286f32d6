/- Laws for a region whose order is open and whose operations at most make new blocks: an operation whose answer can't change by what is made may be taken first; one that makes something is met where it comes up. -/
import Derived.Test.YtmpkbjkdmbgmhaaBase
import Derived.OrdersHeld
import Derived.Deep.RegionHeld3
import Derived.RegionTactic
import Derived.Shelf.Abstract
namespace Go.Proofs.Ytmpkbjkdmbgmhaa
open Go.RowKit

/-- Nothing that was there has changed. -/
def Ext (w w' : World) : Prop := Below w.heap.size w w'
theorem Ext.refl (w : World) : Ext w w := Below.refl _ _
theorem Ext.trans {a b c : World} (h : Ext a b) (k : Ext b c) : Ext a c := Below.trans h (Below.mono k h.size)
theorem Ext.drew (w : World) : Ext w w.drew := (Below.refl _ w).drew
theorem Ext.alloc (w : World) (o : Obj) : Ext w (w.alloc o) := (Below.refl _ w).alloc (Nat.le_refl _) o
theorem Ext.below {w0 w w' : World} (hb : Below w0.heap.size w0 w) (h : Ext w w') : Below w0.heap.size w0 w' := hb.trans (Below.mono h hb.size)

/-- A relation between worlds that may be handed on. -/
structure Pre (R : World → World → Prop) : Prop where
  refl : ∀ w, R w w
  trans : ∀ {a b c : World}, R a b → R b c → R a c
  drew : ∀ w, R w w.drew
theorem Ext.pre : Pre Ext := ⟨Ext.refl, Ext.trans, Ext.drew⟩
theorem Pre.below (B : Nat) : Pre (Below B) := ⟨Below.refl B, Below.trans, fun w => (Below.refl B w).drew⟩

section
variable {P : Program} {ops : Array Oper} {Q : Exit → Act → World → Prop} {md : Region.Mode} {R : World → World → Prop}

def wpE (R : World → World → Prop) (P : Program) (md : Region.Mode) (ops : Array Oper) (Q : Exit → Act → World → Prop) : Nat → Array Bool → Act → World → Prop
  | 0, listed, a, w => Region.ready md ops listed = [] ∧ Q .normal a w
  | fuel + 1, listed, a, w =>
    (Region.ready md ops listed = [] → Q .normal a w) ∧
    ∀ i ∈ Region.ready md ops listed, wpOp P ops Q i (fun a' w' => R w w' ∧ wpE R P md ops Q fuel (listed.setIfInBounds i true) a' w') a w

theorem wpAny_of_E : ∀ (fuel : Nat) (listed : Array Bool) (a : Act) (w : World), wpE R P md ops Q fuel listed a w → wpAny P md ops Q fuel listed a w
  | 0, _, _, _, h => h
  | fuel + 1, _, _, _, h => ⟨h.1, fun i hi => wpOp_mono (fun a' w' h' => wpAny_of_E fuel _ a' w' h'.2) (h.2 i hi)⟩

theorem wpE_first (hR : Pre R) {S : World → Prop} (hst : ∀ w w', S w → R w w' → S w') {i : Nat} {oi : Oper} {v : Value} (hi : ops[i]? = some oi) (hsel : ∀ (j : Nat) (o : Oper) cs b, ops[j]? = some o → o.op ≠ .select cs b)
    (hQ : ∀ c a w, Q (.panic c) (a.put oi.dst v) w → Q (.panic c) a w) :
    ∀ (fuel : Nat) (listed : Array Bool) (a : Act) (w : World),
      (∀ j oj, ops[j]? = some oj → j ≠ i → listed.getD j true = false → (∀ e ∈ oj.after, Region.binds md e = true → e.on ≠ i) → oi.apart ops oj = true) →
      i ∈ Region.ready md ops listed → YieldsIf P ops S oi v a → S w →
      wpE R P md ops Q fuel (listed.setIfInBounds i true) (a.put oi.dst v) w → wpE R P md ops Q (fuel + 1) listed a w := by
  intro fuel
  induction fuel with
  | zero =>
    intro listed a w _ hr hy hS H
    refine ⟨fun h => (by rw [h] at hr; cases hr), fun j hj => ?_⟩
    by_cases hji : j = i
    · subst hji; exact hy.wpOp hi hS ⟨hR.refl w, H⟩
    · have := ready_mono hj hji
      rw [H.1] at this
      cases this
  | succ fuel ih =>
    intro listed a w hfree hr hy hS H
    refine ⟨fun h => (by rw [h] at hr; cases hr), fun j hj => ?_⟩
    by_cases hji : j = i
    · subst hji; exact hy.wpOp hi hS ⟨hR.refl w, H⟩
    · have h1 := H.2 j (ready_mono hj hji)
      obtain ⟨hjun, oj, hoj, hall⟩ := mem_ready.1 hj
      have hnot : ∀ e ∈ oj.after, Region.binds md e = true → e.on ≠ i := fun e he hb heq => by
        have h1 := hall e he hb
        have h0 := (mem_ready.1 hr).1
        rw [heq] at h1
        rcases Nat.lt_or_ge i listed.size with h' | h'
        · simp [h'] at h0 h1; rw [h0] at h1; cases h1
        · simp [Array.getElem?_eq_none h'] at h1
      have h2 := wpOp_putIf hoj (hfree j oj hoj hji hjun hnot) (fun cs b => hsel i oi cs b hi) (fun cs b => hsel j oj cs b hoj) hQ hy h1
      have hfree' : ∀ k ok, ops[k]? = some ok → k ≠ i → (listed.setIfInBounds j true).getD k true = false →
          (∀ e ∈ ok.after, Region.binds md e = true → e.on ≠ i) → oi.apart ops ok = true := fun k ok hk hki hun hno => by
        refine hfree k ok hk hki ?_ hno
        by_cases hjk : j = k
        · subst hjk; exact hjun
        · rw [getD_set_ne true hjk] at hun; exact hun
      refine wpOp_mono (fun a' w' h3 => ⟨h3.2.1, ih (listed.setIfInBounds j true) a' w' hfree' (ready_mono hr (Ne.symm hji)) h3.1 (hst _ _ hS h3.2.1) ?_⟩) h2
      rw [Array.setIfInBounds_comm _ _ hji]
      exact h3.2.2

theorem E_start (hR : Pre R) {id n : Nat} {a : Act} {w : World} (l : Array Bool) (hm : P.follows .mixedOrders = true) (hn : ops.size = n) (hl : Array.replicate n false = l)
    (h : ∀ w1, R w w1 → w1 = w.drew → wpE R P .any ops Q n l a w1) : (Code.region id ops true).wp P Q a w := by
  subst hn
  subst hl
  exact wp_region_any hm (wpAny_of_E _ _ _ _ (h w.drew (hR.drew w) rfl))

/-- May number i be taken first, and is l' what is listed then? -/
def takeC (md : Region.Mode) (ops : Array Oper) (l l' : Array Bool) (i : Nat) : Bool :=
  Region.noSelect ops && Region.free md ops l i && (Region.ready md ops l).contains i && (l.setIfInBounds i true == l')
/-- Is number i alone ready? -/
def oneC (md : Region.Mode) (ops : Array Oper) (l l' : Array Bool) (i : Nat) : Bool :=
  (Region.ready md ops l == [i]) && (l.setIfInBounds i true == l')

theorem E_take (hR : Pre R) {i : Nat} {N : Option Tmp} {oi : Oper} {v : Value} {fuel : Nat} {l : Array Bool} {a : Act} {w : World} (l' : Array Bool) (hi : ops[i]? = some oi) (hN : oi.dst = N) (hc : takeC md ops l l' i = true)
    (hQ : ∀ c a w, Q (.panic c) (a.put oi.dst v) w → Q (.panic c) a w) (hw : Region.wanted oi (yielded ops a.tmps) = true)
    (hy : ∀ w', R w w' → (execOp a.eval oi).run P w' = .ok (.value v) w') {a' : Act} (ha : a.put N v = a')
    (h : wpE R P md ops Q fuel l' a' w) : wpE R P md ops Q (fuel + 1) l a w := by
  subst ha
  subst hN
  simp only [takeC, Bool.and_eq_true, beq_iff_eq] at hc
  obtain ⟨⟨⟨h1, h2⟩, h3⟩, h4⟩ := hc
  subst h4
  exact wpE_first hR (S := R w) (fun _ _ h k => hR.trans h k) hi (Region.noSelect_spec h1) hQ fuel l a w (Region.free_spec hi h2) (by simpa using h3) (.inl ⟨hw, hy⟩) (hR.refl w) h

/-- A guarded operation that isn't carried out. -/
theorem E_skip (hR : Pre R) {i : Nat} {N : Option Tmp} {oi : Oper} {fuel : Nat} {l : Array Bool} {a : Act} {w : World} (l' : Array Bool) (hi : ops[i]? = some oi) (hN : oi.dst = N) (hc : takeC md ops l l' i = true)
    (hQ : ∀ c a w, Q (.panic c) (a.put oi.dst undef) w → Q (.panic c) a w) (hw : Region.wanted oi (yielded ops a.tmps) = false)
    {a' : Act} (ha : a.put N undef = a')
    (h : wpE R P md ops Q fuel l' a' w) : wpE R P md ops Q (fuel + 1) l a w := by
  subst ha
  subst hN
  simp only [takeC, Bool.and_eq_true, beq_iff_eq] at hc
  obtain ⟨⟨⟨h1, h2⟩, h3⟩, h4⟩ := hc
  subst h4
  exact wpE_first hR (S := fun _ => True) (fun _ _ _ _ => trivial) hi (Region.noSelect_spec h1) hQ fuel l a w (Region.free_spec hi h2) (by simpa using h3) (.inr ⟨hw, rfl⟩) trivial h

theorem E_done {fuel : Nat} {l : Array Bool} {a : Act} {w : World} (hr : (Region.ready md ops l).isEmpty = true) (h : Q .normal a w) : wpE R P md ops Q fuel l a w := by
  have hr' : Region.ready md ops l = [] := by simpa using hr
  cases fuel with
  | zero => exact ⟨hr', h⟩
  | succ n => exact ⟨fun _ => h, by rw [hr']; simp⟩

/-- The one operation that is ready, in whatever way it is carried out. -/
theorem E_one {i : Nat} {oi : Oper} {fuel : Nat} {l : Array Bool} {a : Act} {w : World} (l' : Array Bool) (hi : ops[i]? = some oi) (hc : oneC md ops l l' i = true) (hw : Region.wanted oi (yielded ops a.tmps) = true)
    (h : Oper.wp P oi a w (fun a' w' => R w w' ∧ wpE R P md ops Q fuel l' a' w') Q) : wpE R P md ops Q (fuel + 1) l a w := by
  simp only [oneC, Bool.and_eq_true, beq_iff_eq] at hc
  obtain ⟨h1, h2⟩ := hc
  subst h2
  refine ⟨fun h0 => (by rw [h1] at h0; cases h0), fun j hj => ?_⟩
  rw [h1, List.mem_singleton] at hj
  subst hj
  unfold wpOp
  rw [hi]
  show if Region.wanted oi (yielded ops a.tmps) = true then _ else _
  rw [if_pos hw]
  exact .inl h

theorem E_run {i : Nat} {N : Option Tmp} {oi : Oper} {v : Value} {fuel : Nat} {l : Array Bool} {a : Act} {w w1 : World} (l' : Array Bool) (hi : ops[i]? = some oi) (hN : oi.dst = N) (hc : oneC md ops l l' i = true) (hw : Region.wanted oi (yielded ops a.tmps) = true)
    (hrun : (execOp a.eval oi).run P w = .ok (.value v) w1) (hx : R w w1) {a' : Act} (ha : a.put N v = a') (h : wpE R P md ops Q fuel l' a' w1) : wpE R P md ops Q (fuel + 1) l a w := by
  subst ha
  subst hN
  refine E_one l' hi hc hw ?_
  unfold Oper.wp
  rw [hrun]
  exact ⟨hx, h⟩

theorem E_call {i : Nat} {N : Option Tmp} {oi : Oper} {fuel : Nat} {l : Array Bool} {a : Act} {w : World} (l' : Array Bool) (hi : ops[i]? = some oi) (hN : oi.dst = N) (hc : oneC md ops l l' i = true) (hw : Region.wanted oi (yielded ops a.tmps) = true)
    {f : FuncId} {fn : Func} {c : Code} (hf : P.funcs[f]? = some fn) (hname : (fn.name == "runtime.NumGoroutine") = false) (hb : fn.body = some c)
    {xs : Array Operand} {ts : Array TypeId} (hop : oi.op = .call { callee := .value (.func f), args := xs, argTypes := ts }) {args : Array Value} (hargs : xs.map a.eval = args)
    (h : Calls P f args w fun e w' => ∃ v, e = .returned v ∧ R w w' ∧ ∀ a', a.put N v = a' → wpE R P md ops Q fuel l' a' w') : wpE R P md ops Q (fuel + 1) l a w := by
  subst hargs
  subst hN
  refine E_one l' hi hc hw ?_
  have hen := enters_of hf hname hb (xs.map a.eval) w
  have hr : (execOp a.eval oi).run P w = .ok (.enter f (xs.map a.eval)) w := by
    unfold execOp
    rw [hop]
    simp only [resolve, invoke, Deferred.ofValue, Act.eval, Sem.run_bind, Sem.run_pure, Result.andThen_ok, Array.append_empty, Array.empty_append]
    exact hen
  unfold Oper.wp
  rw [hr]
  refine h.mono fun e w' hv => ?_
  obtain ⟨v, rfl, hx, hk⟩ := hv
  exact ⟨hx, hk _ rfl⟩

/-- One of several operations that are ready is taken. -/
def wpE1 (R : World → World → Prop) (P : Program) (md : Region.Mode) (ops : Array Oper) (Q : Exit → Act → World → Prop) (fuel : Nat) (l : Array Bool) (a : Act) (w : World) (i : Nat) : Prop :=
  wpOp P ops Q i (fun a' w' => R w w' ∧ wpE R P md ops Q fuel (l.setIfInBounds i true) a' w') a w

theorem E_split {fuel : Nat} {l : Array Bool} {a : Act} {w : World} (L : List Nat) (hr : (Region.ready md ops l == L) = true) (hne : L ≠ []) (h : ∀ i ∈ L, wpE1 R P md ops Q fuel l a w i) : wpE R P md ops Q (fuel + 1) l a w := by
  rw [beq_iff_eq] at hr
  refine ⟨fun h0 => absurd (hr.symm.trans h0) hne, fun j hj => ?_⟩
  rw [hr] at hj
  exact h j hj

theorem E_one1 {i : Nat} {oi : Oper} {fuel : Nat} {l : Array Bool} {a : Act} {w : World} (l' : Array Bool) (hi : ops[i]? = some oi) (hc : (l.setIfInBounds i true == l') = true) (hw : Region.wanted oi (yielded ops a.tmps) = true)
    (h : Oper.wp P oi a w (fun a' w' => R w w' ∧ wpE R P md ops Q fuel l' a' w') Q) : wpE1 R P md ops Q fuel l a w i := by
  rw [beq_iff_eq] at hc
  subst hc
  unfold wpE1 wpOp
  rw [hi]
  show if Region.wanted oi (yielded ops a.tmps) = true then _ else _
  rw [if_pos hw]
  exact .inl h

theorem E_run1 {i : Nat} {N : Option Tmp} {oi : Oper} {v : Value} {fuel : Nat} {l : Array Bool} {a : Act} {w w1 : World} (l' : Array Bool) (hi : ops[i]? = some oi) (hN : oi.dst = N) (hc : (l.setIfInBounds i true == l') = true) (hw : Region.wanted oi (yielded ops a.tmps) = true)
    (hrun : (execOp a.eval oi).run P w = .ok (.value v) w1) (hx : R w w1) {a' : Act} (ha : a.put N v = a') (h : wpE R P md ops Q fuel l' a' w1) : wpE1 R P md ops Q fuel l a w i := by
  subst ha
  subst hN
  refine E_one1 l' hi hc hw ?_
  unfold Oper.wp
  rw [hrun]
  exact ⟨hx, h⟩

theorem E_call1 {i : Nat} {N : Option Tmp} {oi : Oper} {fuel : Nat} {l : Array Bool} {a : Act} {w : World} (l' : Array Bool) (hi : ops[i]? = some oi) (hN : oi.dst = N) (hc : (l.setIfInBounds i true == l') = true) (hw : Region.wanted oi (yielded ops a.tmps) = true)
    {f : FuncId} {fn : Func} {c : Code} (hf : P.funcs[f]? = some fn) (hname : (fn.name == "runtime.NumGoroutine") = false) (hb : fn.body = some c)
    {xs : Array Operand} {ts : Array TypeId} (hop : oi.op = .call { callee := .value (.func f), args := xs, argTypes := ts }) {args : Array Value} (hargs : xs.map a.eval = args)
    (h : Calls P f args w fun e w' => ∃ v, e = .returned v ∧ R w w' ∧ ∀ a', a.put N v = a' → wpE R P md ops Q fuel l' a' w') : wpE1 R P md ops Q fuel l a w i := by
  subst hargs
  subst hN
  refine E_one1 l' hi hc hw ?_
  have hen := enters_of hf hname hb (xs.map a.eval) w
  have hr : (execOp a.eval oi).run P w = .ok (.enter f (xs.map a.eval)) w := by
    unfold execOp
    rw [hop]
    simp only [resolve, invoke, Deferred.ofValue, Act.eval, Sem.run_bind, Sem.run_pure, Result.andThen_ok, Array.append_empty, Array.empty_append]
    exact hen
  unfold Oper.wp
  rw [hr]
  refine h.mono fun e w' hv => ?_
  obtain ⟨v, rfl, hx, hk⟩ := hv
  exact ⟨hx, hk _ rfl⟩

theorem exec_append {o : Oper} {a : Act} {w w' : World} {s x : Operand} {t tx : TypeId} (ho : o.op = .call { callee := .builtin .append, args := #[s, x], argTypes := #[t, tx] }) {v xv v' : Value} (hs : a.eval s = v) (hx : a.eval x = xv)
    (hr : (Builtin.append_ #[t, tx] o.type #[v, xv]).run P w = .ok v' w') : (execOp a.eval o).run P w = .ok (.value v') w' := by
  unfold execOp
  simp only [ho, resolve, invoke, builtin, Sem.run_bind, Sem.run_pure, Result.andThen_ok, List.map_toArray, List.map_cons, List.map_nil, hs, hx, hr]
end
end Go.Proofs.Ytmpkbjkdmbgmhaa
