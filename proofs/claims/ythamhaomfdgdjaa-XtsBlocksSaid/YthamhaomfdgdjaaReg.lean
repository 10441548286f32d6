/- Laws for a region whose order is open and whose operations at most make new blocks: an operation whose answer can't change by what is made may be taken first; one that makes something is met where it comes up. -/
import Derived.Test.YthamhaomfdgdjaaBase
import Derived.OrdersHeld
import Derived.Deep.RegionHeld3
import Derived.RegionTactic
import Derived.Shelf.Abstract
namespace Go.Proofs.Ythamhaomfdgdjaa
open Go.RowKit

/-- Nothing that was there has changed. -/
def Ext (w w' : World) : Prop := Below w.heap.size w w'
theorem Ext.refl (w : World) : Ext w w := Below.refl _ _
theorem Ext.trans {a b c : World} (h : Ext a b) (k : Ext b c) : Ext a c := Below.trans h (Below.mono k h.size)
theorem Ext.drew (w : World) : Ext w w.drew := (Below.refl _ w).drew
theorem Ext.alloc (w : World) (o : Obj) : Ext w (w.alloc o) := (Below.refl _ w).alloc (Nat.le_refl _) o
theorem Ext.below {w0 w w' : World} (hb : Below w0.heap.size w0 w) (h : Ext w w') : Below w0.heap.size w0 w' := hb.trans (Below.mono h hb.size)

/-- A relation between worlds that may be handed on. -/
structure Pre (R : World → World → Prop) : Prop where
  refl : ∀ w, R w w
  trans : ∀ {a b c : World}, R a b → R b c → R a c
  drew : ∀ w, R w w.drew
theorem Ext.pre : Pre Ext := ⟨Ext.refl, Ext.trans, Ext.drew⟩
theorem Pre.below (B : Nat) : Pre (Below B) := ⟨Below.refl B, Below.trans, fun w => (Below.refl B w).drew⟩

section
variable {P : Program} {ops : Array Oper} {Q : Exit → Act → World → Prop} {md : Region.Mode} {R : World → World → Prop}

def wpE (R : World → World → Prop) (P : Program) (md : Region.Mode) (ops : Array Oper) (Q : Exit → Act → World → Prop) : Nat → Array Bool → Act → World → Prop
  | 0, listed, a, w => Region.ready md ops listed = [] ∧ Q .normal a w
  | fuel + 1, listed, a, w =>
    (Region.ready md ops listed = [] → Q .normal a w) ∧
    ∀ i ∈ Region.ready md ops listed, wpOp P ops Q i (fun a' w' => R w w' ∧ wpE R P md ops Q fuel (listed.setIfInBounds i true) a' w') a w

theorem wpAny_of_E : ∀ (fuel : Nat) (listed : Array Bool) (a : Act) (w : World), wpE R P md ops Q fuel listed a w → wpAny P md ops Q fuel listed a w
  | 0, _, _, _, h => h
  | fuel + 1, _, _, _, h => ⟨h.1, fun i hi => wpOp_mono (fun a' w' h' => wpAny_of_E fuel _ a' w' h'.2) (h.2 i hi)⟩

theorem wpE_first (hR : Pre R) {S : World → Prop} (hst : ∀ w w', S w → R w w' → S w') {i : Nat} {oi : Oper} {v : Value} (hi : ops[i]? = some oi) (hsel : ∀ (j : Nat) (o : Oper) cs b, ops[j]? = some o → o.op ≠ .select cs b)
    (hQ : ∀ c a w, Q (.panic c) (a.put oi.dst v) w → Q (.panic c) a w) :
    ∀ (fuel : Nat) (listed : Array Bool) (a : Act) (w : World),
      (∀ j oj, ops[j]? = some oj → j ≠ i → listed.getD j true = false → (∀ e ∈ oj.after, Region.binds md e = true → e.on ≠ i) → oi.apart ops oj = true) →
      i ∈ Region.ready md ops listed → YieldsIf P ops S oi v a → S w →
      wpE R P md ops Q fuel (listed.setIfInBounds i true) (a.put oi.dst v) w → wpE R P md ops Q (fuel + 1) listed a w := by
  intro fuel
  induction fuel with
  | zero =>
    intro listed a w _ hr hy hS H
    refine ⟨fun h => (by rw [h] at hr; cases hr), fun j hj => ?_⟩
    by_cases hji : j = i
    · subst hji; exact hy.wpOp hi hS ⟨hR.refl w, H⟩
    · have := ready_mono hj hji
      rw [H.1] at this
      cases this
  | succ fuel ih =>
    intro listed a w hfree hr hy hS H
    refine ⟨fun h => (by rw [h] at hr; cases hr), fun j hj => ?_⟩
    by_cases hji : j = i
    · subst hji; exact hy.wpOp hi hS ⟨hR.refl w, H⟩
    · have h1 := H.2 j (ready_mono hj hji)
      obtain ⟨hjun, oj, hoj, hall⟩ := mem_ready.1 hj
      have hnot : ∀ e ∈ oj.after, Region.binds md e = true → e.on ≠ i := fun e he hb heq => by
        have h1 := hall e he hb
        have h0 := (mem_ready.1 hr).1
        rw [heq] at h1
        rcases Nat.lt_or_ge i listed.size with h' | h'
        · simp [h'] at h0 h1; rw [h0] at h1; cases h1
        · simp [Array.getElem?_eq_none h'] at h1
      have h2 := wpOp_putIf hoj (hfree j oj hoj hji hjun hnot) (fun cs b => hsel i oi cs b hi) (fun cs b => hsel j oj cs b hoj) hQ hy h1
      have hfree' : ∀ k ok, ops[k]? = some ok → k ≠ i → (listed.setIfInBounds j true).getD k true = false →
          (∀ e ∈ ok.after, Region.binds md e = true → e.on ≠ i) → oi.apart ops ok = true := fun k ok hk hki hun hno => by
        refine hfree k ok hk hki ?_ hno
        by_cases hjk : j = k
        · subst hjk; exact hjun
        · rw [getD_set_ne true hjk] at hun; exact hun
      refine wpOp_mono (fun a' w' h3 => ⟨h3.2.1, ih (listed.setIfInBounds j true) a' w' hfree' (ready_mono hr (Ne.symm hji)) h3.1 (hst _ _ hS h3.2.1) ?_⟩) h2
      rw [Array.setIfInBounds_comm _ _ hji]
      exact h3.2.2

theorem E_start (hR : Pre R) {id n : Nat} {a : Act} {w : World} (l : Array Bool) (hm : P.follows .mixedOrders = true) (hn : ops.size = n) (hl : Array.replicate n false = l)
    (h : ∀ w1, R w w1 → w1 = w.drew → wpE R P .any ops Q n l a w1) : (Code.region id ops true).wp P Q a w := by
  subst hn
  subst hl
  exact wp_region_any hm (wpAny_of_E _ _ _ _ (h w.drew (hR.drew w) rfl))

/-- May number i be taken first, and is l' what is listed then? -/
def takeC (md : Region.Mode) (ops : Array Oper) (l l' : Array Bool) (i : Nat) : Bool :=
  Region.noSelect ops && Region.free md ops l i && (Region.ready md ops l).contains i && (l.setIfInBounds i true == l')
/-- Is number i alone ready? -/
def oneC (md : Region.Mode) (ops : Array Oper) (l l' : Array Bool) (i : Nat) : Bool :=
  (Region.ready md ops l == [i]) && (l.setIfInBounds i true == l')

theorem E_take (hR : Pre R) {i : Nat} {N : Option Tmp} {oi : Oper} {v : Value} {fuel : Nat} {l : Array Bool} {a : Act} {w : World} (l' : Array Bool) (hi : ops[i]? = some oi) (hN : oi.dst = N) (hc : takeC md ops l l' i = true)
    (hQ : ∀ c a w, Q (.panic c) (a.put oi.dst v) w → Q (.panic c) a w) (hw : Region.wanted oi (yielded ops a.tmps) = true)
    (hy : ∀ w', R w w' → (execOp a.eval oi).run P w' = .ok (.value v) w') {a' : Act} (ha : a.put N v = a')
    (h : wpE R P md ops Q fuel l' a' w) : wpE R P md ops Q (fuel + 1) l a w := by
  subst ha
  subst hN
  simp only [takeC, Bool.and_eq_true, beq_iff_eq] at hc
  obtain ⟨⟨⟨h1, h2⟩, h3⟩, h4⟩ := hc
  subst h4
  exact wpE_first hR (S := R w) (fun _ _ h k => hR.trans h k) hi (Region.noSelect_spec h1) hQ fuel l a w (Region.free_spec hi h2) (by simpa using h3) (.inl ⟨hw, hy⟩) (hR.refl w) h

/-- A guarded operation that isn't carried out. -/
theorem E_skip (hR : Pre R) {i : Nat} {N : Option Tmp} {oi : Oper} {fuel : Nat} {l : Array Bool} {a : Act} {w : World} (l' : Array Bool) (hi : ops[i]? = some oi) (hN : oi.dst = N) (hc : takeC md ops l l' i = true)
    (hQ : ∀ c a w, Q (.panic c) (a.put oi.dst undef) w → Q (.panic c) a w) (hw : Region.wanted oi (yielded ops a.tmps) = false)
    {a' : Act} (ha : a.put N undef = a')
    (h : wpE R P md ops Q fuel l' a' w) : wpE R P md ops Q (fuel + 1) l a w := by
  subst ha
  subst hN
  simp only [takeC, Bool.and_eq_true, beq_iff_eq] at hc
  obtain ⟨⟨⟨h1, h2⟩, h3⟩, h4⟩ := hc
  subst h4
  exact wpE_first hR (S := fun _ => True) (fun _ _ _ _ => trivial) hi (Region.noSelect_spec h1) hQ fuel l a w (Region.free_spec hi h2) (by simpa using h3) (.inr ⟨hw, rfl⟩) trivial h

theorem E_done {fuel : Nat} {l : Array Bool} {a : Act} {w : World} (hr : (Region.ready md ops l).isEmpty = true) (h : Q .normal a w) : wpE R P md ops Q fuel l a w := by
  have hr' : Region.ready md ops l = [] := by simpa using hr
  cases fuel with
  | zero => exact ⟨hr', h⟩
  | succ n => exact ⟨fun _ => h, by rw [hr']; simp⟩

/-- The one operation that is ready, in whatever way it is carried out. -/
theorem E_one {i : Nat} {oi : Oper} {fuel : Nat} {l : Array Bool} {a : Act} {w : World} (l' : Array Bool) (hi : ops[i]? = some oi) (hc : oneC md ops l l' i = true) (hw : Region.wanted oi (yielded ops a.tmps) = true)
    (h : Oper.wp P oi a w (fun a' w' => R w w' ∧ wpE R P md ops Q fuel l' a' w') Q) : wpE R P md ops Q (fuel + 1) l a w := by
  simp only [oneC, Bool.and_eq_true, beq_iff_eq] at hc
  obtain ⟨h1, h2⟩ := hc
  subst h2
  refine ⟨fun h0 => (by rw [h1] at h0; cases h0), fun j hj => ?_⟩
  rw [h1, List.mem_singleton] at hj
  subst hj
  unfold wpOp
  rw [hi]
  show if Region.wanted oi (yielded ops a.tmps) = true then _ else _
  rw [if_pos hw]
  exact .inl h

theorem E_run {i : Nat} {N : Option Tmp} {oi : Oper} {v : Value} {fuel : Nat} {l : Array Bool} {a : Act} {w w1 : World} (l' : Array Bool) (hi : ops[i]? = some oi) (hN : oi.dst = N) (hc : oneC md ops l l' i = true) (hw : Region.wanted oi (yielded ops a.tmps) = true)
    (hrun : (execOp a.eval oi).run P w = .ok (.value v) w1) (hx : R w w1) {a' : Act} (ha : a.put N v = a') (h : wpE R P md ops Q fuel l' a' w1) : wpE R P md ops Q (fuel + 1) l a w := by
  subst ha
  subst hN
  refine E_one l' hi hc hw ?_
  unfold Oper.wp
  rw [hrun]
  exact ⟨hx, h⟩

theorem E_call {i : Nat} {N : Option Tmp} {oi : Oper} {fuel : Nat} {l : Array Bool} {a : Act} {w : World} (l' : Array Bool) (hi : ops[i]? = some oi) (hN : oi.dst = N) (hc : oneC md ops l l' i = true) (hw : Region.wanted oi (yielded ops a.tmps) = true)
    {f : FuncId} {fn : Func} {c : Code} (hf : P.funcs[f]? = some fn) (hname : (fn.name == "runtime.NumGoroutine") = false) (hb : fn.body = some c)
    {xs : Array Operand} {ts : Array TypeId} (hop : oi.op = .call { callee := .value (.func f), args := xs, argTypes := ts }) {args : Array Value} (hargs : xs.map a.eval = args)
    (h : Calls P f args w fun e w' => ∃ v, e = .returned v ∧ R w w' ∧ ∀ a', a.put N v = a' → wpE R P md ops Q fuel l' a' w') : wpE R P md ops Q (fuel + 1) l a w := by
  subst hargs
  subst hN
  refine E_one l' hi hc hw ?_
  have hen := enters_of hf hname hb (xs.map a.eval) w
  have hr : (execOp a.eval oi).run P w = .ok (.enter f (xs.map a.eval)) w := by
    unfold execOp
    rw [hop]
    simp only [resolve, invoke, Deferred.ofValue, Act.eval, Sem.run_bind, Sem.run_pure, Result.andThen_ok, Array.append_empty, Array.empty_append]
    exact hen
  unfold Oper.wp
  rw [hr]
  refine h.mono fun e w' hv => ?_
  obtain ⟨v, rfl, hx, hk⟩ := hv
  exact ⟨hx, hk _ rfl⟩

/-! The same, where the last operation (number L) need not keep R. -/
/-- What is listed has all that it waits for listed. -/
def closedP (md : Region.Mode) (ops : Array Oper) (l : Array Bool) : Prop := ∀ k ok, ops[k]? = some ok → l.getD k false = true → ∀ e ∈ ok.after, Region.binds md e = true → l.getD e.on false = true
def closedC (md : Region.Mode) (ops : Array Oper) (l : Array Bool) : Bool :=
  (List.range ops.size).all fun k => !l.getD k false || (match ops[k]? with | some o => o.after.all (fun e => !Region.binds md e || l.getD e.on false) | none => true)
theorem closedC_spec {l : Array Bool} (h : closedC md ops l = true) : closedP md ops l := fun k ok hk hl e he hb => by
  have hlt : k < ops.size := (Array.getElem?_eq_some_iff.1 hk).1
  have := List.all_eq_true.1 h k (List.mem_range.2 hlt)
  rw [hl, hk] at this
  simp only [Bool.not_true, Bool.false_or, Array.all_eq_true] at this
  obtain ⟨m, hm, rfl⟩ := Array.mem_iff_getElem.1 he
  have h2 := this m hm
  rw [hb] at h2
  simpa using h2
theorem getD_two {l : Array Bool} {i : Nat} (h : l.getD i true = false) : l.getD i false = false := by
  rcases Nat.lt_or_ge i l.size with h' | h'
  · simp [h'] at h ⊢; exact h
  · simp [Array.getElem?_eq_none h'] at h
theorem getD_setF {l : Array Bool} {j x : Nat} (h : j ≠ x) : (l.setIfInBounds j true).getD x false = l.getD x false := by
  simp only [Array.getD_eq_getD_getElem?, Array.getElem?_setIfInBounds, if_neg h]
theorem closedP.set {l : Array Bool} (h : closedP md ops l) {j : Nat} (hj : j ∈ Region.ready md ops l) : closedP md ops (l.setIfInBounds j true) := fun k ok hk hl e he hb => by
  have mono : ∀ x, l.getD x false = true → (l.setIfInBounds j true).getD x false = true := fun x hx => by
    by_cases e : j = x
    · subst e
      have hlt : j < l.size := by
        rcases Nat.lt_or_ge j l.size with h' | h'
        · exact h'
        · simp [Array.getElem?_eq_none h'] at hx
      simp [hlt]
    · rw [getD_setF e]; exact hx
  obtain ⟨_, oj, hoj, hall⟩ := mem_ready.1 hj
  by_cases e' : j = k
  · subst e'
    rw [hoj] at hk
    cases hk
    exact mono _ (hall e he hb)
  · rw [getD_setF e'] at hl
    exact mono _ (h k ok hk hl e he hb)
/-- Each waits for the next. -/
def chainC (md : Region.Mode) (ops : Array Oper) : List Nat → Bool
  | x :: y :: r => (match ops[x]? with | some o => o.after.any (fun e => Region.binds md e && e.on == y) | none => false) && chainC md ops (y :: r)
  | _ => true
theorem chain_edge {x y : Nat} {r : List Nat} (h : chainC md ops (x :: y :: r) = true) : (∃ o, ops[x]? = some o ∧ ∃ e ∈ o.after, Region.binds md e = true ∧ e.on = y) ∧ chainC md ops (y :: r) = true := by
  simp only [chainC, Bool.and_eq_true] at h
  refine ⟨?_, h.2⟩
  have h1 := h.1
  cases ho : ops[x]? with
  | none => rw [ho] at h1; cases h1
  | some o =>
    rw [ho] at h1
    simp only [Array.any_eq_true, Bool.and_eq_true, beq_iff_eq] at h1
    obtain ⟨k, hk, hb, hi⟩ := h1
    exact ⟨o, rfl, o.after[k], Array.getElem_mem hk, hb, hi⟩
theorem chain_unlisted {l : Array Bool} (hcl : closedP md ops l) : ∀ (r : List Nat) (x i : Nat), chainC md ops (x :: r) = true → (x :: r).getLast? = some i → l.getD i false = false → l.getD x false = false
  | [], x, i, _, hl, hi => by simp at hl; subst hl; exact hi
  | y :: r, x, i, hc, hl, hi => by
    obtain ⟨⟨o, ho, e, he, hb, hy⟩, hc2⟩ := chain_edge hc
    have := chain_unlisted hcl r y i hc2 (by simpa using hl) hi
    cases hx : l.getD x false with
    | false => rfl
    | true =>
      have h2 := hcl x o ho hx e he hb
      rw [hy, this] at h2
      cases h2
theorem chain_dep {L i : Nat} {y : Nat} {r : List Nat} (hc : chainC md ops (L :: y :: r) = true) (hl : ((y :: r).getLast? == some i) = true) (l : Array Bool) (hcl : closedP md ops l) (hi : l.getD i true = false) : L ∉ Region.ready md ops l := fun hj => by
  obtain ⟨⟨o, ho, e, he, hb, hy⟩, hc2⟩ := chain_edge hc
  have h1 := chain_unlisted hcl r y i hc2 (beq_iff_eq.1 hl) (getD_two hi)
  obtain ⟨_, oj, hoj, hall⟩ := mem_ready.1 hj
  rw [ho] at hoj
  cases hoj
  have h2 := hall e he hb
  rw [hy, h1] at h2
  cases h2

def wpL (L : Nat) (R : World → World → Prop) (P : Program) (md : Region.Mode) (ops : Array Oper) (Q : Exit → Act → World → Prop) : Nat → Array Bool → Act → World → Prop
  | 0, listed, a, w => Region.ready md ops listed = [] ∧ Q .normal a w
  | fuel + 1, listed, a, w =>
    (Region.ready md ops listed = [] → Q .normal a w) ∧
    ∀ i ∈ Region.ready md ops listed, wpOp P ops Q i (fun a' w' => (i = L ∨ R w w') ∧ wpL L R P md ops Q fuel (listed.setIfInBounds i true) a' w') a w

theorem wpAny_of_L {L : Nat} : ∀ (fuel : Nat) (listed : Array Bool) (a : Act) (w : World), wpL L R P md ops Q fuel listed a w → wpAny P md ops Q fuel listed a w
  | 0, _, _, _, h => h
  | fuel + 1, _, _, _, h => ⟨h.1, fun i hi => wpOp_mono (fun a' w' h' => wpAny_of_L fuel _ a' w' h'.2) (h.2 i hi)⟩

theorem wpL_first {L : Nat} (hR : Pre R) {S : World → Prop} (hst : ∀ w w', S w → R w w' → S w') {i : Nat} {oi : Oper} {v : Value} (hi : ops[i]? = some oi) (hdep : ∀ l, closedP md ops l → l.getD i true = false → L ∉ Region.ready md ops l) (hsel : ∀ (j : Nat) (o : Oper) cs b, ops[j]? = some o → o.op ≠ .select cs b)
    (hQ : ∀ c a w, Q (.panic c) (a.put oi.dst v) w → Q (.panic c) a w) :
    ∀ (fuel : Nat) (listed : Array Bool) (a : Act) (w : World), closedP md ops listed →
      (∀ j oj, ops[j]? = some oj → j ≠ i → listed.getD j true = false → (∀ e ∈ oj.after, Region.binds md e = true → e.on ≠ i) → oi.apart ops oj = true) →
      i ∈ Region.ready md ops listed → YieldsIf P ops S oi v a → S w →
      wpL L R P md ops Q fuel (listed.setIfInBounds i true) (a.put oi.dst v) w → wpL L R P md ops Q (fuel + 1) listed a w := by
  intro fuel
  induction fuel with
  | zero =>
    intro listed a w _ _ hr hy hS H
    refine ⟨fun h => (by rw [h] at hr; cases hr), fun j hj => ?_⟩
    by_cases hji : j = i
    · subst hji; exact hy.wpOp hi hS ⟨.inr (hR.refl w), H⟩
    · have := ready_mono hj hji
      rw [H.1] at this
      cases this
  | succ fuel ih =>
    intro listed a w hcl hfree hr hy hS H
    refine ⟨fun h => (by rw [h] at hr; cases hr), fun j hj => ?_⟩
    by_cases hji : j = i
    · subst hji; exact hy.wpOp hi hS ⟨.inr (hR.refl w), H⟩
    · have h1 := H.2 j (ready_mono hj hji)
      obtain ⟨hjun, oj, hoj, hall⟩ := mem_ready.1 hj
      have hnot : ∀ e ∈ oj.after, Region.binds md e = true → e.on ≠ i := fun e he hb heq => by
        have h1 := hall e he hb
        have h0 := (mem_ready.1 hr).1
        rw [heq] at h1
        rcases Nat.lt_or_ge i listed.size with h' | h'
        · simp [h'] at h0 h1; rw [h0] at h1; cases h1
        · simp [Array.getElem?_eq_none h'] at h1
      have h2 := wpOp_putIf hoj (hfree j oj hoj hji hjun hnot) (fun cs b => hsel i oi cs b hi) (fun cs b => hsel j oj cs b hoj) hQ hy h1
      have hfree' : ∀ k ok, ops[k]? = some ok → k ≠ i → (listed.setIfInBounds j true).getD k true = false →
          (∀ e ∈ ok.after, Region.binds md e = true → e.on ≠ i) → oi.apart ops ok = true := fun k ok hk hki hun hno => by
        refine hfree k ok hk hki ?_ hno
        by_cases hjk : j = k
        · subst hjk; exact hjun
        · rw [getD_set_ne true hjk] at hun; exact hun
      have jL : j ≠ L := fun e => by
        subst e
        exact hdep listed hcl (mem_ready.1 hr).1 hj
      refine wpOp_mono (fun a' w' h3 => ⟨.inr (h3.2.1.resolve_left jL), ih (listed.setIfInBounds j true) a' w' (hcl.set hj) hfree' (ready_mono hr (Ne.symm hji)) h3.1 (hst _ _ hS (h3.2.1.resolve_left jL)) ?_⟩) h2
      rw [Array.setIfInBounds_comm _ _ hji]
      exact h3.2.2

theorem L_start {L : Nat} (hR : Pre R) {id n : Nat} {a : Act} {w : World} (l : Array Bool) (hm : P.follows .mixedOrders = true) (hn : ops.size = n) (hl : Array.replicate n false = l)
    (h : ∀ w1, R w w1 → w1 = w.drew → wpL L R P .any ops Q n l a w1) : (Code.region id ops true).wp P Q a w := by
  subst hn
  subst hl
  exact wp_region_any hm (wpAny_of_L _ _ _ _ (h w.drew (hR.drew w) rfl))

theorem L_take {L : Nat} (hR : Pre R) {i : Nat} {N : Option Tmp} {oi : Oper} {v : Value} {fuel : Nat} {l : Array Bool} {a : Act} {w : World} (l' : Array Bool) (hi : ops[i]? = some oi) (hN : oi.dst = N) {y : Nat} {r : List Nat} (hch : (chainC md ops (L :: y :: r) && ((y :: r).getLast? == some i) && closedC md ops l) = true) (hc : takeC md ops l l' i = true)
    (hQ : ∀ c a w, Q (.panic c) (a.put oi.dst v) w → Q (.panic c) a w) (hw : Region.wanted oi (yielded ops a.tmps) = true)
    (hy : ∀ w', R w w' → (execOp a.eval oi).run P w' = .ok (.value v) w') {a' : Act} (ha : a.put N v = a')
    (h : wpL L R P md ops Q fuel l' a' w) : wpL L R P md ops Q (fuel + 1) l a w := by
  subst ha
  subst hN
  simp only [takeC, Bool.and_eq_true, beq_iff_eq] at hc
  obtain ⟨⟨⟨h1, h2⟩, h3⟩, h4⟩ := hc
  subst h4
  simp only [Bool.and_eq_true] at hch
  exact wpL_first hR (S := R w) (fun _ _ h k => hR.trans h k) hi (chain_dep hch.1.1 hch.1.2) (Region.noSelect_spec h1) hQ fuel l a w (closedC_spec hch.2) (Region.free_spec hi h2) (by simpa using h3) (.inl ⟨hw, hy⟩) (hR.refl w) h

theorem L_skip {L : Nat} (hR : Pre R) {i : Nat} {N : Option Tmp} {oi : Oper} {fuel : Nat} {l : Array Bool} {a : Act} {w : World} (l' : Array Bool) (hi : ops[i]? = some oi) (hN : oi.dst = N) {y : Nat} {r : List Nat} (hch : (chainC md ops (L :: y :: r) && ((y :: r).getLast? == some i) && closedC md ops l) = true) (hc : takeC md ops l l' i = true)
    (hQ : ∀ c a w, Q (.panic c) (a.put oi.dst undef) w → Q (.panic c) a w) (hw : Region.wanted oi (yielded ops a.tmps) = false)
    {a' : Act} (ha : a.put N undef = a')
    (h : wpL L R P md ops Q fuel l' a' w) : wpL L R P md ops Q (fuel + 1) l a w := by
  subst ha
  subst hN
  simp only [takeC, Bool.and_eq_true, beq_iff_eq] at hc
  obtain ⟨⟨⟨h1, h2⟩, h3⟩, h4⟩ := hc
  subst h4
  simp only [Bool.and_eq_true] at hch
  exact wpL_first hR (S := fun _ => True) (fun _ _ _ _ => trivial) hi (chain_dep hch.1.1 hch.1.2) (Region.noSelect_spec h1) hQ fuel l a w (closedC_spec hch.2) (Region.free_spec hi h2) (by simpa using h3) (.inr ⟨hw, rfl⟩) trivial h

theorem L_done {L : Nat} {fuel : Nat} {l : Array Bool} {a : Act} {w : World} (hr : (Region.ready md ops l).isEmpty = true) (h : Q .normal a w) : wpL L R P md ops Q fuel l a w := by
  have hr' : Region.ready md ops l = [] := by simpa using hr
  cases fuel with
  | zero => exact ⟨hr', h⟩
  | succ n => exact ⟨fun _ => h, by rw [hr']; simp⟩

theorem L_one {L : Nat} {i : Nat} {oi : Oper} {fuel : Nat} {l : Array Bool} {a : Act} {w : World} (l' : Array Bool) (hi : ops[i]? = some oi) (hc : oneC md ops l l' i = true) (hw : Region.wanted oi (yielded ops a.tmps) = true)
    (h : Oper.wp P oi a w (fun a' w' => (i = L ∨ R w w') ∧ wpL L R P md ops Q fuel l' a' w') Q) : wpL L R P md ops Q (fuel + 1) l a w := by
  simp only [oneC, Bool.and_eq_true, beq_iff_eq] at hc
  obtain ⟨h1, h2⟩ := hc
  subst h2
  refine ⟨fun h0 => (by rw [h1] at h0; cases h0), fun j hj => ?_⟩
  rw [h1, List.mem_singleton] at hj
  subst hj
  unfold wpOp
  rw [hi]
  show if Region.wanted oi (yielded ops a.tmps) = true then _ else _
  rw [if_pos hw]
  exact .inl h

theorem L_run {L : Nat} {i : Nat} {N : Option Tmp} {oi : Oper} {v : Value} {fuel : Nat} {l : Array Bool} {a : Act} {w w1 : World} (l' : Array Bool) (hi : ops[i]? = some oi) (hN : oi.dst = N) (hc : oneC md ops l l' i = true) (hw : Region.wanted oi (yielded ops a.tmps) = true)
    (hrun : (execOp a.eval oi).run P w = .ok (.value v) w1) (hx : i = L ∨ R w w1) {a' : Act} (ha : a.put N v = a') (h : wpL L R P md ops Q fuel l' a' w1) : wpL L R P md ops Q (fuel + 1) l a w := by
  subst ha
  subst hN
  refine L_one l' hi hc hw ?_
  unfold Oper.wp
  rw [hrun]
  exact ⟨hx, h⟩

theorem L_call {L : Nat} {i : Nat} {N : Option Tmp} {oi : Oper} {fuel : Nat} {l : Array Bool} {a : Act} {w : World} (l' : Array Bool) (hi : ops[i]? = some oi) (hN : oi.dst = N) (hc : oneC md ops l l' i = true) (hw : Region.wanted oi (yielded ops a.tmps) = true)
    {f : FuncId} {fn : Func} {c : Code} (hf : P.funcs[f]? = some fn) (hname : (fn.name == "runtime.NumGoroutine") = false) (hb : fn.body = some c)
    {xs : Array Operand} {ts : Array TypeId} (hop : oi.op = .call { callee := .value (.func f), args := xs, argTypes := ts }) {args : Array Value} (hargs : xs.map a.eval = args)
    (h : Calls P f args w fun e w' => ∃ v, e = .returned v ∧ (i = L ∨ R w w') ∧ ∀ a', a.put N v = a' → wpL L R P md ops Q fuel l' a' w') : wpL L R P md ops Q (fuel + 1) l a w := by
  subst hargs
  subst hN
  refine L_one l' hi hc hw ?_
  have hen := enters_of hf hname hb (xs.map a.eval) w
  have hr : (execOp a.eval oi).run P w = .ok (.enter f (xs.map a.eval)) w := by
    unfold execOp
    rw [hop]
    simp only [resolve, invoke, Deferred.ofValue, Act.eval, Sem.run_bind, Sem.run_pure, Result.andThen_ok, Array.append_empty, Array.empty_append]
    exact hen
  unfold Oper.wp
  rw [hr]
  refine h.mono fun e w' hv => ?_
  obtain ⟨v, rfl, hx, hk⟩ := hv
  exact ⟨hx, hk _ rfl⟩

/-- One of several operations that are ready is taken. -/
def wpE1 (R : World → World → Prop) (P : Program) (md : Region.Mode) (ops : Array Oper) (Q : Exit → Act → World → Prop) (fuel : Nat) (l : Array Bool) (a : Act) (w : World) (i : Nat) : Prop :=
  wpOp P ops Q i (fun a' w' => R w w' ∧ wpE R P md ops Q fuel (l.setIfInBounds i true) a' w') a w

theorem E_split {fuel : Nat} {l : Array Bool} {a : Act} {w : World} (L : List Nat) (hr : (Region.ready md ops l == L) = true) (hne : L ≠ []) (h : ∀ i ∈ L, wpE1 R P md ops Q fuel l a w i) : wpE R P md ops Q (fuel + 1) l a w := by
  rw [beq_iff_eq] at hr
  refine ⟨fun h0 => absurd (hr.symm.trans h0) hne, fun j hj => ?_⟩
  rw [hr] at hj
  exact h j hj

theorem E_one1 {i : Nat} {oi : Oper} {fuel : Nat} {l : Array Bool} {a : Act} {w : World} (l' : Array Bool) (hi : ops[i]? = some oi) (hc : (l.setIfInBounds i true == l') = true) (hw : Region.wanted oi (yielded ops a.tmps) = true)
    (h : Oper.wp P oi a w (fun a' w' => R w w' ∧ wpE R P md ops Q fuel l' a' w') Q) : wpE1 R P md ops Q fuel l a w i := by
  rw [beq_iff_eq] at hc
  subst hc
  unfold wpE1 wpOp
  rw [hi]
  show if Region.wanted oi (yielded ops a.tmps) = true then _ else _
  rw [if_pos hw]
  exact .inl h

theorem E_run1 {i : Nat} {N : Option Tmp} {oi : Oper} {v : Value} {fuel : Nat} {l : Array Bool} {a : Act} {w w1 : World} (l' : Array Bool) (hi : ops[i]? = some oi) (hN : oi.dst = N) (hc : (l.setIfInBounds i true == l') = true) (hw : Region.wanted oi (yielded ops a.tmps) = true)
    (hrun : (execOp a.eval oi).run P w = .ok (.value v) w1) (hx : R w w1) {a' : Act} (ha : a.put N v = a') (h : wpE R P md ops Q fuel l' a' w1) : wpE1 R P md ops Q fuel l a w i := by
  subst ha
  subst hN
  refine E_one1 l' hi hc hw ?_
  unfold Oper.wp
  rw [hrun]
  exact ⟨hx, h⟩

theorem E_call1 {i : Nat} {N : Option Tmp} {oi : Oper} {fuel : Nat} {l : Array Bool} {a : Act} {w : World} (l' : Array Bool) (hi : ops[i]? = some oi) (hN : oi.dst = N) (hc : (l.setIfInBounds i true == l') = true) (hw : Region.wanted oi (yielded ops a.tmps) = true)
    {f : FuncId} {fn : Func} {c : Code} (hf : P.funcs[f]? = some fn) (hname : (fn.name == "runtime.NumGoroutine") = false) (hb : fn.body = some c)
    {xs : Array Operand} {ts : Array TypeId} (hop : oi.op = .call { callee := .value (.func f), args := xs, argTypes := ts }) {args : Array Value} (hargs : xs.map a.eval = args)
    (h : Calls P f args w fun e w' => ∃ v, e = .returned v ∧ R w w' ∧ ∀ a', a.put N v = a' → wpE R P md ops Q fuel l' a' w') : wpE1 R P md ops Q fuel l a w i := by
  subst hargs
  subst hN
  refine E_one1 l' hi hc hw ?_
  have hen := enters_of hf hname hb (xs.map a.eval) w
  have hr : (execOp a.eval oi).run P w = .ok (.enter f (xs.map a.eval)) w := by
    unfold execOp
    rw [hop]
    simp only [resolve, invoke, Deferred.ofValue, Act.eval, Sem.run_bind, Sem.run_pure, Result.andThen_ok, Array.append_empty, Array.empty_append]
    exact hen
  unfold Oper.wp
  rw [hr]
  refine h.mono fun e w' hv => ?_
  obtain ⟨v, rfl, hx, hk⟩ := hv
  exact ⟨hx, hk _ rfl⟩

theorem E_stor {i : Nat} {oi : Oper} {fuel : Nat} {l : Array Bool} {a : Act} {w w1 : World} (l' : Array Bool) (hi : ops[i]? = some oi) (hN : oi.dst = none) (hc : oneC md ops l l' i = true) (hw : Region.wanted oi (yielded ops a.tmps) = true)
    (hrun : (execOp a.eval oi).run P w = .ok .skip w1) (hx : R w w1) (h : wpE R P md ops Q fuel l' a w1) : wpE R P md ops Q (fuel + 1) l a w := by
  refine E_one l' hi hc hw ?_
  unfold Oper.wp
  rw [hrun, Oper.upon_skip, hN]
  exact ⟨hx, h⟩

theorem L_stor {L : Nat} {i : Nat} {oi : Oper} {fuel : Nat} {l : Array Bool} {a : Act} {w w1 : World} (l' : Array Bool) (hi : ops[i]? = some oi) (hN : oi.dst = none) (hc : oneC md ops l l' i = true) (hw : Region.wanted oi (yielded ops a.tmps) = true)
    (hrun : (execOp a.eval oi).run P w = .ok .skip w1) (hx : i = L ∨ R w w1) (h : wpL L R P md ops Q fuel l' a w1) : wpL L R P md ops Q (fuel + 1) l a w := by
  refine L_one l' hi hc hw ?_
  unfold Oper.wp
  rw [hrun, Oper.upon_skip, hN]
  exact ⟨hx, h⟩

theorem exec_copy {o : Oper} {a : Act} {w w' : World} {s x : Operand} {t tx : TypeId} (ho : o.op = .call { callee := .builtin .copy, args := #[s, x], argTypes := #[t, tx] }) {v xv v' : Value} (hs : a.eval s = v) (hx : a.eval x = xv)
    (hr : (Builtin.copy_ #[t, tx] o.type #[v, xv]).run P w = .ok v' w') : (execOp a.eval o).run P w = .ok (.value v') w' := by
  unfold execOp
  simp only [ho, resolve, invoke, builtin, Sem.run_bind, Sem.run_pure, Result.andThen_ok, List.map_toArray, List.map_cons, List.map_nil, hs, hx, hr]

theorem exec_append {o : Oper} {a : Act} {w w' : World} {s x : Operand} {t tx : TypeId} (ho : o.op = .call { callee := .builtin .append, args := #[s, x], argTypes := #[t, tx] }) {v xv v' : Value} (hs : a.eval s = v) (hx : a.eval x = xv)
    (hr : (Builtin.append_ #[t, tx] o.type #[v, xv]).run P w = .ok v' w') : (execOp a.eval o).run P w = .ok (.value v') w' := by
  unfold execOp
  simp only [ho, resolve, invoke, builtin, Sem.run_bind, Sem.run_pure, Result.andThen_ok, List.map_toArray, List.map_cons, List.map_nil, hs, hx, hr]
end
end Go.Proofs.Ythamhaomfdgdjaa
