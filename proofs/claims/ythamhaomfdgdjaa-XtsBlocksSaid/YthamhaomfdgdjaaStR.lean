/- Regions whose order is open, over one hypothesis of the memory: all blocks but some lie as they lay. -/
import Derived.Test.YthamhaomfdgdjaaSt
namespace Go.Proofs.Ythamhaomfdgdjaa
open Go.RowKit

/-- The blocks of S lie as they lay. -/
structure KeepS (S : Nat → Prop) (w w' : World) : Prop where
  os : w'.os = w.os
  tape : w'.tape = w.tape
  output : w'.output = w.output
  size : w.heap.size ≤ w'.heap.size
  block : ∀ k, S k → w'.heap[k]? = w.heap[k]?
theorem KeepS.refl (S : Nat → Prop) (w : World) : KeepS S w w := ⟨rfl, rfl, rfl, Nat.le_refl _, fun _ _ => rfl⟩
theorem KeepS.trans {S : Nat → Prop} {a b c : World} (h : KeepS S a b) (k : KeepS S b c) : KeepS S a c := ⟨k.os.trans h.os, k.tape.trans h.tape, k.output.trans h.output, Nat.le_trans h.size k.size, fun i hi => (k.block i hi).trans (h.block i hi)⟩
theorem KeepS.pre (S : Nat → Prop) : Pre (KeepS S) := ⟨KeepS.refl S, KeepS.trans, fun w => ⟨rfl, rfl, rfl, Nat.le_refl _, fun _ _ => rfl⟩⟩
/-- What lay below N, but for some blocks. -/
def SN (N : Nat) (m : List Nat) (k : Nat) : Prop := k < N ∧ k ∉ m

section
variable {P : Program} {K : Nat → Prop} {w0 w w' w1 : World} {H : List Ent} {f : Ent → List Ent} {ops : Array Oper} {rest : List Oper} {o oi : Oper} {a : Act} {Q : Exit → Act → World → Prop} {md : Region.Mode} {N : Nat} {m : List Nat} {fuel i : Nat} {l : Array Bool} {T : Option Tmp}

theorem St.sz (_ : St K w0 w H) : ∃ N, w.heap.size = N := ⟨_, rfl⟩
theorem KeepS.below (h : Below w.heap.size w w') (hz : N ≤ w.heap.size) : KeepS (SN N m) w w' := ⟨h.os, h.tape, h.output, h.size, fun k hk => h.block k (Nat.lt_of_lt_of_le hk.1 hz)⟩
theorem KeepS.grown {r : Option Nat} (h : w.grownBy w' r) (hz : N ≤ w.heap.size) (hr : ∀ g, r = some g → N ≤ g ∨ g ∈ m) : KeepS (SN N m) w w' :=
  ⟨h.os, h.tape, h.output, h.size, fun k hk => h.block k (Nat.lt_of_lt_of_le hk.1 hz) (fun e => by
    rcases hr k e.symm with h1 | h1
    · have := hk.1; omega
    · exact hk.2 h1)⟩
theorem KeepS.get {x : Ent} (h : KeepS (SN N m) w w') (hx : x.holds w) (hS : ∀ b, x.foot = some b → SN N m b) : x.holds w' := Ent.keep hx fun k hk => h.block k (hS k hk)

theorem R_ldK (hS : St K w0 w H) (hk : KeepS (SN N m) w w') {ty : TypeId} {x : Operand} {b i : Nat} {e : TypeId} {L : List Value} {v : Value} (ho : o.op = .load ty x) (hx : a.eval x = .pointer (some ⟨b, i, none⟩)) (hat : At H (.blk b e L) f) (hb : SN N m b) (ht : agg? P ty = some false) (hv : L[i]? = some v) : (execOp a.eval o).run P w' = .ok (.value v) w' :=
  run_ld ho hx ht ((Blk.cell (hk.get (hS.get hat) (fun k e => by cases e; exact hb)) i).trans hv)
theorem R_ldPartK (hS : St K w0 w H) (hk : KeepS (SN N m) w w') {ty : TypeId} {x : Operand} {b i n : Nat} {e : TypeId} {L L' : List Value} (ho : o.op = .load ty x) (hx : a.eval x = .pointer (some ⟨b, i, none⟩)) (hat : At H (.blk b e L) f) (hb : SN N m b) (ht : agg? P ty = some true) (hs : (P.info? ty).map (·.size) = some n) (hm : i + n ≤ L.length) (hL : (L.drop i).take n = L') : (execOp a.eval o).run P w' = .ok (.value (.agg L'.toArray)) w' := by
  subst hL
  exact run_ldPart ho hx (hk.get (x := .blk b e L) (hS.get hat) (fun k e => by cases e; exact hb)) ht hs hm
theorem R_ldOwnK (hS : St K w0 w H) (hk : KeepS (SN N m) w w') {ty : TypeId} {x : Operand} {g i n n' c : Nat} {e : TypeId} {xs : List Value} {v : Value} (ho : o.op = .load ty x) (hx : a.eval x = .pointer (some ⟨g, i, none⟩)) (hat : At H (.own e 1 (.slice (some ⟨g, 0, none⟩) n c) n' xs) f) (hb : SN N m g) (ht : agg? P ty = some false) (hv : xs[i]? = some v) : (execOp a.eval o).run P w' = .ok (.value v) w' := by
  have h1 := hk.get (x := .own e 1 (.slice (some ⟨g, 0, none⟩) n c) n' xs) (hS.get hat) (fun k e => by cases e; exact hb)
  obtain ⟨A', c', e1, -, -, hr, -⟩ := own_rd h1
  cases e1
  exact run_ld ho hx ht (by have := hr.cell (i := i) (List.getElem?_eq_some_iff.1 hv).1; rw [Nat.zero_add] at this; exact this.trans hv)
/-- A row of ours reads on. -/
theorem St.ownRdK (hS : St K w0 w H) (hk : KeepS (SN N m) w w') {e : TypeId} {A : Option Addr} {n n' c : Nat} {xs : List Value} (hat : At H (.own e 1 (.slice A n c) n' xs) f) (hb : ∀ ad, A = some ad → SN N m ad.block) : Rd w' A xs := by
  have h1 := hk.get (x := .own e 1 (.slice A n c) n' xs) (hS.get hat) (fun b e => by
    cases A with
    | none => cases e
    | some ad => cases e; exact hb ad rfl)
  obtain ⟨A', c', e1, -, -, hr, -⟩ := own_rd h1
  cases e1; exact hr
theorem St.blkRdK (hS : St K w0 w H) (hk : KeepS (SN N m) w w') {b : Nat} {e : TypeId} {L : List Value} (hat : At H (.blk b e L) f) (hb : SN N m b) : Rd w' (some ⟨b, 0, none⟩) L :=
  Blk.rd (hk.get (x := .blk b e L) (hS.get hat) (fun k e => by cases e; exact hb))
/-- What came in reads on. -/
theorem Rd.keepS {A : Option Addr} {xs : List Value} (h : Rd w A xs) (hk : KeepS (SN N m) w w') (hA : ∀ ad, A = some ad → xs ≠ [] → SN N m ad.block) : Rd w' A xs := by
  rcases h with h | ⟨b, off, rfl, h⟩
  · exact .inl h
  · by_cases hx : xs = []
    · exact .inl hx
    · exact Rd.mk fun i hi => (World.cell?_of_block (a := ⟨b, off + i, none⟩) (hk.block b (hA _ rfl hx))).trans (h i hi)

theorem St.rdpK {A : Option Addr} {xs : List Value} (hS : St (Kp w0) w0 w H) (hk : KeepS (SN N []) w w') (hN : w0.heap.size ≤ N) (hr : Rd w0 A xs) : Rd w' A xs :=
  Rd.keep hr ⟨hk.os.trans hS.os, hk.tape.trans hS.tape, hk.output.trans hS.output, Nat.le_trans hS.size hk.size, fun k h => (hk.block k ⟨Nat.lt_of_lt_of_le h hN, by simp⟩).trans (hS.keep k h)⟩
theorem St.rdmK {b : Nat} {A : Option Addr} {xs : List Value} (hS : St (Km w0 b) w0 w H) (hk : KeepS (SN N [b]) w w') (hN : w0.heap.size ≤ N) (hr : Rd w0 A xs) (hne : ∀ ad, A = some ad → ad.block ≠ b) : Rd w' A xs := by
  rcases hr with h | ⟨g, off, rfl, h⟩
  · exact .inl h
  · by_cases hx : xs = []
    · exact .inl hx
    · obtain ⟨b', o', e1, hlt⟩ := Rd.lt (.inr ⟨g, off, rfl, h⟩) hx
      cases e1
      have hgb : g ≠ b := hne _ rfl
      exact Rd.mk fun i hi => ((World.cell?_of_block (a := ⟨g, off + i, none⟩) (hk.block g ⟨Nat.lt_of_lt_of_le hlt hN, by simp; exact hgb⟩)).trans (World.cell?_of_block (a := ⟨g, off + i, none⟩) (hS.keep g ⟨hlt, hgb⟩))).trans (h i hi)
/-- What a function gives: a variable's cells, then a slot. -/
theorem results_cell_tmp {fn : Func} {p t : Tmp} {ty : TypeId} {b : Nat} {e : TypeId} {L : List Value} (hS : St K w0 w H) (h : fn.results = #[.cell p ty, .tmp t]) (tmps : Array Value) (hp : tmps.getD p undef = .pointer (some ⟨b, 0, none⟩)) (hat : At H (.blk b e L) f) (hu : agg? P ty = some true) (hs : (P.info? ty).map (·.size) = some L.length) :
    (results fn tmps).run P w = .ok (.tuple #[.agg L.toArray, tmps.getD t undef]) w := by
  have hp' : tmps[p]?.getD undef = .pointer (some ⟨b, 0, none⟩) := by simpa using hp
  have hl := run_loadPart (P := P) (off := 0) (hS.get hat) hu hs (by omega)
  rw [List.drop_zero, List.take_length] at hl
  simp [results, h, hp', asAddr, hl]
theorem results_cell_one {fn : Func} {p : Tmp} {ty : TypeId} {b : Nat} {e : TypeId} {L : List Value} (hS : St K w0 w H) (h : fn.results = #[.cell p ty]) (tmps : Array Value) (hp : tmps.getD p undef = .pointer (some ⟨b, 0, none⟩)) (hat : At H (.blk b e L) f) (hu : agg? P ty = some true) (hs : (P.info? ty).map (·.size) = some L.length) :
    (results fn tmps).run P w = .ok (.agg L.toArray) w := by
  have hp' : tmps[p]?.getD undef = .pointer (some ⟨b, 0, none⟩) := by simpa using hp
  have hl := run_loadPart (P := P) (off := 0) (hS.get hat) hu hs (by omega)
  rw [List.drop_zero, List.take_length] at hl
  simp [results, h, hp', asAddr, hl]

theorem K_val {v : Value} (l' : Array Bool) (hi : ops[i]? = some oi) (hN : oi.dst = T) (hc : (l.setIfInBounds i true == l') = true) (hw : Region.wanted oi (yielded ops a.tmps) = true) (hr : (execOp a.eval oi).run P w = .ok (.value v) w1) (hk : KeepS (SN N m) w w1)
    (h : ∀ a', a.put T v = a' → wpE (KeepS (SN N m)) P md ops Q fuel l' a' w1) : wpE1 (KeepS (SN N m)) P md ops Q fuel l a w i :=
  E_run1 l' hi hN hc hw hr hk rfl (h _ rfl)
theorem K_skip (l' : Array Bool) (hi : ops[i]? = some oi) (hN : oi.dst = none) (hc : (l.setIfInBounds i true == l') = true) (hw : Region.wanted oi (yielded ops a.tmps) = true) (hr : (execOp a.eval oi).run P w = .ok .skip w1) (hk : KeepS (SN N m) w w1)
    (h : wpE (KeepS (SN N m)) P md ops Q fuel l' a w1) : wpE1 (KeepS (SN N m)) P md ops Q fuel l a w i := by
  refine E_one1 l' hi hc hw ?_
  unfold Oper.wp
  rw [hr, Oper.upon_skip, hN]
  exact ⟨hk, h⟩
theorem alloc_keepS (w : World) (o : Obj) (hz : N ≤ w.heap.size) : KeepS (SN N m) w (w.alloc o) := KeepS.grown (alloc_grownBy w o) hz fun g e => by cases e
theorem K_alloc (hS : St K w0 w H) (hz : N ≤ w.heap.size) {t : TypeId} {z : Value} {L : List Value} (l' : Array Bool) (hi : ops[i]? = some oi) (hN : oi.dst = T) (hc : (l.setIfInBounds i true == l') = true) (hw : Region.wanted oi (yielded ops a.tmps) = true) (ho : oi.op = .alloc t) (hzv : (P.info? t).map (·.zero) = some (some z)) (hL : z.cells = L.toArray)
    (h : ∀ b w1, N ≤ b → St K w0 w1 (.blk b t L :: H) → N ≤ w1.heap.size → ∀ a', a.put T (.pointer (some ⟨b, 0, none⟩)) = a' → wpE (KeepS (SN N m)) P md ops Q fuel l' a' w1) : wpE1 (KeepS (SN N m)) P md ops Q fuel l a w i :=
  K_val l' hi hN hc hw (run_alloc ho hzv) (alloc_keepS w _ hz) (h _ _ hz (by rw [hL]; exact hS.alloc L t) (Nat.le_trans hz (alloc_grownBy w _).size))
theorem K_box (hS : St K w0 w H) (hz : N ≤ w.heap.size) {t : TypeId} {x : Operand} {v : Value} {L : List Value} (l' : Array Bool) (hi : ops[i]? = some oi) (hN : oi.dst = T) (hc : (l.setIfInBounds i true == l') = true) (hw : Region.wanted oi (yielded ops a.tmps) = true) (ho : oi.op = .box t x) (hx : a.eval x = v) (hL : v.cells = L.toArray)
    (h : ∀ b w1, N ≤ b → St K w0 w1 (.blk b t L :: H) → N ≤ w1.heap.size → ∀ a', a.put T (.pointer (some ⟨b, 0, none⟩)) = a' → wpE (KeepS (SN N m)) P md ops Q fuel l' a' w1) : wpE1 (KeepS (SN N m)) P md ops Q fuel l a w i :=
  K_val l' hi hN hc hw (run_boxV ho hx) (alloc_keepS w _ hz) (h _ _ hz (by rw [hL]; exact hS.alloc L t) (Nat.le_trans hz (alloc_grownBy w _).size))
theorem K_bslice (hS : St K w0 w H) (hz : N ≤ w.heap.size) (l' : Array Bool) (hi : ops[i]? = some oi) (hN : oi.dst = T) (hc : (l.setIfInBounds i true == l') = true) (hw : Region.wanted oi (yielded ops a.tmps) = true) {C : Array Value} {e : TypeId} {n : Nat} {L : List Value}
    (hrun : (execOp a.eval oi).run P w = .ok (.value (.slice (some ⟨w.heap.size, 0, none⟩) n n)) (w.alloc (.cells C e))) (hC : C = L.toArray) (hn : L.length = n) (hm : decide (n ≤ 16777216) = true)
    (h : ∀ b w1, N ≤ b → St K w0 w1 (.own e 1 (.slice (some ⟨b, 0, none⟩) n n) n L :: H) → N ≤ w1.heap.size → ∀ a', a.put T (.slice (some ⟨b, 0, none⟩) n n) = a' → wpE (KeepS (SN N m)) P md ops Q fuel l' a' w1) : wpE1 (KeepS (SN N m)) P md ops Q fuel l a w i := by
  subst hC
  exact K_val l' hi hN hc hw hrun (alloc_keepS w _ hz) (h _ _ hz (hS.allocOwn L e n hn (by have := of_decide_eq_true hm; unfold maxLen; omega)) (Nat.le_trans hz (alloc_grownBy w _).size))
theorem K_make (hS : St K w0 w H) (hz : N ≤ w.heap.size) {t e : TypeId} {z : Value} {bytes : Nat} (TT : ElemT P t e z bytes) {lo c : Operand} {kl kc : IntKind} {p q : Int} (n : Nat) (l' : Array Bool) (hi : ops[i]? = some oi) (hN : oi.dst = T) (hc : (l.setIfInBounds i true == l') = true) (hw : Region.wanted oi (yielded ops a.tmps) = true) (ho : oi.op = .makeSlice t lo c) (hl : a.eval lo = .int kl p) (hcv : a.eval c = .int kc q) (hp : p = (n : Int)) (hq : q = (n : Int)) (hzc : z.cells = #[z]) (hb : bytes * n ≤ 140737488355328) (hm : n ≤ maxLen)
    (h : ∀ b w1, N ≤ b → St K w0 w1 (.own e 1 (.slice (some ⟨b, 0, none⟩) n n) n (List.replicate n z) :: H) → N ≤ w1.heap.size → ∀ a', a.put T (.slice (some ⟨b, 0, none⟩) n n) = a' → wpE (KeepS (SN N m)) P md ops Q fuel l' a' w1) : wpE1 (KeepS (SN N m)) P md ops Q fuel l a w i := by
  subst hp hq
  have hr : (execOp a.eval oi).run P w = .ok (.value (.slice (some ⟨w.heap.size, 0, none⟩) n n)) (w.alloc (.cells (rep n z) e)) := by
    simp [execOp, ho, hl, hcv, run_make_rep TT w kl kc n hzc (by omega) (by unfold maxLen at hm; omega)]
  exact K_val l' hi hN hc hw hr (alloc_keepS w _ hz) (h _ _ hz (hS.allocOwn (List.replicate n z) e n (by simp) hm) (Nat.le_trans hz (alloc_grownBy w _).size))
theorem K_st (hS : St K w0 w H) (hz : N ≤ w.heap.size) {ty : TypeId} {x y : Operand} {b j : Nat} {e : TypeId} {L : List Value} {v : Value} (l' : Array Bool) (hi : ops[i]? = some oi) (hN : oi.dst = none) (hc : (l.setIfInBounds i true == l') = true) (hw : Region.wanted oi (yielded ops a.tmps) = true) (ho : oi.op = .store ty x y) (hx : a.eval x = .pointer (some ⟨b, j, none⟩)) (hy : a.eval y = v) (hat : At H (.blk b e L) f) (hb : N ≤ b ∨ b ∈ m) (h1 : v.oneCell' = true) (hs : (P.info? ty).map (·.size) = some 1) (hm : j < L.length)
    (h : ∀ w1, St K w0 w1 (f (.blk b e (L.set j v))) → N ≤ w1.heap.size → wpE (KeepS (SN N m)) P md ops Q fuel l' a w1) : wpE1 (KeepS (SN N m)) P md ops Q fuel l a w i :=
  K_skip l' hi hN hc hw (run_st ho hx hy h1 (hS.get hat) hs hm) (KeepS.grown (setCell_grownBy w b j v) hz (fun g e => by cases e; exact hb)) (h _ (hS.setCell hat j v) (Nat.le_trans hz (setCell_grownBy w b j v).size))
theorem K_stPart (hS : St K w0 w H) (hz : N ≤ w.heap.size) {ty : TypeId} {x y : Operand} {b j : Nat} {e : TypeId} {L vs : List Value} (l' : Array Bool) (hi : ops[i]? = some oi) (hN : oi.dst = none) (hc : (l.setIfInBounds i true == l') = true) (hw : Region.wanted oi (yielded ops a.tmps) = true) (ho : oi.op = .store ty x y) (hx : a.eval x = .pointer (some ⟨b, j, none⟩)) (hy : a.eval y = .agg vs.toArray) (hat : At H (.blk b e L) f) (hb : N ≤ b ∨ b ∈ m) (h1 : ∀ u ∈ vs, u.oneCell' = true) (hs : (P.info? ty).map (·.size) = some vs.length) (hm : j + vs.length ≤ L.length)
    (h : ∀ w1, St K w0 w1 (f (.blk b e (splice L j vs))) → N ≤ w1.heap.size → wpE (KeepS (SN N m)) P md ops Q fuel l' a w1) : wpE1 (KeepS (SN N m)) P md ops Q fuel l a w i :=
  K_skip l' hi hN hc hw (run_stPart ho hx hy rfl h1 (hS.get hat) hs hm) (KeepS.grown (setRow_grownBy w b _) hz (fun g e => by cases e; exact hb)) (h _ (hS.setRow hat _) (Nat.le_trans hz (setRow_grownBy w b _).size))
theorem K_stAll (hS : St K w0 w H) (hz : N ≤ w.heap.size) {ty : TypeId} {x y : Operand} {b : Nat} {e : TypeId} {L vs : List Value} (l' : Array Bool) (hi : ops[i]? = some oi) (hN : oi.dst = none) (hc : (l.setIfInBounds i true == l') = true) (hw : Region.wanted oi (yielded ops a.tmps) = true) (ho : oi.op = .store ty x y) (hx : a.eval x = .pointer (some ⟨b, 0, none⟩)) (hy : a.eval y = .agg vs.toArray) (hat : At H (.blk b e L) f) (hb : N ≤ b ∨ b ∈ m) (h1 : ∀ u ∈ vs, u.oneCell' = true) (hs : (P.info? ty).map (·.size) = some vs.length) (hm : vs.length = L.length)
    (h : ∀ w1, St K w0 w1 (f (.blk b e vs)) → N ≤ w1.heap.size → wpE (KeepS (SN N m)) P md ops Q fuel l' a w1) : wpE1 (KeepS (SN N m)) P md ops Q fuel l a w i :=
  K_stPart hS hz l' hi hN hc hw ho hx hy hat hb h1 hs (by omega) fun w1 h' => h w1 (by rw [splice_all L vs hm] at h'; exact h')
theorem K_app {t e : TypeId} {z : Value} {bytes : Nat} (TT : ElemT P t e z bytes) (hS : St K w0 w H) (hz : N ≤ w.heap.size) {s x : Operand} {tx : TypeId} {v : Value} {n : Nat} {xs : List Value} (l' : Array Bool) (hi : ops[i]? = some oi) (hN : oi.dst = T) (hc : (l.setIfInBounds i true == l') = true) (hw : Region.wanted oi (yielded ops a.tmps) = true)
    (ho : oi.op = .call { callee := .builtin .append, args := #[s, x], argTypes := #[t, tx] }) (hsv : a.eval s = v) (hat : At H (.own e 1 v n xs) f) (hb : ∀ g, v.ownBlock = some g → N ≤ g ∨ g ∈ m) {xv : Value} (hxv : a.eval x = xv) {k : Nat} {news : List Value} (hs : Src P 1 tx xv k news w)
    (h63 : n + k ≤ maxLen) (hbytes : (n + k) * bytes ≤ 140737488355328)
    (h : ∀ A c w1, St K w0 w1 (f (.own e 1 (.slice A (n + k) c) (n + k) (xs ++ news))) → N ≤ w1.heap.size → ∀ a', a.put T (.slice A (n + k) c) = a' → wpE (KeepS (SN N m)) P md ops Q fuel l' a' w1) : wpE1 (KeepS (SN N m)) P md ops Q fuel l a w i := by
  have hown := hS.get hat
  obtain ⟨ti, hti, htz, h1, h2⟩ := info_parts TT.hi
  obtain ⟨v', w', hr, k1, k2, k3⟩ := run_append_src2 w 0 t tx (oi.type) e ti z bytes TT.ht hti htz h1 h2 TT.hz v n xs hown xv k news hs h63 hbytes (Nat.zero_le _)
  obtain ⟨A, c, rfl, -⟩ := own_rd k1
  refine K_val l' hi hN hc hw (exec_append ho hsv hxv hr) (KeepS.grown k2 hz hb) (h A c w' (hS.upd hat k2 k1 fun b hb => ?_) (Nat.le_trans hz k2.size))
  rcases k3 with k3 | k3
  · exact .inl (by rw [← hb]; exact k3.symm)
  · right
    have : some b = some w.heap.size := by rw [← hb]; exact k3
    injection this with this
    omega
theorem K_copy (hS : St K w0 w H) (hz : N ≤ w.heap.size) {s x : Operand} {t tx el : TypeId} {b off dl dc : Nat} {e : TypeId} {L : List Value} {A : Option Addr} {sl sc : Nat} {xs : List Value} (l' : Array Bool) (hi : ops[i]? = some oi) (hN : oi.dst = T) (hc : (l.setIfInBounds i true == l') = true) (hw : Region.wanted oi (yielded ops a.tmps) = true)
    (ho : oi.op = .call { callee := .builtin .copy, args := #[s, x], argTypes := #[t, tx] }) (hu : P.underlying t = some (.slice el)) (hsz : (P.info? el).map (·.size) = some 1) (hd : a.eval s = .slice (some ⟨b, off, none⟩) dl dc) (hat : At H (.blk b e L) f) (hb : N ≤ b ∨ b ∈ m)
    (hx : a.eval x = .slice A sl sc) (hr : Rd w A xs) (hsl : xs.length = sl) (hn : sl ≤ dl) (hfit : off + sl ≤ L.length) (h1 : ∀ u ∈ xs, u.oneCell' = true) (h0 : 0 < sl)
    (h : ∀ w1, St K w0 w1 (f (.blk b e (splice L off xs))) → N ≤ w1.heap.size → ∀ a', a.put T (goInt (sl : Int)) = a' → wpE (KeepS (SN N m)) P md ops Q fuel l' a' w1) : wpE1 (KeepS (SN N m)) P md ops Q fuel l a w i := by
  subst hsl
  have hg := hS.get hat
  have hrd0 := hr.at (i := 0) h0
  obtain ⟨e1, -⟩ := hrd0
  rw [e1] at hx
  have hrow := run_copy_row (P := P) w t tx oi.type el b off dl dc ⟨ab A, ao A, none⟩ xs.length sc L.toArray e xs hu hsz hg (Nat.min_eq_left hn).symm (fun j u hu => by
    have hj : j < xs.length := (List.getElem?_eq_some_iff.1 hu).1
    rw [addr_add, (hr.at hj).2, hu]) (by simpa using hfit) h1
  refine K_val l' hi hN hc hw (exec_copy ho hd hx hrow) (KeepS.grown (setRow_grownBy w b _) hz (fun g e => by cases e; exact hb)) (h _ ?_ (Nat.le_trans hz (setRow_grownBy w b _).size))
  have := hS.setRow hat (splice L off xs)
  simpa [splice] using this

theorem R_ldPartQ (hS : St K w0 w H) {ty : TypeId} {x : Operand} {b i n : Nat} {e : TypeId} {L L' : List Value} (ho : o.op = .load ty x) (hx : a.eval x = .pointer (some ⟨b, i, none⟩)) (hat : At H (.blk b e L) f) (ht : agg? P ty = some true) (hs : (P.info? ty).map (·.size) = some n) (hm : i + n ≤ L.length) (hL : (L.drop i).take n = L') : (execOp a.eval o).run P w = .ok (.value (.agg L'.toArray)) w := by
  subst hL
  exact run_ldPart ho hx (hS.get hat) ht hs hm
/-! Strings. -/
theorem R_strc {src dst e : TypeId} (hs : P.underlying src = some (.slice e)) (he : P.underlying e = some (.int .u8)) (hd : P.underlying dst = some .string) {x : Operand} {A : Option Addr} {n c : Nat} {xs : List UInt8} (hr : RdB w A xs) (hn : xs.length = n) (ho : o.op = .convert src dst x) (hx : a.eval x = .slice A n c) : (execOp a.eval o).run P w = .ok (.value (.string (str xs))) w := by
  simp [execOp, ho, hx, run_str w hs he hr hn hd]
theorem S_strc {src dst e : TypeId} (hs : P.underlying src = some (.slice e)) (he : P.underlying e = some (.int .u8)) (hd : P.underlying dst = some .string) {x : Operand} {A : Option Addr} {n c : Nat} {xs : List UInt8} (hr : RdB w A xs) (hn : xs.length = n) (hgd : o.guard = none) (ho : o.op = .convert src dst x) (hx : a.eval x = .slice A n c) (h : wpList P ops Q rest (a.put o.dst (.string (str xs))) w) : wpList P ops Q (o :: rest) a w :=
  S_val hgd (R_strc hs he hd hr hn ho hx) h
theorem str_app (p q : List UInt8) : str p ++ str q = str (p ++ q) := by
  apply ByteArray.ext
  rw [ByteArray.data_append]
  simp [str]
theorem R_cat {t t' : TypeId} {x y : Operand} {p q : List UInt8} (ho : o.op = .binOp .add t x y t') (hx : a.eval x = .string (str p)) (hy : a.eval y = .string (str q)) (hb : p.length + q.length ≤ 9223372036854775807) : (execOp a.eval o).run P w = .ok (.value (.string (str (p ++ q)))) w := by
  have h1 := run_string_add_sum (P := P) w (str p) (str q) (by rw [str_size, str_size]; exact hb)
  simp [execOp, ho, hx, hy, binOp, h1, eqGuard, str_app]
theorem S_cat {t t' : TypeId} {x y : Operand} {p q : List UInt8} (hgd : o.guard = none) (ho : o.op = .binOp .add t x y t') (hx : a.eval x = .string (str p)) (hy : a.eval y = .string (str q)) (hb : p.length + q.length ≤ 9223372036854775807) (h : wpList P ops Q rest (a.put o.dst (.string (str (p ++ q)))) w) : wpList P ops Q (o :: rest) a w :=
  S_val hgd (R_cat ho hx hy hb) h
end
end Go.Proofs.Ythamhaomfdgdjaa
