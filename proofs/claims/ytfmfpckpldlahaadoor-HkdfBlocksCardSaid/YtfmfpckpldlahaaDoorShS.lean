/- Sum, its pieces. -/
import Derived.Test.YtfmfpckpldlahaaDoorShK
import Derived.Test.YtfmfpckpldlahaaDoorSha3
import Derived.Test.YtfmfpckpldlahaaDoorChk
import Derived.Test.YtfmfpckpldlahaaDoorCat
namespace Go.Proofs.YtfmfpckpldlahaaDoor
open Go.RowKit Go.Proofs.YtfmfpckpldlahaaDoor.Pure Go.Proofs.YtfmfpckpldlahaaDoor.PB Go.Proofs.YtfmfpckpldlahaaDoorW.PrintWords
attribute [local go_sem] Oper.semAt_some

/-! ### Laws of the fenced walk -/
section
variable {P : Program} {F : Fence} {nF : Nat} {ops : Array Oper} {rest : List Oper} {o : Oper} {a : Act} {w : World} {Q : Exit → Act → World → Prop}
theorem wpListIn_store_row (hgd : o.guard = none) (ty : TypeId) (x y : Operand) (ho : o.op = .store ty x y)
    (g : Nat) (cells : Array Value) (hx : a.eval x = .pointer (some ⟨g, 0, none⟩)) (hy : a.eval y = .agg cells)
    (t : TypeId) (old : Array Value) (hg : w.heap[g]? = some (.cells old t (0, 0))) (hi : (P.info? ty).map (·.size) = some cells.size)
    (hold : old.size = cells.size) (h1 : cells.all (·.oneCell') = true)
    (h : wpListIn F nF P ops Q rest (a.put o.dst undef) (w.setRow g cells)) : wpListIn F nF P ops Q (o :: rest) a w := by
  refine wpListIn_plain hgd fun K hK => ?_
  unfold Oper.wpIn
  refine ⟨by simp [Oper.about, ho], ?_⟩
  rw [Oper.semAt_plain F _ _ (by rw [ho]; intro c hc'; cases hc')]
  simp [execOp, ho, hx, hy, Instr.storeAt, Instr.sureAddr, run_storeVar_row w g t ty old cells hg hi hold h1, Result.andThen]
  exact hK _ _ h
theorem wpListIn_load_row (hgd : o.guard = none) (ty : TypeId) (x : Operand) (ho : o.op = .load ty x)
    (g : Nat) (hx : a.eval x = .pointer (some ⟨g, 0, none⟩)) (t : TypeId) (cs : Array Value) (fr : Nat × Nat) (d : TypeDesc) (hg : w.heap[g]? = some (.cells cs t fr))
    (hu : P.underlying ty = some d) (hd : (match d with | .struct _ | .array _ _ => true | _ => false) = true) (hi : (P.info? ty).map (·.size) = some cs.size)
    (h : wpListIn F nF P ops Q rest (a.put o.dst (.agg cs)) w) : wpListIn F nF P ops Q (o :: rest) a w := by
  refine wpListIn_plain hgd fun K hK => ?_
  unfold Oper.wpIn
  refine ⟨by simp [Oper.about, ho], ?_⟩
  rw [Oper.semAt_plain F _ _ (by rw [ho]; intro c hc'; cases hc')]
  simp [execOp, ho, hx, Instr.loadAt, Instr.sureAddr, run_loadVar_row w g t ty cs fr d hg hu hd hi, Result.andThen]
  exact hK _ _ h
theorem wpListIn_app' {t e : TypeId} {z : Value} {bytes : Nat} (T : ElemT P t e z bytes) {s x : Operand} {tx : TypeId}
    (base : Nat) {v : Value} {n : Nat} {xs : List Value} (hown : w.ownsRow base e 1 v n xs) (xv : Value) {m : Nat} {news : List Value} (hs : Src P 1 tx xv m news w) (hgd : o.guard = none)
    (ho : o.op = .call { callee := .builtin .append, args := #[s, x], argTypes := #[t, tx] }) (hsv : a.eval s = v) (hxv : a.eval x = xv)
    (h63 : n + m ≤ maxLen) (hbytes : (n + m) * bytes ≤ 140737488355328) (hbase : base ≤ w.heap.size)
    (h : ∀ A c w', w'.ownsRow base e 1 (.slice A (n + m) c) (n + m) (xs ++ news) → w.grownBy w' v.ownBlock → (Value.ownBlock (.slice A (n + m) c) = v.ownBlock ∨ Value.ownBlock (.slice A (n + m) c) = some w.heap.size) → wpListIn F nF P ops Q rest (a.put o.dst (.slice A (n + m) c)) w') : wpListIn F nF P ops Q (o :: rest) a w := by
  refine wpListIn_plain hgd fun K hK => ?_
  obtain ⟨i, hi, hz, hsize, hby⟩ := info_parts T.hi
  obtain ⟨v', w', hr, h2, h3, h4⟩ := run_append_src2 (P := P) w base t tx o.type e i z bytes T.ht hi hz hsize hby T.hz v n xs hown xv m news hs h63 hbytes hbase
  obtain ⟨A, c, rfl, _⟩ := own_rd h2
  unfold Oper.wpIn
  refine ⟨by simp [Oper.about, ho, resolve, Target.leads, Sem.run_pure], ?_⟩
  rw [Oper.semAt_plain F _ _ (by rw [ho]; intro c hc'; cases hc')]
  simp [execOp, ho, resolve, invoke, builtin, hsv, hxv, hr, Result.andThen]
  exact hK _ _ (h A c w' h2 h3 h4)
end

/-- A value at first. -/
theorem first_any (w : World) : Calls Tryd.prog 23 #[] w fun e w' => e = .returned (.agg (iv.map wV).toArray) ∧ Below w.heap.size w w' := by
  go_enter Tryd.func23, Tryd.ntmps23
  have HI := Lib.hid (show (iv.map wV).toArray = _ from rfl)
  go_wp2_with (first | (refine wpList_build rfl _ _ rfl (by kernel_rfl) ?_) | (go_loud (refine wpList_store_row rfl 49 _ _ rfl w.heap.size (iv.map wV).toArray rfl (by kernel_rfl) _ _ (heap_alloc_new w _) (by kernel_rfl) (by rfl) (by simp [wV, Value.oneCell']) ?_)))
  refine bodyPost_ret (results_cell_row rfl _ _ w.heap.size 49 (iv.map wV).toArray (0, 0) _ rfl (setRow_heap _ _ _ _ _ _ (heap_alloc_new w _)) Tryd.underlying49 rfl (by kernel_rfl)) rfl ?_
  exact ⟨rfl, ((Below.refl _ w).alloc (Nat.le_refl _) _).trans (below_setRow (Nat.le_refl _))⟩

/-- What is laid behind a text. -/
theorem shaFill_any (n : Nat) (hn : n ≤ 10000000) (w : World) : Calls Tryd.prog 25 #[.int .i64 (n : Int)] w (GivesB (fillS n) w) := by
  obtain ⟨k, hk⟩ := codeFill n hn
  refine (PB.sha512_Fill.calls k _ _ w (hk k (Nat.le_refl _))).mono ?_
  rintro e w' ⟨v, rfl, hR, hb⟩
  have h := own_of_RB hR (isB8_i8s _)
  rw [u8s_i8s, i8s_length] at h
  exact ⟨v, rfl, h, hb⟩

/-- The value behind the pieces of these numbers. -/
def hL (b : List UInt8) (js : List Nat) : List W := js.foldl (fun h j => oneF h (pieceF b 128 j)) iv
theorem hL_snoc (b : List UInt8) (js : List Nat) (j : Nat) : hL b (js ++ [j]) = oneF (hL b js) (pieceF b 128 j) := by unfold hL; rw [List.foldl_append]; rfl
theorem hL_range (b : List UInt8) : ∀ i, hL b (List.range i) = hP b i
  | 0 => rfl
  | i + 1 => by rw [List.range_succ, hL_snoc, hL_range b i]; rfl
theorem oneF_length (v : List W) (p : List UInt8) : (oneF v p).length = 8 := rfl
theorem hL_length (b : List UInt8) (js : List Nat) : (hL b js).length = 8 := by
  unfold hL
  have : ∀ (js : List Nat) (v : List W), v.length = 8 → (js.foldl (fun h j => oneF h (pieceF b 128 j)) v).length = 8 := by
    intro js
    induction js with
    | nil => exact fun v h => h
    | cons j js ih => exact fun v _ => ih _ (oneF_length _ _)
  exact this js iv rfl

/-- The blocks of S lie as they lay. -/
structure KeepT (S : Nat → Prop) (w w' : World) : Prop where
  os : w'.os = w.os
  tape : w'.tape = w.tape
  output : w'.output = w.output
  size : w.heap.size ≤ w'.heap.size
  block : ∀ k, S k → w'.heap[k]? = w.heap[k]?
theorem KeepT.refl (S : Nat → Prop) (w : World) : KeepT S w w := ⟨rfl, rfl, rfl, Nat.le_refl _, fun _ _ => rfl⟩
theorem KeepT.trans {S : Nat → Prop} {a b c : World} (h : KeepT S a b) (k : KeepT S b c) : KeepT S a c := ⟨k.os.trans h.os, k.tape.trans h.tape, k.output.trans h.output, Nat.le_trans h.size k.size, fun i hi => (k.block i hi).trans (h.block i hi)⟩
theorem KeepT.below {S : Nat → Prop} {B : Nat} {a b : World} (h : KeepT S a b) (hs : ∀ k, k < B → S k) : Below B a b := ⟨h.os, h.tape, h.output, h.size, fun k hk => h.block k (hs k hk)⟩
theorem KeepT.grown {S : Nat → Prop} {a b : World} {row : Option Nat} (h : a.grownBy b row) (hs : ∀ k, S k → k < a.heap.size) (hr : ∀ g, row = some g → ¬ S g) : KeepT S a b :=
  ⟨h.os, h.tape, h.output, h.size, fun k hk => h.block k (hs k hk) (fun e => hr k e.symm hk)⟩
theorem Rd.keepT {w w' : World} {S : Nat → Prop} {b o : Nat} {xs : List Value} (h : Rd w (some ⟨b, o, none⟩) xs) (hk : KeepT S w w') (hb : S b) : Rd w' (some ⟨b, o, none⟩) xs := by
  rcases h with h | ⟨b', o', e, h⟩
  · exact .inl h
  · cases e
    exact Rd.mk fun i hi => (World.cell?_of_block (a := ⟨b, o + i, none⟩) (hk.block b hb)).trans (h i hi)

/-! ### The bytes of the answer -/
theorem beB_getD (v : Nat) : ∀ m j, j < m → (beB v m).getD j 0 = UInt8.ofNat (v / 2 ^ (8 * (m - 1 - j)) % 256)
  | 0, _, h => absurd h (Nat.not_lt_zero _)
  | m + 1, 0, _ => rfl
  | m + 1, j + 1, h => by
    rw [beB, List.getD_cons_succ, beB_getD v m j (by omega), show m + 1 - 1 - (j + 1) = m - 1 - j by omega]
theorem outF_length : ∀ h : List W, (outF h).length = 8 * h.length
  | [] => rfl
  | x :: h => by
    have : outF (x :: h) = beB x.toNat 8 ++ outF h := by simp [outF]
    rw [this, List.length_append, beB_length, outF_length h, List.length_cons]; omega
theorem outF_getD : ∀ (h : List W) (k : Nat), k < 8 * h.length → (outF h).getD k 0 = UInt8.ofNat ((h.getD (k / 8) 0).toNat / 2 ^ (8 * (7 - k % 8)) % 256)
  | [], k, hk => by simp at hk
  | x :: h, k, hk => by
    have e : outF (x :: h) = beB x.toNat 8 ++ outF h := by simp [outF]
    rw [List.length_cons] at hk
    rw [e, List.getD_eq_getElem?_getD]
    by_cases hlt : k < 8
    · rw [List.getElem?_append_left (by rw [beB_length]; exact hlt), ← List.getD_eq_getElem?_getD, beB_getD _ _ _ hlt, show k / 8 = 0 by omega, show k % 8 = k by omega]; rfl
    · rw [List.getElem?_append_right (by rw [beB_length]; omega), beB_length, ← List.getD_eq_getElem?_getD, outF_getD h (k - 8) (by omega), show k / 8 = (k - 8) / 8 + 1 by omega, show (k - 8) % 8 = k % 8 by omega, List.getD_cons_succ]

/-- The row as far as k bytes are laid. -/
def outs (h : List W) : Nat → List UInt8
  | 0 => List.replicate 64 0
  | k + 1 => (outs h k).set k ((outF h).getD k 0)
theorem outs_length (h : List W) : ∀ k, (outs h k).length = 64
  | 0 => by rw [outs, List.length_replicate]
  | k + 1 => by rw [outs, List.length_set, outs_length h k]
theorem outs_getD (h : List W) : ∀ k j, j < k → k ≤ 64 → (outs h k).getD j 0 = (outF h).getD j 0
  | 0, _, hj, _ => absurd hj (Nat.not_lt_zero _)
  | k + 1, j, hj, hk => by
    rw [outs, List.getD_eq_getElem?_getD, List.getElem?_set]
    by_cases e : k = j
    · subst e
      rw [if_pos rfl, if_pos (by rw [outs_length]; omega)]; rfl
    · rw [if_neg e, ← List.getD_eq_getElem?_getD, outs_getD h k j (by omega) (by omega)]
theorem outs_all (h : List W) (hh : h.length = 8) : outs h 64 = outF h := by
  refine List.ext_getElem (by rw [outs_length, outF_length, hh]) fun j h1 h2 => ?_
  have h3 := outs_getD h 64 j (by rw [outs_length] at h1; exact h1) (Nat.le_refl _)
  rw [List.getD_eq_getElem?_getD, List.getD_eq_getElem?_getD, List.getElem?_eq_getElem h1, List.getElem?_eq_getElem h2] at h3
  exact h3
end Go.Proofs.YtfmfpckpldlahaaDoor
