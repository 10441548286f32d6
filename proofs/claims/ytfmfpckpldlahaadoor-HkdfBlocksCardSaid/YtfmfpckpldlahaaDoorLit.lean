/- A constant string as bytes: its slice is laid, and marked. -/
import Derived.Test.YtfmfpckpldlahaaDoorStR
import Derived.Lib.SmallJoins
namespace Go.Proofs.YtfmfpckpldlahaaDoor
open Go.RowKit
section
variable {P : Program} {K : Nat → Prop} {w0 w w' : World} {H : List Ent} {f : Ent → List Ent} {ops : Array Oper} {rest : List Oper} {o o2 : Oper} {a : Act} {Q : Exit → Act → World → Prop}
theorem St.litRd {b : Nat} {e : TypeId} {L : List Value} {fr : Nat × Nat} (h : St K w0 w H) (hat : At H (.obj b (.cells L.toArray e fr)) f) : Rd w (some ⟨b, 0, none⟩) L := by
  refine Rd.mk fun i hi => ?_
  rw [Nat.zero_add, cell_of_row _ b i _ e fr (h.get hat)]
  exact List.getElem?_toArray
theorem S_lit (hS : St K w0 w H) {t e : TypeId} {n m : Nat} {parts : Array (Nat × Operand)} {x : Operand} {L : List Value} {C : Array Value} (hgd : o.guard = none) (hr : (execOp a.eval o).run P w = .ok (.value (.slice (some ⟨w.heap.size, 0, none⟩) n n)) (w.alloc (.cells C e))) (ho : o.op = .buildSlice t m parts) (hC : C = L.toArray)
    (hgd2 : o2.guard = none) (ho2 : o2.op = .convert t t x) (hx : (a.put o.dst (.slice (some ⟨w.heap.size, 0, none⟩) n n)).eval x = .slice (some ⟨w.heap.size, 0, none⟩) n n) (ht : P.underlying t = some (.slice e)) (he : P.underlying e = some (.int .u8))
    (h : ∀ b w', St K w0 w' (.obj b (.cells L.toArray e (L.toArray.size, L.toArray.size + 1)) :: H) → wpList P ops Q rest ((a.put o.dst (.slice (some ⟨b, 0, none⟩) n n)).put o2.dst (.slice (some ⟨b, 0, none⟩) n n)) w') : wpList P ops Q (o :: o2 :: rest) a w := by
  subst hC
  refine S_val hgd hr (S_val hgd2 (v := .slice (some ⟨w.heap.size, 0, none⟩) n n) (w' := w.alloc (.cells L.toArray e (L.toArray.size, L.toArray.size + 1))) ?_ (h w.heap.size _ ?_))
  · simp [execOp, ho2, hx, Joins.run_convert_bytes_const_at (P := P) w t e L.toArray n n w.heap.size rfl ht he]
  · exact hS.add (alloc_grownBy w _) (y := .obj w.heap.size (.cells L.toArray e (L.toArray.size, L.toArray.size + 1))) (heap_alloc_new w _) (fun b hb => by cases hb; exact Nat.le_refl _)
/-- A string as bytes: a row of its own, with room behind it. -/
theorem St.objRd {b : Nat} {e : TypeId} {C : Array Value} {fr : Nat × Nat} {n : Nat} {L : List Value} (h : St K w0 w H) (hat : At H (.obj b (.cells C e fr)) f) (hC : Hid (C.toList.take n = L)) : Rd w (some ⟨b, 0, none⟩) L := by
  refine Rd.mk fun i hi => ?_
  have h1 := hC.out
  rw [Nat.zero_add, cell_of_row _ b i _ e fr (h.get hat)]
  have h2 : i < n ∧ i < C.toList.length := by rw [← h1, List.length_take] at hi; omega
  rw [← h1, List.getElem?_take_of_lt h2.1, Array.getElem?_toList]
theorem bytes_take (w : World) (e : TypeId) (l : List UInt8) : (Lib.bytesCells w e (str l)).toList.take l.length = l.map bV := by
  unfold Lib.bytesCells
  rw [Array.toList_append, Array.toList_map, str_data, List.take_append_of_le_length (by simp), List.take_of_length_le (by simp)]
  rfl
theorem run_byt {src dst e : TypeId} {u : TypeDesc} {x : Operand} {l : List UInt8} (ho : o.op = .convert src dst x) (hx : a.eval x = .string (str l)) (hs : P.underlying src = some u) (hd : P.underlying dst = some (.slice e)) (he : P.underlying e = some (.int .u8)) :
    (execOp a.eval o).run P w = .ok (.value (.slice (some ⟨w.heap.size, 0, none⟩) l.length (grownCap w (str l).size 0 e))) (Lib.bytesWorld w e (str l)) := by
  simp [execOp, ho, hx, Lib.run_convert_string_bytes (P := P) w src dst e (str l) hs hd he, str_size]
theorem S_byt (hS : St K w0 w H) {src dst e : TypeId} {u : TypeDesc} {x : Operand} {l : List UInt8} {n : Nat} (hgd : o.guard = none) (ho : o.op = .convert src dst x) (hx : a.eval x = .string (str l)) (hs : P.underlying src = some u) (hd : P.underlying dst = some (.slice e)) (he : P.underlying e = some (.int .u8)) (hn : l.length = n)
    (h : ∀ b c C fr w', Hid (C.toList.take n = l.map bV) → n ≤ c → St K w0 w' (.obj b (.cells C e fr) :: H) → wpList P ops Q rest (a.put o.dst (.slice (some ⟨b, 0, none⟩) n c)) w') : wpList P ops Q (o :: rest) a w := by
  subst hn
  refine S_val hgd (run_byt ho hx hs hd he) (h _ _ _ ((Lib.bytesCells w e (str l)).size, (Lib.bytesCells w e (str l)).size + 1) _ (Lib.hid (bytes_take w e l)) (by have := grownCap_ge w (str l).size 0 e; rwa [str_size] at this ⊢) ?_)
  exact hS.add (grown_of_ext (Joins.below_bytesWorld _ w e (str l) (Nat.le_refl _))) (y := .obj w.heap.size (.cells (Lib.bytesCells w e (str l)) e ((Lib.bytesCells w e (str l)).size, (Lib.bytesCells w e (str l)).size + 1))) (Lib.bytesWorld_at_new w e (str l)) (fun b hb => by cases hb; exact Nat.le_refl _)
theorem E_byt {R : World → World → Prop} {md : Region.Mode} {i : Nat} {N : Option Tmp} {oi : Oper} {fuel : Nat} {lv : Array Bool} (hS : St K w0 w H) (hR : ∀ e l, R w (Lib.bytesWorld w e (str l))) (l' : Array Bool) (hi : ops[i]? = some oi) (hN : oi.dst = N) (hc : oneC md ops lv l' i = true) (hw : Region.wanted oi (yielded ops a.tmps) = true) {src dst e : TypeId} {u : TypeDesc} {x : Operand} {l : List UInt8} {n : Nat}
    (ho : oi.op = .convert src dst x) (hx : a.eval x = .string (str l)) (hs : P.underlying src = some u) (hd : P.underlying dst = some (.slice e)) (he : P.underlying e = some (.int .u8)) (hn : l.length = n)
    (h : ∀ b c C fr w1, Hid (C.toList.take n = l.map bV) → n ≤ c → St K w0 w1 (.obj b (.cells C e fr) :: H) → ∀ a', a.put N (.slice (some ⟨b, 0, none⟩) n c) = a' → wpE R P md ops Q fuel l' a' w1) : wpE R P md ops Q (fuel + 1) lv a w := by
  subst hn
  exact E_run l' hi hN hc hw (run_byt ho hx hs hd he) (hR _ _) rfl (h _ _ _ ((Lib.bytesCells w e (str l)).size, (Lib.bytesCells w e (str l)).size + 1) _ (Lib.hid (bytes_take w e l)) (by have := grownCap_ge w (str l).size 0 e; rwa [str_size] at this ⊢) (hS.add (grown_of_ext (Joins.below_bytesWorld _ w e (str l) (Nat.le_refl _))) (y := .obj w.heap.size (.cells (Lib.bytesCells w e (str l)) e ((Lib.bytesCells w e (str l)).size, (Lib.bytesCells w e (str l)).size + 1))) (Lib.bytesWorld_at_new w e (str l)) (fun b hb => by cases hb; exact Nat.le_refl _)) _ rfl)
theorem E_byt1 {R : World → World → Prop} {md : Region.Mode} {i : Nat} {N : Option Tmp} {oi : Oper} {fuel : Nat} {lv : Array Bool} (hS : St K w0 w H) (hR : ∀ e l, R w (Lib.bytesWorld w e (str l))) (l' : Array Bool) (hi : ops[i]? = some oi) (hN : oi.dst = N) (hc : (lv.setIfInBounds i true == l') = true) (hw : Region.wanted oi (yielded ops a.tmps) = true) {src dst e : TypeId} {u : TypeDesc} {x : Operand} {l : List UInt8} {n : Nat}
    (ho : oi.op = .convert src dst x) (hx : a.eval x = .string (str l)) (hs : P.underlying src = some u) (hd : P.underlying dst = some (.slice e)) (he : P.underlying e = some (.int .u8)) (hn : l.length = n)
    (h : ∀ b c C fr w1, Hid (C.toList.take n = l.map bV) → n ≤ c → St K w0 w1 (.obj b (.cells C e fr) :: H) → ∀ a', a.put N (.slice (some ⟨b, 0, none⟩) n c) = a' → wpE R P md ops Q fuel l' a' w1) : wpE1 R P md ops Q fuel lv a w i := by
  subst hn
  exact E_run1 l' hi hN hc hw (run_byt ho hx hs hd he) (hR _ _) rfl (h _ _ _ ((Lib.bytesCells w e (str l)).size, (Lib.bytesCells w e (str l)).size + 1) _ (Lib.hid (bytes_take w e l)) (by have := grownCap_ge w (str l).size 0 e; rwa [str_size] at this ⊢) (hS.add (grown_of_ext (Joins.below_bytesWorld _ w e (str l) (Nat.le_refl _))) (y := .obj w.heap.size (.cells (Lib.bytesCells w e (str l)) e ((Lib.bytesCells w e (str l)).size, (Lib.bytesCells w e (str l)).size + 1))) (Lib.bytesWorld_at_new w e (str l)) (fun b hb => by cases hb; exact Nat.le_refl _)) _ rfl)
end
end Go.Proofs.YtfmfpckpldlahaaDoor
