/- The plain sides of CtsLast and CtsBegins. -/
import Derived.Test.YthmdnpaebdlefaaCtsQ
namespace Go.Proofs.Ythmdnpaebdlefaa
open Go.RowKit

theorem parts_list {b : List UInt8} {q r : Nat} (h : b.length = 16 * q + 16 + r) (hr : 1 ≤ r) (hr2 : r ≤ 16) : ∃ A Y Z, A16 A ∧ Y.length = 16 ∧ Z.length = r ∧ A.length = q ∧ b = A.flatten ++ (Y ++ Z) := parts b h hr hr2
theorem len_one {α : Type} {l : List α} (h : l.length = 1) : ∃ a, l = [a] := by
  match l, h with
  | [a], _ => exact ⟨a, rfl⟩
theorem len_two {α : Type} {l : List α} (h : l.length = 2) : ∃ a b, l = [a, b] := by
  match l, h with
  | [a, b], _ => exact ⟨a, b, rfl⟩
theorem cut_sl {a b c : List UInt8} {m n : Nat} (ha : a.length = m) (hb : m + b.length = n) : ((a ++ (b ++ c)).take n).drop m = b := by
  subst ha hb
  rw [← List.append_assoc, ← List.length_append, List.take_left, List.drop_left]
theorem cts_last {E D : List UInt8 → List UInt8} (h : Ciph E D) {b : List UInt8} (hb : b.length = 48) (cc : UInt8) :
    ∃ s1 s2 : List UInt8, s1.length = 16 ∧ s2.length = 16 ∧ ((ctsE E b).take 16).drop 0 = s1 ∧ ((ctsE E (b ++ [cc])).take 16).drop 0 = s1 ∧ ((ctsE E b).take 48).drop 32 = s2 ∧ ((ctsE E (b ++ [cc])).take 32).drop 16 = s2 := by
  obtain ⟨A, Y, Z, hA, hY, hZ, hl, rfl⟩ := parts_list (b := b) (q := 1) (r := 16) (by omega) (by omega) (by omega)
  obtain ⟨p, rfl⟩ := len_one hl
  have hp := hA.head
  have hx := xorF_l16 hp zz_len
  have h0 := h.1 _ hx
  have hy := xorF_l16 hY h0
  have h1 := h.1 _ hy
  have h2 := h.1 _ (xorF_l16 (f16_len (p := Z) (by omega)) h1)
  have hA2 : A16 [p, Y] := A16.cons hp (A16.cons hY A16.nil)
  have e1 : ctsE E ([p].flatten ++ (Y ++ Z)) = E (xorF p zz16) ++ (E (xorF (f16 Z) (E (xorF Y (E (xorF p zz16))))) ++ (E (xorF Y (E (xorF p zz16))) ++ [])) := by
    rw [ctsE_parts hA hY (by omega) (by omega)]
    unfold eF
    simp only [cbcE, List.flatten_cons, List.flatten_nil, List.append_nil, List.getLastD_cons, List.getLastD_nil]
    rw [List.take_of_length_le (by omega)]
  have e2 : ctsE E ([p].flatten ++ (Y ++ Z) ++ [cc]) = E (xorF p zz16) ++ (E (xorF Y (E (xorF p zz16))) ++ (E (xorF (f16 [cc]) (E (xorF Z (E (xorF Y (E (xorF p zz16))))))) ++ (E (xorF Z (E (xorF Y (E (xorF p zz16)))))).take 1)) := by
    have : [p].flatten ++ (Y ++ Z) ++ [cc] = [p, Y].flatten ++ (Z ++ [cc]) := by simp
    rw [this, ctsE_parts hA2 hZ (by simp) (by simp)]
    unfold eF
    simp only [cbcE, List.flatten_cons, List.flatten_nil, List.append_nil, List.getLastD_cons, List.getLastD_nil, List.append_assoc, List.length_cons, List.length_nil]
  refine ⟨E (xorF p zz16), E (xorF Y (E (xorF p zz16))), h0, h1, ?_, ?_, ?_, ?_⟩
  · rw [e1]; exact cut_sl (a := []) rfl (by omega)
  · rw [e2]; exact cut_sl (a := []) rfl (by omega)
  · rw [e1, ← List.append_assoc]; exact cut_sl (by rw [List.length_append]; omega) (by omega)
  · rw [e2]; exact cut_sl h0 (by omega)
theorem flat_inj : ∀ {A B : List (List UInt8)}, A16 A → A16 B → A.length = B.length → A.flatten = B.flatten → A = B
  | [], [], _, _, _, _ => rfl
  | [], b :: B, _, _, h, _ => by cases h
  | a :: A, [], _, _, h, _ => by cases h
  | a :: A, b :: B, hA, hB, h, e => by
    rw [List.flatten_cons, List.flatten_cons] at e
    obtain ⟨e1, e2⟩ := List.append_inj e (by rw [hA.head, hB.head])
    rw [e1, flat_inj hA.tail hB.tail (by simpa using h) e2]
theorem cbcE_inj {E D : List UInt8 → List UInt8} (h : Ciph E D) {A B : List (List UInt8)} (hA : A16 A) (hB : A16 B) (hl : A.length = B.length) : ((cbcE E zz16 A).flatten = (cbcE E zz16 B).flatten) ↔ (A.flatten = B.flatten) := by
  constructor
  · intro e
    have := flat_inj (cbcE_16 h zz_len hA) (cbcE_16 h zz_len hB) (by rw [cbcE_len, cbcE_len, hl]) e
    have := congrArg (cbcD D zz16) this
    rw [cbcDE h zz_len hA, cbcDE h zz_len hB] at this
    rw [this]
  · intro e
    rw [flat_inj hA hB hl e]
theorem cts_inj {E D : List UInt8 → List UInt8} (h : Ciph E D) {a b : List UInt8} (ha : 16 ≤ a.length) (hb : 16 ≤ b.length) : (ctsE E a = ctsE E b) ↔ (a = b) := by
  constructor
  · intro e
    have := congrArg (ctsD D) e
    rwa [ctsDE h ha, ctsDE h hb] at this
  · intro e; rw [e]
theorem cbcE_take (E : List UInt8 → List UInt8) : ∀ (v : List UInt8) (ps : List (List UInt8)) (j : Nat), (cbcE E v ps).take j = cbcE E v (ps.take j)
  | _, [], j => by rw [List.take_nil, cbcE, List.take_nil]
  | v, p :: ps, 0 => rfl
  | v, p :: ps, j + 1 => by rw [cbcE, List.take_succ_cons, List.take_succ_cons, cbcE, cbcE_take E _ ps j]
theorem flat_take : ∀ {A : List (List UInt8)} (j : Nat), A16 A → A.flatten.take (16 * j) = (A.take j).flatten
  | [], j, _ => by simp
  | p :: A, 0, _ => by simp
  | p :: A, j + 1, h => by
    rw [List.flatten_cons, List.take_succ_cons, List.flatten_cons, show 16 * (j + 1) = p.length + 16 * j by rw [h.head]; omega, List.take_length_add_append, flat_take j h.tail]
/-- The whole blocks but the last of 64 octets. -/
theorem cts_begin {E D : List UInt8 → List UInt8} (h : Ciph E D) {a b : List UInt8} (ha : a.length = 64) (hb : b.length = 64) {j : Nat} (hj : j ≤ 2) :
    ((ctsE E a).take (16 * j) = (ctsE E b).take (16 * j)) ↔ (a.take (16 * j) = b.take (16 * j)) := by
  obtain ⟨A, Y, Z, hA, hY, hZ, hl, rfl⟩ := parts_list (b := a) (q := 2) (r := 16) (by omega) (by omega) (by omega)
  obtain ⟨B, U, V, hB, hU, hV, hm, rfl⟩ := parts_list (b := b) (q := 2) (r := 16) (by omega) (by omega) (by omega)
  have key : ∀ {A Y Z}, A16 A → Y.length = 16 → Z.length = 16 → A.length = 2 → (ctsE E (A.flatten ++ (Y ++ Z))).take (16 * j) = (cbcE E zz16 (A.take j)).flatten ∧ (A.flatten ++ (Y ++ Z)).take (16 * j) = (A.take j).flatten := fun {A Y Z} hA hY hZ hl => by
    have hC := cbcE_16 h zz_len hA
    constructor
    · rw [ctsE_parts hA hY (by omega) (by omega)]
      unfold eF
      rw [List.take_append_of_le_length (by rw [hC.flat, cbcE_len]; omega), flat_take j hC, cbcE_take]
    · rw [List.take_append_of_le_length (by rw [hA.flat]; omega), flat_take j hA]
  obtain ⟨k1, k2⟩ := key hA hY hZ hl
  obtain ⟨k3, k4⟩ := key hB hU hV hm
  rw [k1, k2, k3, k4]
  exact cbcE_inj h (fun p hp => hA p (List.mem_of_mem_take hp)) (fun p hp => hB p (List.mem_of_mem_take hp)) (by rw [List.length_take, List.length_take, hl, hm])
end Go.Proofs.Ythmdnpaebdlefaa
