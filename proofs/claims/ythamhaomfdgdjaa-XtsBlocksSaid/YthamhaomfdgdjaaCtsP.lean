/- Texts cut into blocks, chained, the last two blocks exchanged: plain lists. -/
import Derived.Test.YthamhaomfdgdjaaAesP
import Derived.Test.YthamhaomfdgdjaaXoP
import Derived.Test.YthamhaomfdgdjaaOctA
namespace Go.Proofs.Ythamhaomfdgdjaa
open Go.RowKit

/-- E and D are maps of blocks of 16 octets that undo each other. -/
def Ciph (E D : List UInt8 → List UInt8) : Prop := (∀ b, b.length = 16 → (E b).length = 16) ∧ (∀ b, b.length = 16 → (D b).length = 16) ∧ (∀ b, b.length = 16 → D (E b) = b) ∧ (∀ b, b.length = 16 → E (D b) = b)
theorem ciph_aes {K : List UInt8} (hK : K.length = 240) : Ciph (encF K) (decF K) := ⟨fun _ h => encF_len hK h, fun _ h => decF_len hK h, fun _ h => dec_enc hK h, fun _ h => enc_dec hK h⟩

def zz16 : List UInt8 := List.replicate 16 0
def cbcE (E : List UInt8 → List UInt8) : List UInt8 → List (List UInt8) → List (List UInt8)
  | _, [] => []
  | v, p :: ps => E (xorF p v) :: cbcE E (E (xorF p v)) ps
def cbcD (D : List UInt8 → List UInt8) : List UInt8 → List (List UInt8) → List (List UInt8)
  | _, [] => []
  | v, c :: cs => xorF (D c) v :: cbcD D c cs
def A16 (l : List (List UInt8)) : Prop := ∀ p ∈ l, p.length = 16
theorem A16.head {p : List UInt8} {l : List (List UInt8)} (h : A16 (p :: l)) : p.length = 16 := h p (List.mem_cons_self ..)
theorem A16.tail {p : List UInt8} {l : List (List UInt8)} (h : A16 (p :: l)) : A16 l := fun x hx => h x (List.mem_cons_of_mem _ hx)
theorem A16.cons {p : List UInt8} {l : List (List UInt8)} (h : p.length = 16) (k : A16 l) : A16 (p :: l) := fun x hx => by
  rcases List.mem_cons.1 hx with rfl | hx
  · exact h
  · exact k x hx
theorem A16.nil : A16 [] := fun x hx => by cases hx
theorem A16.last {l : List (List UInt8)} {v : List UInt8} (h : A16 l) (hv : v.length = 16) : (l.getLastD v).length = 16 := by
  rw [List.getLastD_eq_getLast?]
  cases e : l.getLast? with
  | none => exact hv
  | some p => exact h p (List.mem_of_getLast? e)
theorem A16.flat : ∀ {l : List (List UInt8)}, A16 l → l.flatten.length = 16 * l.length
  | [], _ => rfl
  | p :: l, h => by rw [List.flatten_cons, List.length_append, h.head, h.tail.flat, List.length_cons]; omega
theorem xorF_twice {a b : List UInt8} (h : a.length = b.length) : xorF (xorF a b) b = a := by
  unfold xorF
  apply List.ext_getElem
  · rw [List.length_zipWith, List.length_zipWith]; omega
  · intro i h1 h2
    simp [UInt8.xor_assoc]
theorem xorF_l16 {a b : List UInt8} (ha : a.length = 16) (hb : b.length = 16) : (xorF a b).length = 16 := by rw [xorF_length, ha, hb]; rfl
theorem cbcE_len (E : List UInt8 → List UInt8) : ∀ (v : List UInt8) (ps : List (List UInt8)), (cbcE E v ps).length = ps.length
  | _, [] => rfl
  | v, p :: ps => by rw [cbcE, List.length_cons, List.length_cons, cbcE_len E _ ps]
theorem cbcD_len (D : List UInt8 → List UInt8) : ∀ (v : List UInt8) (ps : List (List UInt8)), (cbcD D v ps).length = ps.length
  | _, [] => rfl
  | v, p :: ps => by rw [cbcD, List.length_cons, List.length_cons, cbcD_len D _ ps]
theorem cbcE_16 {E D : List UInt8 → List UInt8} (h : Ciph E D) : ∀ {v : List UInt8} {ps : List (List UInt8)}, v.length = 16 → A16 ps → A16 (cbcE E v ps)
  | _, [], _, _ => A16.nil
  | v, p :: ps, hv, hp => by
    have hx := h.1 _ (xorF_l16 hp.head hv)
    exact A16.cons hx (cbcE_16 h hx hp.tail)
theorem cbcD_16 {E D : List UInt8 → List UInt8} (h : Ciph E D) : ∀ {v : List UInt8} {ps : List (List UInt8)}, v.length = 16 → A16 ps → A16 (cbcD D v ps)
  | _, [], _, _ => A16.nil
  | v, p :: ps, hv, hp => A16.cons (xorF_l16 (h.2.1 _ hp.head) hv) (cbcD_16 h hp.head hp.tail)
theorem cbcDE {E D : List UInt8 → List UInt8} (h : Ciph E D) : ∀ {v : List UInt8} {ps : List (List UInt8)}, v.length = 16 → A16 ps → cbcD D v (cbcE E v ps) = ps
  | _, [], _, _ => rfl
  | v, p :: ps, hv, hp => by
    have hx := xorF_l16 hp.head hv
    rw [cbcE, cbcD, h.2.2.1 _ hx, xorF_twice (by rw [hp.head, hv]), cbcDE h (h.1 _ hx) hp.tail]
theorem cbcED {E D : List UInt8 → List UInt8} (h : Ciph E D) : ∀ {v : List UInt8} {ps : List (List UInt8)}, v.length = 16 → A16 ps → cbcE E v (cbcD D v ps) = ps
  | _, [], _, _ => rfl
  | v, p :: ps, hv, hp => by
    rw [cbcD, cbcE, xorF_twice (by rw [h.2.1 _ hp.head, hv]), h.2.2.2 _ hp.head, cbcED h hp.head hp.tail]
theorem cbcE_app (E : List UInt8 → List UInt8) : ∀ (v : List UInt8) (ps qs : List (List UInt8)), cbcE E v (ps ++ qs) = cbcE E v ps ++ cbcE E ((cbcE E v ps).getLastD v) qs
  | _, [], _ => rfl
  | v, p :: ps, qs => by rw [List.cons_append, cbcE, cbcE_app E _ ps qs, cbcE, List.cons_append, List.getLastD_cons]
theorem cbcD_app (D : List UInt8 → List UInt8) : ∀ (v : List UInt8) (ps qs : List (List UInt8)), cbcD D v (ps ++ qs) = cbcD D v ps ++ cbcD D (ps.getLastD v) qs
  | _, [], _ => rfl
  | v, p :: ps, qs => by rw [List.cons_append, cbcD, cbcD_app D _ ps qs, cbcD, List.cons_append, List.getLastD_cons]

def cut16 : Nat → List UInt8 → List (List UInt8)
  | 0, _ => []
  | m + 1, b => b.take 16 :: cut16 m (b.drop 16)
theorem cut16_range : ∀ (m : Nat) (b : List UInt8), (List.range m).map (fun j => (b.drop (j * 16)).take 16) = cut16 m b
  | 0, _ => rfl
  | m + 1, b => by
    rw [List.range_succ_eq_map, List.map_cons, List.map_map, cut16, ← cut16_range m (b.drop 16)]
    congr 1
    refine List.map_congr_left fun j _ => ?_
    show (b.drop ((j + 1) * 16)).take 16 = _
    rw [List.drop_drop, Nat.succ_mul, Nat.add_comm 16]
theorem cut16_len : ∀ (m : Nat) (b : List UInt8), (cut16 m b).length = m
  | 0, _ => rfl
  | m + 1, b => by rw [cut16, List.length_cons, cut16_len m]
theorem cut16_16 : ∀ {m : Nat} {b : List UInt8}, 16 * m ≤ b.length → A16 (cut16 m b)
  | 0, _, _ => A16.nil
  | m + 1, b, h => A16.cons (by rw [List.length_take]; omega) (cut16_16 (by rw [List.length_drop]; omega))
theorem cut16_flat : ∀ {m : Nat} {b : List UInt8}, 16 * m ≤ b.length → (cut16 m b).flatten = b.take (16 * m)
  | 0, _, _ => by rw [Nat.mul_zero, List.take_zero]; rfl
  | m + 1, b, h => by rw [cut16, List.flatten_cons, cut16_flat (by rw [List.length_drop]; omega), show 16 * (m + 1) = 16 + 16 * m by omega, List.take_add]
theorem cut16_app : ∀ {A : List (List UInt8)} (m : Nat) (b : List UInt8), A16 A → cut16 (A.length + m) (A.flatten ++ b) = A ++ cut16 m b
  | [], m, b, _ => by rw [List.length_nil, Nat.zero_add]; rfl
  | p :: A, m, b, h => by
    have hp := h.head
    rw [List.length_cons, show A.length + 1 + m = (A.length + m) + 1 by omega, cut16, List.flatten_cons, List.append_assoc, List.take_append_of_le_length (by omega), List.take_of_length_le (by omega), ← hp, List.drop_left, cut16_app m b h.tail]
    rfl
theorem cut16_two {A : List (List UInt8)} {Y Z : List UInt8} (h : A16 A) (hY : Y.length = 16) (hZ : Z.length ≤ 16) : cut16 (A.length + 2) (A.flatten ++ (Y ++ Z)) = A ++ [Y, Z] := by
  rw [cut16_app 2 _ h, cut16, cut16, cut16, List.take_append_of_le_length (by omega), List.take_of_length_le (by omega), ← hY, List.drop_left, List.take_of_length_le (by omega)]
/-- A text of more than one block has whole ones, a last whole one, and the last piece. -/
theorem parts (b : List UInt8) {q r : Nat} (h : b.length = 16 * q + 16 + r) (hr : 1 ≤ r) (hr2 : r ≤ 16) : ∃ A Y Z, A16 A ∧ Y.length = 16 ∧ Z.length = r ∧ A.length = q ∧ b = A.flatten ++ (Y ++ Z) := by
  refine ⟨cut16 q b, (b.drop (16 * q)).take 16, b.drop (16 * q + 16), cut16_16 (by omega), by rw [List.length_take, List.length_drop]; omega, by rw [List.length_drop]; omega, cut16_len _ _, ?_⟩
  rw [cut16_flat (by omega), ← List.drop_drop, List.take_append_drop, List.take_append_drop]

def f16 (p : List UInt8) : List UInt8 := fillF p 16
theorem f16_eq (p : List UInt8) : f16 p = p ++ List.replicate (16 - p.length) 0 := rfl
theorem f16_len {p : List UInt8} (h : p.length ≤ 16) : (f16 p).length = 16 := by rw [f16_eq, List.length_append, List.length_replicate]; omega
theorem f16_full {p : List UInt8} (h : p.length = 16) : f16 p = p := by rw [f16_eq, h, Nat.sub_self, List.replicate_zero, List.append_nil]
theorem f16_take (p : List UInt8) : (f16 p).take p.length = p := by rw [f16_eq, List.take_left]
theorem f16_drop (p : List UInt8) : (f16 p).drop p.length = List.replicate (16 - p.length) 0 := by rw [f16_eq, List.drop_left]
theorem map_f16 : ∀ {A : List (List UInt8)}, A16 A → A.map f16 = A
  | [], _ => rfl
  | p :: A, h => by rw [List.map_cons, f16_full h.head, map_f16 h.tail]

/-- A text of these parts, encrypted. -/
def eF (E : List UInt8 → List UInt8) (A : List (List UInt8)) (Y Z : List UInt8) : List UInt8 :=
  (cbcE E zz16 A).flatten ++ (E (xorF (f16 Z) (E (xorF Y ((cbcE E zz16 A).getLastD zz16)))) ++ (E (xorF Y ((cbcE E zz16 A).getLastD zz16))).take Z.length)
/-- The block that stood last but one, whole. -/
def whole (D : List UInt8 → List UInt8) (Y Z : List UInt8) : List UInt8 := Z ++ (D Y).drop Z.length
def dF (D : List UInt8 → List UInt8) (A : List (List UInt8)) (Y Z : List UInt8) : List UInt8 :=
  (cbcD D zz16 A).flatten ++ (xorF (D (whole D Y Z)) (A.getLastD zz16) ++ (xorF (D Y) (whole D Y Z)).take Z.length)
theorem zz_len : zz16.length = 16 := rfl
theorem xorF_drop (a b : List UInt8) (n : Nat) : (xorF a b).drop n = xorF (a.drop n) (b.drop n) := by unfold xorF; rw [List.drop_zipWith]
theorem xorF_take (a b : List UInt8) (n : Nat) : (xorF a b).take n = xorF (a.take n) (b.take n) := by unfold xorF; rw [List.take_zipWith]
theorem xorF_zeros {b : List UInt8} : ∀ {n : Nat}, b.length = n → xorF (List.replicate n 0) b = b := by
  intro n h
  unfold xorF
  apply List.ext_getElem
  · rw [List.length_zipWith, List.length_replicate]; omega
  · intro i h1 h2
    simp
theorem xorF_self {b : List UInt8} : ∀ {n : Nat}, b.length = n → xorF b b = List.replicate n 0 := by
  intro n h
  unfold xorF
  apply List.ext_getElem
  · rw [List.length_zipWith, List.length_replicate]; omega
  · intro i h1 h2
    simp
theorem whole_len {D : List UInt8 → List UInt8} {E : List UInt8 → List UInt8} (h : Ciph E D) {Y Z : List UInt8} (hY : Y.length = 16) (hZ : Z.length ≤ 16) : (whole D Y Z).length = 16 := by
  unfold whole; rw [List.length_append, List.length_drop, h.2.1 _ hY]; omega
/-- What is encrypted, decrypted. -/
theorem dF_eF {E D : List UInt8 → List UInt8} (h : Ciph E D) {A : List (List UInt8)} {Y Z : List UInt8} (hA : A16 A) (hY : Y.length = 16) (hZ : Z.length ≤ 16) :
    dF D (cbcE E zz16 A) (E (xorF (f16 Z) (E (xorF Y ((cbcE E zz16 A).getLastD zz16))))) ((E (xorF Y ((cbcE E zz16 A).getLastD zz16))).take Z.length) = A.flatten ++ (Y ++ Z) := by
  have hC := cbcE_16 h zz_len hA
  have hv := hC.last zz_len
  generalize hvv : (cbcE E zz16 A).getLastD zz16 = v at *
  have hx := xorF_l16 hY hv
  have h1 := h.1 _ hx
  have hf := f16_len hZ
  have hx2 := xorF_l16 hf h1
  have hd1 := h.2.2.1 _ hx
  generalize hc1 : E (xorF Y v) = c1 at *
  have hd2 := h.2.2.1 _ hx2
  have h2 := h.1 _ hx2
  generalize hc2 : E (xorF (f16 Z) c1) = c2 at *
  have hl : (c1.take Z.length).length = Z.length := by rw [List.length_take]; omega
  have hw : whole D c2 (c1.take Z.length) = c1 := by
    unfold whole
    rw [hl, hd2, xorF_drop, f16_drop, xorF_zeros (by rw [List.length_drop]; omega), List.take_append_drop]
  unfold dF
  rw [hw, hl, hd1, hd2, cbcDE h zz_len hA, hvv, xorF_twice (by omega), xorF_twice (by omega), f16_take]
/-- .. and the other way round. -/
theorem eF_dF {E D : List UInt8 → List UInt8} (h : Ciph E D) {A : List (List UInt8)} {Y Z : List UInt8} (hA : A16 A) (hY : Y.length = 16) (hZ : Z.length ≤ 16) :
    eF E (cbcD D zz16 A) (xorF (D (whole D Y Z)) (A.getLastD zz16)) ((xorF (D Y) (whole D Y Z)).take Z.length) = A.flatten ++ (Y ++ Z) := by
  have hW := whole_len h hY hZ
  have hDY := h.2.1 _ hY
  have hDW := h.2.1 _ hW
  have hv := hA.last zz_len
  have hED := h.2.2.2 _ hW
  have hEY := h.2.2.2 _ hY
  have hwd : (whole D Y Z).drop Z.length = (D Y).drop Z.length := by unfold whole; rw [List.drop_left]
  have hwt : (whole D Y Z).take Z.length = Z := by unfold whole; rw [List.take_left]
  generalize whole D Y Z = W at *
  have hl : ((xorF (D Y) W).take Z.length).length = Z.length := by rw [List.length_take, xorF_l16 hDY hW]; omega
  have hf : f16 ((xorF (D Y) W).take Z.length) = xorF (D Y) W := by
    rw [f16_eq, hl]
    have : List.replicate (16 - Z.length) (0 : UInt8) = (xorF (D Y) W).drop Z.length := by
      rw [xorF_drop, hwd, xorF_self (n := 16 - Z.length) (by rw [List.length_drop, hDY])]
    rw [this, List.take_append_drop]
  unfold eF
  rw [cbcED h zz_len hA, xorF_twice (by omega), hED, hf, hl, xorF_twice (by omega), hEY, hwt]
theorem eF_len {E D : List UInt8 → List UInt8} (h : Ciph E D) {A : List (List UInt8)} {Y Z : List UInt8} (hA : A16 A) (hY : Y.length = 16) (hZ : Z.length ≤ 16) : (eF E A Y Z).length = 16 * A.length + 16 + Z.length := by
  have hC := cbcE_16 h zz_len hA
  have h1 := h.1 _ (xorF_l16 hY (hC.last zz_len))
  have h2 := h.1 _ (xorF_l16 (f16_len hZ) h1)
  unfold eF
  rw [List.length_append, List.length_append, hC.flat, cbcE_len, h2, List.length_take, h1]; omega
theorem dF_len {E D : List UInt8 → List UInt8} (h : Ciph E D) {A : List (List UInt8)} {Y Z : List UInt8} (hA : A16 A) (hY : Y.length = 16) (hZ : Z.length ≤ 16) : (dF D A Y Z).length = 16 * A.length + 16 + Z.length := by
  have hC := cbcD_16 h zz_len hA
  have hW := whole_len h hY hZ
  unfold dF
  rw [List.length_append, List.length_append, hC.flat, cbcD_len, xorF_l16 (h.2.1 _ hW) (hA.last zz_len), List.length_take, xorF_l16 (h.2.1 _ hY) hW]; omega

/-! The functions of texts of any length. -/
def qOf (b : List UInt8) : Nat := (b.length - 17) / 16
def ctsE (E : List UInt8 → List UInt8) (b : List UInt8) : List UInt8 :=
  if b.length ≤ 16 then E (xorF b zz16) else eF E (cut16 (qOf b) b) ((b.drop (16 * qOf b)).take 16) (b.drop (16 * qOf b + 16))
def ctsD (D : List UInt8 → List UInt8) (b : List UInt8) : List UInt8 :=
  if b.length ≤ 16 then xorF (D b) zz16 else dF D (cut16 (qOf b) b) ((b.drop (16 * qOf b)).take 16) (b.drop (16 * qOf b + 16))
theorem qOf_eq {b : List UInt8} {q r : Nat} (h : b.length = 16 * q + 16 + r) (hr : 1 ≤ r) (hr2 : r ≤ 16) : qOf b = q := by
  unfold qOf; rw [h]; omega
theorem parts_eq {A : List (List UInt8)} {Y Z : List UInt8} (hA : A16 A) (hY : Y.length = 16) (h1 : 1 ≤ Z.length) (hZ : Z.length ≤ 16) :
    qOf (A.flatten ++ (Y ++ Z)) = A.length ∧ cut16 A.length (A.flatten ++ (Y ++ Z)) = A ∧ ((A.flatten ++ (Y ++ Z)).drop (16 * A.length)).take 16 = Y ∧ (A.flatten ++ (Y ++ Z)).drop (16 * A.length + 16) = Z ∧ ¬ (A.flatten ++ (Y ++ Z)).length ≤ 16 := by
  have hl : (A.flatten ++ (Y ++ Z)).length = 16 * A.length + 16 + Z.length := by rw [List.length_append, List.length_append, hA.flat, hY]; omega
  have hd : (A.flatten ++ (Y ++ Z)).drop (16 * A.length) = Y ++ Z := by rw [← hA.flat, List.drop_left]
  refine ⟨qOf_eq hl h1 hZ, ?_, ?_, ?_, by omega⟩
  · have := cut16_app 0 (Y ++ Z) hA
    rw [Nat.add_zero, cut16, List.append_nil] at this
    exact this
  · rw [hd, ← hY, List.take_left]
  · rw [← List.drop_drop, hd, ← hY, List.drop_left]
theorem ctsE_parts {E : List UInt8 → List UInt8} {A : List (List UInt8)} {Y Z : List UInt8} (hA : A16 A) (hY : Y.length = 16) (h1 : 1 ≤ Z.length) (hZ : Z.length ≤ 16) : ctsE E (A.flatten ++ (Y ++ Z)) = eF E A Y Z := by
  obtain ⟨e1, e2, e3, e4, e5⟩ := parts_eq hA hY h1 hZ
  unfold ctsE
  rw [if_neg e5, e1, e2, e3, e4]
theorem ctsD_parts {D : List UInt8 → List UInt8} {A : List (List UInt8)} {Y Z : List UInt8} (hA : A16 A) (hY : Y.length = 16) (h1 : 1 ≤ Z.length) (hZ : Z.length ≤ 16) : ctsD D (A.flatten ++ (Y ++ Z)) = dF D A Y Z := by
  obtain ⟨e1, e2, e3, e4, e5⟩ := parts_eq hA hY h1 hZ
  unfold ctsD
  rw [if_neg e5, e1, e2, e3, e4]
theorem parts' {b : List UInt8} (h : 16 < b.length) : ∃ A Y Z, A16 A ∧ Y.length = 16 ∧ 1 ≤ Z.length ∧ Z.length ≤ 16 ∧ b = A.flatten ++ (Y ++ Z) := by
  obtain ⟨A, Y, Z, h1, h2, h3, h4, h5⟩ := parts b (q := (b.length - 17) / 16) (r := b.length - 16 * ((b.length - 17) / 16) - 16) (by omega) (by omega) (by omega)
  exact ⟨A, Y, Z, h1, h2, by omega, by omega, h5⟩
theorem ctsDE {E D : List UInt8 → List UInt8} (h : Ciph E D) {b : List UInt8} (hb : 16 ≤ b.length) : ctsD D (ctsE E b) = b := by
  by_cases hl : b.length ≤ 16
  · have h16 : b.length = 16 := by omega
    have hx := xorF_l16 h16 zz_len
    unfold ctsE ctsD
    rw [if_pos hl, if_pos (by rw [h.1 _ hx]; omega), h.2.2.1 _ hx, xorF_twice (by rw [h16]; rfl)]
  · obtain ⟨A, Y, Z, hA, hY, h1, hZ, rfl⟩ := parts' (b := b) (by omega)
    rw [ctsE_parts hA hY h1 hZ]
    have hC := cbcE_16 h zz_len hA
    have hc1 := h.1 _ (xorF_l16 hY (hC.last zz_len))
    have hc2 := h.1 _ (xorF_l16 (f16_len hZ) hc1)
    unfold eF
    rw [ctsD_parts hC hc2 (by rw [List.length_take]; omega) (by rw [List.length_take]; omega)]
    exact dF_eF h hA hY hZ
theorem ctsED {E D : List UInt8 → List UInt8} (h : Ciph E D) {b : List UInt8} (hb : 16 ≤ b.length) : ctsE E (ctsD D b) = b := by
  by_cases hl : b.length ≤ 16
  · have h16 : b.length = 16 := by omega
    have hx := xorF_l16 (h.2.1 _ h16) zz_len
    unfold ctsE ctsD
    rw [if_pos hl, if_pos (by rw [hx]; omega), xorF_twice (by rw [h.2.1 _ h16]; rfl), h.2.2.2 _ h16]
  · obtain ⟨A, Y, Z, hA, hY, h1, hZ, rfl⟩ := parts' (b := b) (by omega)
    rw [ctsD_parts hA hY h1 hZ]
    have hW := whole_len h hY hZ
    have hx1 := xorF_l16 (h.2.1 _ hW) (hA.last zz_len)
    have hx2 := xorF_l16 (h.2.1 _ hY) hW
    unfold dF
    rw [ctsE_parts (cbcD_16 h zz_len hA) hx1 (by rw [List.length_take]; omega) (by rw [List.length_take]; omega)]
    exact eF_dF h hA hY hZ
theorem ctsE_len {E D : List UInt8 → List UInt8} (h : Ciph E D) {b : List UInt8} (hb : 16 ≤ b.length) : (ctsE E b).length = b.length := by
  by_cases hl : b.length ≤ 16
  · have h16 : b.length = 16 := by omega
    unfold ctsE; rw [if_pos hl, h.1 _ (xorF_l16 h16 zz_len), h16]
  · obtain ⟨A, Y, Z, hA, hY, h1, hZ, rfl⟩ := parts' (b := b) (by omega)
    rw [ctsE_parts hA hY h1 hZ, eF_len h hA hY hZ, List.length_append, List.length_append, hA.flat, hY]; omega
theorem ctsD_len {E D : List UInt8 → List UInt8} (h : Ciph E D) {b : List UInt8} (hb : 16 ≤ b.length) : (ctsD D b).length = b.length := by
  by_cases hl : b.length ≤ 16
  · have h16 : b.length = 16 := by omega
    unfold ctsD; rw [if_pos hl, xorF_l16 (h.2.1 _ h16) zz_len, h16]
  · obtain ⟨A, Y, Z, hA, hY, h1, hZ, rfl⟩ := parts' (b := b) (by omega)
    rw [ctsD_parts hA hY h1 hZ, dF_len h hA hY hZ, List.length_append, List.length_append, hA.flat, hY]; omega
end Go.Proofs.Ythamhaomfdgdjaa
