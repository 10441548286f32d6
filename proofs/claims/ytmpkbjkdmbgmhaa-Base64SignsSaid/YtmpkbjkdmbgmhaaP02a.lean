/- What the printed reference Encode of chapter 02 answers. -/
import Derived.Test.YtmpkbjkdmbgmhaaPBx
namespace Go.Proofs.Ytmpkbjkdmbgmhaa.Pure
open Go.RowKit Go.Proofs.Ytmpkbjkdmbgmhaa Go.Proofs.Ytmpkbjkdmbgmhaa.PB Go.Proofs.YtmpkbjkdmbgmhaaW.PrintWords Go.Proofs.YtmpkbjkdmbgmhaaW.PrintLast

def bitI (c : Nat) (d : Nat) : Int := ((c / d % 2 : Nat) : Int)
def bits8I (c : UInt8) : List Int := [bitI c.toNat 128, bitI c.toNat 64, bitI c.toNat 32, bitI c.toNat 16, bitI c.toNat 8, bitI c.toNat 4, bitI c.toNat 2, bitI c.toNat 1]
def bitsI (xs : List UInt8) : List Int := xs.flatMap bits8I
/-- The signs, three bytes at a time. -/
def encR : List UInt8 → List UInt8
  | [] => []
  | [a] => groupF [a]
  | [a, b] => groupF [a, b]
  | a :: b :: c :: r => groupF [a, b, c] ++ encR r

theorem bitsI_cons (c : UInt8) (r : List UInt8) : bitsI (c :: r) = bits8I c ++ bitsI r := by simp [bitsI]
theorem bitsI_length (xs : List UInt8) : (bitsI xs).length = 8 * xs.length := by
  induction xs with
  | nil => rfl
  | cons c r ih => rw [bitsI_cons, List.length_append, ih, List.length_cons]; simp [bits8I]; omega
theorem bitsI_snoc (xs : List UInt8) (c : UInt8) : bitsI (xs ++ [c]) = bitsI xs ++ bits8I c := by simp [bitsI]

theorem nCh_add (n s : Nat) (hs : 1 ≤ s) : nCh (n + s) s = nCh n s + 1 := by
  unfold nCh
  rw [show n + s + s - 1 = (n + s - 1) + s by omega, Nat.add_div_right _ hs]
theorem encF_three (a b c : UInt8) (r : List UInt8) : encF (a :: b :: c :: r) = groupF [a, b, c] ++ encF r := by
  unfold encF encP
  have h1 : (a :: b :: c :: r).length = r.length + 3 := rfl
  rw [h1, nCh_add _ 3 (by decide), List.range_succ_eq_map, List.flatMap_cons, List.flatMap_map]
  have h2 : ∀ j : Nat, pieceF (a :: b :: c :: r) 3 (Nat.succ j) = pieceF r 3 j := fun j => by
    unfold pieceF
    rw [Nat.succ_mul, Nat.add_comm, ← List.drop_drop]; rfl
  simp only [h2]
  rfl
theorem encF_R : ∀ xs : List UInt8, encF xs = encR xs
  | [] => rfl
  | [a] => by simp [encF, encP, encR, nCh, pieceF, List.range_succ]
  | [a, b] => by simp [encF, encP, encR, nCh, pieceF, List.range_succ]
  | a :: b :: c :: r => by rw [encF_three, encF_R r, encR]

theorem sign_f (n : Nat) (h : n < 64) : turnkeyref02_sign.f (n : Int) = some (str [sgn n]) := by
  have : ∀ n : Fin 64, turnkeyref02_sign.f (n.1 : Int) = some (str [sgn n.1]) := by decide +kernel
  exact this ⟨n, h⟩

theorem rd_i8s (xs : List UInt8) (i : Nat) (h : i < xs.length) : rd (i8s xs) (i : Int) = ((xs[i]).toNat : Int) := by
  unfold rd i8s
  rw [Int.toNat_natCast, List.getD_eq_getElem?_getD, List.getElem?_map, List.getElem?_eq_getElem h]; rfl

theorem bit_val (c d : Nat) (hc : c < 256) : Int.tmod (wrap64 (Int.tdiv (c : Int) (d : Int))) 2 = bitI c d := by
  have h1 : c / d ≤ c := Nat.div_le_self _ _
  rw [← Int.ofNat_tdiv]
  unfold bitI
  generalize c / d = q at *
  rw [wrap64_id (by omega) (by omega), show (2 : Int) = ((2 : Nat) : Int) from rfl, ← Int.ofNat_tmod]

/-! ### Encode -/
theorem enc_bit {x0 x3 : List Int} {x4 : Int} {c : Nat} {r : ByteArray} (d : Nat) (d2 : Int) (hd : 0 < d) (h2 : wrap64 (Int.tdiv (d : Int) 2) = d2) (hc : c < 256) (hl : x3.length ≤ 1000000)
    (h : Ev (fun k => turnkeyref02_Encode.l1 k x0 (x3 ++ [bitI c d]) x4 c d2) r) : Ev (fun k => turnkeyref02_Encode.l1 k x0 x3 x4 c d) r :=
  Ev.step (fun k => by
    show turnkeyref02_Encode.l1 (k + 1) x0 x3 x4 c d = _
    rw [turnkeyref02_Encode.l1, if_pos (by omega), if_neg (by omega), if_pos (by omega), bit_val c d hc, h2]) h

theorem enc_byte (c : UInt8) {x0 x3 : List Int} {x4 : Int} {r : ByteArray} (hl : x3.length ≤ 900000)
    (h : Ev (fun k => turnkeyref02_Encode.l0 k x0 (x3 ++ bits8I c) (wrap64 (x4 + 1))) r) : Ev (fun k => turnkeyref02_Encode.l1 k x0 x3 x4 (c.toNat : Int) 128) r := by
  have hc := UInt8.toNat_lt c
  refine enc_bit 128 64 (by decide) (by decide +kernel) hc (by omega) ?_
  refine enc_bit 64 32 (by decide) (by decide +kernel) hc (by simp; omega) ?_
  refine enc_bit 32 16 (by decide) (by decide +kernel) hc (by simp; omega) ?_
  refine enc_bit 16 8 (by decide) (by decide +kernel) hc (by simp; omega) ?_
  refine enc_bit 8 4 (by decide) (by decide +kernel) hc (by simp; omega) ?_
  refine enc_bit 4 2 (by decide) (by decide +kernel) hc (by simp; omega) ?_
  refine enc_bit 2 1 (by decide) (by decide +kernel) hc (by simp; omega) ?_
  refine enc_bit 1 0 (by decide) (by decide +kernel) hc (by simp; omega) ?_
  refine Ev.step (fun k => ?_) h
  show turnkeyref02_Encode.l1 (k + 1) _ _ _ _ _ = _
  rw [turnkeyref02_Encode.l1, if_neg (by decide)]
  simp [bits8I, List.append_assoc]

theorem enc_l0 (xs : List UInt8) (hx : xs.length ≤ 100000) {r : ByteArray} (h : Ev (fun k => turnkeyref02_Encode.l2 k (bitsI xs) (⟨#[]⟩ : ByteArray) 0) r) :
    ∀ d i : Nat, i + d = xs.length → Ev (fun k => turnkeyref02_Encode.l0 k (i8s xs) (bitsI (xs.take i)) (i : Int)) r
  | 0, i, hi => Ev.step (fun k => by
      show turnkeyref02_Encode.l0 (k + 1) _ _ _ = _
      rw [turnkeyref02_Encode.l0, if_neg (by rw [i8s_length]; omega), List.take_of_length_le (by omega)]) h
  | d + 1, i, hi => by
    have hlt : i < xs.length := by omega
    have ih := enc_l0 xs hx h d (i + 1) (by omega)
    rw [List.take_succ_eq_append_getElem hlt, bitsI_snoc] at ih
    have hw : wrap64 ((i : Int) + 1) = ((i + 1 : Nat) : Int) := by rw [wrap64_id (by omega) (by omega)]; omega
    have hc := UInt8.toNat_lt xs[i]
    refine Ev.step (fun k => ?_) (enc_byte xs[i] (x0 := i8s xs) (x3 := bitsI (xs.take i)) (x4 := (i : Int)) (by rw [bitsI_length, List.length_take]; omega) (by rw [hw]; exact ih))
    show turnkeyref02_Encode.l0 (k + 1) _ _ _ = _
    rw [turnkeyref02_Encode.l0, if_pos (by rw [i8s_length]; omega), if_pos (by omega), rd_i8s xs i hlt, wrap64_id (by omega) (by omega)]

/-- Six bits from p on, as a number. -/
def v6 (L : List Int) (p : Nat) : Int := ((((L.getD p 0 * 2 + L.getD (p + 1) 0) * 2 + L.getD (p + 2) 0) * 2 + L.getD (p + 3) 0) * 2 + L.getD (p + 4) 0) * 2 + L.getD (p + 5) 0
def Bits (L : List Int) : Prop := ∀ p, 0 ≤ L.getD p 0 ∧ L.getD p 0 ≤ 1

theorem enc_l3_step {L : List Int} {s : ByteArray} {p : Nat} {v : Int} {r : ByteArray} (j : Nat) (b : Int) (hb : L.getD (p + j) 0 = b) (b01 : 0 ≤ b ∧ b ≤ 1) (hj : j < 6) (hp : p ≤ 1000000) (hv : 0 ≤ v ∧ v < 64)
    (h : Ev (fun k => turnkeyref02_Encode.l3 k L s p (v * 2 + b) ((p + (j + 1) : Nat) : Int)) r) : Ev (fun k => turnkeyref02_Encode.l3 k L s p v ((p + j : Nat) : Int)) r :=
  Ev.step (fun k => by
    have w1 : wrap64 ((p : Int) + 6) = (p : Int) + 6 := wrap64_id (by omega) (by omega)
    have w2 : wrap64 (v * 2) = v * 2 := wrap64_id (by omega) (by omega)
    have w3 : wrap64 (((p + j : Nat) : Int) + 1) = ((p + (j + 1) : Nat) : Int) := by rw [wrap64_id (by omega) (by omega)]; omega
    show turnkeyref02_Encode.l3 (k + 1) _ _ _ _ _ = _
    rw [turnkeyref02_Encode.l3, w1, if_pos (by omega), w2, w3]
    by_cases hl : p + j < L.length
    · rw [if_pos (by omega), if_pos (by omega)]
      have : rd L ((p + j : Nat) : Int) = b := by unfold rd; rw [Int.toNat_natCast]; exact hb
      rw [this, wrap64_id (by omega) (by omega)]
    · rw [if_neg (by omega)]
      have : b = 0 := by rw [← hb, List.getD_eq_getElem?_getD, List.getElem?_eq_none (by omega)]; rfl
      rw [this, Int.add_zero]) h

theorem str_app (a b : List UInt8) : str a ++ str b = str (a ++ b) := by
  apply ByteArray.ext
  rw [ByteArray.data_append]
  simp [str]

theorem enc_round {L : List Int} {s : List UInt8} {p : Nat} {r : ByteArray} (hB : Bits L) (hp : p < L.length) (hL : L.length ≤ 1000000) (hs : s.length ≤ 1000000) (m : Nat) (hm : v6 L p = (m : Int))
    (h : Ev (fun k => turnkeyref02_Encode.l2 k L (str (s ++ [sgn m])) ((p + 6 : Nat) : Int)) r) : Ev (fun k => turnkeyref02_Encode.l2 k L (str s) (p : Int)) r := by
  have b0 := hB (p + 0); have b1 := hB (p + 1); have b2 := hB (p + 2); have b3 := hB (p + 3); have b4 := hB (p + 4); have b5 := hB (p + 5)
  have w1 : wrap64 ((p : Int) + 6) = (p : Int) + 6 := wrap64_id (by omega) (by omega)
  unfold v6 at hm
  rw [show L.getD p 0 = L.getD (p + 0) 0 from rfl] at hm
  generalize e0 : L.getD (p + 0) 0 = B0 at *
  generalize e1 : L.getD (p + 1) 0 = B1 at *
  generalize e2 : L.getD (p + 2) 0 = B2 at *
  generalize e3 : L.getD (p + 3) 0 = B3 at *
  generalize e4 : L.getD (p + 4) 0 = B4 at *
  generalize e5 : L.getD (p + 5) 0 = B5 at *
  have hm64 : m < 64 := by omega
  have h6 : Ev (fun k => turnkeyref02_Encode.l3 k L (str s) p (m : Int) ((p + 6 : Nat) : Int)) r := Ev.step (fun k => by
    show turnkeyref02_Encode.l3 (k + 1) _ _ _ _ _ = _
    rw [turnkeyref02_Encode.l3, w1, if_neg (by omega), sign_f m hm64]
    rw [Option.bind_some]
    rw [if_pos (by rw [str_size, str_size]; simp; omega), str_app]
    rfl) h
  have h5 := enc_l3_step (v := (((B0 * 2 + B1) * 2 + B2) * 2 + B3) * 2 + B4) 5 B5 e5 b5 (by omega) (by omega) (by omega) (by rw [hm]; exact h6)
  have h4 := enc_l3_step (v := ((B0 * 2 + B1) * 2 + B2) * 2 + B3) 4 B4 e4 b4 (by omega) (by omega) (by omega) h5
  have h3 := enc_l3_step (v := (B0 * 2 + B1) * 2 + B2) 3 B3 e3 b3 (by omega) (by omega) (by omega) h4
  have h2 := enc_l3_step (v := B0 * 2 + B1) 2 B2 e2 b2 (by omega) (by omega) (by omega) h3
  have h1 := enc_l3_step (v := B0) 1 B1 e1 b1 (by omega) (by omega) (by omega) h2
  have h0 := enc_l3_step (v := 0) 0 B0 e0 b0 (by omega) (by omega) (by omega) (by rw [Int.zero_mul, Int.zero_add]; exact h1)
  exact Ev.step (fun k => by
    show turnkeyref02_Encode.l2 (k + 1) _ _ _ = _
    rw [turnkeyref02_Encode.l2, if_pos (by omega), Nat.add_zero]) h0

theorem getD_app {L R : List Int} {q : Nat} : (L ++ R).getD (L.length + q) 0 = R.getD q 0 := by
  rw [List.getD_eq_getElem?_getD, List.getD_eq_getElem?_getD, List.getElem?_append_right (by omega), Nat.add_sub_cancel_left]
theorem v6_app (L R : List Int) (q : Nat) : v6 (L ++ R) (L.length + q) = v6 R q := by
  unfold v6; simp only [Nat.add_assoc, getD_app]
theorem Bits.app {L R : List Int} (h : Bits L) (k : Bits R) : Bits (L ++ R) := fun p => by
  by_cases hp : p < L.length
  · have := h p
    rw [List.getD_eq_getElem?_getD] at this ⊢
    rw [List.getElem?_append_left hp]; exact this
  · obtain ⟨q, rfl⟩ : ∃ q, p = L.length + q := ⟨p - L.length, by omega⟩
    rw [getD_app]; exact k q
theorem Bits.nil : Bits [] := fun p => by simp
theorem Bits.cons {b : Int} {R : List Int} (hb : 0 ≤ b ∧ b ≤ 1) (k : Bits R) : Bits (b :: R) := fun p => by
  cases p with
  | zero => simpa using hb
  | succ p => simpa using k p
theorem bitI_01 (c d : Nat) : 0 ≤ bitI c d ∧ bitI c d ≤ 1 := by unfold bitI; omega
theorem bits8_bits (c : UInt8) : Bits (bits8I c) := by
  unfold bits8I
  iterate 8 refine Bits.cons (bitI_01 _ _) ?_
  exact Bits.nil
theorem bitsI_bits (xs : List UInt8) : Bits (bitsI xs) := by
  induction xs with
  | nil => exact Bits.nil
  | cons c r ih => rw [bitsI_cons]; exact (bits8_bits c).app ih

theorem enc_end {L : List Int} {s : List UInt8} {p : Int} (hp : (L.length : Int) ≤ p) : Ev (fun k => turnkeyref02_Encode.l2 k L (str s) p) (str s) :=
  Ev.step (f := fun _ => some (str s)) (fun k => by
    show turnkeyref02_Encode.l2 (k + 1) _ _ _ = _
    rw [turnkeyref02_Encode.l2, if_neg (by omega)]) (Ev.now _)

theorem enc_l2 : ∀ (ys : List UInt8) (P : List Int) (s : List UInt8), Bits P → P.length + 8 * ys.length ≤ 900000 → s.length + 4 * ys.length ≤ 900000 →
    Ev (fun k => turnkeyref02_Encode.l2 k (P ++ bitsI ys) (str s) ((P.length + 0 : Nat) : Int)) (str (s ++ encR ys))
  | [], P, s, hP, h1, h2 => by
    rw [show encR [] = [] from rfl, List.append_nil]
    exact enc_end (by simp [bitsI])
  | [a], P, s, hP, h1, h2 => by
    have ha := UInt8.toNat_lt a
    simp only [List.length_cons, List.length_nil] at h1 h2
    have hB : Bits (P ++ bitsI [a]) := hP.app (bitsI_bits _)
    have hl : (P ++ bitsI [a]).length = P.length + 8 := by rw [List.length_append, bitsI_length]; rfl
    refine enc_round hB (by omega) (by omega) (by omega) (a.toNat / 4) ?_ ?_
    · rw [v6_app]; simp [v6, bitsI, bits8I, bitI]; omega
    refine enc_round hB (by omega) (by omega) (by simp; omega) (a.toNat % 4 * 16) ?_ ?_
    · rw [show P.length + 0 + 6 = P.length + 6 from rfl, v6_app]; simp [v6, bitsI, bits8I, bitI]; omega
    have e : s ++ [sgn (a.toNat / 4)] ++ [sgn (a.toNat % 4 * 16)] = s ++ encR [a] := by simp [encR, groupF, sixF, six]
    rw [e]
    exact enc_end (by omega)
  | [a, b], P, s, hP, h1, h2 => by
    have ha := UInt8.toNat_lt a
    have hb := UInt8.toNat_lt b
    simp only [List.length_cons, List.length_nil] at h1 h2
    have hB : Bits (P ++ bitsI [a, b]) := hP.app (bitsI_bits _)
    have hl : (P ++ bitsI [a, b]).length = P.length + 16 := by rw [List.length_append, bitsI_length]; rfl
    refine enc_round hB (by omega) (by omega) (by omega) (a.toNat / 4) ?_ ?_
    · rw [v6_app]; simp [v6, bitsI, bits8I, bitI]; omega
    refine enc_round hB (by omega) (by omega) (by simp; omega) (a.toNat % 4 * 16 + b.toNat / 16) ?_ ?_
    · rw [show P.length + 0 + 6 = P.length + 6 from rfl, v6_app]; simp [v6, bitsI, bits8I, bitI]; omega
    refine enc_round hB (by omega) (by omega) (by simp; omega) (b.toNat % 16 * 4) ?_ ?_
    · rw [show P.length + 0 + 6 + 6 = P.length + 12 from rfl, v6_app]; simp [v6, bitsI, bits8I, bitI]; omega
    have e : s ++ [sgn (a.toNat / 4)] ++ [sgn (a.toNat % 4 * 16 + b.toNat / 16)] ++ [sgn (b.toNat % 16 * 4)] = s ++ encR [a, b] := by simp [encR, groupF, sixF, six]
    rw [e]
    exact enc_end (by omega)
  | a :: b :: c :: r, P, s, hP, h1, h2 => by
    have ha := UInt8.toNat_lt a
    have hb := UInt8.toNat_lt b
    have hc := UInt8.toNat_lt c
    simp only [List.length_cons] at h1 h2
    have hB : Bits (P ++ bitsI (a :: b :: c :: r)) := hP.app (bitsI_bits _)
    have hl : (P ++ bitsI (a :: b :: c :: r)).length = P.length + 24 + 8 * r.length := by rw [List.length_append, bitsI_length]; simp; omega
    have ih := enc_l2 r (P ++ (bits8I a ++ (bits8I b ++ bits8I c))) (s ++ groupF [a, b, c]) (hP.app ((bits8_bits a).app ((bits8_bits b).app (bits8_bits c)))) (by simp [bits8I]; omega) (by simp [groupF, sixF, six]; omega)
    have e1 : P ++ (bits8I a ++ (bits8I b ++ bits8I c)) ++ bitsI r = P ++ bitsI (a :: b :: c :: r) := by simp [bitsI, List.append_assoc]
    have e2 : (P ++ (bits8I a ++ (bits8I b ++ bits8I c))).length + 0 = P.length + 0 + 6 + 6 + 6 + 6 := by simp [bits8I]
    rw [e1, e2] at ih
    refine enc_round hB (by omega) (by omega) (by omega) (a.toNat / 4) ?_ ?_
    · rw [v6_app]; simp [v6, bitsI, bits8I, bitI]; omega
    refine enc_round hB (by omega) (by omega) (by simp; omega) (a.toNat % 4 * 16 + b.toNat / 16) ?_ ?_
    · rw [show P.length + 0 + 6 = P.length + 6 from rfl, v6_app]; simp [v6, bitsI, bits8I, bitI]; omega
    refine enc_round hB (by omega) (by omega) (by simp; omega) (b.toNat % 16 * 4 + c.toNat / 64) ?_ ?_
    · rw [show P.length + 0 + 6 + 6 = P.length + 12 from rfl, v6_app]; simp [v6, bitsI, bits8I, bitI]; omega
    refine enc_round hB (by omega) (by omega) (by simp; omega) (c.toNat % 64) ?_ ?_
    · rw [show P.length + 0 + 6 + 6 + 6 = P.length + 18 from rfl, v6_app]; simp [v6, bitsI, bits8I, bitI]; omega
    have e : s ++ [sgn (a.toNat / 4)] ++ [sgn (a.toNat % 4 * 16 + b.toNat / 16)] ++ [sgn (b.toNat % 16 * 4 + c.toNat / 64)] ++ [sgn (c.toNat % 64)] = s ++ groupF [a, b, c] := by simp [groupF, sixF, six]
    rw [e, encR, ← List.append_assoc]
    exact ih

theorem refEncode (xs : List UInt8) (hx : xs.length ≤ 100000) : Ev (fun k => turnkeyref02_Encode.f k (i8s xs)) (str (encF xs)) := by
  rw [encF_R]
  have := enc_l2 xs [] [] Bits.nil (by simp; omega) (by simp; omega)
  exact enc_l0 xs hx (by simpa [str] using this) xs.length 0 (by omega)
end Go.Proofs.Ytmpkbjkdmbgmhaa.Pure
