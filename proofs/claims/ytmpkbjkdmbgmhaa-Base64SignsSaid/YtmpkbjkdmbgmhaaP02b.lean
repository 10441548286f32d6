/- What the printed reference Decode of chapter 02 answers. -/
import Derived.Test.YtmpkbjkdmbgmhaaP02a
namespace Go.Proofs.Ytmpkbjkdmbgmhaa.Pure
open Go.RowKit Go.Proofs.Ytmpkbjkdmbgmhaa Go.Proofs.Ytmpkbjkdmbgmhaa.PB Go.Proofs.YtmpkbjkdmbgmhaaW.PrintWords Go.Proofs.YtmpkbjkdmbgmhaaW.PrintLast

/-- The number of the last sign of the first n that c is. -/
def lastN (c : UInt8) : Nat → Int
  | 0 => -1
  | n + 1 => if sgn n = c then (n : Int) else lastN c n
theorem lastN_64 (c : UInt8) : lastN c 64 = if isSign c = true then (sval c : Int) else -1 :=
  byte_all2 (p := fun c => lastN c 64 = if isSign c = true then (sval c : Int) else -1) (by decide +kernel) c

def bits6I (v : Nat) : List Int := [bitI v 32, bitI v 16, bitI v 8, bitI v 4, bitI v 2, bitI v 1]
def sbitsI (s : List UInt8) : List Int := s.flatMap fun c => bits6I (sval c)
theorem sbitsI_cons (c : UInt8) (r : List UInt8) : sbitsI (c :: r) = bits6I (sval c) ++ sbitsI r := by simp [sbitsI]
theorem sbitsI_snoc (s : List UInt8) (c : UInt8) : sbitsI (s ++ [c]) = sbitsI s ++ bits6I (sval c) := by simp [sbitsI]
theorem sbitsI_length (s : List UInt8) : (sbitsI s).length = 6 * s.length := by
  induction s with
  | nil => rfl
  | cons c r ih => rw [sbitsI_cons, List.length_append, ih, List.length_cons]; simp [bits6I]; omega

theorem decR_four (a b c d : UInt8) (r : List UInt8) : decR (a :: b :: c :: d :: r) = fourF [a, b, c, d] ++ decR r := by
  unfold decR decP
  have h1 : (a :: b :: c :: d :: r).length = r.length + 4 := rfl
  rw [h1, nCh_add _ 4 (by decide), List.range_succ_eq_map, List.flatMap_cons, List.flatMap_map]
  have h2 : ∀ j : Nat, piece4 (a :: b :: c :: d :: r) (Nat.succ j) = piece4 r j := fun j => by
    unfold piece4
    rw [Nat.succ_mul, Nat.add_comm, ← List.drop_drop]; rfl
  simp only [h2]
  rfl
theorem decR_short {s : List UInt8} (h0 : 0 < s.length) (h4 : s.length < 4) : decR s = fourF s := by
  have : nCh s.length 4 = 1 := by unfold nCh; omega
  unfold decR decP
  rw [this]
  simp [List.range_succ, piece4, List.take_of_length_le (show s.length ≤ 4 by omega)]

theorem dec_l1_step {s : List UInt8} {i : Nat} (hi : i < s.length) {L : List Int} {r : List Int × Bool} (n : Nat) (hn : n < 64) (hs : s.length ≤ 1000000)
    (h : Ev (fun k => turnkeyref02_Decode.l1 k (str s) L i (lastN s[i] (n + 1)) ((n + 1 : Nat) : Int)) r) : Ev (fun k => turnkeyref02_Decode.l1 k (str s) L i (lastN s[i] n) (n : Int)) r :=
  Ev.step (fun k => by
    have w1 : wrap64 ((i : Int) + 1) = ((i + 1 : Nat) : Int) := by rw [wrap64_id (by omega) (by omega)]; omega
    have w2 : wrap64 ((n : Int) + 1) = ((n + 1 : Nat) : Int) := by rw [wrap64_id (by omega) (by omega)]; omega
    have hx : ((str s).extract i (i + 1)).toList = [s[i]] := by
      rw [str_cut, str_toList, List.take_succ_eq_append_getElem hi, List.drop_append_of_le_length (by rw [List.length_take]; omega), List.drop_of_length_le (by rw [List.length_take]; omega)]
      rfl
    show turnkeyref02_Decode.l1 (k + 1) _ _ _ _ _ = _
    rw [turnkeyref02_Decode.l1, if_pos (by omega), sign_f n hn]
    rw [Option.bind_some]
    rw [if_pos (by omega), w1, if_pos (by omega), if_pos (by rw [str_size]; omega), w2, Int.toNat_natCast, Int.toNat_natCast, hx, str_toList]
    by_cases e : sgn n = s[i]
    · rw [if_pos (by rw [e]), lastN, if_pos e]
    · rw [if_neg (by simpa using e), lastN, if_neg e]) h

theorem dec_l1N {s : List UInt8} {i : Nat} (hi : i < s.length) {L : List Int} {r : List Int × Bool} (hs : s.length ≤ 1000000) (N : Nat) (hN : N ≤ 64)
    (h : Ev (fun k => turnkeyref02_Decode.l1 k (str s) L i (lastN s[i] N) (N : Int)) r) (d : Nat) : ∀ n : Nat, n + d = N → Ev (fun k => turnkeyref02_Decode.l1 k (str s) L i (lastN s[i] n) (n : Int)) r := by
  induction d with
  | zero =>
    intro n e
    obtain rfl : n = N := e
    exact h
  | succ d ih =>
    intro n e
    exact dec_l1_step hi n (by omega) hs (ih (n + 1) (by omega))

theorem dec_l1 {s : List UInt8} {i : Nat} (hi : i < s.length) {L : List Int} {r : List Int × Bool} (hs : s.length ≤ 1000000) (v : Int) (hv : lastN s[i] 64 = v)
    (h : Ev (fun k => turnkeyref02_Decode.l1 k (str s) L i v 64) r) : Ev (fun k => turnkeyref02_Decode.l1 k (str s) L i (-1) 0) r := by
  obtain ⟨N, hN⟩ : ∃ N : Nat, N = 64 := ⟨_, rfl⟩
  have hc : ((N : Nat) : Int) = 64 := by omega
  rw [← hN] at hv
  rw [← hc, ← hv] at h
  have := dec_l1N hi hs N (by omega) h N 0 (by omega)
  exact this

theorem dec_bad {s : List UInt8} {i : Nat} (hi : i < s.length) {L : List Int} (hs : s.length ≤ 1000000) (hb : isSign s[i] = false) : Ev (fun k => turnkeyref02_Decode.l1 k (str s) L i (-1) 0) ([], false) := by
  refine dec_l1 hi hs (-1) (by rw [lastN_64, hb]; rfl) ?_
  refine Ev.step (f := fun _ => some ([], false)) (fun k => ?_) (Ev.now _)
  show turnkeyref02_Decode.l1 (k + 1) _ _ _ _ _ = _
  rw [turnkeyref02_Decode.l1, if_neg (by omega), if_pos (show (-1 : Int) < 0 by omega)]

theorem dec_bit {x0 : ByteArray} {L : List Int} {x5 : Int} {c : Nat} {r : List Int × Bool} (d : Nat) (d2 : Int) (hd : 0 < d) (h2 : wrap64 (Int.tdiv (d : Int) 2) = d2) (hc : c < 256) (hl : L.length ≤ 1000000)
    (h : Ev (fun k => turnkeyref02_Decode.l2 k x0 (L ++ [bitI c d]) x5 c d2) r) : Ev (fun k => turnkeyref02_Decode.l2 k x0 L x5 c d) r :=
  Ev.step (fun k => by
    show turnkeyref02_Decode.l2 (k + 1) _ _ _ _ _ = _
    rw [turnkeyref02_Decode.l2, if_pos (by omega), if_neg (by omega), if_pos (by omega), bit_val c d hc, h2]) h

theorem dec_good {s : List UInt8} {i : Nat} (hi : i < s.length) {L : List Int} (hL : L.length ≤ 900000) (hs : s.length ≤ 1000000) (hb : isSign s[i] = true) {r : List Int × Bool}
    (h : Ev (fun k => turnkeyref02_Decode.l0 k (str s) (L ++ bits6I (sval s[i])) ((i + 1 : Nat) : Int)) r) : Ev (fun k => turnkeyref02_Decode.l1 k (str s) L i (-1) 0) r := by
  have hv := (sval_spec _ hb).2.1
  have w1 : wrap64 ((i : Int) + 1) = ((i + 1 : Nat) : Int) := by rw [wrap64_id (by omega) (by omega)]; omega
  refine dec_l1 hi hs (sval s[i] : Int) (by rw [lastN_64, hb]; rfl) ?_
  refine Ev.step (f := fun k => turnkeyref02_Decode.l2 k (str s) L i (sval s[i]) (32 : Nat)) (fun k => ?_) ?_
  · show turnkeyref02_Decode.l1 (k + 1) _ _ _ _ _ = _
    rw [turnkeyref02_Decode.l1, if_neg (by omega), if_neg (by omega)]; rfl
  refine dec_bit 32 (16 : Nat) (by decide) (by decide +kernel) (by omega) (by omega) ?_
  refine dec_bit 16 (8 : Nat) (by decide) (by decide +kernel) (by omega) (by simp; omega) ?_
  refine dec_bit 8 (4 : Nat) (by decide) (by decide +kernel) (by omega) (by simp; omega) ?_
  refine dec_bit 4 (2 : Nat) (by decide) (by decide +kernel) (by omega) (by simp; omega) ?_
  refine dec_bit 2 (1 : Nat) (by decide) (by decide +kernel) (by omega) (by simp; omega) ?_
  refine dec_bit 1 (0 : Nat) (by decide) (by decide +kernel) (by omega) (by simp; omega) ?_
  refine Ev.step (fun k => ?_) h
  show turnkeyref02_Decode.l2 (k + 1) _ _ _ _ _ = _
  rw [turnkeyref02_Decode.l2, if_neg (by decide), w1]
  simp [bits6I, List.append_assoc]

theorem dec_l0_in {s : List UInt8} {i : Nat} (hi : i < s.length) {L : List Int} {r : List Int × Bool} (h : Ev (fun k => turnkeyref02_Decode.l1 k (str s) L i (-1) 0) r) : Ev (fun k => turnkeyref02_Decode.l0 k (str s) L (i : Int)) r :=
  Ev.step (fun k => by
    show turnkeyref02_Decode.l0 (k + 1) _ _ _ = _
    rw [turnkeyref02_Decode.l0, if_pos (by rw [str_size]; omega)]) h

theorem dec_l0_good (s : List UInt8) (hs : s.length ≤ 10000) (ha : s.all isSign = true) {r : List Int × Bool} (h : Ev (fun k => turnkeyref02_Decode.l3 k (str s) (sbitsI s) [] 0) r) :
    ∀ d i : Nat, i + d = s.length → Ev (fun k => turnkeyref02_Decode.l0 k (str s) (sbitsI (s.take i)) (i : Int)) r
  | 0, i, hi => Ev.step (fun k => by
      show turnkeyref02_Decode.l0 (k + 1) _ _ _ = _
      rw [turnkeyref02_Decode.l0, if_neg (by rw [str_size]; omega), List.take_of_length_le (by omega)]) h
  | d + 1, i, hi => by
    have hlt : i < s.length := by omega
    have ih := dec_l0_good s hs ha h d (i + 1) (by omega)
    rw [List.take_succ_eq_append_getElem hlt, sbitsI_snoc] at ih
    exact dec_l0_in hlt (dec_good hlt (by rw [sbitsI_length, List.length_take]; omega) (by omega) (List.all_eq_true.1 ha _ (List.getElem_mem hlt)) ih)

theorem dec_l0_bad (s : List UInt8) (hs : s.length ≤ 10000) : ∀ d i : Nat, i + d = s.length → (s.drop i).all isSign = false → Ev (fun k => turnkeyref02_Decode.l0 k (str s) (sbitsI (s.take i)) (i : Int)) ([], false)
  | 0, i, hi, hf => by
    rw [List.drop_of_length_le (by omega)] at hf
    cases hf
  | d + 1, i, hi, hf => by
    have hlt : i < s.length := by omega
    rw [List.drop_eq_getElem_cons hlt, List.all_cons] at hf
    cases hb : isSign s[i] with
    | false => exact dec_l0_in hlt (dec_bad hlt (by omega) hb)
    | true =>
      rw [hb, Bool.true_and] at hf
      have ih := dec_l0_bad s hs d (i + 1) (by omega) hf
      rw [List.take_succ_eq_append_getElem hlt, sbitsI_snoc] at ih
      exact dec_l0_in hlt (dec_good hlt (by rw [sbitsI_length, List.length_take]; omega) (by omega) hb ih)

/-- Eight bits from p on, as a number. -/
def v8 (L : List Int) (p : Nat) : Int := ((((((L.getD (p + 0) 0 * 2 + L.getD (p + 1) 0) * 2 + L.getD (p + 2) 0) * 2 + L.getD (p + 3) 0) * 2 + L.getD (p + 4) 0) * 2 + L.getD (p + 5) 0) * 2 + L.getD (p + 6) 0) * 2 + L.getD (p + 7) 0

theorem dec_l4_step {S : ByteArray} {L o : List Int} {p : Nat} {v : Int} {r : List Int × Bool} (j : Nat) (b : Int) (hb : L.getD (p + j) 0 = b) (b01 : 0 ≤ b ∧ b ≤ 1) (hj : j < 8) (hp : p + 8 ≤ L.length) (hL : L.length ≤ 1000000) (hv : 0 ≤ v ∧ v < 256)
    (h : Ev (fun k => turnkeyref02_Decode.l4 k S L o p (v * 2 + b) ((p + (j + 1) : Nat) : Int)) r) : Ev (fun k => turnkeyref02_Decode.l4 k S L o p v ((p + j : Nat) : Int)) r :=
  Ev.step (fun k => by
    have w1 : wrap64 ((p : Int) + 8) = (p : Int) + 8 := wrap64_id (by omega) (by omega)
    have w2 : wrap64 (v * 2) = v * 2 := wrap64_id (by omega) (by omega)
    have w3 : wrap64 (((p + j : Nat) : Int) + 1) = ((p + (j + 1) : Nat) : Int) := by rw [wrap64_id (by omega) (by omega)]; omega
    have : rd L ((p + j : Nat) : Int) = b := by unfold rd; rw [Int.toNat_natCast]; exact hb
    show turnkeyref02_Decode.l4 (k + 1) _ _ _ _ _ _ = _
    rw [turnkeyref02_Decode.l4, w1, if_pos (by omega), if_pos (by omega), if_pos (by omega), w2, w3, this, wrap64_id (by omega) (by omega)]) h

theorem dec_round {S : ByteArray} {L o : List Int} {p : Nat} {r : List Int × Bool} (hB : Bits L) (hp : p + 8 ≤ L.length) (hL : L.length ≤ 1000000) (ho : o.length ≤ 1000000) (m : Nat) (hm : v8 L p = (m : Int))
    (h : Ev (fun k => turnkeyref02_Decode.l3 k S L (o ++ [(m : Int)]) ((p + 8 : Nat) : Int)) r) : Ev (fun k => turnkeyref02_Decode.l3 k S L o (p : Int)) r := by
  have b0 := hB (p + 0); have b1 := hB (p + 1); have b2 := hB (p + 2); have b3 := hB (p + 3); have b4 := hB (p + 4); have b5 := hB (p + 5); have b6 := hB (p + 6); have b7 := hB (p + 7)
  have w1 : wrap64 ((p : Int) + 8) = ((p + 8 : Nat) : Int) := by rw [wrap64_id (by omega) (by omega)]; omega
  unfold v8 at hm
  generalize e0 : L.getD (p + 0) 0 = B0 at *
  generalize e1 : L.getD (p + 1) 0 = B1 at *
  generalize e2 : L.getD (p + 2) 0 = B2 at *
  generalize e3 : L.getD (p + 3) 0 = B3 at *
  generalize e4 : L.getD (p + 4) 0 = B4 at *
  generalize e5 : L.getD (p + 5) 0 = B5 at *
  generalize e6 : L.getD (p + 6) 0 = B6 at *
  generalize e7 : L.getD (p + 7) 0 = B7 at *
  have hm64 : m < 256 := by omega
  have h8 : Ev (fun k => turnkeyref02_Decode.l4 k S L o p (m : Int) ((p + 8 : Nat) : Int)) r := Ev.step (fun k => by
    show turnkeyref02_Decode.l4 (k + 1) _ _ _ _ _ _ = _
    rw [turnkeyref02_Decode.l4, w1, if_neg (by omega), if_pos (by omega), Int.emod_eq_of_lt (by omega) (by omega)]) h
  have h7 := dec_l4_step (v := (((((B0 * 2 + B1) * 2 + B2) * 2 + B3) * 2 + B4) * 2 + B5) * 2 + B6) 7 B7 e7 b7 (by omega) (by omega) (by omega) (by omega) (by rw [hm]; exact h8)
  have h6 := dec_l4_step (v := ((((B0 * 2 + B1) * 2 + B2) * 2 + B3) * 2 + B4) * 2 + B5) 6 B6 e6 b6 (by omega) (by omega) (by omega) (by omega) h7
  have h5 := dec_l4_step (v := (((B0 * 2 + B1) * 2 + B2) * 2 + B3) * 2 + B4) 5 B5 e5 b5 (by omega) (by omega) (by omega) (by omega) h6
  have h4 := dec_l4_step (v := ((B0 * 2 + B1) * 2 + B2) * 2 + B3) 4 B4 e4 b4 (by omega) (by omega) (by omega) (by omega) h5
  have h3 := dec_l4_step (v := (B0 * 2 + B1) * 2 + B2) 3 B3 e3 b3 (by omega) (by omega) (by omega) (by omega) h4
  have h2 := dec_l4_step (v := B0 * 2 + B1) 2 B2 e2 b2 (by omega) (by omega) (by omega) (by omega) h3
  have h1 := dec_l4_step (v := B0) 1 B1 e1 b1 (by omega) (by omega) (by omega) (by omega) h2
  have h0 := dec_l4_step (v := 0) 0 B0 e0 b0 (by omega) (by omega) (by omega) (by omega) (by rw [Int.zero_mul, Int.zero_add]; exact h1)
  exact Ev.step (fun k => by
    show turnkeyref02_Decode.l3 (k + 1) _ _ _ _ = _
    rw [turnkeyref02_Decode.l3, w1, if_pos (by omega), Nat.add_zero]) h0

/-- What stands at the end. -/
def fin (S : ByteArray) (o : List Int) (k : Nat) : Option (List Int × Bool) := (turnkeyref02_Encode.f k o).bind fun t => if t.toList = S.toList then some (o, true) else some ([], false)
theorem dec_end {S : ByteArray} {L o : List Int} {p : Int} {r : List Int × Bool} (hp : (L.length : Int) < p + 8) (hp0 : 0 ≤ p) (hp1 : p ≤ 1000000) (h : Ev (fin S o) r) : Ev (fun k => turnkeyref02_Decode.l3 k S L o p) r :=
  Ev.step (fun k => by
    show turnkeyref02_Decode.l3 (k + 1) _ _ _ _ = _
    rw [turnkeyref02_Decode.l3, wrap64_id (by omega) (by omega), if_neg (by omega)]; rfl) h

theorem v8_app (L R : List Int) (q : Nat) : v8 (L ++ R) (L.length + q) = v8 R q := by
  unfold v8; simp only [Nat.add_assoc, getD_app]
theorem bits6_bits (v : Nat) : Bits (bits6I v) := by
  unfold bits6I
  iterate 6 refine Bits.cons (bitI_01 _ _) ?_
  exact Bits.nil
theorem sbitsI_bits (xs : List UInt8) : Bits (sbitsI xs) := by
  induction xs with
  | nil => exact Bits.nil
  | cons c r ih => rw [sbitsI_cons]; exact (bits6_bits _).app ih
theorem ofNat_nat {m : Nat} (h : m < 256) : (UInt8.ofNat m).toNat = m := UInt8.toNat_ofNat_of_lt' (by simp [UInt8.size]; omega)

theorem dec_l3 (S : ByteArray) {r : List Int × Bool} : ∀ (ys : List UInt8), ys.all isSign = true → ∀ (P o : List Int), Bits P → P.length + 6 * ys.length ≤ 900000 → o.length + 3 * ys.length ≤ 900000 → Ev (fin S (o ++ i8s (decR ys))) r →
    Ev (fun k => turnkeyref02_Decode.l3 k S (P ++ sbitsI ys) o ((P.length + 0 : Nat) : Int)) r
  | [], _, P, o, hP, h1, h2, h => by
    rw [show i8s (decR []) = [] from rfl, List.append_nil] at h
    simp only [List.length_nil] at h1 h2
    exact dec_end (by simp [sbitsI]; omega) (by omega) (by omega) h
  | [a], ha, P, o, hP, h1, h2, h => by
    rw [decR_short (by simp) (by simp), show fourF [a] = [] by simp [fourF], show i8s [] = [] from rfl, List.append_nil] at h
    simp only [List.length_cons, List.length_nil] at h1 h2
    exact dec_end (by rw [List.length_append, sbitsI_length]; simp) (by omega) (by omega) h
  | [a, b], hA, P, o, hP, h1, h2, h => by
    simp only [List.all_cons, List.all_nil, Bool.and_true, Bool.and_eq_true] at hA
    have ha := (sval_spec a hA.1).2.1
    have hb := (sval_spec b hA.2).2.1
    simp only [List.length_cons, List.length_nil] at h1 h2
    have hB : Bits (P ++ sbitsI [a, b]) := hP.app (sbitsI_bits _)
    have hl : (P ++ sbitsI [a, b]).length = P.length + 12 := by rw [List.length_append, sbitsI_length]; rfl
    have hf : i8s (fourF [a, b]) = [(((sval a * 64 + sval b) / 16 : Nat) : Int)] := by
      simp only [fourF, nK, i8s]; simp only [List.length_cons, List.length_nil, List.getD_cons_zero, List.getD_cons_succ]
      simp [ofNat_nat (Nat.mod_lt _ (by decide))]; omega
    rw [decR_short (by simp) (by simp), hf] at h
    refine dec_round hB (by omega) (by omega) (by omega) ((sval a * 64 + sval b) / 16) ?_ ?_
    · rw [v8_app]; simp [v8, sbitsI, bits6I, bitI]; omega
    exact dec_end (by omega) (by omega) (by omega) h
  | [a, b, c], hA, P, o, hP, h1, h2, h => by
    simp only [List.all_cons, List.all_nil, Bool.and_true, Bool.and_eq_true] at hA
    have ha := (sval_spec a hA.1).2.1
    have hb := (sval_spec b hA.2.1).2.1
    have hc := (sval_spec c hA.2.2).2.1
    simp only [List.length_cons, List.length_nil] at h1 h2
    have hB : Bits (P ++ sbitsI [a, b, c]) := hP.app (sbitsI_bits _)
    have hl : (P ++ sbitsI [a, b, c]).length = P.length + 18 := by rw [List.length_append, sbitsI_length]; rfl
    have hf : i8s (fourF [a, b, c]) = [(((sval a * 64 + sval b) / 16 : Nat) : Int), ((sval b % 16 * 16 + sval c / 4 : Nat) : Int)] := by
      simp only [fourF, nK, i8s]; simp only [List.length_cons, List.length_nil, List.getD_cons_zero, List.getD_cons_succ]
      simp [ofNat_nat (Nat.mod_lt _ (by decide))]; omega
    rw [decR_short (by simp) (by simp), hf] at h
    refine dec_round hB (by omega) (by omega) (by omega) ((sval a * 64 + sval b) / 16) ?_ ?_
    · rw [v8_app]; simp [v8, sbitsI, bits6I, bitI]; omega
    refine dec_round hB (by omega) (by omega) (by simp; omega) (sval b % 16 * 16 + sval c / 4) ?_ ?_
    · rw [show P.length + 0 + 8 = P.length + 8 from rfl, v8_app]; simp [v8, sbitsI, bits6I, bitI]; omega
    rw [List.append_assoc]
    exact dec_end (by omega) (by omega) (by omega) h
  | a :: b :: c :: d :: r', hA, P, o, hP, h1, h2, h => by
    simp only [List.all_cons, Bool.and_eq_true] at hA
    have ha := (sval_spec a hA.1).2.1
    have hb := (sval_spec b hA.2.1).2.1
    have hc := (sval_spec c hA.2.2.1).2.1
    have hd := (sval_spec d hA.2.2.2.1).2.1
    simp only [List.length_cons] at h1 h2
    have hB : Bits (P ++ sbitsI (a :: b :: c :: d :: r')) := hP.app (sbitsI_bits _)
    have hl : (P ++ sbitsI (a :: b :: c :: d :: r')).length = P.length + 24 + 6 * r'.length := by rw [List.length_append, sbitsI_length]; simp; omega
    have hf : i8s (fourF [a, b, c, d]) = [(((sval a * 64 + sval b) / 16 : Nat) : Int), ((sval b % 16 * 16 + sval c / 4 : Nat) : Int), ((sval c % 4 * 64 + sval d : Nat) : Int)] := by
      simp only [fourF, nK, i8s]; simp only [List.length_cons, List.length_nil, List.getD_cons_zero, List.getD_cons_succ]
      simp [ofNat_nat (Nat.mod_lt _ (by decide))]; omega
    have e0 : i8s (decR (a :: b :: c :: d :: r')) = i8s (fourF [a, b, c, d]) ++ i8s (decR r') := by rw [decR_four]; simp [i8s]
    rw [e0, hf, ← List.append_assoc] at h
    have ih := dec_l3 S r' hA.2.2.2.2 (P ++ (bits6I (sval a) ++ (bits6I (sval b) ++ (bits6I (sval c) ++ bits6I (sval d))))) _ (hP.app ((bits6_bits _).app ((bits6_bits _).app ((bits6_bits _).app (bits6_bits _))))) (by simp [bits6I]; omega) (by simp; omega) h
    have e1 : P ++ (bits6I (sval a) ++ (bits6I (sval b) ++ (bits6I (sval c) ++ bits6I (sval d)))) ++ sbitsI r' = P ++ sbitsI (a :: b :: c :: d :: r') := by simp [sbitsI, List.append_assoc]
    have e2 : (P ++ (bits6I (sval a) ++ (bits6I (sval b) ++ (bits6I (sval c) ++ bits6I (sval d))))).length + 0 = P.length + 0 + 8 + 8 + 8 := by simp [bits6I]
    rw [e1, e2] at ih
    refine dec_round hB (by omega) (by omega) (by omega) ((sval a * 64 + sval b) / 16) ?_ ?_
    · rw [v8_app]; simp [v8, sbitsI, bits6I, bitI]; omega
    refine dec_round hB (by omega) (by omega) (by simp; omega) (sval b % 16 * 16 + sval c / 4) ?_ ?_
    · rw [show P.length + 0 + 8 = P.length + 8 from rfl, v8_app]; simp [v8, sbitsI, bits6I, bitI]; omega
    refine dec_round hB (by omega) (by omega) (by simp; omega) (sval c % 4 * 64 + sval d) ?_ ?_
    · rw [show P.length + 0 + 8 + 8 = P.length + 16 from rfl, v8_app]; simp [v8, sbitsI, bits6I, bitI]; omega
    have e3 : o ++ [(((sval a * 64 + sval b) / 16 : Nat) : Int)] ++ [((sval b % 16 * 16 + sval c / 4 : Nat) : Int)] ++ [((sval c % 4 * 64 + sval d : Nat) : Int)] = o ++ [(((sval a * 64 + sval b) / 16 : Nat) : Int), ((sval b % 16 * 16 + sval c / 4 : Nat) : Int), ((sval c % 4 * 64 + sval d : Nat) : Int)] := by simp
    rw [e3]
    exact ih

theorem decR_length (s : List UInt8) (hs : s.length ≤ 10000) : (decR s).length ≤ 30000 := by
  have := decP_length s (List.range (nCh s.length 4)) rfl
  have h2 := nCh_le (n := s.length) (s := 4) (by decide)
  unfold decR; rw [List.length_range] at this; omega

theorem refDecode (s : List UInt8) (hs : s.length ≤ 10000) : Ev (fun k => turnkeyref02_Decode.f k (str s)) (i8s (decF s), okD s) := by
  cases ha : s.all isSign with
  | false =>
    have ho : okD s = false := by unfold okD; rw [ha]; rfl
    have hd : decF s = [] := by unfold decF; rw [ho]; rfl
    rw [ho, hd]
    exact dec_l0_bad s hs s.length 0 (by omega) ha
  | true =>
    refine dec_l0_good s hs ha ?_ s.length 0 (by omega)
    refine dec_l3 (str s) s ha [] [] Bits.nil (by simp; omega) (by simp; omega) ?_
    rw [List.nil_append]
    refine Ev.bind (refEncode (decR s) (by have := decR_length s hs; omega)) ?_
    have ho : okD s = (encF (decR s) == s) := by unfold okD; rw [ha, Bool.true_and]
    rw [str_toList, str_toList]
    by_cases e : encF (decR s) = s
    · have : okD s = true := by rw [ho, e]; simp
      rw [if_pos e, this, show decF s = decR s by unfold decF; rw [this]; rfl]
      exact Ev.now _
    · have : okD s = false := by rw [ho]; simpa using e
      rw [if_neg e, this, show decF s = [] by unfold decF; rw [this]; rfl]
      exact Ev.now _
end Go.Proofs.Ytmpkbjkdmbgmhaa.Pure
