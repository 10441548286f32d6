/- Filling, and the reference's Sum. -/
import Derived.Test.YtfmfpckpldlahaaDoorSha2c
namespace Go.Proofs.YtfmfpckpldlahaaDoor.Pure
open Go.RowKit Go.Proofs.YtfmfpckpldlahaaDoor Go.Proofs.YtfmfpckpldlahaaDoor.PB Go.Proofs.YtfmfpckpldlahaaDoorW.PrintWords Go.Proofs.YtfmfpckpldlahaaDoorW.PrintLast Go.Proofs.YtfmfpckpldlahaaDoorW.PrintMore

/-- The last j bytes of a number, the greatest first. -/
def beB (v : Nat) : Nat → List UInt8
  | 0 => []
  | j + 1 => UInt8.ofNat (v / 2 ^ (8 * j) % 256) :: beB v j
theorem beB_length (v : Nat) : ∀ j, (beB v j).length = j
  | 0 => rfl
  | j + 1 => by rw [beB, List.length_cons, beB_length v j]
theorem i8s_cons (c : UInt8) (l : List UInt8) : i8s (c :: l) = (c.toNat : Int) :: i8s l := rfl
theorem i8s_append (a b : List UInt8) : i8s (a ++ b) = i8s a ++ i8s b := by simp [i8s]
theorem i8s_zeros (n : Nat) : i8s (List.replicate n 0) = List.replicate n 0 := by simp [i8s]
theorem ofNat_mod (m : Nat) : ((UInt8.ofNat (m % 256)).toNat : Int) = ((m % 256 : Nat) : Int) := by
  rw [UInt8.toNat_ofNat_of_lt' (by simp [UInt8.size]; omega)]

theorem zero_f (z : Int) (h : wrap64 z = z) : True := trivial
/-- How many noughts are laid. -/
def zF (n : Nat) : Nat := (239 - n % 128) % 128
def fillS (n : Nat) : List UInt8 := 128 :: (List.replicate (zF n + 8) 0 ++ beB (n * 8) 8)
theorem zF_spec (n : Nat) : (n + 1 + zF n + (8 + 8)) % 128 = 0 := by unfold zF; omega
theorem zF_lt (n j : Nat) (h : j < zF n) : (n + 1 + j + (8 + 8)) % 128 ≠ 0 := by unfold zF at h; omega
theorem zF_le (n : Nat) : zF n < 128 := Nat.mod_lt _ (by decide)
theorem fillS_length (n : Nat) : (fillS n).length = 1 + zF n + (8 + 8) := by
  unfold fillS; rw [List.length_cons, List.length_append, List.length_replicate, beB_length]; omega
theorem padded_length (n : Nat) : (n + (fillS n).length) % 128 = 0 := by
  rw [fillS_length]; have := zF_spec n; omega

theorem shr_byte (v j : Nat) (hj : j ≤ 7) : (shr .u64 (v : Int) (wrap64 (8 * (j : Int)))) % 256 = ((UInt8.ofNat (v / 2 ^ (8 * j) % 256)).toNat : Int) := by
  rw [ofNat_mod, show wrap64 (8 * (j : Int)) = ((8 * j : Nat) : Int) from w_mul 8 j (by omega)]
  unfold shr
  rw [Int.toNat_natCast, Nat.min_eq_left (by show 8 * j ≤ 64; omega)]
  have : ((2 : Int) ^ (8 * j)) = ((2 ^ (8 * j) : Nat) : Int) := by rw [Int.natCast_pow]; rfl
  rw [this, ← Int.natCast_ediv]; rfl

def zl (j : Nat) : List Int := 128 :: List.replicate j 0
theorem zl_snoc (j : Nat) : zl j ++ [0] = zl (j + 1) := by unfold zl; rw [List.cons_append, List.replicate_succ']
theorem zl_length (j : Nat) : (zl j).length = j + 1 := by simp [zl]
theorem i8s_fillS (n : Nat) : i8s (fillS n) = zl (zF n + 8) ++ i8s (beB (n * 8) 8) := by
  unfold fillS zl; rw [i8s_cons, i8s_append, i8s_zeros]; rfl
theorem tmod_nat (a b : Nat) : Int.tmod (a : Int) (b : Int) = ((a % b : Nat) : Int) := (Int.ofNat_tmod a b).symm
theorem u64_nat (n : Nat) (h : n ≤ 1000000000) : IntKind.u64.wrap (n : Int) = (n : Int) := by rw [u64_wrap]; omega

/-! ### the code's Fill -/
theorem set_zero (i : Nat) (b : Int) (L R : List Int) : (List.replicate (i + 1) (0 : Int) ++ L).set i b = List.replicate i 0 ++ b :: L := by
  rw [List.replicate_succ', List.append_assoc, List.set_append_right _ _ (by simp), List.length_replicate, Nat.sub_self]; rfl

theorem fill_l1_step {x3 : List Int} {n : Nat} (hn : n ≤ 10000000) {r : List Int} (i : Nat) (hi : i < 8)
    (h : Ev (fun k => sha512_Fill.l1 k x3 (List.replicate (7 - i + 8) 0 ++ i8s (beB (n * 8) (i + 1))) (n : Int) ((i + 1 : Nat) : Int)) r) :
    Ev (fun k => sha512_Fill.l1 k x3 (List.replicate (8 - i + 8) 0 ++ i8s (beB (n * 8) i)) (n : Int) (i : Int)) r := by
  have hl : (List.replicate (8 - i + 8) (0 : Int) ++ i8s (beB (n * 8) i)).length = 8 + 8 := by
    rw [List.length_append, List.length_replicate, i8s_length, beB_length]; omega
  have hset : ∀ b : Int, (List.replicate (8 - i + 8) (0 : Int) ++ i8s (beB (n * 8) i)).set (7 - i + 8) b = List.replicate (7 - i + 8) 0 ++ b :: i8s (beB (n * 8) i) := fun b => by
    rw [show 8 - i + 8 = (7 - i + 8) + 1 by omega]; exact set_zero _ _ _ []
  have c0 : (i : Int) < 8 := by omega
  have c1 : (0 : Int) ≤ ((8 * i : Nat) : Int) := Int.natCast_nonneg _
  have c2 : (0 : Int) ≤ ((7 + 8 - i : Nat) : Int) := Int.natCast_nonneg _
  have c3 : ((7 + 8 - i : Nat) : Int) < ((List.replicate (8 - i + 8) (0 : Int) ++ i8s (beB (n * 8) i)).length : Int) := by rw [hl]; omega
  have e7 : 7 + 8 - i = 7 - i + 8 := by omega
  have n1 : 8 * i ≤ 1000000000 := by omega
  have n2 : n * 8 ≤ 1000000000 := by omega
  have n3 : i + 1 ≤ 1000000000 := by omega
  have n4 : i ≤ 7 + 8 := by omega
  have n5 : i ≤ 7 := by omega
  have e8 : (n : Int) * 8 = ((n * 8 : Nat) : Int) := by omega
  have hs := shr_byte (n * 8) i n5
  have w1 : wrap64 (8 * (i : Int)) = ((8 * i : Nat) : Int) := w_mul 8 i n1
  have hw : IntKind.u64.wrap ((n : Int) * 8) = ((n * 8 : Nat) : Int) := by rw [e8]; exact u64_nat _ n2
  have w3 : wrap64 ((i : Int) + 1) = ((i + 1 : Nat) : Int) := w_add i 1 n3
  have w2 : wrap64 ((7 + 8 : Nat) - (i : Int)) = ((7 + 8 - i : Nat) : Int) := w_sub (7 + 8) i n4 (by decide)
  rw [w1] at hs
  rw [beB, i8s_cons, ← hs, ← hset] at h
  have w2' : wrap64 ((15 : Int) - (i : Int)) = ((7 + 8 - i : Nat) : Int) := w2
  refine Ev.step (fun k => ?_) h
  show sha512_Fill.l1 (k + 1) _ _ _ _ = _
  rw [sha512_Fill.l1]
  with_reducible rw [if_pos c0, w1, if_pos c1, w2', if_pos c2, if_pos c3, Int.toNat_natCast, hw, w3, e7]

theorem fill_l1 {x3 : List Int} {n : Nat} (hn : n ≤ 10000000) (hx : x3.length ≤ 1000) : Ev (fun k => sha512_Fill.l1 k x3 (List.replicate 16 0) (n : Int) 0) (x3 ++ (List.replicate 8 0 ++ i8s (beB (n * 8) 8))) := by
  have key : ∀ N, N = 8 → ∀ d i : Nat, i + d = N → Ev (fun k => sha512_Fill.l1 k x3 (List.replicate (8 - i + 8) 0 ++ i8s (beB (n * 8) i)) (n : Int) (i : Int)) (x3 ++ (List.replicate 8 0 ++ i8s (beB (n * 8) 8))) := by
    intro N hN d
    induction d with
    | zero =>
      intro i e
      obtain rfl : i = N := e
      have c0 : ¬ ((i : Int) < 8) := by omega
      have hl : (List.replicate (8 - i + 8) (0 : Int) ++ i8s (beB (n * 8) i)).length = 16 := by rw [List.length_append, List.length_replicate, i8s_length, beB_length]; omega
      have c7 : (7 : Int) < ((List.replicate (8 - i + 8) (0 : Int) ++ i8s (beB (n * 8) i)).length : Int) := by rw [hl]; decide
      have hz : ((n : Int) / 2305843009213693952) % 256 = 0 := by omega
      have hs : (List.replicate (8 - i + 8) (0 : Int) ++ i8s (beB (n * 8) i)).set (7 : Int).toNat 0 = List.replicate 8 0 ++ i8s (beB (n * 8) i) := by
        rw [show 8 - i + 8 = 8 by omega]; rfl
      have c1 : x3.length + (List.replicate 8 (0 : Int) ++ i8s (beB (n * 8) i)).length < 140737488355328 := by rw [List.length_append, List.length_replicate, i8s_length, beB_length]; omega
      refine Ev.step (f := fun _ => some (x3 ++ (List.replicate 8 (0 : Int) ++ i8s (beB (n * 8) i)))) (fun k => ?_) (by rw [← hN]; exact Ev.now _)
      show sha512_Fill.l1 (k + 1) _ _ _ _ = _
      rw [sha512_Fill.l1]
      with_reducible rw [if_neg c0, if_pos c7, hz, hs, Option.bind_some, if_pos c1]
    | succ d ih => intro i e; exact fill_l1_step hn i (by omega) (by have h := ih (i + 1) (by omega); rw [show 8 - (i + 1) = 7 - i by omega] at h; exact h)
  have := key 8 rfl 8 0 (by omega)
  simpa [beB, i8s] using this
theorem zl8 (j : Nat) (L : List Int) : zl j ++ (List.replicate 8 0 ++ L) = zl (j + 8) ++ L := by
  unfold zl; rw [List.cons_append, ← List.append_assoc, List.replicate_append_replicate]; rfl

theorem fill_l0 {n : Nat} (hn : n ≤ 10000000) : ∀ d j : Nat, j + d = zF n → Ev (fun k => sha512_Fill.l0 k (n : Int) (zl j)) (i8s (fillS n)) := by
  intro d
  induction d with
  | zero =>
    intro j e
    have hj : j = zF n := e
    have hz := zF_spec n
    have hle := zF_le n
    have c0 : (((n + (j + 1) + 16) % 128 : Nat) : Int) = 0 := by rw [hj]; omega
    have hw : IntKind.u64.wrap (n : Int) = (n : Int) := u64_nat n (by omega)
    have hlen := zl_length j
    have w1 : wrap64 ((n : Int) + ((zl j).length : Int)) = ((n + (j + 1) : Nat) : Int) := by rw [hlen]; exact w_add n (j + 1) (by omega)
    have w2 : wrap64 (((n + (j + 1) : Nat) : Int) + 16) = ((n + (j + 1) + 16 : Nat) : Int) := w_add _ 16 (by omega)
    have ht : Int.tmod ((n + (j + 1) + 16 : Nat) : Int) 128 = (((n + (j + 1) + 16) % 128 : Nat) : Int) := tmod_nat _ 128
    have hl := fill_l1 (x3 := zl j) hn (by rw [hlen]; omega)
    have hf : zl j ++ (List.replicate 8 0 ++ i8s (beB (n * 8) 8)) = i8s (fillS n) := by rw [i8s_fillS, hj, zl8]
    rw [hf] at hl
    refine Ev.step (fun k => ?_) hl
    show sha512_Fill.l0 (k + 1) _ _ = _
    rw [sha512_Fill.l0]
    with_reducible rw [w1, w2, ht, if_pos c0, hw, if_pos (show (16 : Nat) ≤ 281474976710656 by decide)]
  | succ d ih =>
    intro j e
    have hz := zF_lt n j (by omega)
    have hle := zF_le n
    have hlen := zl_length j
    have c0 : ¬ ((((n + (j + 1) + 16) % 128 : Nat) : Int) = 0) := by omega
    have c1 : (zl j).length < 140737488355328 := by rw [hlen]; omega
    have w1 : wrap64 ((n : Int) + ((zl j).length : Int)) = ((n + (j + 1) : Nat) : Int) := by rw [hlen]; exact w_add n (j + 1) (by omega)
    have w2 : wrap64 (((n + (j + 1) : Nat) : Int) + 16) = ((n + (j + 1) + 16 : Nat) : Int) := w_add _ 16 (by omega)
    have ht : Int.tmod ((n + (j + 1) + 16 : Nat) : Int) 128 = (((n + (j + 1) + 16) % 128 : Nat) : Int) := tmod_nat _ 128
    refine Ev.step (fun k => ?_) (ih (j + 1) (by omega))
    show sha512_Fill.l0 (k + 1) _ _ = _
    rw [sha512_Fill.l0]
    with_reducible rw [w1, w2, ht, if_neg c0, if_pos c1, zl_snoc]

theorem codeFill (n : Nat) (hn : n ≤ 10000000) : Ev (fun k => sha512_Fill.f k (n : Int)) (i8s (fillS n)) := by
  have h := fill_l0 hn (zF n) 0 (by omega)
  have hm : mx (n : Int) 0 = (n : Int) := by unfold mx; omega
  refine Ev.congr (fun k => ?_) h
  unfold sha512_Fill.f
  rw [hm]; rfl

/-! ### the reference's Fill -/
theorem rfill_l2 (v : Nat) : ∀ (j : Nat), j ≤ 8 → ∀ x3 : List Int, x3.length + j ≤ 1000 → Ev (fun k => turnkeyref04_Fill.l2 k x3 (v : Int) ((j : Int) - 1)) (x3 ++ i8s (beB v j)) := by
  intro j
  induction j with
  | zero =>
    intro _ x3 _
    rw [show i8s (beB v 0) = [] from rfl, List.append_nil]
    refine Ev.step (f := fun _ => some x3) (fun k => ?_) (Ev.now _)
    show turnkeyref04_Fill.l2 (k + 1) _ _ _ = _
    rw [turnkeyref04_Fill.l2, if_neg (by decide)]
  | succ j ih =>
    intro hj x3 hx
    have hs := shr_byte v j (by omega)
    have c0 : (j : Int) ≥ 0 := Int.natCast_nonneg _
    have c1 : (0 : Int) ≤ ((8 * j : Nat) : Int) := Int.natCast_nonneg _
    have c2 : x3.length < 140737488355328 := by omega
    have e1 : ((j + 1 : Nat) : Int) - 1 = (j : Int) := by omega
    have w2 : wrap64 ((j : Int) - 1) = (j : Int) - 1 := wrap64_id (by omega) (by omega)
    have h := ih (by omega) (x3 ++ [((UInt8.ofNat (v / 2 ^ (8 * j) % 256)).toNat : Int)]) (by simp; omega)
    have w1 : wrap64 (8 * (j : Int)) = ((8 * j : Nat) : Int) := w_mul 8 j (by omega)
    rw [w1] at hs
    rw [← hs, List.append_assoc] at h
    rw [beB, i8s_cons, ← hs, e1]
    refine Ev.step (fun k => ?_) h
    show turnkeyref04_Fill.l2 (k + 1) _ _ _ = _
    rw [turnkeyref04_Fill.l2]
    with_reducible rw [if_pos c0, w1, if_pos c1, if_pos c2, w2]

theorem rfill_l1 (v : Nat) : ∀ (j : Nat), j ≤ 8 → ∀ x3 : List Int, x3.length + j ≤ 900 → Ev (fun k => turnkeyref04_Fill.l1 k x3 0 (v : Int) ((j : Int) - 1)) (x3 ++ (List.replicate j 0 ++ i8s (beB v 8))) := by
  intro j
  induction j with
  | zero =>
    intro _ x3 hx
    have h := rfill_l2 v 8 (by decide) x3 (by omega)
    refine Ev.step (fun k => ?_) h
    show turnkeyref04_Fill.l1 (k + 1) _ _ _ _ = _
    rw [turnkeyref04_Fill.l1, if_neg (by decide)]; rfl
  | succ j ih =>
    intro hj x3 hx
    have c0 : (j : Int) ≥ 0 := Int.natCast_nonneg _
    have w1 : wrap64 (8 * (j : Int)) = ((8 * j : Nat) : Int) := w_mul 8 j (by omega)
    have c1 : (0 : Int) ≤ ((8 * j : Nat) : Int) := Int.natCast_nonneg _
    have c2 : x3.length < 140737488355328 := by omega
    have e1 : ((j + 1 : Nat) : Int) - 1 = (j : Int) := by omega
    have w2 : wrap64 ((j : Int) - 1) = (j : Int) - 1 := wrap64_id (by omega) (by omega)
    have hz : (shr .u64 0 ((8 * j : Nat) : Int)) % 256 = 0 := by unfold shr; simp
    have h := ih (by omega) (x3 ++ [0]) (by simp; omega)
    have e2 : x3 ++ [0] ++ (List.replicate j 0 ++ i8s (beB v 8)) = x3 ++ (List.replicate (j + 1) 0 ++ i8s (beB v 8)) := by
      rw [List.append_assoc, List.replicate_succ]; rfl
    rw [e2] at h
    refine Ev.step (fun k => ?_) h
    show turnkeyref04_Fill.l1 (k + 1) _ _ _ _ = _
    rw [e1, turnkeyref04_Fill.l1]
    with_reducible rw [if_pos c0, w1, if_pos c1, if_pos c2, hz, w2]

theorem rfill_l0 {n : Nat} (hn : n ≤ 10000000) : ∀ d j : Nat, j + d = zF n → Ev (fun k => turnkeyref04_Fill.l0 k (n : Int) (zl j)) (i8s (fillS n)) := by
  intro d
  induction d with
  | zero =>
    intro j e
    have hj : j = zF n := e
    have hz := zF_spec n
    have hle := zF_le n
    have hlen := zl_length j
    have c0 : (((n + (j + 1)) % 128 : Nat) : Int) = 112 := by rw [hj]; omega
    have hw : IntKind.u64.wrap (n : Int) = (n : Int) := u64_nat n (by omega)
    have hw2 : IntKind.u64.wrap ((n : Int) * 8) = ((n * 8 : Nat) : Int) := by rw [← show ((n * 8 : Nat) : Int) = (n : Int) * 8 by omega]; exact u64_nat _ (by omega)
    have w1 : wrap64 ((n : Int) + ((zl j).length : Int)) = ((n + (j + 1) : Nat) : Int) := by rw [hlen]; exact w_add n (j + 1) (by omega)
    have ht : Int.tmod ((n + (j + 1) : Nat) : Int) 128 = (((n + (j + 1)) % 128 : Nat) : Int) := tmod_nat _ 128
    have hl := rfill_l1 (n * 8) 8 (by decide) (zl j) (by rw [hlen]; omega)
    have hf : zl j ++ (List.replicate 8 0 ++ i8s (beB (n * 8) 8)) = i8s (fillS n) := by rw [i8s_fillS, hj, zl8]
    rw [hf] at hl
    refine Ev.step (fun k => ?_) hl
    show turnkeyref04_Fill.l0 (k + 1) _ _ = _
    rw [turnkeyref04_Fill.l0]
    have ht2 : IntKind.u64.wrap (Int.tdiv (n : Int) 2305843009213693952) = 0 := by
      rw [Int.tdiv_eq_ediv_of_nonneg (by omega), u64_wrap]; omega
    with_reducible rw [w1, ht, if_pos c0, hw, hw2, ht2]
    rfl
  | succ d ih =>
    intro j e
    have hz := zF_lt n j (by omega)
    have hle := zF_le n
    have hlen := zl_length j
    have c0 : ¬ ((((n + (j + 1)) % 128 : Nat) : Int) = 112) := by omega
    have c1 : (zl j).length < 140737488355328 := by rw [hlen]; omega
    have w1 : wrap64 ((n : Int) + ((zl j).length : Int)) = ((n + (j + 1) : Nat) : Int) := by rw [hlen]; exact w_add n (j + 1) (by omega)
    have ht : Int.tmod ((n + (j + 1) : Nat) : Int) 128 = (((n + (j + 1)) % 128 : Nat) : Int) := tmod_nat _ 128
    refine Ev.step (fun k => ?_) (ih (j + 1) (by omega))
    show turnkeyref04_Fill.l0 (k + 1) _ _ = _
    rw [turnkeyref04_Fill.l0]
    with_reducible rw [w1, ht, if_neg c0, if_pos c1, zl_snoc]

theorem refFill (n : Nat) (hn : n ≤ 10000000) : Ev (fun k => turnkeyref04_Fill.f k (n : Int)) (i8s (fillS n)) := by
  have h := rfill_l0 hn (zF n) 0 (by omega)
  refine Ev.congr (f := fun k => turnkeyref04_Fill.j0 k (n : Int)) (fun k => ?_) (Ev.step (fun k => ?_) h)
  · unfold turnkeyref04_Fill.f
    rw [if_neg (by omega)]
  · show turnkeyref04_Fill.j0 (k + 1) _ = _
    rw [turnkeyref04_Fill.j0]; rfl

/-! ### Sum -/
/-- The value behind i blocks. -/
def hP (b : List UInt8) : Nat → List W
  | 0 => iv
  | i + 1 => oneF (hP b i) (pieceF b 128 i)
theorem hP_length (b : List UInt8) : ∀ i, (hP b i).length = 8
  | 0 => rfl
  | i + 1 => rfl
def outF (h : List W) : List UInt8 := h.flatMap fun x => beB x.toNat 8
def padF (xs : List UInt8) : List UInt8 := xs ++ fillS xs.length
def sumF (xs : List UInt8) : List UInt8 := outF (hP (padF xs) ((padF xs).length / 128))
theorem padF_length (xs : List UInt8) : (padF xs).length = 128 * ((padF xs).length / 128) := by
  have := padded_length xs.length
  unfold padF
  rw [List.length_append]
  omega
theorem padF_le (xs : List UInt8) : (padF xs).length ≤ xs.length + 2 * 128 := by
  unfold padF
  rw [List.length_append, fillS_length]
  have := zF_le xs.length
  omega

theorem sum_l2 {L : List W} {i : Nat} (hi : i < L.length) (hL : L.length ≤ 100) {r : ByteArray} : ∀ (j : Nat), j ≤ 8 → ∀ s : List UInt8, s.length + j ≤ 10000 →
    Ev (fun k => turnkeyref04_Sum.l1 k (L.map tn) (str (s ++ beB (L[i]).toNat j)) ((i + 1 : Nat) : Int)) r → Ev (fun k => turnkeyref04_Sum.l2 k (L.map tn) (str s) (i : Int) ((j : Int) - 1)) r := by
  intro j
  induction j with
  | zero =>
    intro _ s _ h
    rw [show beB (L[i]).toNat 0 = [] from rfl, List.append_nil] at h
    have w3 : wrap64 ((i : Int) + 1) = ((i + 1 : Nat) : Int) := w_add i 1 (by omega)
    refine Ev.step (fun k => ?_) h
    show turnkeyref04_Sum.l2 (k + 1) _ _ _ _ = _
    rw [turnkeyref04_Sum.l2, if_neg (by decide), w3]
  | succ j ih =>
    intro hj s hs h
    have c0 : (j : Int) ≥ 0 := Int.natCast_nonneg _
    have c1 : (0 : Int) ≤ (i : Int) := Int.natCast_nonneg _
    have c2 : (i : Int) < ((L.map tn).length : Int) := by rw [List.length_map]; omega
    have c3 : (0 : Int) ≤ ((8 * j : Nat) : Int) := Int.natCast_nonneg _
    have e1 : ((j + 1 : Nat) : Int) - 1 = (j : Int) := by omega
    have w2 : wrap64 ((j : Int) - 1) = (j : Int) - 1 := wrap64_id (by omega) (by omega)
    have hlen : (str s).size + 1 ≤ 9223372036854775807 := by rw [str_size]; omega
    have g := rd_tn L (i : Int) i rfl
    have hg : L.getD i 0 = L[i] := by rw [List.getD_eq_getElem?_getD, List.getElem?_eq_getElem hi]; rfl
    rw [hg] at g
    generalize L[i] = x at *
    have hb : (shr .u64 (tn x) ((8 * j : Nat) : Int)) % 256 = ((UInt8.ofNat (x.toNat / 2 ^ (8 * j) % 256)).toNat : Int) := by
      rw [ofNat_mod, shr_f x (8 * j) (by omega)]
      unfold tn
      rw [BitVec.toNat_ushiftRight, Nat.shiftRight_eq_div_pow]; rfl
    have hst : strOfNums [((UInt8.ofNat (x.toNat / 2 ^ (8 * j) % 256)).toNat : Int)] = str [UInt8.ofNat (x.toNat / 2 ^ (8 * j) % 256)] := strOfNums_i8s [_]
    have w1 : wrap64 (8 * (j : Int)) = ((8 * j : Nat) : Int) := w_mul 8 j (by omega)
    have h' := ih (by omega) (s ++ [UInt8.ofNat (x.toNat / 2 ^ (8 * j) % 256)]) (by simp; omega) (by rw [List.append_assoc]; exact h)
    have ha : str s ++ str [UInt8.ofNat (x.toNat / 2 ^ (8 * j) % 256)] = str (s ++ [UInt8.ofNat (x.toNat / 2 ^ (8 * j) % 256)]) := by
      apply ByteArray.ext
      rw [ByteArray.data_append]
      simp [str]
    have hsz : (str [UInt8.ofNat (x.toNat / 2 ^ (8 * j) % 256)]).size = 1 := by rw [str_size]; rfl
    rw [e1]
    refine Ev.step (fun k => ?_) h'
    show turnkeyref04_Sum.l2 (k + 1) _ _ _ _ = _
    rw [turnkeyref04_Sum.l2]
    with_reducible rw [if_pos c0, if_pos c1, if_pos c2, w1, if_pos c3, g, hb, Option.bind_some, hst, hsz, if_pos hlen, ha, w2]

theorem sum_l1 {L : List W} (hL : L.length = 8) : ∀ d i : Nat, i + d = 8 → Ev (fun k => turnkeyref04_Sum.l1 k (L.map tn) (str (outF (L.take i))) (i : Int)) (str (outF L)) := by
  intro d
  induction d with
  | zero =>
    intro i e
    have c0 : ¬ ((i : Int) < 8) := by omega
    refine Ev.step (f := fun _ => some (str (outF L))) (fun k => ?_) (Ev.now _)
    show turnkeyref04_Sum.l1 (k + 1) _ _ _ = _
    rw [turnkeyref04_Sum.l1, if_neg c0, List.take_of_length_le (by omega)]
  | succ d ih =>
    intro i e
    have hlt : i < L.length := by omega
    have c0 : (i : Int) < 8 := by omega
    have h := ih (i + 1) (by omega)
    have e1 : outF (L.take (i + 1)) = outF (L.take i) ++ beB (L[i]).toNat 8 := by
      unfold outF
      rw [List.take_succ_eq_append_getElem hlt, List.flatMap_append]; simp
    have hol : (outF (L.take i)).length ≤ 1000 := by
      have : ∀ l : List W, (outF l).length = 8 * l.length := by
        intro l
        induction l with
        | nil => rfl
        | cons x l ih => 
          have : outF (x :: l) = beB x.toNat 8 ++ outF l := by simp [outF]
          rw [this, List.length_append, ih, beB_length, List.length_cons]; omega
      rw [this, List.length_take]; omega
    rw [e1] at h
    refine Ev.step (fun k => ?_) (sum_l2 hlt (by omega) 8 (Nat.le_refl _) _ (by omega) h)
    show turnkeyref04_Sum.l1 (k + 1) _ _ _ = _
    rw [turnkeyref04_Sum.l1, if_pos c0]; rfl

theorem sum_l0 {b : List UInt8} {m : Nat} (hm : b.length = 128 * m) (hb : b.length ≤ 100000000) : ∀ d i : Nat, i + d = m → Ev (fun k => turnkeyref04_Sum.l0 k (i8s (b.drop (i * 128))) ((hP b i).map tn)) (str (outF (hP b m))) := by
  intro d
  induction d with
  | zero =>
    intro i e
    obtain rfl : i = m := e
    have e0 : i8s (b.drop (i * 128)) = [] := by rw [List.drop_of_length_le (by omega)]; rfl
    have h := sum_l1 (hP_length b i) 8 0 (by omega)
    rw [e0]
    refine Ev.step (fun k => ?_) h
    show turnkeyref04_Sum.l0 (k + 1) _ _ = _
    rw [turnkeyref04_Sum.l0, if_neg (by decide)]; rfl
  | succ d ih =>
    intro i e
    have hlen : (i8s (b.drop (i * 128))).length = b.length - i * 128 := by rw [i8s_length, List.length_drop]
    have hge : 128 ≤ b.length - i * 128 := by
      have : b.length = 128 * (i + 1 + d) := by rw [hm]; congr 1; omega
      rw [Nat.mul_add, Nat.mul_add] at this
      omega
    have c0 : ((i8s (b.drop (i * 128))).length : Int) > 0 := by rw [hlen]; omega
    have c1 : (128 : Int) ≤ ((i8s (b.drop (i * 128))).length : Int) := by rw [hlen]; omega
    have hp : (pieceF b 128 i).length = 128 := by rw [piece_len]; omega
    have ht : (i8s (b.drop (i * 128))).take 128 = i8s (pieceF b 128 i) := by unfold i8s pieceF; rw [List.map_take]
    have hd : (i8s (b.drop (i * 128))).drop 128 = i8s (b.drop ((i + 1) * 128)) := by unfold i8s; rw [← List.map_drop, List.drop_drop, Nat.succ_mul]
    have h1 := refOne (hP b i) (pieceF b 128 i) (hP_length b i) hp
    have h := Ev.bind (f := fun k t => turnkeyref04_Sum.l0 k ((i8s (b.drop (i * 128))).drop 128) t) h1 (by rw [hd]; exact ih (i + 1) (by omega))
    refine Ev.step (fun k => ?_) h
    show turnkeyref04_Sum.l0 (k + 1) _ _ = _
    rw [turnkeyref04_Sum.l0]
    with_reducible rw [if_pos c0, if_pos c1, ht]
    rfl

theorem refSum (xs : List UInt8) (hx : xs.length ≤ 1000000) : Ev (fun k => turnkeyref04_Sum.f k (i8s xs)) (str (sumF xs)) := by
  have hf := refFill xs.length (by omega)
  have hl := padF_le xs
  have h0 := sum_l0 (padF_length xs) (by omega) ((padF xs).length / 128) 0 (by omega)
  have c0 : ([] : List Int).length + (i8s xs).length < 140737488355328 := by rw [i8s_length]; simp; omega
  have c1 : (i8s xs).length + (i8s (fillS xs.length)).length < 140737488355328 := by
    rw [i8s_length, i8s_length]
    have : (padF xs).length = xs.length + (fillS xs.length).length := by unfold padF; rw [List.length_append]
    omega
  have e0 : i8s (padF xs) = i8s xs ++ i8s (fillS xs.length) := by unfold padF; rw [i8s_append]
  rw [Nat.zero_mul, List.drop_zero, e0, show (hP (padF xs) 0).map tn = ([7640891576956012808, 13503953896175478587, 4354685564936845355, 11912009170470909681, 5840696475078001361, 11170449401992604703, 2270897969802886507, 6620516959819538809] : List Int) from iv_ints] at h0
  have hq : (((i8s xs).length : Nat) : Int) = (xs.length : Int) := by rw [i8s_length]
  refine Ev.congr (f := fun k => (turnkeyref04_Fill.f k (xs.length : Int)).bind fun t => if (i8s xs).length + t.length < 140737488355328 then turnkeyref04_Sum.l0 k (i8s xs ++ t) ([7640891576956012808, 13503953896175478587, 4354685564936845355, 11912009170470909681, 5840696475078001361, 11170449401992604703, 2270897969802886507, 6620516959819538809] : List Int) else none) (fun k => ?_) ?_
  · unfold turnkeyref04_Sum.f
    with_reducible rw [Option.bind_some, if_pos c0, Option.bind_some, List.nil_append, hq]
  · refine Ev.bind hf ?_
    refine Ev.congr (fun k => ?_) h0
    with_reducible rw [if_pos c1]
end Go.Proofs.YtfmfpckpldlahaaDoor.Pure
