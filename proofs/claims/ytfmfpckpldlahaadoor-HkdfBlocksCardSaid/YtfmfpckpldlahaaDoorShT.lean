/- The code's rounds: the window of words, and a round. -/
import Derived.Test.YtfmfpckpldlahaaDoorShN
import Derived.Laws.CopyRow
namespace Go.Proofs.YtfmfpckpldlahaaDoor
open Go.RowKit Go.Proofs.YtfmfpckpldlahaaDoor.Pure Go.Proofs.YtfmfpckpldlahaaDoor.PB Go.Proofs.YtfmfpckpldlahaaDoorW.PrintWords

theorem wst_getD (p : List UInt8) (k : Nat) : ∀ i, i < 16 → (wst p k).getD i 0 = BitVec.ofNat 64 (wd p i (min (k - 8 * i) 8)) := by
  induction k with
  | zero =>
    intro i hi
    have : min (0 - 8 * i) 8 = 0 := by omega
    rw [this, wst, wd, List.getD_eq_getElem?_getD, List.getElem?_replicate, if_pos hi]; rfl
  | succ k ih =>
    intro i hi
    rw [wst]
    by_cases he : k / 8 = i
    · have h1 : min (k - 8 * i) 8 = k % 8 := by omega
      have h2 : min (k + 1 - 8 * i) 8 = k % 8 + 1 := by omega
      have h3 : 8 * i + k % 8 = k := by omega
      have hlt := wd_small p i (k % 8) (Nat.mod_lt _ (by decide))
      have hc : (p.getD k 0).toNat ≤ 255 := Nat.le_of_lt_succ (UInt8.toNat_lt (p.getD k 0))
      rw [he, List.getD_eq_getElem?_getD, List.getElem?_set_self (by rw [wst_length]; exact hi), ih i hi, h1, h2, wd, h3]
      apply BitVec.eq_of_toNat_eq
      show (BitVec.ofNat 64 (wd p i (k % 8)) <<< 8 ||| BitVec.ofNat 64 (p.getD k 0).toNat).toNat = _
      have hp : (2 : Nat) ^ 64 = 18446744073709551616 := by decide +kernel
      rw [BitVec.toNat_or, BitVec.toNat_shiftLeft, BitVec.toNat_ofNat, BitVec.toNat_ofNat, BitVec.toNat_ofNat, hp]
      clear hp ih
      generalize wd p i (k % 8) = z at *
      generalize (p.getD k 0).toNat = c at *
      have e8 : z <<< 8 = z * 256 := by rw [Nat.shiftLeft_eq]
      have hz1 : z < 18446744073709551616 := Nat.lt_of_le_of_lt (Nat.le_trans (Nat.le_mul_of_pos_right z (by decide)) (Nat.le_add_right _ _)) hlt
      have hz3 : z * 256 < 18446744073709551616 := Nat.lt_of_le_of_lt (Nat.le_add_right _ _) hlt
      have hz4 : z * 256 + c < 18446744073709551616 := Nat.lt_of_le_of_lt (Nat.add_le_add_left hc _) hlt
      have hz : z % 18446744073709551616 = z := Nat.mod_eq_of_lt hz1
      have hcm : c % 18446744073709551616 = c := Nat.mod_eq_of_lt (Nat.lt_of_le_of_lt hc (by decide +kernel))
      have hz2 : z * 256 % 18446744073709551616 = z * 256 := Nat.mod_eq_of_lt hz3
      have hj : z * 256 ||| c = z * 256 + c := nat_join 8 (z * 256) c (Nat.mul_mod_left z 256) (Nat.lt_succ_of_le hc)
      have hs : (z * 256 + c) % 18446744073709551616 = z * 256 + c := Nat.mod_eq_of_lt hz4
      rw [hz, e8, hcm, hz2, hj, hs]
    · have h1 : min (k + 1 - 8 * i) 8 = min (k - 8 * i) 8 := by omega
      rw [List.getD_eq_getElem?_getD, List.getElem?_set_ne he, ← List.getD_eq_getElem?_getD, ih i hi, h1]

/-- The window ahead of round t. -/
def wn (p : List UInt8) : Nat → List W
  | 0 => wst p 128
  | t + 1 => nxt (wn p t) t
theorem wn_length (p : List UInt8) : ∀ t, (wn p t).length = 16
  | 0 => wst_length p _
  | t + 1 => by rw [wn, nxt_length, wn_length p t]
theorem sch_prefix (p : List UInt8) (n j : Nat) (hj : j < 16 + n) : ∀ d, (sch p (n + d)).getD j 0 = (sch p n).getD j 0
  | 0 => rfl
  | d + 1 => by
    rw [← Nat.add_assoc, sch, ext, List.getD_eq_getElem?_getD, List.getElem?_append_left (by rw [sch_length]; omega), ← List.getD_eq_getElem?_getD, sch_prefix p n j hj d]
theorem sch_next (p : List UInt8) (t : Nat) (h : 16 ≤ t) (ht : t < 80) : (sch p 64).getD t 0 = smallF ((sch p 64).getD (t - 2) 0) 19 61 6 + (sch p 64).getD (t - 7) 0 + smallF ((sch p 64).getD (t - 15) 0) 1 8 7 + (sch p 64).getD (t - 16) 0 := by
  obtain ⟨d, rfl⟩ : ∃ d, t = 16 + d := ⟨t - 16, by omega⟩
  obtain ⟨m, hm⟩ : ∃ m, 64 = d + 1 + m := ⟨64 - (d + 1), by omega⟩
  have e1 : ∀ j, j < 16 + d → (sch p 64).getD j 0 = (sch p d).getD j 0 := fun j hj => by rw [congrArg (sch p) hm, Nat.add_assoc]; exact sch_prefix p d j hj _
  rw [e1 (16 + d - 2) (by omega), e1 (16 + d - 7) (by omega), e1 (16 + d - 15) (by omega), e1 (16 + d - 16) (by omega)]
  have e2 : (sch p 64).getD (16 + d) 0 = (sch p (d + 1)).getD (16 + d) 0 := by rw [congrArg (sch p) hm]; exact sch_prefix p (d + 1) _ (by omega) _
  rw [e2, sch, ext, List.getD_eq_getElem?_getD, List.getElem?_append_right (by rw [sch_length]; omega), sch_length, Nat.sub_self]; rfl

theorem wn_getD (p : List UInt8) : ∀ t, t ≤ 80 → ∀ j, (j < 16 ∨ j < t) → t ≤ j + 16 → (wn p t).getD (j % 16) 0 = (sch p 64).getD j 0
  | 0, _, j, hj, _ => by
    have hj' : j < 16 := by omega
    rw [Nat.mod_eq_of_lt hj', wn, wst_getD p _ j hj']
    have e : (sch p 64).getD j 0 = (sch p 0).getD j 0 := by have := sch_prefix p 0 j hj' 64; rw [Nat.zero_add] at this; exact this
    rw [e, show min (128 - 8 * j) 8 = 8 by omega, sch, words0, List.getD_eq_getElem?_getD, List.getElem?_map, List.getElem?_range hj']; rfl
  | t + 1, ht, j, hj, hjt => by
    have ih := wn_getD p t (by omega)
    by_cases h16 : 16 ≤ t
    · rw [wn, nxt, if_pos h16]
      by_cases he : j = t
      · subst he
        rw [List.getD_eq_getElem?_getD, List.getElem?_set_self (by rw [wn_length]; exact Nat.mod_lt _ (by decide))]
        have a1 : (j + 14) % 16 = (j - 2) % 16 := by omega
        have a2 : (j + 9) % 16 = (j - 7) % 16 := by omega
        have a3 : (j + 1) % 16 = (j - 15) % 16 := by omega
        have a4 : j % 16 = (j - 16) % 16 := by omega
        rw [a1, a2, a3, a4, ih (j - 2) (by omega) (by omega), ih (j - 7) (by omega) (by omega), ih (j - 15) (by omega) (by omega), ih (j - 16) (by omega) (by omega), sch_next p j h16 (by omega), Option.getD_some, BitVec.add_comm]
      · have hne : t % 16 ≠ j % 16 := by omega
        rw [List.getD_eq_getElem?_getD, List.getElem?_set_ne hne, ← List.getD_eq_getElem?_getD]
        exact ih j (by omega) (by omega)
    · rw [wn, nxt, if_neg h16]
      exact ih j (by omega) (by omega)
/-- The word that round t takes. -/
theorem nxt_val (p : List UInt8) (t : Nat) (ht : t < 80) : (nxt (wn p t) t).getD (t % 16) 0 = (sch p 64).getD t 0 := wn_getD p (t + 1) (by omega) t (by omega) (by omega)

def xl (s : S8) : List W := [s.a, s.b, s.c, s.d, s.e, s.f, s.g, s.h]
def oneV (s : S8) (k w : W) : W := s.h + greatF s.e 14 18 41 + (s.g ^^^ (s.e &&& (s.f ^^^ s.g))) + k + w
def twoV (s : S8) : W := greatF s.a 28 34 39 + ((s.a &&& s.b) ||| ((s.a ||| s.b) &&& s.c))
theorem rnd_eq (s : S8) (k w : W) : xl (rnd s k w) = [oneV s k w + twoV s, s.a, s.b, s.c, s.d + oneV s k w, s.e, s.f, s.g] := by
  unfold xl rnd oneV twoV
  rw [ch_eq, maj_eq]
end Go.Proofs.YtfmfpckpldlahaaDoor
