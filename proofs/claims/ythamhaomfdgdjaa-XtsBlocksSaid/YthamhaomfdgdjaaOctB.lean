/- Contracts of octets.Number, octets.Lay and of the reference's. -/
import Derived.Test.YthamhaomfdgdjaaOctA
import Derived.Test.YthamhaomfdgdjaaMake
import Derived.Test.YthamhaomfdgdjaaBits
import Derived.Laws.ShiftsVar
import Derived.Laws.ShiftsVarLaws
import Derived.Laws.BitsLemmas
namespace Go.Proofs.Ythamhaomfdgdjaa
open Go.RowKit

def numN (l : List UInt8) : Nat := l.foldl (fun n c => n * 256 + c.toNat) 0

theorem numN_snoc (l : List UInt8) (c : UInt8) : numN (l ++ [c]) = numN l * 256 + c.toNat := by simp [numN]

theorem rd_at {w : World} {b o : Nat} {xs : List UInt8} (hc : ∀ i, i < (xs.map bV).length → w.cell? ⟨b, o + i, none⟩ = (xs.map bV)[i]?) {k : Nat} (hk : k < xs.length) :
    w.cell? ⟨b, o + k, none⟩ = some (.int .u8 ((xs.getD k 0).toNat : Int)) := by
  rw [hc k (by simpa using hk), List.getElem?_map, List.getD_eq_getElem?_getD, List.getElem?_eq_getElem hk]; rfl

def layB (n : Int) (i : Nat) : UInt8 := UInt8.ofNat (n / 2 ^ (8 * i) % 256).toNat
def layK (n : Int) : Nat → List UInt8
  | 0 => []
  | k + 1 => layB n k :: layK n k
theorem layK_length (n : Int) (k : Nat) : (layK n k).length = k := by
  induction k with
  | zero => rfl
  | succ k ih => simp [layK, ih]
def sizeK (size : Int) : Nat := (max 0 (min size 8)).toNat
theorem layB_toNat (n : Int) (i : Nat) : ((layB n i).toNat : Int) = n / 2 ^ (8 * i) % 256 := by
  unfold layB
  rw [UInt8.toNat_ofNat_of_lt' (by have := Int.emod_lt_of_pos (n / 2 ^ (8 * i)) (show (0 : Int) < 256 by decide); have := Int.emod_nonneg (n / 2 ^ (8 * i)) (show (256 : Int) ≠ 0 by decide); simp [UInt8.size]; omega)]
  have := Int.emod_nonneg (n / 2 ^ (8 * i)) (show (256 : Int) ≠ 0 by decide)
  omega

theorem set_last (m : Nat) (z v : Value) (L : List Value) : (List.replicate (m + 1) z ++ L).set m v = List.replicate m z ++ v :: L := by
  rw [List.replicate_succ', List.append_assoc, List.set_append_right _ _ (by simp)]
  simp

set_option maxHeartbeats 400000 in
theorem lay_any (n size : Int) (w : World) :
    Calls Try.prog 20 #[.int .i64 n, .int .i64 size] w (GivesB (layK n (sizeK size)) w) := by
  go_enter Try.func20, Try.ntmps20
  go_upto_region 1 with (fail)
  go_cut [1] (fun s1 wx => s1 = .int .i64 (sizeK size : Int) ∧ w = wx)
  case first =>
    go_wp2
    all_goals
      go_meet
      case rel =>
        refine ⟨?_, rfl⟩
        congr 1
        unfold sizeK
        simp at *
        omega
  case rest =>
    obtain ⟨rfl, rfl⟩ := hcut
    have hK : sizeK size ≤ 8 := by unfold sizeK; omega
    generalize sizeK size = K at *
    have hmk := fun wx => run_make_rep TB wx .i64 .i64 K rfl (by omega) (by omega)
    have HM := Lib.hid (Blk.made w K (.int .u8 0) 5)
    go_wp2
    clear hmk
    go_loopw [13, 6] (fun i _ wr => ∃ k : Nat, k ≤ K ∧ i = .int .i64 k ∧ Hid (Blk wr w.heap.size 5 (List.replicate (K - k) (.int .u8 0) ++ (layK n k).map bV)) ∧ Below w.heap.size w wr) (fun i _ _ => K - (intOf i).toNat)
    case atStart => exact ⟨0, Nat.zero_le _, rfl, by unfold Hid; simpa [layK] using HM.out, (Below.refl _ w).alloc (Nat.le_refl _) _⟩
    case round =>
      obtain ⟨k, hk, rfl, hB, hbel⟩ := hrel
      by_cases hlt : k < K
      · have hcell : wr.cell? ⟨w.heap.size, K - 1 - k, none⟩ = some (.int .u8 0) := by
          rw [hB.out.cell, List.getElem?_append_left (by simp; omega), List.getElem?_replicate, if_pos (by omega)]
        have hfr := hB.out.frozen (K - 1 - k)
        have hnew : Hid (Blk (wr.setCell ⟨w.heap.size, K - 1 - k, none⟩ (.int .u8 (n / 2 ^ (8 * k) % 256))) w.heap.size 5 (List.replicate (K - (k + 1)) (.int .u8 0) ++ (layK n (k + 1)).map bV)) := by
          have h1 := hB.out.set (K - 1 - k) (.int .u8 (n / 2 ^ (8 * k) % 256))
          have e : K - k = (K - (k + 1)) + 1 := by omega
          rw [e, show K - 1 - k = K - (k + 1) by omega, set_last] at h1
          unfold Hid
          rw [show K - 1 - k = K - (k + 1) by omega]
          simpa [layK, bV, layB_toNat] using h1
        go_wp2
        go_roundw
        case rel => exact ⟨k + 1, by omega, by go_num, hnew, hbel.setCell (Nat.le_refl _) _⟩
        case measure => simp [intOf]; omega
      · have e : k = K := by omega
        subst e
        go_wp2
        go_ret
        refine ⟨_, rfl, ?_, hbel⟩
        rw [layK_length]
        have h1 := hB.out
        rw [Nat.sub_self, List.replicate_zero, List.nil_append] at h1
        exact h1.own (Nat.le_refl _) (by rw [List.length_map, layK_length]) (by unfold maxLen; omega)

theorem lay_mod (n : Int) (k : Nat) (hk : k < 8) : n % 18446744073709551616 / 2 ^ (8 * k) % 256 = n / 2 ^ (8 * k) % 256 := by
  rcases (show k = 0 ∨ k = 1 ∨ k = 2 ∨ k = 3 ∨ k = 4 ∨ k = 5 ∨ k = 6 ∨ k = 7 by omega) with rfl | rfl | rfl | rfl | rfl | rfl | rfl | rfl <;> simp only [Nat.mul_zero, Nat.reduceMul, Int.reducePow] <;> omega

theorem lay_step (u : Int) (k : Nat) : u / 2 ^ (8 * k) / 256 = u / 2 ^ (8 * (k + 1)) := by
  rw [Int.ediv_ediv_of_nonneg (Int.pow_nonneg (by decide))]
  congr 1
  rw [show 8 * (k + 1) = 8 * k + 8 by omega, Int.pow_add]
  rfl

theorem lay_bd (u : Int) (h0 : 0 ≤ u) (h1 : u < 18446744073709551616) (k : Nat) : 0 ≤ u / 2 ^ (8 * k) ∧ u / 2 ^ (8 * k) < 18446744073709551616 := by
  have hp : (0 : Int) < 2 ^ (8 * k) := Int.pow_pos (by decide)
  exact ⟨Int.ediv_nonneg h0 (Int.le_of_lt hp), Int.lt_of_le_of_lt (Int.ediv_le_self _ h0) h1⟩

theorem own_lit1 (w : World) (B : Nat) (e : TypeId) (v : Value) (hB : B ≤ w.heap.size) : (w.alloc (.cells #[v] e)).ownsRow B e 1 (.slice (some ⟨w.heap.size, 0, none⟩) 1 1) 1 [v] :=
  World.ownsRow_lit (base := B) (e := e) (size := 1) w #[v] 1 hB (by unfold maxLen; omega) rfl

end Go.Proofs.Ythamhaomfdgdjaa
