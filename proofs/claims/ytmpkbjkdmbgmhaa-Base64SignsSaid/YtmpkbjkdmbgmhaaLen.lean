/- base64.Len. -/
import Derived.Test.YtmpkbjkdmbgmhaaDec
namespace Go.Proofs.Ytmpkbjkdmbgmhaa
open Go.RowKit

def lenF (n : Int) : Int := if n < 1 then 0 else n / 3 * 4 + (if n % 3 = 0 then 0 else n % 3 + 1)

set_option maxHeartbeats 800000 in
theorem len_any (n : Int) (w : World) (h2 : n ≤ 2305843009213693952) :
    Calls Try.prog 13 #[.int .i64 n] w fun e w' => e = .returned (.int .i64 (lenF n)) ∧ w = w' := by
  by_cases h1 : n < 1
  · have e : lenF n = 0 := by unfold lenF; rw [if_pos h1]
    rw [e]; clear e
    go_enter Try.func13, Try.ntmps13
    go_wp2
    go_ret
    exact ⟨rfl, rfl⟩
  · obtain ⟨q, hq⟩ : ∃ q : Nat, n = q := ⟨n.toNat, by omega⟩
    have hm : n % 3 = 0 ∨ n % 3 = 1 ∨ n % 3 = 2 := by omega
    rcases hm with hm | hm | hm
    all_goals
      have e : lenF n = n / 3 * 4 + (if n % 3 = 0 then 0 else n % 3 + 1) := by unfold lenF; rw [if_neg h1]
      rw [hm] at e
      try simp at e
      have HE := Lib.hid e
      clear e hq
      have ht : n.tmod 3 = n % 3 := by rw [Int.tmod_eq_emod_of_nonneg (by omega)]
      have hd : n.tdiv 3 = n / 3 := by rw [Int.tdiv_eq_ediv_of_nonneg (by omega)]
      go_enter Try.func13, Try.ntmps13
      go_wp2
      all_goals try go_ret
      all_goals refine ⟨ret_int ?_, rfl⟩
      all_goals rw [HE.out]
      all_goals try simp
      all_goals try omega
end Go.Proofs.Ytmpkbjkdmbgmhaa
