/- The walk of PadNames. -/
import Derived.Test.YtjnmpeehadgeoaaPadW
namespace Go.Proofs.Ytjnmpeehadgeoaa
open Go.RowKit

theorem code_ok (l : List UInt8) (u : Int) : (okF l u = true ∧ codeF l u = 0) ∨ (okF l u = false ∧ codeF l u = 2) := by
  unfold codeF
  cases okF l u <;> simp

theorem pad_len (l : List UInt8) (u : Int) (h : l.length ≤ 300) : (padF l u).length ≤ 400 := by
  unfold padF
  split
  · rename_i ho
    have := ok_size ho
    rw [fillF_length]; omega
  · simp

set_option maxHeartbeats 1600000 in
theorem padNames_walk (s : ByteArray) (u m : Int) (w : World) :
    Calls Try.prog 3 #[.string s, .int .i64 u, .int .i64 m] w fun e w' => e = .returned (.bool true) ∧ Below w.heap.size w w' := by
  obtain ⟨l, rfl⟩ : ∃ l, s = str l := ⟨_, (str_of s).symm⟩
  have hsz := str_size l
  have hb := Below.refl w.heap.size w
  by_cases h300 : 300 < l.length
  · go_enter Try.func3, Try.ntmps3
    go_wp2_with (go_at_call 7; refine (awake_acc w _ hb).mono ?_; clear hb; rintro e w1 ⟨rfl, hb⟩)
    go_ret
    exact ⟨rfl, hb⟩
  · have hrn := refName_eq l
    have HP := Lib.hid (pad_len l u (by omega))
    rcases code_ok l u with ⟨ho, hc⟩ | ⟨ho, hc⟩
    · have hu : u = 16 ∨ u = 32 := by simp only [okF, Bool.and_eq_true, Bool.or_eq_true, beq_iff_eq] at ho; exact ho.2
      obtain ⟨hs1, hs2⟩ := strip_pad l u hu ho
      clear hu
      go_enter Try.func3, Try.ntmps3
      go_wp2_with (first | (go_at_call 7; refine (awake_acc w _ hb).mono ?_; clear hb; rintro e w1 ⟨rfl, hb⟩) | (go_at_call 8; refine (padFill_any (str l) u _ (by omega)).mono ?_; rintro e w1 ⟨v, rfl, hown, hbel⟩; rw [str_data] at hown; simp only [str_data, hc]; obtain ⟨A1, n1, rfl, _, _, hrd, _⟩ := own_rd hown; replace hb := hb.trans (hbel.mono hb.size); have hst := run_str w1 (P := Try.prog) (c := n1) Try.underlying23 Try.underlying5 hrd rfl Try.underlying9; have HR := Lib.hid hrd; clear hrd hown hbel) | (go_at_call 9; refine (refFill_any l u _ (by omega)).mono ?_; rintro e w' ⟨rfl, rfl⟩; rw [ho]) | (go_at_call 10; refine (name_any _ _).mono ?_; rintro e w' ⟨rfl, rfl⟩; rw [str_data]) | (go_at_call 11; refine (refName_any _ _ (by omega)).mono ?_; rintro e w' ⟨rfl, rfl⟩) | (go_at_call 12; refine (size_any _ _ _).mono ?_; rintro e w' ⟨rfl, rfl⟩) | (go_at_call 13; refine (refSize_any _ _ _).mono ?_; rintro e w' ⟨rfl, rfl⟩) | (go_at_call 14; refine (strip_any _ _ _ (padF l u) _ rfl HR.out (by have := HP.out; omega)).mono ?_; rintro e w2 ⟨rfl, hbel2⟩; replace hb := hb.trans (hbel2.mono hb.size); clear hbel2))
      go_ret
      exact ⟨rfl, hb⟩
    · have hp : padF l u = [] := by unfold padF; rw [ho]; rfl
      have hs2 : stripOk (padF l u) = false := by rw [hp]; decide +kernel
      clear hp
      go_enter Try.func3, Try.ntmps3
      go_wp2_with (first | (go_at_call 7; refine (awake_acc w _ hb).mono ?_; clear hb; rintro e w1 ⟨rfl, hb⟩) | (go_at_call 8; refine (padFill_any (str l) u _ (by omega)).mono ?_; rintro e w1 ⟨v, rfl, hown, hbel⟩; rw [str_data] at hown; simp only [str_data, hc]; obtain ⟨A1, n1, rfl, _, _, hrd, _⟩ := own_rd hown; replace hb := hb.trans (hbel.mono hb.size); have hst := run_str w1 (P := Try.prog) (c := n1) Try.underlying23 Try.underlying5 hrd rfl Try.underlying9; have HR := Lib.hid hrd; clear hrd hown hbel) | (go_at_call 9; refine (refFill_any l u _ (by omega)).mono ?_; rintro e w' ⟨rfl, rfl⟩; rw [ho]) | (go_at_call 10; refine (name_any _ _).mono ?_; rintro e w' ⟨rfl, rfl⟩; rw [str_data]) | (go_at_call 11; refine (refName_any _ _ (by omega)).mono ?_; rintro e w' ⟨rfl, rfl⟩) | (go_at_call 12; refine (size_any _ _ _).mono ?_; rintro e w' ⟨rfl, rfl⟩) | (go_at_call 13; refine (refSize_any _ _ _).mono ?_; rintro e w' ⟨rfl, rfl⟩) | (go_at_call 14; refine (strip_any _ _ _ (padF l u) _ rfl HR.out (by have := HP.out; omega)).mono ?_; rintro e w2 ⟨rfl, hbel2⟩; replace hb := hb.trans (hbel2.mono hb.size); clear hbel2))
      go_ret
      exact ⟨rfl, hb⟩
end Go.Proofs.Ytjnmpeehadgeoaa
