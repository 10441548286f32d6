/- A contract of the reference's Strip for pad. -/
import Derived.Test.YtjnmpeehadgeoaaPadR
namespace Go.Proofs.Ytjnmpeehadgeoaa
open Go.RowKit

theorem head_zeros {l : List UInt8} (h : ∀ x ∈ l, x ≠ 0) (k : Nat) : headF (l ++ List.replicate k 0) = l := by
  unfold headF
  rw [List.takeWhile_append_of_pos (fun x hx => bne_iff_ne.2 (h x hx))]
  cases k with
  | zero => simp
  | succ k => rw [List.replicate_succ, List.takeWhile_cons]; simp

theorem pad_head {l b : List UInt8} {u : Int} (h : padF l u = b) (hb : b ≠ []) : okF l u = true ∧ headF b = l := by
  cases ho : okF l u with
  | false =>
    unfold padF at h; rw [ho] at h
    exact absurd h.symm hb
  | true =>
    refine ⟨rfl, ?_⟩
    unfold padF at h; rw [ho, if_pos rfl] at h
    rw [← h]
    unfold fillF
    refine head_zeros ?_ _
    simp only [okF, Bool.and_eq_true] at ho
    have := ho.1
    simp only [nameL, Bool.and_eq_true, decide_eq_true_eq, idx_neg_iff] at this
    exact this.1.2

theorem head_take (b : List UInt8) : headF b = b.take (headF b).length := by
  have h : headF b <+: b := List.takeWhile_prefix _
  exact List.prefix_iff_eq_take.1 h

def hitR (b : List UInt8) (j : Nat) : Bool := padF (b.take j) 16 == b || padF (b.take j) 32 == b

theorem hitR_strip {b : List UInt8} {j : Nat} (hb : b ≠ []) (h : hitR b j = true) : stripF b = b.take j ∧ stripOk b = true := by
  simp only [hitR, Bool.or_eq_true, beq_iff_eq] at h
  have key : ∀ u : Int, (u = 16 ∨ u = 32) → padF (b.take j) u = b → stripF b = b.take j ∧ stripOk b = true := by
    intro u hu e
    obtain ⟨h1, h2⟩ := pad_head e hb
    have h3 : hitF b u = true := by unfold hitF; rw [h2, h1, e]; simp
    obtain ⟨h4, h5⟩ := strip_hit hu h3
    exact ⟨h4.trans h2, h5⟩
  rcases h with h | h
  · exact key 16 (.inl rfl) h
  · exact key 32 (.inr rfl) h

theorem noR_strip {b : List UInt8} (h : ∀ j, 1 ≤ j → j ≤ b.length → j ≤ 96 → hitR b j = false) : stripF b = [] ∧ stripOk b = false := by
  have key : ∀ u : Int, (u = 16 ∨ u = 32) → hitF b u = false := by
    intro u hu
    cases hh : hitF b u with
    | false => rfl
    | true =>
      unfold hitF at hh
      rw [Bool.and_eq_true, beq_iff_eq] at hh
      obtain ⟨h1, h2⟩ := hh
      have h3 := h1
      simp only [okF, Bool.and_eq_true] at h3
      have h4 := nameL_len h3.1
      have h5 := h (headF b).length h4.1 (headF_len b) h4.2
      rw [hitR, ← head_take] at h5
      rcases hu with rfl | rfl <;> (rw [h2] at h5; simp at h5)
  exact strip_miss (key 16 (.inl rfl)) (key 32 (.inr rfl))

set_option maxHeartbeats 800000 in
theorem refStrip_any (b : List UInt8) (w : World) (hl : b.length ≤ 70368744177664) :
    Calls Try.prog 15 #[.string (str b)] w fun e w' => e = .returned (.tuple #[.string (str (stripF b)), .bool (stripOk b)]) ∧ w = w' := by
  have hsz := str_size b
  go_enter Try.func15, Try.ntmps15
  go_wp2
  go_loop [4, 5, 6, 7, 8] (fun i _ _ _ _ => ∃ k : Nat, 1 ≤ k ∧ k ≤ 97 ∧ i = .int .i64 (k : Int) ∧ Hid (∀ j, 1 ≤ j → j < k → hitR b j = false)) (fun i _ _ _ _ => (97 - intOf i).toNat)
  case atStart => exact ⟨1, by omega, by omega, by simp, fun j h1 h2 => by omega⟩
  case round =>
    obtain ⟨k, hk1, hk2, rfl, hall⟩ := hrel
    by_cases hlt : k ≤ b.length
    · by_cases h96 : k ≤ 96
      · have hex := str_extract b k
        have hzt : (b.take k).length ≤ 70368744177664 := by rw [List.length_take]; omega
        have hne : Hid (b ≠ []) := by intro h; subst h; simp at hlt; omega
        have hhit : Hid (hitR b k = (padF (b.take k) 16 == b || padF (b.take k) 32 == b)) := rfl
        have e1 : ((str (padF (b.take k) 16)).toList == (str b).toList) = (padF (b.take k) 16 == b) := by rw [str_toList, str_toList]
        have e2 : ((str (padF (b.take k) 32)).toList == (str b).toList) = (padF (b.take k) 32 == b) := by rw [str_toList, str_toList]
        cases c1 : (padF (b.take k) 16 == b) with
        | true =>
          rw [c1] at e1
          have hF := Lib.hid (hitR_strip (j := k) hne.out (by rw [hhit.out, c1]; rfl))
          clear c1 e2 hhit hall
          go_wp2_with (go_at_call 9; refine (refFill_any _ _ _ hzt).mono ?_; rintro e w' ⟨rfl, rfl⟩)
          go_ret2
          rw [hF.out.1, hF.out.2]
          exact ⟨rfl, rfl⟩
        | false =>
          rw [c1] at e1
          cases c2 : (padF (b.take k) 32 == b) with
          | true =>
            rw [c2] at e2
            have hF := Lib.hid (hitR_strip (j := k) hne.out (by rw [hhit.out, c2]; simp))
            clear c1 c2 hhit hall
            go_wp2_with (go_at_call 9; refine (refFill_any _ _ _ hzt).mono ?_; rintro e w' ⟨rfl, rfl⟩)
            go_ret2
            rw [hF.out.1, hF.out.2]
            exact ⟨rfl, rfl⟩
          | false =>
            rw [c2] at e2
            have hF : Hid (hitR b k = false) := by unfold Hid; rw [hhit.out, c1, c2]; rfl
            clear c1 c2 hhit
            go_wp2_with (go_at_call 9; refine (refFill_any _ _ _ hzt).mono ?_; rintro e w' ⟨rfl, rfl⟩)
            go_round
            case rel =>
              refine ⟨k + 1, by omega, by omega, by go_num, fun j h1 h2 => ?_⟩
              by_cases hj : j = k
              · subst hj; exact hF.out
              · exact hall.out j h1 (by omega)
            case measure => simp [intOf]; omega
      · have hF := Lib.hid (noR_strip fun j h1 h2 h3 => hall.out j h1 (by omega))
        clear hall
        go_wp2
        go_ret2
        rw [hF.out.1, hF.out.2]
        exact ⟨rfl, rfl⟩
    · have hF := Lib.hid (noR_strip fun j h1 h2 h3 => hall.out j h1 (by omega))
      clear hall
      go_wp2
      go_ret2
      rw [hF.out.1, hF.out.2]
      exact ⟨rfl, rfl⟩
end Go.Proofs.Ytjnmpeehadgeoaa
