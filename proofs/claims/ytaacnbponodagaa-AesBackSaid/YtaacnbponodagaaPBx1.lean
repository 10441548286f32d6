/- Printed by a program of this session (the kit's print with small changes of ours): each Go function named here as a plain function, and the proof that the code comes to its answers. No condition of its own. -/
import Derived.Test.YtaacnbponodagaaPBx0
namespace Go.Proofs.Ytaacnbponodagaa.PB
open Go.RowKit Go.Proofs.YtaacnbponodagaaW.PrintWords Go.Proofs.YtaacnbponodagaaW.PrintLast Go.Proofs.YtaacnbponodagaaW.PrintMore
attribute [local go_sem] max2_int min2_int max_two min_two max_three min_three max_four min_four   -- for this text's walks alone
set_option linter.unusedVariables false
set_option linter.unusedSimpArgs false

-- GIVEN: function 19 (turnkeyref07_S)

/-! ### turnkeyref07_times: function 20 -/
def turnkeyref07_times.l0 : Nat → Int → Int → Int → Int → Option (Int)
  | 0, _, _, _, _ => none
  | k + 1, x0, x1, x5, x6 => if x6 > 0 then (if (wrap64 (x5 * 2)) ≥ 256 then (if x6 = 0 then (none) else (if (Int.tmod (wrap64 (Int.tdiv x0 x6)) 2) = 1 then (turnkeyref07_times.l0 k x0 x1 (Go.bits .xor .i64 (Go.bits .xor .i64 (wrap64 (x5 * 2)) 283) x1) (wrap64 (Int.tdiv x6 2))) else (turnkeyref07_times.l0 k x0 x1 (Go.bits .xor .i64 (wrap64 (x5 * 2)) 283) (wrap64 (Int.tdiv x6 2))))) else (if x6 = 0 then (none) else (if (Int.tmod (wrap64 (Int.tdiv x0 x6)) 2) = 1 then (turnkeyref07_times.l0 k x0 x1 (Go.bits .xor .i64 (wrap64 (x5 * 2)) x1) (wrap64 (Int.tdiv x6 2))) else (turnkeyref07_times.l0 k x0 x1 (wrap64 (x5 * 2)) (wrap64 (Int.tdiv x6 2)))))) else (some x5)
def turnkeyref07_times.f (k : Nat) (a0 : Int) (a1 : Int) : Option (Int) := turnkeyref07_times.l0 k a0 a1 0 128
theorem turnkeyref07_times.mono_l : ∀ k, (∀ y0 y1 y2 y3, LeO (turnkeyref07_times.l0 k y0 y1 y2 y3) (turnkeyref07_times.l0 (k + 1) y0 y1 y2 y3))
  | 0 => fun _ _ _ _ r h => by simp [turnkeyref07_times.l0] at h
  | k + 1 => by
    have ih0 := turnkeyref07_times.mono_l k
    · intro y0 y1 y2 y3
      unfold turnkeyref07_times.l0
      repeat' first
      | (with_reducible exact ih0 _ _ _ _)
      | (with_reducible exact LeO.refl _)
      | (with_reducible exact LeO.none _)
      | (with_reducible refine LeO.ite ?_ ?_)
      | (with_reducible refine LeO.bind ?_ (fun _ => ?_))
      | exact ih0 _ _ _ _
      | exact LeO.none _
      | refine LeO.ite ?_ ?_
      | refine LeO.bind ?_ (fun _ => ?_)
theorem turnkeyref07_times.mono : ∀ a0 a1 k, LeO (turnkeyref07_times.f k a0 a1) (turnkeyref07_times.f (k + 1) a0 a1) := by
  intro a0 a1 k
  have ih0 := turnkeyref07_times.mono_l k
  unfold turnkeyref07_times.f
  repeat' first
      | (with_reducible exact ih0 _ _ _ _)
      | (with_reducible exact LeO.refl _)
      | (with_reducible exact LeO.none _)
      | (with_reducible refine LeO.ite ?_ ?_)
      | (with_reducible refine LeO.bind ?_ (fun _ => ?_))
      | exact ih0 _ _ _ _
      | exact LeO.none _
      | refine LeO.ite ?_ ?_
      | refine LeO.bind ?_ (fun _ => ?_)
set_option maxHeartbeats 8000000 in
set_option maxRecDepth 100000 in
theorem turnkeyref07_times.calls (k : Nat) (a0 : Int) (a1 : Int) (r : Int) (w : World) (h : turnkeyref07_times.f k a0 a1 = some r) :
    Calls Try.prog 20 #[.int .i64 a0, .int .i64 a1] w fun e w' => e = .returned (.int .i64 r) ∧ Drawn0 w w' := by
  have H : (turnkeyref07_times.l0 k a0 a1 0 128) = some r := h
  clear h
  have H' := Aside0.mk H
  clear H
  go_enter Try.func20, Try.ntmps20
  go_wp2
  go_loopg [5, 6] k (fun kq v5 v6 w' => ∃ (x5_1 : Int) (x6_1 : Int), v5 = .int .i64 x5_1 ∧ v6 = .int .i64 x6_1 ∧ Aside0 (turnkeyref07_times.l0 kq a0 a1 x5_1 x6_1 = some r) ∧ Aside0 (kq ≤ k) ∧ Drawn0 w w')
  case atStart => exact ⟨(0), (128), (by first | rfl | (simp; done) | (simp [*]; done)), (by first | rfl | (simp; done) | (simp [*]; done)), H', ⟨Nat.le_refl _⟩, by repeat (first | exact Drawn0.refl _ | apply Drawn0.step)⟩
  case round =>
    clear H'
    try clear c2
    try clear p2
    obtain ⟨x5_1, x6_1, rfl, rfl, HA, HK1, ⟨m1, rfl⟩⟩ := hrel
    cases gk with
    | zero => exact absurd HA.out (by simp [turnkeyref07_times.l0])
    | succ k1 =>
      have H := HA.out
      clear HA
      simp only [turnkeyref07_times.l0] at H
      by_cases c3 : x6_1 > 0
      · rw [if_pos c3] at H
        have c3b0 : decide (0 < x6_1) = true := decide_eq_true c3
        clear c3
        by_cases c4 : (wrap64 (x5_1 * 2)) ≥ 256
        · rw [if_pos c4] at H
          have c4b0 : decide (256 ≤ (wrap64 (x5_1 * 2))) = true := decide_eq_true c4
          clear c4
          by_cases c5 : x6_1 = 0
          · rw [if_pos c5] at H
            exact absurd H (by simp)
          · rw [if_neg c5] at H
            have c5b0 : (x6_1 == 0) = false := beq_eq_false_iff_ne.mpr c5
            have c5b1 : (x6_1 != 0) = true := bne_iff_ne.mpr c5
            by_cases c6 : (Int.tmod (wrap64 (Int.tdiv a0 x6_1)) 2) = 1
            · rw [if_pos c6] at H
              have c6b0 : ((Int.tmod (wrap64 (Int.tdiv a0 x6_1)) 2) == 1) = true := beq_iff_eq.mpr c6
              have c6b1 : ((Int.tmod (wrap64 (Int.tdiv a0 x6_1)) 2) != 1) = false := bne_eq_false_iff_eq.mpr c6
              clear c6
              have H' := Aside0.mk H
              clear H
              go_wp2
              go_roundg k1
              case measure => have := HK1.out; omega
              case rel => exact ⟨(Go.bits .xor .i64 (Go.bits .xor .i64 (wrap64 (x5_1 * 2)) 283) a1), (wrap64 (Int.tdiv x6_1 2)), (by first | rfl | (simp; done) | (simp [*]; done)), (by first | rfl | (simp; done) | (simp [*]; done)), H', ⟨by have := HK1.out; omega⟩, by repeat (first | exact Drawn0.refl _ | apply Drawn0.step)⟩
            · rw [if_neg c6] at H
              have c6b0 : ((Int.tmod (wrap64 (Int.tdiv a0 x6_1)) 2) == 1) = false := beq_eq_false_iff_ne.mpr c6
              have c6b1 : ((Int.tmod (wrap64 (Int.tdiv a0 x6_1)) 2) != 1) = true := bne_iff_ne.mpr c6
              have H' := Aside0.mk H
              clear H
              go_wp2
              go_roundg k1
              case measure => have := HK1.out; omega
              case rel => exact ⟨(Go.bits .xor .i64 (wrap64 (x5_1 * 2)) 283), (wrap64 (Int.tdiv x6_1 2)), (by first | rfl | (simp; done) | (simp [*]; done)), (by first | rfl | (simp; done) | (simp [*]; done)), H', ⟨by have := HK1.out; omega⟩, by repeat (first | exact Drawn0.refl _ | apply Drawn0.step)⟩
        · rw [if_neg c4] at H
          have c4b0 : decide (256 ≤ (wrap64 (x5_1 * 2))) = false := decide_eq_false c4
          clear c4
          by_cases c7 : x6_1 = 0
          · rw [if_pos c7] at H
            exact absurd H (by simp)
          · rw [if_neg c7] at H
            have c7b0 : (x6_1 == 0) = false := beq_eq_false_iff_ne.mpr c7
            have c7b1 : (x6_1 != 0) = true := bne_iff_ne.mpr c7
            by_cases c8 : (Int.tmod (wrap64 (Int.tdiv a0 x6_1)) 2) = 1
            · rw [if_pos c8] at H
              have c8b0 : ((Int.tmod (wrap64 (Int.tdiv a0 x6_1)) 2) == 1) = true := beq_iff_eq.mpr c8
              have c8b1 : ((Int.tmod (wrap64 (Int.tdiv a0 x6_1)) 2) != 1) = false := bne_eq_false_iff_eq.mpr c8
              clear c8
              have H' := Aside0.mk H
              clear H
              go_wp2
              go_roundg k1
              case measure => have := HK1.out; omega
              case rel => exact ⟨(Go.bits .xor .i64 (wrap64 (x5_1 * 2)) a1), (wrap64 (Int.tdiv x6_1 2)), (by first | rfl | (simp; done) | (simp [*]; done)), (by first | rfl | (simp; done) | (simp [*]; done)), H', ⟨by have := HK1.out; omega⟩, by repeat (first | exact Drawn0.refl _ | apply Drawn0.step)⟩
            · rw [if_neg c8] at H
              have c8b0 : ((Int.tmod (wrap64 (Int.tdiv a0 x6_1)) 2) == 1) = false := beq_eq_false_iff_ne.mpr c8
              have c8b1 : ((Int.tmod (wrap64 (Int.tdiv a0 x6_1)) 2) != 1) = true := bne_iff_ne.mpr c8
              have H' := Aside0.mk H
              clear H
              go_wp2
              go_roundg k1
              case measure => have := HK1.out; omega
              case rel => exact ⟨(wrap64 (x5_1 * 2)), (wrap64 (Int.tdiv x6_1 2)), (by first | rfl | (simp; done) | (simp [*]; done)), (by first | rfl | (simp; done) | (simp [*]; done)), H', ⟨by have := HK1.out; omega⟩, by repeat (first | exact Drawn0.refl _ | apply Drawn0.step)⟩
      · rw [if_neg c3] at H
        have c3b0 : decide (0 < x6_1) = false := decide_eq_false c3
        clear c3
        obtain rfl := Option.some.inj H
        go_wp2
        go_ret
        exact ⟨by first | rfl | (simp; done) | (simp [*]; done), by repeat (first | exact Drawn0.refl _ | apply Drawn0.step)⟩

end Go.Proofs.Ytaacnbponodagaa.PB
