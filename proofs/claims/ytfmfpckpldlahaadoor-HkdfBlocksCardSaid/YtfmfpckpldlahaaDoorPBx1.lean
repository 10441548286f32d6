/- Printed by a program of this session (the kit's print with small changes of ours): each Go function named here as a plain function, and the proof that the code comes to its answers. No condition of its own. -/
import Derived.Test.YtfmfpckpldlahaaDoorPBx0
namespace Go.Proofs.YtfmfpckpldlahaaDoor.PB
open Go.RowKit Go.Proofs.YtfmfpckpldlahaaDoorW.PrintWords Go.Proofs.YtfmfpckpldlahaaDoorW.PrintLast Go.Proofs.YtfmfpckpldlahaaDoorW.PrintMore
attribute [local go_sem] max2_int min2_int max_two min_two max_three min_three max_four min_four   -- for this text's walks alone
set_option linter.unusedVariables false
set_option linter.unusedSimpArgs false

/-! ### turnkeyref04_Fill: function 21 -/
mutual
def turnkeyref04_Fill.j0 : Nat → Int → Option (List Int)
  | 0, _ => none
  | k + 1, x0 => turnkeyref04_Fill.l0 k x0 (([128] : List Int))
def turnkeyref04_Fill.l0 : Nat → Int → List Int → Option (List Int)
  | 0, _, _ => none
  | k + 1, x0, x3 => if (Int.tmod (wrap64 (x0 + (x3.length : Int))) 128) = 112 then (turnkeyref04_Fill.l1 k x3 (IntKind.u64.wrap (Int.tdiv (IntKind.u64.wrap (x0)) 2305843009213693952)) (IntKind.u64.wrap ((IntKind.u64.wrap (x0)) * 8)) 7) else (if x3.length < 140737488355328 then (turnkeyref04_Fill.l0 k x0 (x3 ++ [0])) else (none))
def turnkeyref04_Fill.l1 : Nat → List Int → Int → Int → Int → Option (List Int)
  | 0, _, _, _, _ => none
  | k + 1, x3, x4, x5, x6 => if x6 ≥ 0 then (if 0 ≤ (wrap64 (8 * x6)) then (if x3.length < 140737488355328 then (turnkeyref04_Fill.l1 k (x3 ++ [(shr .u64 x4 (wrap64 (8 * x6))) % 256]) x4 x5 (wrap64 (x6 - 1))) else (none)) else (none)) else (turnkeyref04_Fill.l2 k x3 x5 7)
def turnkeyref04_Fill.l2 : Nat → List Int → Int → Int → Option (List Int)
  | 0, _, _, _ => none
  | k + 1, x3, x5, x7 => if x7 ≥ 0 then (if 0 ≤ (wrap64 (8 * x7)) then (if x3.length < 140737488355328 then (turnkeyref04_Fill.l2 k (x3 ++ [(shr .u64 x5 (wrap64 (8 * x7))) % 256]) x5 (wrap64 (x7 - 1))) else (none)) else (none)) else (some x3)
end
def turnkeyref04_Fill.f (k : Nat) (a0 : Int) : Option (List Int) := if a0 < 0 then (turnkeyref04_Fill.j0 k 0) else (turnkeyref04_Fill.j0 k a0)
theorem turnkeyref04_Fill.mono_l : ∀ k, (∀ y0, LeO (turnkeyref04_Fill.j0 k y0) (turnkeyref04_Fill.j0 (k + 1) y0)) ∧ (∀ y0 y1, LeO (turnkeyref04_Fill.l0 k y0 y1) (turnkeyref04_Fill.l0 (k + 1) y0 y1)) ∧ (∀ y0 y1 y2 y3, LeO (turnkeyref04_Fill.l1 k y0 y1 y2 y3) (turnkeyref04_Fill.l1 (k + 1) y0 y1 y2 y3)) ∧ (∀ y0 y1 y2, LeO (turnkeyref04_Fill.l2 k y0 y1 y2) (turnkeyref04_Fill.l2 (k + 1) y0 y1 y2))
  | 0 => ⟨fun _ r h => by simp [turnkeyref04_Fill.j0] at h, fun _ _ r h => by simp [turnkeyref04_Fill.l0] at h, fun _ _ _ _ r h => by simp [turnkeyref04_Fill.l1] at h, fun _ _ _ r h => by simp [turnkeyref04_Fill.l2] at h⟩
  | k + 1 => by
    obtain ⟨ih0, ih1, ih2, ih3⟩ := turnkeyref04_Fill.mono_l k
    refine ⟨?_, ?_, ?_, ?_⟩
    · intro y0
      unfold turnkeyref04_Fill.j0
      repeat' first
      | (with_reducible exact ih0 _)
      | (with_reducible exact ih1 _ _)
      | (with_reducible exact ih2 _ _ _ _)
      | (with_reducible exact ih3 _ _ _)
      | (with_reducible exact LeO.refl _)
      | (with_reducible exact LeO.none _)
      | (with_reducible refine LeO.ite ?_ ?_)
      | (with_reducible refine LeO.bind ?_ (fun _ => ?_))
      | exact ih0 _
      | exact ih1 _ _
      | exact ih2 _ _ _ _
      | exact ih3 _ _ _
      | exact LeO.none _
      | refine LeO.ite ?_ ?_
      | refine LeO.bind ?_ (fun _ => ?_)
    · intro y0 y1
      unfold turnkeyref04_Fill.l0
      repeat' first
      | (with_reducible exact ih0 _)
      | (with_reducible exact ih1 _ _)
      | (with_reducible exact ih2 _ _ _ _)
      | (with_reducible exact ih3 _ _ _)
      | (with_reducible exact LeO.refl _)
      | (with_reducible exact LeO.none _)
      | (with_reducible refine LeO.ite ?_ ?_)
      | (with_reducible refine LeO.bind ?_ (fun _ => ?_))
      | exact ih0 _
      | exact ih1 _ _
      | exact ih2 _ _ _ _
      | exact ih3 _ _ _
      | exact LeO.none _
      | refine LeO.ite ?_ ?_
      | refine LeO.bind ?_ (fun _ => ?_)
    · intro y0 y1 y2 y3
      unfold turnkeyref04_Fill.l1
      repeat' first
      | (with_reducible exact ih0 _)
      | (with_reducible exact ih1 _ _)
      | (with_reducible exact ih2 _ _ _ _)
      | (with_reducible exact ih3 _ _ _)
      | (with_reducible exact LeO.refl _)
      | (with_reducible exact LeO.none _)
      | (with_reducible refine LeO.ite ?_ ?_)
      | (with_reducible refine LeO.bind ?_ (fun _ => ?_))
      | exact ih0 _
      | exact ih1 _ _
      | exact ih2 _ _ _ _
      | exact ih3 _ _ _
      | exact LeO.none _
      | refine LeO.ite ?_ ?_
      | refine LeO.bind ?_ (fun _ => ?_)
    · intro y0 y1 y2
      unfold turnkeyref04_Fill.l2
      repeat' first
      | (with_reducible exact ih0 _)
      | (with_reducible exact ih1 _ _)
      | (with_reducible exact ih2 _ _ _ _)
      | (with_reducible exact ih3 _ _ _)
      | (with_reducible exact LeO.refl _)
      | (with_reducible exact LeO.none _)
      | (with_reducible refine LeO.ite ?_ ?_)
      | (with_reducible refine LeO.bind ?_ (fun _ => ?_))
      | exact ih0 _
      | exact ih1 _ _
      | exact ih2 _ _ _ _
      | exact ih3 _ _ _
      | exact LeO.none _
      | refine LeO.ite ?_ ?_
      | refine LeO.bind ?_ (fun _ => ?_)
theorem turnkeyref04_Fill.mono : ∀ a0 k, LeO (turnkeyref04_Fill.f k a0) (turnkeyref04_Fill.f (k + 1) a0) := by
  intro a0 k
  obtain ⟨ih0, ih1, ih2, ih3⟩ := turnkeyref04_Fill.mono_l k
  unfold turnkeyref04_Fill.f
  repeat' first
      | (with_reducible exact ih0 _)
      | (with_reducible exact ih1 _ _)
      | (with_reducible exact ih2 _ _ _ _)
      | (with_reducible exact ih3 _ _ _)
      | (with_reducible exact LeO.refl _)
      | (with_reducible exact LeO.none _)
      | (with_reducible refine LeO.ite ?_ ?_)
      | (with_reducible refine LeO.bind ?_ (fun _ => ?_))
      | exact ih0 _
      | exact ih1 _ _
      | exact ih2 _ _ _ _
      | exact ih3 _ _ _
      | exact LeO.none _
      | refine LeO.ite ?_ ?_
      | refine LeO.bind ?_ (fun _ => ?_)
set_option maxHeartbeats 8000000 in
set_option maxRecDepth 100000 in
theorem turnkeyref04_Fill.calls (k : Nat) (a0 : Int) (r : List Int) (w : World) (h : turnkeyref04_Fill.f k a0 = some r) :
    Calls Tryd.prog 21 #[.int .i64 a0] w fun e w' => ∃ v0_ : Value, e = .returned (v0_) ∧ Kd.R (Kd.int .u8) 5 w' w.heap.size (fun _ => True) v0_ r ∧ Below w.heap.size w w' := by
  have HB := Aside0.mk (Below.refl w.heap.size w)
  have H : (if a0 < 0 then (turnkeyref04_Fill.j0 k 0) else (turnkeyref04_Fill.j0 k a0)) = some r := h
  clear h
  have HC2 := Aside0.mk H
  clear H
  go_enter Tryd.func21, Tryd.ntmps21
  go_upto_if 9 with (fail)
  go_cut [0] (fun v0 wc => ∃ (kq : Nat) (x0_1 : Int), v0 = .int .i64 x0_1 ∧ Aside0 (turnkeyref04_Fill.j0 kq x0_1 = some r) ∧ Aside0 (kq ≤ k) ∧ Aside0 (Below w.heap.size w wc))
  case first =>
    have H := HC2.out
    clear HC2
    by_cases c3 : a0 < 0
    · rw [if_pos c3] at H
      have c3b0 : decide (a0 < 0) = true := decide_eq_true c3
      clear c3
      (first | rw [c3b0] | (simp only [i64_w, i32_w]; rw [c3b0]) | skip)
      have H' := Aside0.mk H
      clear H
      go_wp2
      go_meet
      case rel => exact ⟨_, (0), (by first | rfl | (simp; done) | (simp [*]; done)), H', ⟨by first | omega | exact Nat.le_refl _⟩, ⟨by repeat (first | (with_reducible first | exact HB.out | apply below_alloc | apply pw_below_drewN | apply below_drew1) | exact HB.out)⟩⟩
    · rw [if_neg c3] at H
      have c3b0 : decide (a0 < 0) = false := decide_eq_false c3
      clear c3
      (first | rw [c3b0] | (simp only [i64_w, i32_w]; rw [c3b0]) | skip)
      have H' := Aside0.mk H
      clear H
      go_wp2
      go_meet
      case rel => exact ⟨_, (a0), (by first | rfl | (simp; done) | (simp [*]; done)), H', ⟨by first | omega | exact Nat.le_refl _⟩, ⟨by repeat (first | (with_reducible first | exact HB.out | apply below_alloc | apply pw_below_drewN | apply below_drew1) | exact HB.out)⟩⟩
  case rest =>
    clear HC2
    try clear c2
    try clear p2
    try clear c3
    try clear c3b0
    obtain ⟨kq, x0_1, rfl, HA, HJ1, HB⟩ := hcut
    cases kq with
    | zero => exact absurd HA.out (by simp [turnkeyref04_Fill.j0])
    | succ kj1 =>
      have H := HA.out
      clear HA
      simp only [turnkeyref04_Fill.j0] at H
      obtain ⟨y101, hy101⟩ : ∃ y_ : List Int, y_ = (([128] : List Int)) := ⟨_, rfl⟩
      replace H : (turnkeyref04_Fill.l0 kj1 x0_1 y101) = some r := by first | (rw [hy101]; with_reducible exact H) | (have H2_ := (Option.bind_some _ _).symm.trans H; rw [hy101]; with_reducible exact H2_) | (have H2_ := (Option.bind_some _ _).symm.trans H; with_reducible exact H2_) | with_reducible exact H | (rw [hy101]; exact H) | exact H
      have Ny101 := Aside0.mk hy101
      clear hy101
      have H' := Aside0.mk H
      clear H
      go_wp2_with (first | ((with_reducible refine gate_dst (N := 10) rfl ?_); refine Kd.R_lit (Kd.int .u8) _ 5 ?hg (N := 10) ?hd (xs := ([128] : List Int)) (inner := [.int .u8 128]) (ok := fun _ => True) (okp := fun _ => True) ?hr ?hp (fun _ hk => hk) trivial (Below.refl _ _) (Nat.le_refl _) (by simp) ?_; (case hd => rfl); (case hg => rfl); (case hr => first | (go_simp; done) | (go_simp; rfl)); (case hp => exact (Reps.one (show Kd.M (Kd.int .u8) _ _ _ 128 [.int .u8 128] from rfl) (Reps.none _ _))); intro v102 w4 ho5 hb hg_ hnew_; clear hg_ hnew_; (first | rw [← Ny101.out] at ho5 | (simp only [Int.reduceToNat] at ho5; rw [← Ny101.out] at ho5)); have n0_ := Aside0.mk (Kd.R_lower ho5 (below_size (by repeat (first | (with_reducible first | exact HB.out | apply below_alloc | apply pw_below_drewN | apply below_drew1) | exact HB.out)))); have n1_ := Aside0.mk (below_step (by repeat (first | (with_reducible first | exact HB.out | apply below_alloc | apply pw_below_drewN | apply below_drew1) | exact HB.out)) hb); clear HB; have HO103 := n0_; have HB := n1_; clear n0_ n1_; clear hb ho5))
      go_loopg [3] kj1 (fun kq v3 w' => ∃ (x3_2 : List Int), Aside0 (turnkeyref04_Fill.l0 kq x0_1 x3_2 = some r) ∧ Aside0 (kq ≤ kj1) ∧ Aside0 (Kd.R (Kd.int .u8) 5 w' w.heap.size (fun _ => True) v3 x3_2) ∧ Aside0 (Below w.heap.size w w'))
      case atStart => exact ⟨(y101), H', ⟨Nat.le_refl _⟩, ⟨by (with_reducible repeat (first | apply Kd.R_alloc | apply Kd.R_drewN | apply Kd.R_drew)); exact HO103.out⟩, ⟨by repeat (first | (with_reducible first | exact HB.out | apply below_alloc | apply pw_below_drewN | apply below_drew1) | exact HB.out)⟩⟩
      case round =>
        clear H'
        try clear c2
        try clear p2
        try clear c3
        try clear c3b0
        try clear p2
        obtain ⟨x3_2, HA, HK2, HO_3, HB⟩ := hrel
        cases gk with
        | zero => exact absurd HA.out (by simp [turnkeyref04_Fill.l0])
        | succ k2 =>
          have H := HA.out
          clear HA
          simp only [turnkeyref04_Fill.l0] at H
          by_cases c6 : (Int.tmod (wrap64 (x0_1 + (x3_2.length : Int))) 128) = 112
          · rw [if_pos c6] at H
            have c6b0 : ((Int.tmod (wrap64 (x0_1 + (x3_2.length : Int))) 128) == 112) = true := beq_iff_eq.mpr c6
            have c6b1 : ((Int.tmod (wrap64 (x0_1 + (x3_2.length : Int))) 128) != 112) = false := bne_eq_false_iff_eq.mpr c6
            clear c6
            have H' := Aside0.mk H
            clear H
            obtain ⟨Ao7, co7, eo7⟩ := Kd.R_slice HO_3.out
            subst eo7
            go_wp2
            go_loopg [3, 6] k2 (fun kq v3 v6 w' => ∃ (x3_3 : List Int) (x6_3 : Int), v6 = .int .i64 x6_3 ∧ Aside0 (turnkeyref04_Fill.l1 kq x3_3 (IntKind.u64.wrap (Int.tdiv (IntKind.u64.wrap (x0_1)) 2305843009213693952)) (IntKind.u64.wrap ((IntKind.u64.wrap (x0_1)) * 8)) x6_3 = some r) ∧ Aside0 (kq ≤ k2) ∧ Aside0 (Kd.R (Kd.int .u8) 5 w' w.heap.size (fun _ => True) v3 x3_3) ∧ Aside0 (Below w.heap.size w w'))
            case atStart => exact ⟨(x3_2), (7), (by first | rfl | (simp; done) | (simp [*]; done)), H', ⟨Nat.le_refl _⟩, ⟨by (with_reducible repeat (first | apply Kd.R_alloc | apply Kd.R_drewN | apply Kd.R_drew)); exact HO_3.out⟩, ⟨by repeat (first | (with_reducible first | exact HB.out | apply below_alloc | apply pw_below_drewN | apply below_drew1) | exact HB.out)⟩⟩
            case round =>
              clear H'
              try clear c2
              try clear p2
              try clear c3
              try clear c3b0
              try clear c6
              try clear c6b0
              try clear c6b1
              try clear p6
              try clear p2
              obtain ⟨x3_3, x6_3, rfl, HA, HK3, HO_3, HB⟩ := hrel
              cases gk with
              | zero => exact absurd HA.out (by simp [turnkeyref04_Fill.l1])
              | succ k3 =>
                have H := HA.out
                clear HA
                simp only [turnkeyref04_Fill.l1] at H
                by_cases c8 : x6_3 ≥ 0
                · rw [if_pos c8] at H
                  have c8b0 : decide (0 ≤ x6_3) = true := decide_eq_true c8
                  clear c8
                  obtain ⟨ji9, hji9⟩ : ∃ j_ : Int, (wrap64 (8 * x6_3)) = j_ := ⟨_, rfl⟩
                  replace H : (if 0 ≤ (ji9) then (if x3_3.length < 140737488355328 then (turnkeyref04_Fill.l1 k3 (x3_3 ++ [(shr .u64 (IntKind.u64.wrap (Int.tdiv (IntKind.u64.wrap (x0_1)) 2305843009213693952)) (ji9)) % 256]) (IntKind.u64.wrap (Int.tdiv (IntKind.u64.wrap (x0_1)) 2305843009213693952)) (IntKind.u64.wrap ((IntKind.u64.wrap (x0_1)) * 8)) (wrap64 (x6_3 - 1))) else (none)) else (none)) = some r := by first | (rw [hji9] at H; exact H) | (simp only [hji9] at H ⊢; exact H)
                  have hji9w : (IntKind.i64.wrap (8 * x6_3)) = ji9 := (i64_w _).trans hji9
                  by_cases c10 : 0 ≤ (ji9)
                  · rw [if_pos c10] at H
                    have c10b0 := eq_true c10
                    have c10b1 : decide (0 ≤ (ji9)) = true := decide_eq_true c10
                    clear c10
                    obtain ⟨ji11, hji11⟩ : ∃ j_ : Int, (shr .u64 (IntKind.u64.wrap (Int.tdiv (IntKind.u64.wrap (x0_1)) 2305843009213693952)) (ji9)) = j_ := ⟨_, rfl⟩
                    replace H : (if x3_3.length < 140737488355328 then (turnkeyref04_Fill.l1 k3 (x3_3 ++ [(ji11) % 256]) (IntKind.u64.wrap (Int.tdiv (IntKind.u64.wrap (x0_1)) 2305843009213693952)) (IntKind.u64.wrap ((IntKind.u64.wrap (x0_1)) * 8)) (wrap64 (x6_3 - 1))) else (none)) = some r := by first | (rw [hji11] at H; exact H) | (simp only [hji11] at H ⊢; exact H)
                    have hji11_ : ((IntKind.u64.wrap (Int.tdiv (IntKind.u64.wrap (x0_1)) 2305843009213693952)) / 2 ^ min (ji9).toNat 64) = ji11 := hji11
                    have hji11z : (ji9) ≤ 64 → ((IntKind.u64.wrap (Int.tdiv (IntKind.u64.wrap (x0_1)) 2305843009213693952)) / 2 ^ (ji9).toNat) = ji11 := shr_small hji11
                    by_cases c12 : x3_3.length < 140737488355328
                    · rw [if_pos c12] at H
                      have LMc12 := Aside0.mk c12
                      clear c12
                      obtain ⟨y107, hy107⟩ : ∃ y_ : List Int, y_ = (x3_3 ++ [(ji11) % 256]) := ⟨_, rfl⟩
                      replace H : (turnkeyref04_Fill.l1 k3 y107 (IntKind.u64.wrap (Int.tdiv (IntKind.u64.wrap (x0_1)) 2305843009213693952)) (IntKind.u64.wrap ((IntKind.u64.wrap (x0_1)) * 8)) (wrap64 (x6_3 - 1))) = some r := by first | (rw [hy107]; with_reducible exact H) | (have H2_ := (Option.bind_some _ _).symm.trans H; rw [hy107]; with_reducible exact H2_) | (have H2_ := (Option.bind_some _ _).symm.trans H; with_reducible exact H2_) | with_reducible exact H | (rw [hy107]; exact H) | exact H
                      have Ny107 := Aside0.mk hy107
                      clear hy107
                      have H' := Aside0.mk H
                      clear H
                      go_wp2_with (first | ((with_reducible refine gate_builtin (b := .append) (xs := #[.tmp 30, .tmp 36]) rfl ?_); at_builtin; refine Kd.R_append (Kd.int .u8) (w0 := w) w.heap.size rfl (.tmp 30) (.tmp 36) 22 5 (.int .u8 0) 1 rfl Tryd.underlying22 info5 rfl (by decide) (by omega) u3 x3_3 ((ji11) % 256) [.int .u8 ((ji11) % 256)] (fun _ => True) (fun _ => False) rfl rfl ?aP (fun _ hk => hk.elim) ?aF ?aO ?aB ?aS ?aL ?_; (case aP => exact rfl); (case aB => exact (by repeat (first | (with_reducible first | exact HB.out | apply below_alloc | apply pw_below_drewN | apply below_drew1) | exact HB.out))); (case aF => exact (fun _ _ => trivial)); (case aO => exact (by (with_reducible repeat (first | apply Kd.R_alloc | apply Kd.R_drewN | apply Kd.R_drew)); exact HO_3.out)); (case aS => exact (below_size (by repeat (first | (with_reducible first | exact HB.out | apply below_alloc | apply pw_below_drewN | apply below_drew1) | exact HB.out)))); (case aL => have := LMc12.out; omega); intro v108 w13 ho hb hg hat; rw [← Ny107.out] at ho; have n0_ := Aside0.mk (hb); have n1_ := Aside0.mk (ho); clear HB; clear HO_3; have HB := n0_; have HO109 := n1_; clear n0_ n1_; clear ho hb hg hat))
                      go_roundg k3
                      case measure => have := HJ1.out; have := HK2.out; have := HK3.out; omega
                      case rel => exact ⟨(y107), (wrap64 (x6_3 - 1)), (by first | rfl | (simp; done) | (simp [*]; done)), H', ⟨by have := HJ1.out; have := HK2.out; have := HK3.out; omega⟩, ⟨by (with_reducible repeat (first | apply Kd.R_alloc | apply Kd.R_drewN | apply Kd.R_drew)); exact HO109.out⟩, ⟨by repeat (first | (with_reducible first | exact HB.out | apply below_alloc | apply pw_below_drewN | apply below_drew1) | exact HB.out)⟩⟩
                    · rw [if_neg c12] at H
                      exact absurd H (by simp)
                  · rw [if_neg c10] at H
                    exact absurd H (by simp)
                · rw [if_neg c8] at H
                  have c8b0 : decide (0 ≤ x6_3) = false := decide_eq_false c8
                  clear c8
                  have H' := Aside0.mk H
                  clear H
                  go_wp2
                  go_loopg [3, 7] k3 (fun kq v3 v7 w' => ∃ (x3_4 : List Int) (x7_4 : Int), v7 = .int .i64 x7_4 ∧ Aside0 (turnkeyref04_Fill.l2 kq x3_4 (IntKind.u64.wrap ((IntKind.u64.wrap (x0_1)) * 8)) x7_4 = some r) ∧ Aside0 (kq ≤ k3) ∧ Aside0 (Kd.R (Kd.int .u8) 5 w' w.heap.size (fun _ => True) v3 x3_4) ∧ Aside0 (Below w.heap.size w w'))
                  case atStart => exact ⟨(x3_3), (7), (by first | rfl | (simp; done) | (simp [*]; done)), H', ⟨Nat.le_refl _⟩, ⟨by (with_reducible repeat (first | apply Kd.R_alloc | apply Kd.R_drewN | apply Kd.R_drew)); exact HO_3.out⟩, ⟨by repeat (first | (with_reducible first | exact HB.out | apply below_alloc | apply pw_below_drewN | apply below_drew1) | exact HB.out)⟩⟩
                  case round =>
                    clear H'
                    try clear c1
                    try clear c2
                    try clear p2
                    try clear c3
                    try clear c3b0
                    try clear c6
                    try clear c6b0
                    try clear c6b1
                    try clear p6
                    try clear c8
                    try clear c8b0
                    try clear c10
                    try clear c10b0
                    try clear c10b1
                    try clear c12
                    try clear p2
                    try clear p6
                    obtain ⟨x3_4, x7_4, rfl, HA, HK4, HO_3, HB⟩ := hrel
                    cases gk with
                    | zero => exact absurd HA.out (by simp [turnkeyref04_Fill.l2])
                    | succ k4 =>
                      have H := HA.out
                      clear HA
                      simp only [turnkeyref04_Fill.l2] at H
                      by_cases c14 : x7_4 ≥ 0
                      · rw [if_pos c14] at H
                        have c14b0 : decide (0 ≤ x7_4) = true := decide_eq_true c14
                        clear c14
                        obtain ⟨ji15, hji15⟩ : ∃ j_ : Int, (wrap64 (8 * x7_4)) = j_ := ⟨_, rfl⟩
                        replace H : (if 0 ≤ (ji15) then (if x3_4.length < 140737488355328 then (turnkeyref04_Fill.l2 k4 (x3_4 ++ [(shr .u64 (IntKind.u64.wrap ((IntKind.u64.wrap (x0_1)) * 8)) (ji15)) % 256]) (IntKind.u64.wrap ((IntKind.u64.wrap (x0_1)) * 8)) (wrap64 (x7_4 - 1))) else (none)) else (none)) = some r := by first | (rw [hji15] at H; exact H) | (simp only [hji15] at H ⊢; exact H)
                        have hji15w : (IntKind.i64.wrap (8 * x7_4)) = ji15 := (i64_w _).trans hji15
                        by_cases c16 : 0 ≤ (ji15)
                        · rw [if_pos c16] at H
                          have c16b0 := eq_true c16
                          have c16b1 : decide (0 ≤ (ji15)) = true := decide_eq_true c16
                          clear c16
                          obtain ⟨ji17, hji17⟩ : ∃ j_ : Int, (shr .u64 (IntKind.u64.wrap ((IntKind.u64.wrap (x0_1)) * 8)) (ji15)) = j_ := ⟨_, rfl⟩
                          replace H : (if x3_4.length < 140737488355328 then (turnkeyref04_Fill.l2 k4 (x3_4 ++ [(ji17) % 256]) (IntKind.u64.wrap ((IntKind.u64.wrap (x0_1)) * 8)) (wrap64 (x7_4 - 1))) else (none)) = some r := by first | (rw [hji17] at H; exact H) | (simp only [hji17] at H ⊢; exact H)
                          have hji17_ : ((IntKind.u64.wrap ((IntKind.u64.wrap (x0_1)) * 8)) / 2 ^ min (ji15).toNat 64) = ji17 := hji17
                          have hji17z : (ji15) ≤ 64 → ((IntKind.u64.wrap ((IntKind.u64.wrap (x0_1)) * 8)) / 2 ^ (ji15).toNat) = ji17 := shr_small hji17
                          by_cases c18 : x3_4.length < 140737488355328
                          · rw [if_pos c18] at H
                            have LMc18 := Aside0.mk c18
                            clear c18
                            obtain ⟨y110, hy110⟩ : ∃ y_ : List Int, y_ = (x3_4 ++ [(ji17) % 256]) := ⟨_, rfl⟩
                            replace H : (turnkeyref04_Fill.l2 k4 y110 (IntKind.u64.wrap ((IntKind.u64.wrap (x0_1)) * 8)) (wrap64 (x7_4 - 1))) = some r := by first | (rw [hy110]; with_reducible exact H) | (have H2_ := (Option.bind_some _ _).symm.trans H; rw [hy110]; with_reducible exact H2_) | (have H2_ := (Option.bind_some _ _).symm.trans H; with_reducible exact H2_) | with_reducible exact H | (rw [hy110]; exact H) | exact H
                            have Ny110 := Aside0.mk hy110
                            clear hy110
                            have H' := Aside0.mk H
                            clear H
                            go_wp2_with (first | ((with_reducible refine gate_builtin (b := .append) (xs := #[.tmp 42, .tmp 48]) rfl ?_); at_builtin; refine Kd.R_append (Kd.int .u8) (w0 := w) w.heap.size rfl (.tmp 42) (.tmp 48) 22 5 (.int .u8 0) 1 rfl Tryd.underlying22 info5 rfl (by decide) (by omega) u3 x3_4 ((ji17) % 256) [.int .u8 ((ji17) % 256)] (fun _ => True) (fun _ => False) rfl rfl ?aP (fun _ hk => hk.elim) ?aF ?aO ?aB ?aS ?aL ?_; (case aP => exact rfl); (case aB => exact (by repeat (first | (with_reducible first | exact HB.out | apply below_alloc | apply pw_below_drewN | apply below_drew1) | exact HB.out))); (case aF => exact (fun _ _ => trivial)); (case aO => exact (by (with_reducible repeat (first | apply Kd.R_alloc | apply Kd.R_drewN | apply Kd.R_drew)); exact HO_3.out)); (case aS => exact (below_size (by repeat (first | (with_reducible first | exact HB.out | apply below_alloc | apply pw_below_drewN | apply below_drew1) | exact HB.out)))); (case aL => have := LMc18.out; omega); intro v111 w19 ho hb hg hat; rw [← Ny110.out] at ho; have n0_ := Aside0.mk (hb); have n1_ := Aside0.mk (ho); clear HB; clear HO_3; have HB := n0_; have HO112 := n1_; clear n0_ n1_; clear ho hb hg hat))
                            go_roundg k4
                            case measure => have := HJ1.out; have := HK2.out; have := HK3.out; have := HK4.out; omega
                            case rel => exact ⟨(y110), (wrap64 (x7_4 - 1)), (by first | rfl | (simp; done) | (simp [*]; done)), H', ⟨by have := HJ1.out; have := HK2.out; have := HK3.out; have := HK4.out; omega⟩, ⟨by (with_reducible repeat (first | apply Kd.R_alloc | apply Kd.R_drewN | apply Kd.R_drew)); exact HO112.out⟩, ⟨by repeat (first | (with_reducible first | exact HB.out | apply below_alloc | apply pw_below_drewN | apply below_drew1) | exact HB.out)⟩⟩
                          · rw [if_neg c18] at H
                            exact absurd H (by simp)
                        · rw [if_neg c16] at H
                          exact absurd H (by simp)
                      · rw [if_neg c14] at H
                        have c14b0 : decide (0 ≤ x7_4) = false := decide_eq_false c14
                        clear c14
                        obtain rfl := Option.some.inj H
                        go_wp2
                        go_ret
                        exact ⟨_, by first | rfl | (simp [errW_none, errW_some] <;> rfl) | (simp [*, errW_none, errW_some] <;> rfl), by (with_reducible repeat (first | apply Kd.R_alloc | apply Kd.R_drewN | apply Kd.R_drew)); exact HO_3.out, by repeat (first | (with_reducible first | exact HB.out | apply below_alloc | apply pw_below_drewN | apply below_drew1) | exact HB.out)⟩
          · rw [if_neg c6] at H
            have c6b0 : ((Int.tmod (wrap64 (x0_1 + (x3_2.length : Int))) 128) == 112) = false := beq_eq_false_iff_ne.mpr c6
            have c6b1 : ((Int.tmod (wrap64 (x0_1 + (x3_2.length : Int))) 128) != 112) = true := bne_iff_ne.mpr c6
            by_cases c20 : x3_2.length < 140737488355328
            · rw [if_pos c20] at H
              have LMc20 := Aside0.mk c20
              clear c20
              obtain ⟨y104, hy104⟩ : ∃ y_ : List Int, y_ = (x3_2 ++ [0]) := ⟨_, rfl⟩
              replace H : (turnkeyref04_Fill.l0 k2 x0_1 y104) = some r := by first | (rw [hy104]; with_reducible exact H) | (have H2_ := (Option.bind_some _ _).symm.trans H; rw [hy104]; with_reducible exact H2_) | (have H2_ := (Option.bind_some _ _).symm.trans H; with_reducible exact H2_) | with_reducible exact H | (rw [hy104]; exact H) | exact H
              have Ny104 := Aside0.mk hy104
              clear hy104
              have H' := Aside0.mk H
              clear H
              obtain ⟨Ao21, co21, eo21⟩ := Kd.R_slice HO_3.out
              subst eo21
              go_wp2_with (first | ((with_reducible refine gate_builtin (b := .append) (xs := #[.tmp 17, .tmp 18]) rfl ?_); at_builtin; refine Kd.R_append (Kd.int .u8) (w0 := w) w.heap.size rfl (.tmp 17) (.tmp 18) 22 5 (.int .u8 0) 1 rfl Tryd.underlying22 info5 rfl (by decide) (by omega) (.slice Ao21 x3_2.length co21) x3_2 0 [.int .u8 0] (fun _ => True) (fun _ => False) rfl rfl ?aP (fun _ hk => hk.elim) ?aF ?aO ?aB ?aS ?aL ?_; (case aP => exact rfl); (case aB => exact (by repeat (first | (with_reducible first | exact HB.out | apply below_alloc | apply pw_below_drewN | apply below_drew1) | exact HB.out))); (case aF => exact (fun _ _ => trivial)); (case aO => exact (by (with_reducible repeat (first | apply Kd.R_alloc | apply Kd.R_drewN | apply Kd.R_drew)); exact HO_3.out)); (case aS => exact (below_size (by repeat (first | (with_reducible first | exact HB.out | apply below_alloc | apply pw_below_drewN | apply below_drew1) | exact HB.out)))); (case aL => have := LMc20.out; omega); intro v105 w22 ho hb hg hat; rw [← Ny104.out] at ho; have n0_ := Aside0.mk (hb); have n1_ := Aside0.mk (ho); clear HB; clear HO_3; have HB := n0_; have HO106 := n1_; clear n0_ n1_; clear ho hb hg hat))
              go_roundg k2
              case measure => have := HJ1.out; have := HK2.out; omega
              case rel => exact ⟨(y104), H', ⟨by have := HJ1.out; have := HK2.out; omega⟩, ⟨by (with_reducible repeat (first | apply Kd.R_alloc | apply Kd.R_drewN | apply Kd.R_drew)); exact HO106.out⟩, ⟨by repeat (first | (with_reducible first | exact HB.out | apply below_alloc | apply pw_below_drewN | apply below_drew1) | exact HB.out)⟩⟩
            · rw [if_neg c20] at H
              exact absurd H (by simp)

/-! ### turnkeyref04_rotr: function 30 -/
def turnkeyref04_rotr.f (a0 : Int) (a1 : Int) : Option (Int) := if 0 ≤ a1 then (if 0 ≤ (wrap64 (64 - a1)) then (some (Go.bits .or .u64 (shr .u64 a0 a1) (shl .u64 a0 (wrap64 (64 - a1))))) else (none)) else (none)
set_option maxHeartbeats 8000000 in
set_option maxRecDepth 100000 in
theorem turnkeyref04_rotr.calls (a0 : Int) (a1 : Int) (r : Int) (w : World) (h : turnkeyref04_rotr.f a0 a1 = some r) :
    Calls Tryd.prog 30 #[.int .u64 a0, .int .i64 a1] w fun e w' => e = .returned (.int .u64 r) ∧ Drawn0 w w' := by
  have H : (if 0 ≤ a1 then (if 0 ≤ (wrap64 (64 - a1)) then (some (Go.bits .or .u64 (shr .u64 a0 a1) (shl .u64 a0 (wrap64 (64 - a1))))) else (none)) else (none)) = some r := h
  clear h
  by_cases c3 : 0 ≤ a1
  · rw [if_pos c3] at H
    have c3b0 := eq_true c3
    have c3b1 : decide (0 ≤ a1) = true := decide_eq_true c3
    clear c3
    obtain ⟨ji4, hji4⟩ : ∃ j_ : Int, (shr .u64 a0 a1) = j_ := ⟨_, rfl⟩
    replace H : (if 0 ≤ (wrap64 (64 - a1)) then (some (Go.bits .or .u64 (ji4) (shl .u64 a0 (wrap64 (64 - a1))))) else (none)) = some r := by first | (rw [hji4] at H; exact H) | (simp only [hji4] at H ⊢; exact H)
    have hji4_ : (a0 / 2 ^ min a1.toNat 64) = ji4 := hji4
    have hji4z : a1 ≤ 64 → (a0 / 2 ^ a1.toNat) = ji4 := shr_small hji4
    obtain ⟨ji5, hji5⟩ : ∃ j_ : Int, (wrap64 (64 - a1)) = j_ := ⟨_, rfl⟩
    replace H : (if 0 ≤ (ji5) then (some (Go.bits .or .u64 (ji4) (shl .u64 a0 (ji5)))) else (none)) = some r := by first | (rw [hji5] at H; exact H) | (simp only [hji5] at H ⊢; exact H)
    have hji5w : (IntKind.i64.wrap (64 - a1)) = ji5 := (i64_w _).trans hji5
    by_cases c6 : 0 ≤ (ji5)
    · rw [if_pos c6] at H
      have c6b0 := eq_true c6
      have c6b1 : decide (0 ≤ (ji5)) = true := decide_eq_true c6
      clear c6
      obtain ⟨ji7, hji7⟩ : ∃ j_ : Int, (shl .u64 a0 (ji5)) = j_ := ⟨_, rfl⟩
      replace H : (some (Go.bits .or .u64 (ji4) (ji7))) = some r := by first | (rw [hji7] at H; exact H) | (simp only [hji7] at H ⊢; exact H)
      have hji7_ : (IntKind.u64.wrap (a0 * 2 ^ min (ji5).toNat 64)) = ji7 := hji7
      have hji7z : (ji5) ≤ 64 → (IntKind.u64.wrap (a0 * 2 ^ (ji5).toNat)) = ji7 := shl_small hji7
      obtain rfl := Option.some.inj H
      go_enter Tryd.func30, Tryd.ntmps30
      go_wp2
      repeat (go_quiet (fail); try go_wp2)
      go_ret
      exact ⟨by first | rfl | (simp; done) | (simp only [← hji4, ← hji5, ← hji7] <;> (first | rfl | simp)) | (simp [*]; done), by repeat (first | exact Drawn0.refl _ | apply Drawn0.step)⟩
    · rw [if_neg c6] at H
      exact absurd H (by simp)
  · rw [if_neg c3] at H
    exact absurd H (by simp)

/-! ### turnkeyref04_k: function 31 -/
def turnkeyref04_k.f  : Option (List Int) := some (([4794697086780616226, 8158064640168781261, 13096744586834688815, 16840607885511220156, 4131703408338449720, 6480981068601479193, 10538285296894168987, 12329834152419229976, 15566598209576043074, 1334009975649890238, 2608012711638119052, 6128411473006802146, 8268148722764581231, 9286055187155687089, 11230858885718282805, 13951009754708518548, 16472876342353939154, 17275323862435702243, 1135362057144423861, 2597628984639134821, 3308224258029322869, 5365058923640841347, 6679025012923562964, 8573033837759648693, 10970295158949994411, 12119686244451234320, 12683024718118986047, 13788192230050041572, 14330467153632333762, 15395433587784984357, 489312712824947311, 1452737877330783856, 2861767655752347644, 3322285676063803686, 5560940570517711597, 5996557281743188959, 7280758554555802590, 8532644243296465576, 9350256976987008742, 10552545826968843579, 11727347734174303076, 12113106623233404929, 14000437183269869457, 14369950271660146224, 15101387698204529176, 15463397548674623760, 17586052441742319658, 1182934255886127544, 1847814050463011016, 2177327727835720531, 2830643537854262169, 3796741975233480872, 4115178125766777443, 5681478168544905931, 6601373596472566643, 7507060721942968483, 8399075790359081724, 8693463985226723168, 9568029438360202098, 10144078919501101548, 10430055236837252648, 11840083180663258601, 13761210420658862357, 14299343276471374635, 14566680578165727644, 15097957966210449927, 16922976911328602910, 17689382322260857208, 500013540394364858, 748580250866718886, 1242879168328830382, 1977374033974150939, 2944078676154940804, 3659926193048069267, 4368137639120453308, 4836135668995329356, 5532061633213252278, 6448918945643986474, 6902733635092675308, 7801388544844847127] : List Int))
set_option maxHeartbeats 8000000 in
set_option maxRecDepth 100000 in
theorem turnkeyref04_k.calls  (r : List Int) (w : World) (h : turnkeyref04_k.f  = some r) :
    Calls Tryd.prog 31 #[] w fun e w' => ∃ v0_ : Value, e = .returned (v0_) ∧ Kd.R (Kd.int .u64) 45 w' w.heap.size (fun _ => True) v0_ r ∧ Below w.heap.size w w' := by
  have HB := Aside0.mk (Below.refl w.heap.size w)
  have H : (some (([4794697086780616226, 8158064640168781261, 13096744586834688815, 16840607885511220156, 4131703408338449720, 6480981068601479193, 10538285296894168987, 12329834152419229976, 15566598209576043074, 1334009975649890238, 2608012711638119052, 6128411473006802146, 8268148722764581231, 9286055187155687089, 11230858885718282805, 13951009754708518548, 16472876342353939154, 17275323862435702243, 1135362057144423861, 2597628984639134821, 3308224258029322869, 5365058923640841347, 6679025012923562964, 8573033837759648693, 10970295158949994411, 12119686244451234320, 12683024718118986047, 13788192230050041572, 14330467153632333762, 15395433587784984357, 489312712824947311, 1452737877330783856, 2861767655752347644, 3322285676063803686, 5560940570517711597, 5996557281743188959, 7280758554555802590, 8532644243296465576, 9350256976987008742, 10552545826968843579, 11727347734174303076, 12113106623233404929, 14000437183269869457, 14369950271660146224, 15101387698204529176, 15463397548674623760, 17586052441742319658, 1182934255886127544, 1847814050463011016, 2177327727835720531, 2830643537854262169, 3796741975233480872, 4115178125766777443, 5681478168544905931, 6601373596472566643, 7507060721942968483, 8399075790359081724, 8693463985226723168, 9568029438360202098, 10144078919501101548, 10430055236837252648, 11840083180663258601, 13761210420658862357, 14299343276471374635, 14566680578165727644, 15097957966210449927, 16922976911328602910, 17689382322260857208, 500013540394364858, 748580250866718886, 1242879168328830382, 1977374033974150939, 2944078676154940804, 3659926193048069267, 4368137639120453308, 4836135668995329356, 5532061633213252278, 6448918945643986474, 6902733635092675308, 7801388544844847127] : List Int))) = some r := h
  clear h
  obtain ⟨y113, hy113⟩ : ∃ y_ : List Int, y_ = (([4794697086780616226, 8158064640168781261, 13096744586834688815, 16840607885511220156, 4131703408338449720, 6480981068601479193, 10538285296894168987, 12329834152419229976, 15566598209576043074, 1334009975649890238, 2608012711638119052, 6128411473006802146, 8268148722764581231, 9286055187155687089, 11230858885718282805, 13951009754708518548, 16472876342353939154, 17275323862435702243, 1135362057144423861, 2597628984639134821, 3308224258029322869, 5365058923640841347, 6679025012923562964, 8573033837759648693, 10970295158949994411, 12119686244451234320, 12683024718118986047, 13788192230050041572, 14330467153632333762, 15395433587784984357, 489312712824947311, 1452737877330783856, 2861767655752347644, 3322285676063803686, 5560940570517711597, 5996557281743188959, 7280758554555802590, 8532644243296465576, 9350256976987008742, 10552545826968843579, 11727347734174303076, 12113106623233404929, 14000437183269869457, 14369950271660146224, 15101387698204529176, 15463397548674623760, 17586052441742319658, 1182934255886127544, 1847814050463011016, 2177327727835720531, 2830643537854262169, 3796741975233480872, 4115178125766777443, 5681478168544905931, 6601373596472566643, 7507060721942968483, 8399075790359081724, 8693463985226723168, 9568029438360202098, 10144078919501101548, 10430055236837252648, 11840083180663258601, 13761210420658862357, 14299343276471374635, 14566680578165727644, 15097957966210449927, 16922976911328602910, 17689382322260857208, 500013540394364858, 748580250866718886, 1242879168328830382, 1977374033974150939, 2944078676154940804, 3659926193048069267, 4368137639120453308, 4836135668995329356, 5532061633213252278, 6448918945643986474, 6902733635092675308, 7801388544844847127] : List Int)) := ⟨_, rfl⟩
  replace H : (some y113) = some r := by first | (rw [hy113]; with_reducible exact H) | (have H2_ := (Option.bind_some _ _).symm.trans H; rw [hy113]; with_reducible exact H2_) | (have H2_ := (Option.bind_some _ _).symm.trans H; with_reducible exact H2_) | with_reducible exact H | (rw [hy113]; exact H) | exact H
  have Ny113 := Aside0.mk hy113
  clear hy113
  obtain rfl := Option.some.inj H
  go_enter Tryd.func31, Tryd.ntmps31
  go_wp2_with (first | ((with_reducible refine gate_dst (N := 1) rfl ?_); refine Kd.R_lit (Kd.int .u64) _ 45 ?hg (N := 1) ?hd (xs := ([4794697086780616226, 8158064640168781261, 13096744586834688815, 16840607885511220156, 4131703408338449720, 6480981068601479193, 10538285296894168987, 12329834152419229976, 15566598209576043074, 1334009975649890238, 2608012711638119052, 6128411473006802146, 8268148722764581231, 9286055187155687089, 11230858885718282805, 13951009754708518548, 16472876342353939154, 17275323862435702243, 1135362057144423861, 2597628984639134821, 3308224258029322869, 5365058923640841347, 6679025012923562964, 8573033837759648693, 10970295158949994411, 12119686244451234320, 12683024718118986047, 13788192230050041572, 14330467153632333762, 15395433587784984357, 489312712824947311, 1452737877330783856, 2861767655752347644, 3322285676063803686, 5560940570517711597, 5996557281743188959, 7280758554555802590, 8532644243296465576, 9350256976987008742, 10552545826968843579, 11727347734174303076, 12113106623233404929, 14000437183269869457, 14369950271660146224, 15101387698204529176, 15463397548674623760, 17586052441742319658, 1182934255886127544, 1847814050463011016, 2177327727835720531, 2830643537854262169, 3796741975233480872, 4115178125766777443, 5681478168544905931, 6601373596472566643, 7507060721942968483, 8399075790359081724, 8693463985226723168, 9568029438360202098, 10144078919501101548, 10430055236837252648, 11840083180663258601, 13761210420658862357, 14299343276471374635, 14566680578165727644, 15097957966210449927, 16922976911328602910, 17689382322260857208, 500013540394364858, 748580250866718886, 1242879168328830382, 1977374033974150939, 2944078676154940804, 3659926193048069267, 4368137639120453308, 4836135668995329356, 5532061633213252278, 6448918945643986474, 6902733635092675308, 7801388544844847127] : List Int)) (inner := [.int .u64 4794697086780616226, .int .u64 8158064640168781261, .int .u64 13096744586834688815, .int .u64 16840607885511220156, .int .u64 4131703408338449720, .int .u64 6480981068601479193, .int .u64 10538285296894168987, .int .u64 12329834152419229976, .int .u64 15566598209576043074, .int .u64 1334009975649890238, .int .u64 2608012711638119052, .int .u64 6128411473006802146, .int .u64 8268148722764581231, .int .u64 9286055187155687089, .int .u64 11230858885718282805, .int .u64 13951009754708518548, .int .u64 16472876342353939154, .int .u64 17275323862435702243, .int .u64 1135362057144423861, .int .u64 2597628984639134821, .int .u64 3308224258029322869, .int .u64 5365058923640841347, .int .u64 6679025012923562964, .int .u64 8573033837759648693, .int .u64 10970295158949994411, .int .u64 12119686244451234320, .int .u64 12683024718118986047, .int .u64 13788192230050041572, .int .u64 14330467153632333762, .int .u64 15395433587784984357, .int .u64 489312712824947311, .int .u64 1452737877330783856, .int .u64 2861767655752347644, .int .u64 3322285676063803686, .int .u64 5560940570517711597, .int .u64 5996557281743188959, .int .u64 7280758554555802590, .int .u64 8532644243296465576, .int .u64 9350256976987008742, .int .u64 10552545826968843579, .int .u64 11727347734174303076, .int .u64 12113106623233404929, .int .u64 14000437183269869457, .int .u64 14369950271660146224, .int .u64 15101387698204529176, .int .u64 15463397548674623760, .int .u64 17586052441742319658, .int .u64 1182934255886127544, .int .u64 1847814050463011016, .int .u64 2177327727835720531, .int .u64 2830643537854262169, .int .u64 3796741975233480872, .int .u64 4115178125766777443, .int .u64 5681478168544905931, .int .u64 6601373596472566643, .int .u64 7507060721942968483, .int .u64 8399075790359081724, .int .u64 8693463985226723168, .int .u64 9568029438360202098, .int .u64 10144078919501101548, .int .u64 10430055236837252648, .int .u64 11840083180663258601, .int .u64 13761210420658862357, .int .u64 14299343276471374635, .int .u64 14566680578165727644, .int .u64 15097957966210449927, .int .u64 16922976911328602910, .int .u64 17689382322260857208, .int .u64 500013540394364858, .int .u64 748580250866718886, .int .u64 1242879168328830382, .int .u64 1977374033974150939, .int .u64 2944078676154940804, .int .u64 3659926193048069267, .int .u64 4368137639120453308, .int .u64 4836135668995329356, .int .u64 5532061633213252278, .int .u64 6448918945643986474, .int .u64 6902733635092675308, .int .u64 7801388544844847127]) (ok := fun _ => True) (okp := fun _ => True) ?hr ?hp (fun _ hk => hk) trivial (Below.refl _ _) (Nat.le_refl _) (by simp) ?_; (case hd => rfl); (case hg => rfl); (case hr => first | (go_simp; done) | (go_simp; rfl)); (case hp => exact (Reps.one (show Kd.M (Kd.int .u64) _ _ _ 4794697086780616226 [.int .u64 4794697086780616226] from rfl) (Reps.one (show Kd.M (Kd.int .u64) _ _ _ 8158064640168781261 [.int .u64 8158064640168781261] from rfl) (Reps.one (show Kd.M (Kd.int .u64) _ _ _ 13096744586834688815 [.int .u64 13096744586834688815] from rfl) (Reps.one (show Kd.M (Kd.int .u64) _ _ _ 16840607885511220156 [.int .u64 16840607885511220156] from rfl) (Reps.one (show Kd.M (Kd.int .u64) _ _ _ 4131703408338449720 [.int .u64 4131703408338449720] from rfl) (Reps.one (show Kd.M (Kd.int .u64) _ _ _ 6480981068601479193 [.int .u64 6480981068601479193] from rfl) (Reps.one (show Kd.M (Kd.int .u64) _ _ _ 10538285296894168987 [.int .u64 10538285296894168987] from rfl) (Reps.one (show Kd.M (Kd.int .u64) _ _ _ 12329834152419229976 [.int .u64 12329834152419229976] from rfl) (Reps.one (show Kd.M (Kd.int .u64) _ _ _ 15566598209576043074 [.int .u64 15566598209576043074] from rfl) (Reps.one (show Kd.M (Kd.int .u64) _ _ _ 1334009975649890238 [.int .u64 1334009975649890238] from rfl) (Reps.one (show Kd.M (Kd.int .u64) _ _ _ 2608012711638119052 [.int .u64 2608012711638119052] from rfl) (Reps.one (show Kd.M (Kd.int .u64) _ _ _ 6128411473006802146 [.int .u64 6128411473006802146] from rfl) (Reps.one (show Kd.M (Kd.int .u64) _ _ _ 8268148722764581231 [.int .u64 8268148722764581231] from rfl) (Reps.one (show Kd.M (Kd.int .u64) _ _ _ 9286055187155687089 [.int .u64 9286055187155687089] from rfl) (Reps.one (show Kd.M (Kd.int .u64) _ _ _ 11230858885718282805 [.int .u64 11230858885718282805] from rfl) (Reps.one (show Kd.M (Kd.int .u64) _ _ _ 13951009754708518548 [.int .u64 13951009754708518548] from rfl) (Reps.one (show Kd.M (Kd.int .u64) _ _ _ 16472876342353939154 [.int .u64 16472876342353939154] from rfl) (Reps.one (show Kd.M (Kd.int .u64) _ _ _ 17275323862435702243 [.int .u64 17275323862435702243] from rfl) (Reps.one (show Kd.M (Kd.int .u64) _ _ _ 1135362057144423861 [.int .u64 1135362057144423861] from rfl) (Reps.one (show Kd.M (Kd.int .u64) _ _ _ 2597628984639134821 [.int .u64 2597628984639134821] from rfl) (Reps.one (show Kd.M (Kd.int .u64) _ _ _ 3308224258029322869 [.int .u64 3308224258029322869] from rfl) (Reps.one (show Kd.M (Kd.int .u64) _ _ _ 5365058923640841347 [.int .u64 5365058923640841347] from rfl) (Reps.one (show Kd.M (Kd.int .u64) _ _ _ 6679025012923562964 [.int .u64 6679025012923562964] from rfl) (Reps.one (show Kd.M (Kd.int .u64) _ _ _ 8573033837759648693 [.int .u64 8573033837759648693] from rfl) (Reps.one (show Kd.M (Kd.int .u64) _ _ _ 10970295158949994411 [.int .u64 10970295158949994411] from rfl) (Reps.one (show Kd.M (Kd.int .u64) _ _ _ 12119686244451234320 [.int .u64 12119686244451234320] from rfl) (Reps.one (show Kd.M (Kd.int .u64) _ _ _ 12683024718118986047 [.int .u64 12683024718118986047] from rfl) (Reps.one (show Kd.M (Kd.int .u64) _ _ _ 13788192230050041572 [.int .u64 13788192230050041572] from rfl) (Reps.one (show Kd.M (Kd.int .u64) _ _ _ 14330467153632333762 [.int .u64 14330467153632333762] from rfl) (Reps.one (show Kd.M (Kd.int .u64) _ _ _ 15395433587784984357 [.int .u64 15395433587784984357] from rfl) (Reps.one (show Kd.M (Kd.int .u64) _ _ _ 489312712824947311 [.int .u64 489312712824947311] from rfl) (Reps.one (show Kd.M (Kd.int .u64) _ _ _ 1452737877330783856 [.int .u64 1452737877330783856] from rfl) (Reps.one (show Kd.M (Kd.int .u64) _ _ _ 2861767655752347644 [.int .u64 2861767655752347644] from rfl) (Reps.one (show Kd.M (Kd.int .u64) _ _ _ 3322285676063803686 [.int .u64 3322285676063803686] from rfl) (Reps.one (show Kd.M (Kd.int .u64) _ _ _ 5560940570517711597 [.int .u64 5560940570517711597] from rfl) (Reps.one (show Kd.M (Kd.int .u64) _ _ _ 5996557281743188959 [.int .u64 5996557281743188959] from rfl) (Reps.one (show Kd.M (Kd.int .u64) _ _ _ 7280758554555802590 [.int .u64 7280758554555802590] from rfl) (Reps.one (show Kd.M (Kd.int .u64) _ _ _ 8532644243296465576 [.int .u64 8532644243296465576] from rfl) (Reps.one (show Kd.M (Kd.int .u64) _ _ _ 9350256976987008742 [.int .u64 9350256976987008742] from rfl) (Reps.one (show Kd.M (Kd.int .u64) _ _ _ 10552545826968843579 [.int .u64 10552545826968843579] from rfl) (Reps.one (show Kd.M (Kd.int .u64) _ _ _ 11727347734174303076 [.int .u64 11727347734174303076] from rfl) (Reps.one (show Kd.M (Kd.int .u64) _ _ _ 12113106623233404929 [.int .u64 12113106623233404929] from rfl) (Reps.one (show Kd.M (Kd.int .u64) _ _ _ 14000437183269869457 [.int .u64 14000437183269869457] from rfl) (Reps.one (show Kd.M (Kd.int .u64) _ _ _ 14369950271660146224 [.int .u64 14369950271660146224] from rfl) (Reps.one (show Kd.M (Kd.int .u64) _ _ _ 15101387698204529176 [.int .u64 15101387698204529176] from rfl) (Reps.one (show Kd.M (Kd.int .u64) _ _ _ 15463397548674623760 [.int .u64 15463397548674623760] from rfl) (Reps.one (show Kd.M (Kd.int .u64) _ _ _ 17586052441742319658 [.int .u64 17586052441742319658] from rfl) (Reps.one (show Kd.M (Kd.int .u64) _ _ _ 1182934255886127544 [.int .u64 1182934255886127544] from rfl) (Reps.one (show Kd.M (Kd.int .u64) _ _ _ 1847814050463011016 [.int .u64 1847814050463011016] from rfl) (Reps.one (show Kd.M (Kd.int .u64) _ _ _ 2177327727835720531 [.int .u64 2177327727835720531] from rfl) (Reps.one (show Kd.M (Kd.int .u64) _ _ _ 2830643537854262169 [.int .u64 2830643537854262169] from rfl) (Reps.one (show Kd.M (Kd.int .u64) _ _ _ 3796741975233480872 [.int .u64 3796741975233480872] from rfl) (Reps.one (show Kd.M (Kd.int .u64) _ _ _ 4115178125766777443 [.int .u64 4115178125766777443] from rfl) (Reps.one (show Kd.M (Kd.int .u64) _ _ _ 5681478168544905931 [.int .u64 5681478168544905931] from rfl) (Reps.one (show Kd.M (Kd.int .u64) _ _ _ 6601373596472566643 [.int .u64 6601373596472566643] from rfl) (Reps.one (show Kd.M (Kd.int .u64) _ _ _ 7507060721942968483 [.int .u64 7507060721942968483] from rfl) (Reps.one (show Kd.M (Kd.int .u64) _ _ _ 8399075790359081724 [.int .u64 8399075790359081724] from rfl) (Reps.one (show Kd.M (Kd.int .u64) _ _ _ 8693463985226723168 [.int .u64 8693463985226723168] from rfl) (Reps.one (show Kd.M (Kd.int .u64) _ _ _ 9568029438360202098 [.int .u64 9568029438360202098] from rfl) (Reps.one (show Kd.M (Kd.int .u64) _ _ _ 10144078919501101548 [.int .u64 10144078919501101548] from rfl) (Reps.one (show Kd.M (Kd.int .u64) _ _ _ 10430055236837252648 [.int .u64 10430055236837252648] from rfl) (Reps.one (show Kd.M (Kd.int .u64) _ _ _ 11840083180663258601 [.int .u64 11840083180663258601] from rfl) (Reps.one (show Kd.M (Kd.int .u64) _ _ _ 13761210420658862357 [.int .u64 13761210420658862357] from rfl) (Reps.one (show Kd.M (Kd.int .u64) _ _ _ 14299343276471374635 [.int .u64 14299343276471374635] from rfl) (Reps.one (show Kd.M (Kd.int .u64) _ _ _ 14566680578165727644 [.int .u64 14566680578165727644] from rfl) (Reps.one (show Kd.M (Kd.int .u64) _ _ _ 15097957966210449927 [.int .u64 15097957966210449927] from rfl) (Reps.one (show Kd.M (Kd.int .u64) _ _ _ 16922976911328602910 [.int .u64 16922976911328602910] from rfl) (Reps.one (show Kd.M (Kd.int .u64) _ _ _ 17689382322260857208 [.int .u64 17689382322260857208] from rfl) (Reps.one (show Kd.M (Kd.int .u64) _ _ _ 500013540394364858 [.int .u64 500013540394364858] from rfl) (Reps.one (show Kd.M (Kd.int .u64) _ _ _ 748580250866718886 [.int .u64 748580250866718886] from rfl) (Reps.one (show Kd.M (Kd.int .u64) _ _ _ 1242879168328830382 [.int .u64 1242879168328830382] from rfl) (Reps.one (show Kd.M (Kd.int .u64) _ _ _ 1977374033974150939 [.int .u64 1977374033974150939] from rfl) (Reps.one (show Kd.M (Kd.int .u64) _ _ _ 2944078676154940804 [.int .u64 2944078676154940804] from rfl) (Reps.one (show Kd.M (Kd.int .u64) _ _ _ 3659926193048069267 [.int .u64 3659926193048069267] from rfl) (Reps.one (show Kd.M (Kd.int .u64) _ _ _ 4368137639120453308 [.int .u64 4368137639120453308] from rfl) (Reps.one (show Kd.M (Kd.int .u64) _ _ _ 4836135668995329356 [.int .u64 4836135668995329356] from rfl) (Reps.one (show Kd.M (Kd.int .u64) _ _ _ 5532061633213252278 [.int .u64 5532061633213252278] from rfl) (Reps.one (show Kd.M (Kd.int .u64) _ _ _ 6448918945643986474 [.int .u64 6448918945643986474] from rfl) (Reps.one (show Kd.M (Kd.int .u64) _ _ _ 6902733635092675308 [.int .u64 6902733635092675308] from rfl) (Reps.one (show Kd.M (Kd.int .u64) _ _ _ 7801388544844847127 [.int .u64 7801388544844847127] from rfl) (Reps.none _ _)))))))))))))))))))))))))))))))))))))))))))))))))))))))))))))))))))))))))))))))))); intro v114 w1 ho2 hb hg_ hnew_; clear hg_ hnew_; (first | rw [← Ny113.out] at ho2 | (simp only [Int.reduceToNat] at ho2; rw [← Ny113.out] at ho2)); have n0_ := Aside0.mk (Kd.R_lower ho2 (below_size (by repeat (first | (with_reducible first | exact HB.out | apply below_alloc | apply pw_below_drewN | apply below_drew1) | exact HB.out)))); have n1_ := Aside0.mk (below_step (by repeat (first | (with_reducible first | exact HB.out | apply below_alloc | apply pw_below_drewN | apply below_drew1) | exact HB.out)) hb); clear HB; have HO115 := n0_; have HB := n1_; clear n0_ n1_; clear hb ho2))
  go_ret
  exact ⟨_, by first | rfl | (simp [errW_none, errW_some] <;> rfl) | (simp [*, errW_none, errW_some] <;> rfl), by (with_reducible repeat (first | apply Kd.R_alloc | apply Kd.R_drewN | apply Kd.R_drew)); exact HO115.out, by repeat (first | (with_reducible first | exact HB.out | apply below_alloc | apply pw_below_drewN | apply below_drew1) | exact HB.out)⟩

end Go.Proofs.YtfmfpckpldlahaaDoor.PB
