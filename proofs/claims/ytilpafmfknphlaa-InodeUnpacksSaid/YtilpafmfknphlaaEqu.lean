/- Contract of slices.Equal at bytes. -/
import Derived.Test.YtilpafmfknphlaaStR
namespace Go.Proofs.Ytilpafmfknphlaa
open Go.RowKit

theorem take_eq_succ {a b : List UInt8} {k : Nat} (h : a.take k = b.take k) (ha : k < a.length) (hb : k < b.length) (he : a.getD k 0 = b.getD k 0) : a.take (k + 1) = b.take (k + 1) := by
  rw [take_snoc a k 0 ha, take_snoc b k 0 hb, h, he]

set_option maxHeartbeats 800000 in
theorem equal_any (A B : Option Addr) (n m c d : Nat) (a b : List UInt8) (w : World) (hn : a.length = n) (hm : b.length = m) (hr : RdB w A a) (hr' : RdB w B b) (hb : n ≤ 1099511627776) :
    Calls Try.prog 24 #[.slice A n c, .slice B m d] w fun e w' => e = .returned (.bool (decide (a = b))) ∧ Below w.heap.size w w' := by
  have hS := St.start w
  have HA := Lib.hid hr; have HB := Lib.hid hr'; have HN := Lib.hid hn; have HM := Lib.hid hm
  have HNA := Lib.hid (show (a.map bV).length = n by rw [List.length_map]; exact hn)
  have HMB := Lib.hid (show (b.map bV).length = m by rw [List.length_map]; exact hm)
  clear hr hr' hn hm
  by_cases hnm : n = m
  · subst hnm
    go_enter Try.func24, Try.ntmps24
    go_wp2
    go_loopw [5, 13, 14, 15, 16, 17, 18, 19, 20, 21, 22, 23, 24, 25] (fun _ i _ _ _ _ _ _ _ _ _ _ _ _ wr => ∃ k : Nat, i = .int .i64 (k : Int) ∧ k ≤ n ∧ Hid (a.take k = b.take k) ∧ St (Kp w) w wr []) (fun _ i _ _ _ _ _ _ _ _ _ _ _ _ _ => n - (intOf i).toNat)
    case atStart => exact ⟨0, rfl, Nat.zero_le _, Lib.hid rfl, hS⟩
    case round =>
      clear hS
      obtain ⟨k, rfl, hk, HT, hS⟩ := hrel
      by_cases hlt : k < n
      · have hia : k < a.length := by rw [HN.out]; exact hlt
        have hib : k < b.length := by rw [HM.out]; exact hlt
        have hT2 := Lib.hid (fun he => take_eq_succ HT.out hia hib he)
        have hne := Lib.hid (show a.getD k 0 ≠ b.getD k 0 → a ≠ b from fun h e => h (by rw [e]))
        have vA := Lib.hid (mapGetB hia)
        have vB := Lib.hid (mapGetB hib)
        generalize a.getD k 0 = x at *
        generalize b.getD k 0 = y at *
        go_upto_region 6 with (fail)
        obtain ⟨N_, hN_⟩ := hS.sz
        have h0N_ := hS.size
        rw [hN_] at h0N_
        refine E_start (hR := KeepS.pre (SN N_ [])) #[false, false, false, false, false, false, false, false, false] (by kernel_rfl) rfl rfl (fun w_r1 hx_r1 he_r1 => ?_)
        have hzE_ : w_r1.heap.size = N_ := by rw [he_r1]; exact hN_
        have hz : N_ ≤ w_r1.heap.size := Nat.le_of_eq hzE_.symm
        replace hS := hS.drew; rw [← he_r1] at hS
        clear hx_r1 he_r1
        clear hzE_ hN_
        refine E_take (hR := KeepS.pre (SN N_ [])) (i := 0) (N := (some 16)) (v := ?vr1_0) (a' := ?ar1_0) #[true, false, false, false, false, false, false, false, false] rfl rfl (by kernel_rfl) (fun _ _ _ h => h) (by rfl) ?hyr1_0 ?har1_0 ?_
        case hyr1_0 =>
          intro w' hx
          go_simp
          with_reducible rfl
        case har1_0 => (simp only [Act.put, List.setIfInBounds_toArray, List.set_cons_zero, List.set_cons_succ]; rfl)
        refine E_take (hR := KeepS.pre (SN N_ [])) (i := 1) (N := (some 17)) (v := ?vr1_1) (a' := ?ar1_1) #[true, true, false, false, false, false, false, false, false] rfl rfl (by kernel_rfl) (fun _ _ _ h => h) (by rfl) ?hyr1_1 ?har1_1 ?_
        case hyr1_1 =>
          intro w' hx
          go_simp
          with_reducible rfl
        case har1_1 => (simp only [Act.put, List.setIfInBounds_toArray, List.set_cons_zero, List.set_cons_succ]; rfl)
        refine E_take (hR := KeepS.pre (SN N_ [])) (i := 2) (N := (some 18)) (v := ?vr1_2) (a' := ?ar1_2) #[true, true, true, false, false, false, false, false, false] rfl rfl (by kernel_rfl) (fun _ _ _ h => h) (by rfl) ?hyr1_2 ?har1_2 ?_
        case hyr1_2 =>
          intro w' hx
          (apply Eq.trans; (apply run_idxRd HA.out HNA.out; rfl; rfl; rfl; (first | rfl | (fail)); (first | assumption | omega); rfl; rfl); with_reducible rfl)
        case har1_2 => (simp only [Act.put, List.setIfInBounds_toArray, List.set_cons_zero, List.set_cons_succ]; rfl)
        refine E_take (hR := KeepS.pre (SN N_ [])) (i := 3) (N := (some 19)) (v := ?vr1_3) (a' := ?ar1_3) #[true, true, true, true, false, false, false, false, false] rfl rfl (by kernel_rfl) (fun _ _ _ h => h) (by rfl) ?hyr1_3 ?har1_3 ?_
        case hyr1_3 =>
          intro w' hx
          (apply Eq.trans; (apply R_ldRd (hS.rdpK hx h0N_ HA.out); rfl; rfl; rfl; (first | exact vA.out | exact mapGetB (by first | assumption | omega) | exact mapGet _ (by first | assumption | omega))); with_reducible rfl)
        case har1_3 => (simp only [Act.put, List.setIfInBounds_toArray, List.set_cons_zero, List.set_cons_succ]; rfl)
        refine E_take (hR := KeepS.pre (SN N_ [])) (i := 4) (N := (some 20)) (v := ?vr1_4) (a' := ?ar1_4) #[true, true, true, true, true, false, false, false, false] rfl rfl (by kernel_rfl) (fun _ _ _ h => h) (by rfl) ?hyr1_4 ?har1_4 ?_
        case hyr1_4 =>
          intro w' hx
          go_simp
          with_reducible rfl
        case har1_4 => (simp only [Act.put, List.setIfInBounds_toArray, List.set_cons_zero, List.set_cons_succ]; rfl)
        refine E_take (hR := KeepS.pre (SN N_ [])) (i := 5) (N := (some 21)) (v := ?vr1_5) (a' := ?ar1_5) #[true, true, true, true, true, true, false, false, false] rfl rfl (by kernel_rfl) (fun _ _ _ h => h) (by rfl) ?hyr1_5 ?har1_5 ?_
        case hyr1_5 =>
          intro w' hx
          go_simp
          with_reducible rfl
        case har1_5 => (simp only [Act.put, List.setIfInBounds_toArray, List.set_cons_zero, List.set_cons_succ]; rfl)
        refine E_take (hR := KeepS.pre (SN N_ [])) (i := 6) (N := (some 22)) (v := ?vr1_6) (a' := ?ar1_6) #[true, true, true, true, true, true, true, false, false] rfl rfl (by kernel_rfl) (fun _ _ _ h => h) (by rfl) ?hyr1_6 ?har1_6 ?_
        case hyr1_6 =>
          intro w' hx
          (apply Eq.trans; (apply run_idxRd HB.out HMB.out; rfl; rfl; rfl; (first | rfl | (fail)); (first | assumption | omega); rfl; rfl); with_reducible rfl)
        case har1_6 => (simp only [Act.put, List.setIfInBounds_toArray, List.set_cons_zero, List.set_cons_succ]; rfl)
        refine E_take (hR := KeepS.pre (SN N_ [])) (i := 7) (N := (some 23)) (v := ?vr1_7) (a' := ?ar1_7) #[true, true, true, true, true, true, true, true, false] rfl rfl (by kernel_rfl) (fun _ _ _ h => h) (by rfl) ?hyr1_7 ?har1_7 ?_
        case hyr1_7 =>
          intro w' hx
          (apply Eq.trans; (apply R_ldRd (hS.rdpK hx h0N_ HB.out); rfl; rfl; rfl; (first | exact vB.out | exact mapGetB (by first | assumption | omega) | exact mapGet _ (by first | assumption | omega))); with_reducible rfl)
        case har1_7 => (simp only [Act.put, List.setIfInBounds_toArray, List.set_cons_zero, List.set_cons_succ]; rfl)
        refine E_take (hR := KeepS.pre (SN N_ [])) (i := 8) (N := (some 24)) (v := ?vr1_8) (a' := ?ar1_8) #[true, true, true, true, true, true, true, true, true] rfl rfl (by kernel_rfl) (fun _ _ _ h => h) (by rfl) ?hyr1_8 ?har1_8 ?_
        case hyr1_8 =>
          intro w' hx
          go_simp
          with_reducible rfl
        case har1_8 => (simp only [Act.put, List.setIfInBounds_toArray, List.set_cons_zero, List.set_cons_succ]; rfl)
        refine E_done (by kernel_rfl) ?_
        by_cases hxy : x = y
        · subst hxy
          have hf : ((x.toNat : Int) != (x.toNat : Int)) = false := by simp
          go_wp2
          go_roundw
          case rel => exact ⟨k + 1, by go_num, by omega, Lib.hid (hT2.out rfl), hS⟩
          case measure => simp [intOf]; omega
        · have hf : ((x.toNat : Int) != (y.toNat : Int)) = true := by
            simp only [bne_iff_ne, ne_eq]; intro e; exact hxy (UInt8.toNat_inj.1 (by omega))
          go_wp2
          go_ret
          exact ⟨by rw [decide_eq_false (hne.out hxy)]; rfl, hS.below⟩
      · have hab : a = b := by
          have := HT.out
          rwa [List.take_of_length_le (by rw [HN.out]; omega), List.take_of_length_le (by rw [HM.out]; omega)] at this
        have HE := Lib.hid hab
        clear hab
        go_wp2
        go_ret
        exact ⟨by rw [decide_eq_true HE.out]; rfl, hS.below⟩
  · have hab := Lib.hid (show a ≠ b from fun e => hnm (by rw [← HN.out, ← HM.out, e]))
    have hne : ((n : Int) != (m : Int)) = true := by simp only [bne_iff_ne, ne_eq]; omega
    go_enter Try.func24, Try.ntmps24
    go_wp2
    go_ret
    exact ⟨by rw [decide_eq_false hab.out]; rfl, hS.below⟩
end Go.Proofs.Ytilpafmfknphlaa
