/- slices.Repeat of one byte, 128 times. -/
import Derived.Test.YtfmfpckpldlahaaDoorCpy
import Derived.Test.YtfmfpckpldlahaaDoorOctA
import Derived.Test.YtfmfpckpldlahaaDoorSet
namespace Go.Proofs.YtfmfpckpldlahaaDoor
open Go.RowKit

set_option maxRecDepth 8000 in
theorem mul64_any (w : World) : Calls Tryd.prog 41 #[.int .u64 1, .int .u64 128] w fun e w' => e = .returned (.tuple #[.int .u64 0, .int .u64 128]) ∧ w = w' := by
  go_enter Tryd.func41, Tryd.ntmps41
  go_wp2
  go_ret2
  exact ⟨rfl, rfl⟩

theorem mul_any (w : World) : Calls Tryd.prog 37 #[.int .u64 1, .int .u64 128] w fun e w' => e = .returned (.tuple #[.int .u64 0, .int .u64 128]) ∧ w = w' := by
  go_enter Tryd.func37, Tryd.ntmps37
  go_wp2_with (first | (go_at_call 41; refine (mul64_any _).mono ?_; rintro e w_ ⟨rfl, rfl⟩))
  go_ret2
  exact ⟨rfl, rfl⟩

def rp (d : UInt8) (n : Nat) : List UInt8 := List.replicate n d ++ List.replicate (128 - n) 0
theorem rp_len (d : UInt8) {n : Nat} (h : n ≤ 128) : (rp d n).length = 128 := by simp [rp]; omega
theorem rp_one (d : UInt8) : splice (List.replicate 128 (Value.int .u8 0)) 0 ([d].map bV) = (rp d 1).map bV := by
  rw [show (List.replicate 128 (Value.int .u8 0)) = (List.replicate 128 (0 : UInt8)).map bV by rw [List.map_replicate]; rfl]
  unfold splice rp
  rw [List.take_zero, List.nil_append, List.length_map, ← List.map_drop, ← List.map_append]
  rfl
theorem rp_take (d : UInt8) (n : Nat) : ((rp d n).map bV).take n = (List.replicate n d).map bV := by
  rw [← List.map_take]; unfold rp
  rw [List.take_append_of_le_length (by simp), List.take_of_length_le (by simp)]
theorem rp_step (d : UInt8) {n : Nat} (h : n ≤ 64) : splice ((rp d n).map bV) n ((List.replicate n d).map bV) = (rp d (n + n)).map bV := by
  unfold splice
  rw [rp_take, List.length_map, List.length_replicate, ← List.map_drop, ← List.map_append, ← List.map_append]
  congr 1
  unfold rp
  rw [List.drop_append, List.drop_replicate, List.drop_replicate, List.length_replicate]
  rw [show n - (n + n) = 0 by omega, List.replicate_zero, List.nil_append, ← List.append_assoc, List.replicate_append_replicate, show 128 - n - (n + n - n) = 128 - (n + n) by omega]
def P2 (n : Nat) : Prop := ∃ k, k ≤ 7 ∧ n = 2 ^ k
theorem P2.le {n : Nat} (h : P2 n) : n ≤ 128 ∧ 1 ≤ n := by
  obtain ⟨k, hk, rfl⟩ := h
  exact ⟨Nat.pow_le_pow_right (by decide) hk, Nat.one_le_two_pow⟩
theorem P2.half {n : Nat} (h : P2 n) (hn : n < 128) : n ≤ 64 ∧ P2 (n + n) := by
  obtain ⟨k, hk, rfl⟩ := h
  have hk6 : k ≤ 6 := by
    rcases Nat.lt_or_ge k 7 with h | h
    · omega
    · have : k = 7 := by omega
      subst this; simp at hn
  exact ⟨Nat.pow_le_pow_right (by decide) hk6, k + 1, by omega, by rw [Nat.pow_succ]; omega⟩

set_option maxRecDepth 8000 in
set_option maxHeartbeats 800000 in
theorem repeat_any (b0 c : Nat) (d : UInt8) (w : World) (hr : RdB w (some ⟨b0, 0, none⟩) [d]) :
    Calls Tryd.prog 29 #[.slice (some ⟨b0, 0, none⟩) 1 c, .int .i64 128] w (GivesB (List.replicate 128 d) w) := by
  have hS := St.start w
  have HR := Lib.hid hr
  clear hr
  have h1 := Lib.hid (rp_one d)
  go_enter Tryd.func29, Tryd.ntmps29
  go_wp2_with (first | (go_at_call 37; refine (mul_any _).mono ?_; rintro e w_ ⟨rfl, rfl⟩) | ((with_reducible show wpList _ _ _ (⟨_, _, _, _, _, some (_, _)⟩ :: _) _ _); go_loud (first | (apply S_guardT; rfl; rfl; first | rfl | assumption) | (apply S_guardF; rfl; rfl; first | rfl | assumption) | (apply S_guard; rfl; rfl; all_goals intro hg_))) | ((with_reducible show wpList _ _ _ (⟨some 30, Op.makeSlice _ _ _, _, _, _, _⟩ :: _) _ _); go_loud (refine S_makeB hS TB 128 rfl rfl rfl rfl ?_ ?_ rfl ?_ ?_ ?_; (first | rfl | omega); (first | rfl | omega); decide; decide; clear hS; intro b w_ hS)) | ((with_reducible show wpList _ _ _ (⟨some 33, Op.call _, _, _, _, _⟩ :: _) _ _); go_loud (apply S_copyN hS; rfl; rfl; rfl; rfl; rfl; (focus ((repeat (first | exact .here | apply At.there)); done)); rfl; exact hS.rdp HR.out; rfl; (simp only [List.length_map, List.length_replicate, List.length_cons, List.length_nil]; decide); exact one_bV _; (simp only [List.length_map, List.length_cons, List.length_nil]; decide); clear hS; intro w_ hS)))
  change St _ _ _ [.blk b 5 (splice (List.replicate 128 (Value.int .u8 0)) 0 ([d].map bV))] at hS
  rw [h1.out] at hS
  clear h1
  go_loopw [8] (fun v wr => ∃ n : Nat, v = .int .i64 (n : Int) ∧ Hid (P2 n) ∧ St (Kp w) w wr [.blk b 5 ((rp d n).map bV)]) (fun v _ => 128 - (intOf v).toNat)
  case atStart => exact ⟨1, rfl, Lib.hid ⟨0, by omega, rfl⟩, hS⟩
  case round =>
    clear hS
    obtain ⟨n, rfl, hp, hS⟩ := hrel
    obtain ⟨l128, l1⟩ := hp.out.le
    by_cases hlt : n < 128
    · obtain ⟨l64, hp2⟩ := hp.out.half hlt
      have HP := Lib.hid hp2
      have hlen := Lib.hid (rp_len d l128)
      have htk := Lib.hid (rp_take d n)
      have hst := Lib.hid (rp_step d l64)
      have hcut := Lib.hid (show cutA (some ⟨b, 0, none⟩) 128 n = some ⟨b, n, none⟩ by unfold cutA; rw [if_neg (by omega)]; exact congrArg some ((addr_add b 0 n).trans (by rw [Nat.zero_add])))
      have v1 : IntKind.i64.wrap ((n : Int) + (n : Int)) = (n : Int) + (n : Int) := by rw [IntKind.wrap_i64]; omega
      clear hp2 hp
      go_wp2
      obtain ⟨N_, hN_⟩ := hS.sz
      have h0N_ := hS.size
      rw [hN_] at h0N_
      refine E_start (hR := KeepS.pre (SN N_ [b])) #[false, false, false, false, false, false, false, false, false, false] (by kernel_rfl) rfl rfl (fun w_r1 hx_r1 he_r1 => ?_)
      have hzE_ : w_r1.heap.size = N_ := by rw [he_r1]; exact hN_
      have hz : N_ ≤ w_r1.heap.size := Nat.le_of_eq hzE_.symm
      replace hS := hS.drew; rw [← he_r1] at hS
      clear hx_r1 he_r1
      clear hzE_ hN_
      refine E_take (hR := KeepS.pre (SN N_ [b])) (i := 0) (N := (some 38)) (v := ?vr1_0) (a' := ?ar1_0) #[true, false, false, false, false, false, false, false, false, false] rfl rfl (by kernel_rfl) (fun _ _ _ h => h) (by rfl) ?hyr1_0 ?har1_0 ?_
      case hyr1_0 =>
        intro w' hx
        go_simp
        with_reducible rfl
      case har1_0 => (simp only [Act.put, List.setIfInBounds_toArray, List.set_cons_zero, List.set_cons_succ]; rfl)
      refine E_take (hR := KeepS.pre (SN N_ [b])) (i := 1) (N := (some 39)) (v := ?vr1_1) (a' := ?ar1_1) #[true, true, false, false, false, false, false, false, false, false] rfl rfl (by kernel_rfl) (fun _ _ _ h => h) (by rfl) ?hyr1_1 ?har1_1 ?_
      case hyr1_1 =>
        intro w' hx
        go_simp
        with_reducible rfl
      case har1_1 => (simp only [Act.put, List.setIfInBounds_toArray, List.set_cons_zero, List.set_cons_succ]; rfl)
      refine E_take (hR := KeepS.pre (SN N_ [b])) (i := 2) (N := (some 40)) (v := ?vr1_2) (a' := ?ar1_2) #[true, true, true, false, false, false, false, false, false, false] rfl rfl (by kernel_rfl) (fun _ _ _ h => h) (by rfl) ?hyr1_2 ?har1_2 ?_
      case hyr1_2 =>
        intro w' hx
        go_simp
        with_reducible rfl
      case har1_2 => (simp only [Act.put, List.setIfInBounds_toArray, List.set_cons_zero, List.set_cons_succ]; rfl)
      refine E_take (hR := KeepS.pre (SN N_ [b])) (i := 3) (N := (some 41)) (v := ?vr1_3) (a' := ?ar1_3) #[true, true, true, true, false, false, false, false, false, false] rfl rfl (by kernel_rfl) (fun _ _ _ h => h) (by rfl) ?hyr1_3 ?har1_3 ?_
      case hyr1_3 =>
        intro w' hx
        (apply Eq.trans; (apply R_slice; rfl; rfl; exact SB.so; exact SB.no; rfl; rfl; omega; omega); rw [hcut.out])
      case har1_3 => (simp only [Act.put, List.setIfInBounds_toArray, List.set_cons_zero, List.set_cons_succ]; rfl)
      refine E_take (hR := KeepS.pre (SN N_ [b])) (i := 4) (N := (some 42)) (v := ?vr1_4) (a' := ?ar1_4) #[true, true, true, true, true, false, false, false, false, false] rfl rfl (by kernel_rfl) (fun _ _ _ h => h) (by rfl) ?hyr1_4 ?har1_4 ?_
      case hyr1_4 =>
        intro w' hx
        go_simp
        with_reducible rfl
      case har1_4 => (simp only [Act.put, List.setIfInBounds_toArray, List.set_cons_zero, List.set_cons_succ]; rfl)
      refine E_take (hR := KeepS.pre (SN N_ [b])) (i := 5) (N := (some 43)) (v := ?vr1_5) (a' := ?ar1_5) #[true, true, true, true, true, true, false, false, false, false] rfl rfl (by kernel_rfl) (fun _ _ _ h => h) (by rfl) ?hyr1_5 ?har1_5 ?_
      case hyr1_5 =>
        intro w' hx
        go_simp
        with_reducible rfl
      case har1_5 => (simp only [Act.put, List.setIfInBounds_toArray, List.set_cons_zero, List.set_cons_succ]; rfl)
      refine E_take (hR := KeepS.pre (SN N_ [b])) (i := 6) (N := (some 44)) (v := ?vr1_6) (a' := ?ar1_6) #[true, true, true, true, true, true, true, false, false, false] rfl rfl (by kernel_rfl) (fun _ _ _ h => h) (by rfl) ?hyr1_6 ?har1_6 ?_
      case hyr1_6 =>
        intro w' hx
        (apply Eq.trans; (apply R_slice; rfl; rfl; exact SB.no; exact SB.so; rfl; rfl; omega; omega); rw [cutA_zero, Nat.sub_zero, Nat.sub_zero])
      case har1_6 => (simp only [Act.put, List.setIfInBounds_toArray, List.set_cons_zero, List.set_cons_succ]; rfl)
      refine E_split [7] (by kernel_rfl) (by simp) (fun i_ hi_ => ?_)
      simp only [List.mem_cons, List.not_mem_nil, or_false] at hi_
      rcases hi_ with rfl
      (apply K_copyN (i := 7) (T := (some 45)) hS hz #[true, true, true, true, true, true, true, true, false, false]; rfl; rfl; (show _ = _; kernel_rfl); rfl; rfl; rfl; rfl; rfl; exact .here; (refine Or.inr ?_; focus (simp; done)); rfl; exact (show Rd _ _ ((List.replicate n d).map bV) from by have := (hS.blkRd .here).take n; rwa [htk.out] at this); (rw [List.length_map, List.length_replicate]; omega); (rw [List.length_map, List.length_map, hlen.out, List.length_replicate]; omega); exact one_bV _; (rw [List.length_map, List.length_replicate]; omega))
      clear hS hz
      intro w_ hS hz
      rintro _ rfl
      simp only [Act.put, List.setIfInBounds_toArray, List.set_cons_zero, List.set_cons_succ]
      refine E_take (hR := KeepS.pre (SN N_ [b])) (i := 8) (N := (some 46)) (v := ?vr1_8) (a' := ?ar1_8) #[true, true, true, true, true, true, true, true, true, false] rfl rfl (by kernel_rfl) (fun _ _ _ h => h) (by rfl) ?hyr1_8 ?har1_8 ?_
      case hyr1_8 =>
        intro w' hx
        go_simp
        with_reducible rfl
      case har1_8 => (simp only [Act.put, List.setIfInBounds_toArray, List.set_cons_zero, List.set_cons_succ]; rfl)
      refine E_take (hR := KeepS.pre (SN N_ [b])) (i := 9) (N := (some 8)) (v := ?vr1_9) (a' := ?ar1_9) #[true, true, true, true, true, true, true, true, true, true] rfl rfl (by kernel_rfl) (fun _ _ _ h => h) (by rfl) ?hyr1_9 ?har1_9 ?_
      case hyr1_9 =>
        intro w' hx
        go_simp
        with_reducible rfl
      case har1_9 => (simp only [Act.put, List.setIfInBounds_toArray, List.set_cons_zero, List.set_cons_succ]; rfl)
      refine E_done (by kernel_rfl) ?_
      change St _ _ _ [.blk b 5 (splice ((rp d n).map bV) n ((List.replicate n d).map bV))] at hS
      rw [hst.out] at hS
      go_wp2
      go_roundw
      case rel => exact ⟨n + n, by go_num, HP, hS⟩
      case measure => simp [intOf]; omega
    · have hn : n = 128 := by omega
      go_wp2
      go_ret
      refine ⟨_, rfl, ?_, hS.below⟩
      have := hS.blkOwn (by focus ((repeat (first | exact .here | apply At.there)); done)) (n := 128) (by rw [List.length_map, rp_len d l128]) (by decide)
      rw [hn] at this
      simpa [rp] using this
end Go.Proofs.YtfmfpckpldlahaaDoor
