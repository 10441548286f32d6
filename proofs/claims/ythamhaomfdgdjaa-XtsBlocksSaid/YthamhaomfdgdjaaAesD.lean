/- AES: a round's key is xored. -/
import Derived.Test.YthamhaomfdgdjaaAesC
import Derived.Test.YthamhaomfdgdjaaStM
import Derived.Test.YthamhaomfdgdjaaXoP
import Derived.Test.YthamhaomfdgdjaaSet
namespace Go.Proofs.Ythamhaomfdgdjaa
open Go.RowKit

/-- A cipher's cells, of a key's round keys. -/
def ciC (K : List UInt8) : List Value := (sbT ++ bkT ++ K).map bV
set_option maxRecDepth 8000 in
theorem ciC_len {K : List UInt8} (hK : K.length = 240) : (ciC K).length = 752 := by
  unfold ciC; rw [List.length_map, List.length_append, hK]; rfl
set_option maxRecDepth 8000 in
theorem ciC_key {K : List UInt8} (j : Nat) (hj : j < K.length) : (ciC K)[512 + j]? = some (.int .u8 ((K.getD j 0).toNat : Int)) := by
  unfold ciC
  have h : (sbT ++ bkT).length = 512 := by rfl
  rw [List.getElem?_map, List.getElem?_append_right (by omega), h, Nat.add_sub_cancel_left, List.getD_eq_getElem?_getD, List.getElem?_eq_getElem hj]
  rfl
theorem rk_get {K : List UInt8} {r k : Nat} (hk : k < 16) : (rk K r).getD k 0 = K.getD (16 * r + k) 0 := by
  unfold rk
  rw [List.getD_eq_getElem?_getD, List.getD_eq_getElem?_getD, List.getElem?_take_of_lt hk, List.getElem?_drop]

set_option maxRecDepth 8000 in
set_option maxHeartbeats 1600000 in
theorem add_any (bC bb : Nat) (K b : List UInt8) (r : Nat) (w : World) (hC : Rd w (some ⟨bC, 0, none⟩) (ciC K)) (hne : bC ≠ bb) (hB : Blk w bb 42 (b.map bV)) (hb : b.length = 16) (hK : K.length = 240) (hr : r ≤ 14) :
    Calls Try.prog 25 #[.pointer (some ⟨bC, 0, none⟩), .pointer (some ⟨bb, 0, none⟩), .int .i64 (r : Int)] w fun e w' => e = .returned (.tuple #[]) ∧ w.grownBy w' (some bb) ∧ Blk w' bb 42 ((addF b (rk K r)).map bV) := by
  have hS := St.start1 (x := .blk bb 42 (b.map bV)) (w := w) hB (b := bb) rfl
  have HC := Lib.hid hC
  have HB := Lib.hid hb
  have HK := Lib.hid hK
  have HL := Lib.hid (rk_len hK hr)
  have HNE := Lib.hid (show ∀ ad, some (⟨bC, 0, none⟩ : Addr) = some ad → ad.block ≠ bb from fun ad e => by cases e; exact hne)
  have HX := Lib.hid (show xorF b (rk K r) = addF b (rk K r) from rfl)
  clear hC hB hb hK
  go_enter Try.func25, Try.ntmps25
  go_wp2
  go_loopw [7] (fun i wr => ∃ k : Nat, i = .int .i64 (k : Int) ∧ k ≤ 16 ∧ St (Km w bb) w wr [.blk bb 42 ((xorK b (rk K r) k).map bV)]) (fun i _ => 16 - (intOf i).toNat)
  case atStart => exact ⟨0, rfl, by omega, by rw [xorK_zero]; exact hS⟩
  case round =>
    clear hS
    obtain ⟨k, rfl, hk, hS⟩ := hrel
    by_cases hlt : k < 16
    · have hka : k < b.length := by rw [HB.out]; exact hlt
      have hkb : k < (rk K r).length := by rw [HL.out]; exact hlt
      have v1 : ((xorK b (rk K r) k).map bV)[k]? = some (.int .u8 (b[k].toNat : Int)) := by rw [List.getElem?_map, xorK_at hka hkb]; rfl
      have V2 := Lib.hid (show ∀ wx : World, Rd wx (some ⟨bC, 0, none⟩) (ciC K) → wx.cell? ⟨bC, 512 + r * 16 + k, none⟩ = some (.int .u8 ((rk K r)[k].toNat : Int)) from fun wx h => by
        have h1 := h.cell (i := 512 + (16 * r + k)) (by rw [ciC_len HK.out]; omega)
        rw [ciC_key (16 * r + k) (by rw [HK.out]; omega), ← rk_get hlt, List.getD_eq_getElem?_getD, List.getElem?_eq_getElem hkb] at h1
        rw [show 512 + r * 16 + k = 0 + (512 + (16 * r + k)) by omega]; exact h1)
      have hr15 : (r : Int) < 15 := by omega
      have hst := Lib.hid (xorK_set hka hkb)
      have hlen := Lib.hid (show ((xorK b (rk K r) k).map bV).length = 16 by rw [List.length_map]; unfold xorK; rw [List.length_append, xorF_length, List.length_take, List.length_take, List.length_drop, HB.out, HL.out]; omega)
      have hkl : k < ((xorK b (rk K r) k).map bV).length := by rw [hlen.out]; exact hlt
      generalize b[k] = x at *
      generalize (rk K r)[k] = y at *
      have hxy := xor8 x y
      go_wp2
      obtain ⟨N_, hN_⟩ := hS.sz
      have h0N_ := hS.size
      rw [hN_] at h0N_
      refine E_start (hR := KeepS.pre (SN N_ [bb])) #[false, false, false, false, false, false, false, false, false, false, false, false, false, false, false, false, false] (by kernel_rfl) rfl rfl (fun w_r1 hx_r1 he_r1 => ?_)
      have hzE_ : w_r1.heap.size = N_ := by rw [he_r1]; exact hN_
      have hz : N_ ≤ w_r1.heap.size := Nat.le_of_eq hzE_.symm
      replace hS := hS.drew; rw [← he_r1] at hS
      clear hx_r1 he_r1
      clear hzE_ hN_
      refine E_take (hR := KeepS.pre (SN N_ [bb])) (i := 0) (N := (some 10)) (v := ?vr1_0) (a' := ?ar1_0) #[true, false, false, false, false, false, false, false, false, false, false, false, false, false, false, false, false] rfl rfl (by kernel_rfl) (fun _ _ _ h => h) (by rfl) ?hyr1_0 ?har1_0 ?_
      case hyr1_0 =>
        intro w' hx
        go_simp
        with_reducible rfl
      case har1_0 => (simp only [Act.put, List.setIfInBounds_toArray, List.set_cons_zero, List.set_cons_succ]; rfl)
      refine E_take (hR := KeepS.pre (SN N_ [bb])) (i := 1) (N := (some 11)) (v := ?vr1_1) (a' := ?ar1_1) #[true, true, false, false, false, false, false, false, false, false, false, false, false, false, false, false, false] rfl rfl (by kernel_rfl) (fun _ _ _ h => h) (by rfl) ?hyr1_1 ?har1_1 ?_
      case hyr1_1 =>
        intro w' hx
        go_simp
        with_reducible rfl
      case har1_1 => (simp only [Act.put, List.setIfInBounds_toArray, List.set_cons_zero, List.set_cons_succ]; rfl)
      refine E_take (hR := KeepS.pre (SN N_ [bb])) (i := 2) (N := (some 12)) (v := ?vr1_2) (a' := ?ar1_2) #[true, true, true, false, false, false, false, false, false, false, false, false, false, false, false, false, false] rfl rfl (by kernel_rfl) (fun _ _ _ h => h) (by rfl) ?hyr1_2 ?har1_2 ?_
      case hyr1_2 =>
        intro w' hx
        go_simp
        with_reducible rfl
      case har1_2 => (simp only [Act.put, List.setIfInBounds_toArray, List.set_cons_zero, List.set_cons_succ]; rfl)
      refine E_take (hR := KeepS.pre (SN N_ [bb])) (i := 3) (N := (some 13)) (v := ?vr1_3) (a' := ?ar1_3) #[true, true, true, true, false, false, false, false, false, false, false, false, false, false, false, false, false] rfl rfl (by kernel_rfl) (fun _ _ _ h => h) (by rfl) ?hyr1_3 ?har1_3 ?_
      case hyr1_3 =>
        intro w' hx
        go_simp
        with_reducible rfl
      case har1_3 => (simp only [Act.put, List.setIfInBounds_toArray, List.set_cons_zero, List.set_cons_succ]; rfl)
      refine E_take (hR := KeepS.pre (SN N_ [bb])) (i := 5) (N := (some 15)) (v := ?vr1_5) (a' := ?ar1_5) #[true, true, true, true, false, true, false, false, false, false, false, false, false, false, false, false, false] rfl rfl (by kernel_rfl) (fun _ _ _ h => h) (by rfl) ?hyr1_5 ?har1_5 ?_
      case hyr1_5 =>
        intro w' hx
        go_simp
        with_reducible rfl
      case har1_5 => (simp only [Act.put, List.setIfInBounds_toArray, List.set_cons_zero, List.set_cons_succ]; rfl)
      refine E_take (hR := KeepS.pre (SN N_ [bb])) (i := 6) (N := (some 16)) (v := ?vr1_6) (a' := ?ar1_6) #[true, true, true, true, false, true, true, false, false, false, false, false, false, false, false, false, false] rfl rfl (by kernel_rfl) (fun _ _ _ h => h) (by rfl) ?hyr1_6 ?har1_6 ?_
      case hyr1_6 =>
        intro w' hx
        go_simp
        with_reducible rfl
      case har1_6 => (simp only [Act.put, List.setIfInBounds_toArray, List.set_cons_zero, List.set_cons_succ]; rfl)
      refine E_take (hR := KeepS.pre (SN N_ [bb])) (i := 7) (N := (some 17)) (v := ?vr1_7) (a' := ?ar1_7) #[true, true, true, true, false, true, true, true, false, false, false, false, false, false, false, false, false] rfl rfl (by kernel_rfl) (fun _ _ _ h => h) (by rfl) ?hyr1_7 ?har1_7 ?_
      case hyr1_7 =>
        intro w' hx
        go_simp
        with_reducible rfl
      case har1_7 => (simp only [Act.put, List.setIfInBounds_toArray, List.set_cons_zero, List.set_cons_succ]; rfl)
      refine E_take (hR := KeepS.pre (SN N_ [bb])) (i := 8) (N := (some 18)) (v := ?vr1_8) (a' := ?ar1_8) #[true, true, true, true, false, true, true, true, true, false, false, false, false, false, false, false, false] rfl rfl (by kernel_rfl) (fun _ _ _ h => h) (by rfl) ?hyr1_8 ?har1_8 ?_
      case hyr1_8 =>
        intro w' hx
        go_simp
        with_reducible rfl
      case har1_8 => (simp only [Act.put, List.setIfInBounds_toArray, List.set_cons_zero, List.set_cons_succ]; rfl)
      refine E_take (hR := KeepS.pre (SN N_ [bb])) (i := 9) (N := (some 19)) (v := ?vr1_9) (a' := ?ar1_9) #[true, true, true, true, false, true, true, true, true, true, false, false, false, false, false, false, false] rfl rfl (by kernel_rfl) (fun _ _ _ h => h) (by rfl) ?hyr1_9 ?har1_9 ?_
      case hyr1_9 =>
        intro w' hx
        go_simp
        with_reducible rfl
      case har1_9 => (simp only [Act.put, List.setIfInBounds_toArray, List.set_cons_zero, List.set_cons_succ]; rfl)
      refine E_take (hR := KeepS.pre (SN N_ [bb])) (i := 10) (N := (some 20)) (v := ?vr1_10) (a' := ?ar1_10) #[true, true, true, true, false, true, true, true, true, true, true, false, false, false, false, false, false] rfl rfl (by kernel_rfl) (fun _ _ _ h => h) (by rfl) ?hyr1_10 ?har1_10 ?_
      case hyr1_10 =>
        intro w' hx
        go_simp
        with_reducible rfl
      case har1_10 => (simp only [Act.put, List.setIfInBounds_toArray, List.set_cons_zero, List.set_cons_succ]; rfl)
      refine E_take (hR := KeepS.pre (SN N_ [bb])) (i := 11) (N := (some 21)) (v := ?vr1_11) (a' := ?ar1_11) #[true, true, true, true, false, true, true, true, true, true, true, true, false, false, false, false, false] rfl rfl (by kernel_rfl) (fun _ _ _ h => h) (by rfl) ?hyr1_11 ?har1_11 ?_
      case hyr1_11 =>
        intro w' hx
        go_simp
        with_reducible rfl
      case har1_11 => (simp only [Act.put, List.setIfInBounds_toArray, List.set_cons_zero, List.set_cons_succ]; rfl)
      refine E_take (hR := KeepS.pre (SN N_ [bb])) (i := 12) (N := (some 22)) (v := ?vr1_12) (a' := ?ar1_12) #[true, true, true, true, false, true, true, true, true, true, true, true, true, false, false, false, false] rfl rfl (by kernel_rfl) (fun _ _ _ h => h) (by rfl) ?hyr1_12 ?har1_12 ?_
      case hyr1_12 =>
        intro w' hx
        (apply Eq.trans; (apply run_ld; rfl; rfl; rfl; exact V2.out w' (hS.rdmK hx h0N_ HC.out HNE.out)); with_reducible rfl)
      case har1_12 => (simp only [Act.put, List.setIfInBounds_toArray, List.set_cons_zero, List.set_cons_succ]; rfl)
      refine E_take (hR := KeepS.pre (SN N_ [bb])) (i := 14) (N := (some 24)) (v := ?vr1_14) (a' := ?ar1_14) #[true, true, true, true, false, true, true, true, true, true, true, true, true, false, true, false, false] rfl rfl (by kernel_rfl) (fun _ _ _ h => h) (by rfl) ?hyr1_14 ?har1_14 ?_
      case hyr1_14 =>
        intro w' hx
        go_simp
        with_reducible rfl
      case har1_14 => (simp only [Act.put, List.setIfInBounds_toArray, List.set_cons_zero, List.set_cons_succ]; rfl)
      refine E_split [4] (by kernel_rfl) (by simp) (fun i_ hi_ => ?_)
      simp only [List.mem_cons, List.not_mem_nil, or_false] at hi_
      rcases hi_ with rfl
      (apply K_val (i := 4) (T := (some 14)) #[true, true, true, true, true, true, true, true, true, true, true, true, true, false, true, false, false]; rfl; rfl; (show _ = _; kernel_rfl); rfl; (apply R_ld hS; rfl; rfl; (focus ((repeat (first | exact .here | apply At.there)); done)); rfl; (first | assumption | rfl | exact mapGetB (by first | assumption | omega))); exact KeepS.refl _ _)
      rintro _ rfl
      simp only [Act.put, List.setIfInBounds_toArray, List.set_cons_zero, List.set_cons_succ]
      refine E_take (hR := KeepS.pre (SN N_ [bb])) (i := 13) (N := (some 23)) (v := ?vr1_13) (a' := ?ar1_13) #[true, true, true, true, true, true, true, true, true, true, true, true, true, true, true, false, false] rfl rfl (by kernel_rfl) (fun _ _ _ h => h) (by rfl) ?hyr1_13 ?har1_13 ?_
      case hyr1_13 =>
        intro w' hx
        go_simp
        with_reducible rfl
      case har1_13 => (simp only [Act.put, List.setIfInBounds_toArray, List.set_cons_zero, List.set_cons_succ]; rfl)
      refine E_take (hR := KeepS.pre (SN N_ [bb])) (i := 15) (N := (some 25)) (v := ?vr1_15) (a' := ?ar1_15) #[true, true, true, true, true, true, true, true, true, true, true, true, true, true, true, true, false] rfl rfl (by kernel_rfl) (fun _ _ _ h => h) (by rfl) ?hyr1_15 ?har1_15 ?_
      case hyr1_15 =>
        intro w' hx
        go_simp
        with_reducible rfl
      case har1_15 => (simp only [Act.put, List.setIfInBounds_toArray, List.set_cons_zero, List.set_cons_succ]; rfl)
      refine E_split [16] (by kernel_rfl) (by simp) (fun i_ hi_ => ?_)
      simp only [List.mem_cons, List.not_mem_nil, or_false] at hi_
      rcases hi_ with rfl
      (apply K_st (i := 16) hS hz #[true, true, true, true, true, true, true, true, true, true, true, true, true, true, true, true, true]; rfl; rfl; (show _ = _; kernel_rfl); rfl; rfl; rfl; (focus ((conv => lhs; whnf) <;> rfl)); (focus ((repeat (first | exact .here | apply At.there)); done)); (first | assumption | (refine Or.inl ?_; assumption) | (refine Or.inr ?_; focus (simp; done))); rfl; rfl; (first | decide | assumption | (simp only [List.length_map, List.length_set]; omega)))
      clear hS hz
      intro w_ hS hz
      try simp only [List.set_cons_zero, List.set_cons_succ] at hS
      refine E_done (by kernel_rfl) ?_
      have EX : Value.int .u8 ((x.toNat ^^^ y.toNat : Nat) : Int) = bV (x ^^^ y) := by unfold bV; rw [UInt8.toNat_xor]
      rw [EX, set_map_bV, hst.out] at hS
      clear EX
      go_wp2
      go_roundw
      case rel => exact ⟨k + 1, by go_num, by omega, hS⟩
      case measure => simp [intOf]; omega
    · have hk16 : k = 16 := by omega
      rw [hk16, xorK_end HB.out (by rw [HL.out]; decide), HX.out] at hS
      go_wp2
      refine bodyPost_end (results_none rfl _ _ _) rfl ⟨rfl, hS.grownBy, hS.blk (by focus ((repeat (first | exact .here | apply At.there)); done))⟩
end Go.Proofs.Ythamhaomfdgdjaa
