/- AES: Decrypt. -/
import Derived.Test.YthamhaomfdgdjaaAesE
import Derived.Test.YthamhaomfdgdjaaAesS
namespace Go.Proofs.Ythamhaomfdgdjaa
open Go.RowKit

set_option maxRecDepth 8000 in
set_option maxHeartbeats 1600000 in
theorem decrypt_any (bC : Nat) (K b : List UInt8) (w : World) (hC : Rd w (some ⟨bC, 0, none⟩) (ciC K)) (hl : bC < w.heap.size) (hb : b.length = 16) (hK : K.length = 240) :
    Calls Try.prog 15 #[.pointer (some ⟨bC, 0, none⟩), .agg (b.map bV).toArray] w fun e w' => e = .returned (.agg ((decF K b).map bV).toArray) ∧ Below w.heap.size w w' := by
  have hS := St.start w
  have HC := Lib.hid hC
  have HB := Lib.hid hb
  have HK := Lib.hid hK
  have HER := Lib.hid (show ∀ r, (decR K b r).length = 16 from fun r => decR_len K hb r)
  have HDF := Lib.hid (show addF (decR K b 14) (rk K 0) = decF K b from rfl)
  have HDL := Lib.hid (show ((decF K b).map bV).length = 16 by rw [List.length_map]; exact decF_len hK hb)
  clear hC hb hK
  go_enter Try.func15, Try.ntmps15
  go_wp2_with (first | ((with_reducible show wpList _ _ _ (⟨some 3, Op.box _ _, _, _, _, _⟩ :: _) _ _); go_loud (apply S_box hS; rfl; rfl; (focus ((conv => lhs; whnf) <;> rfl)); rfl; clear hS; intro b3 w_ hS)) | ((with_reducible show wpList _ _ _ (⟨some 4, Op.alloc _, _, _, _, _⟩ :: _) _ _); go_loud (refine S_alloc (z := .agg ([.int .u8 0, .int .u8 0, .int .u8 0, .int .u8 0, .int .u8 0, .int .u8 0, .int .u8 0, .int .u8 0, .int .u8 0, .int .u8 0, .int .u8 0, .int .u8 0, .int .u8 0, .int .u8 0, .int .u8 0, .int .u8 0] : List Value).toArray) (L := [.int .u8 0, .int .u8 0, .int .u8 0, .int .u8 0, .int .u8 0, .int .u8 0, .int .u8 0, .int .u8 0, .int .u8 0, .int .u8 0, .int .u8 0, .int .u8 0, .int .u8 0, .int .u8 0, .int .u8 0, .int .u8 0]) hS rfl rfl ?_ ?_ ?_; (show _ = _; kernel_rfl); (show _ = _; kernel_rfl); clear hS; intro b4 w_ hS)))
  go_loopw [5] (fun i wr => ∃ r : Nat, i = .int .i64 (r : Int) ∧ r ≤ 14 ∧ St (Kp w) w wr [.blk b4 42 (List.replicate 16 (.int .u8 0)), .blk b3 42 ((decR K b (14 - r)).map bV)]) (fun i _ => (intOf i).toNat)
  case atStart => exact ⟨14, rfl, by omega, hS⟩
  case round =>
    clear hS
    obtain ⟨r, rfl, hr, hS⟩ := hrel
    by_cases h0 : 0 < r
    · have c1 : (0 : Int) < (r : Int) := by omega
      have hel := Lib.hid (HER.out (14 - r))
      have hE := Lib.hid (show decR K b (14 - (r - 1)) = rowsD (mxD r (addF (decR K b (14 - r)) (rk K r))) by
        have e : 14 - (r - 1) = (14 - r) + 1 := by omega
        rw [e]
        show rowsD (mxD (14 - (14 - r)) (addF (decR K b (14 - r)) (rk K (14 - (14 - r))))) = _
        rw [show 14 - (14 - r) = r by omega])
      have hal := Lib.hid (addF_len hel.out (rk_len HK.out hr))
      generalize hy : addF (decR K b (14 - r)) (rk K r) = y at *
      have HY := Lib.hid hy
      clear hy
      have hML := Lib.hid (show ((mixD y).map bV).length = 16 by rw [List.length_map, mixD_len])
      have hYL := Lib.hid (show (y.map bV).length = 16 by rw [List.length_map]; exact hal.out)
      have HMX := Lib.hid (mxL_D hal.out)
      have hlast := Lib.hid (show ((r : Int) - 1) = ((r - 1 : Nat) : Int) by omega)
      by_cases h13 : r < 14
      · have c2 : (r : Int) < 14 := by omega
        have hmx := Lib.hid (show mxD r y = mixD y by unfold mxD; rw [if_pos h13])
        go_upto_region 7 with (first | (go_at_call 25; refine (add_any bC b3 K (decR K b (14 - r)) r _ (hS.rdp HC.out) (hS.neOld (b := b3) (by focus ((repeat (first | exact .here | apply At.there)); done)) hl) (hS.blk (by focus ((repeat (first | exact .here | apply At.there)); done))) hel.out HK.out hr).mono ?_; rw [HY.out]; rintro e w_ ⟨rfl, hg_, hB_⟩; replace hS := hS.updB (by focus ((repeat (first | exact .here | apply At.there)); done)) hg_ hB_; clear hg_ hB_) | ((with_reducible show wpList _ _ _ (⟨some 15, Op.load _ _, _, _, _, _⟩ :: _) _ _); go_loud (apply S_ldAll hS; rfl; rfl; rfl; (focus ((repeat (first | exact .here | apply At.there)); done)); rfl; (first | rfl | (rw [hYL.out]; rfl) | (simp only [List.length_map, List.length_set]; rfl)))) | ((with_reducible show wpList _ _ _ (⟨some 16, Op.build _ _, _, _, _, _⟩ :: _) _ _); go_loud (apply S_build (L := ([14, 11, 13, 9] : List UInt8).map bV); rfl; rfl; kernel_rfl)) | (go_at_call 27; refine (mix_any [14, 11, 13, 9] y _ (.inr rfl) hal.out).mono ?_; rw [HMX.out]; rintro e w_ ⟨rfl, hb_⟩; replace hS := hS.ext hb_; clear hb_) | ((with_reducible show wpList _ _ _ (⟨_, Op.store _ _ _, _, _, _, _⟩ :: _) _ _); go_loud (apply S_stAll hS; rfl; rfl; rfl; rfl; (focus ((repeat (first | exact .here | apply At.there)); done)); (first | assumption | (first | (rw [hML.out]; rfl) | (rw [hML.out, hYL.out])) | (focus (simp [bV, wV, Value.oneCell']; done)) | (focus (simp [bV, Value.oneCell']; done))); (first | rfl | (first | (rw [hML.out]; rfl) | (rw [hML.out, hYL.out]))); (first | rfl | (first | (rw [hML.out]; rfl) | (rw [hML.out, hYL.out]))); clear hS; intro w_ hS)))
        have hRL := Lib.hid (show ((rowsD (mixD y)).map bV).length = 16 by rw [List.length_map, rowsD_len])
        obtain ⟨N_, hN_⟩ := hS.sz
        have h0N_ := hS.size
        rw [hN_] at h0N_
        refine E_start (hR := KeepS.pre (SN N_ [b3])) #[false, false, false, false, false, false] (by kernel_rfl) rfl rfl (fun w_r1 hx_r1 he_r1 => ?_)
        have hzE_ : w_r1.heap.size = N_ := by rw [he_r1]; exact hN_
        have hz : N_ ≤ w_r1.heap.size := Nat.le_of_eq hzE_.symm
        replace hS := hS.drew; rw [← he_r1] at hS
        clear hx_r1 he_r1
        clear hzE_ hN_
        refine E_take (hR := KeepS.pre (SN N_ [b3])) (i := 1) (N := (some 19)) (v := ?vr1_1) (a' := ?ar1_1) #[false, true, false, false, false, false] rfl rfl (by kernel_rfl) (fun _ _ _ h => h) (by rfl) ?hyr1_1 ?har1_1 ?_
        case hyr1_1 =>
          intro w' hx
          go_simp
          with_reducible rfl
        case har1_1 => (simp only [Act.put, List.setIfInBounds_toArray, List.set_cons_zero, List.set_cons_succ]; rfl)
        refine E_take (hR := KeepS.pre (SN N_ [b3])) (i := 2) (N := (some 20)) (v := ?vr1_2) (a' := ?ar1_2) #[false, true, true, false, false, false] rfl rfl (by kernel_rfl) (fun _ _ _ h => h) (by rfl) ?hyr1_2 ?har1_2 ?_
        case hyr1_2 =>
          intro w' hx
          go_simp
          with_reducible rfl
        case har1_2 => (simp only [Act.put, List.setIfInBounds_toArray, List.set_cons_zero, List.set_cons_succ]; rfl)
        refine E_take (hR := KeepS.pre (SN N_ [b3])) (i := 3) (N := (some 21)) (v := ?vr1_3) (a' := ?ar1_3) #[false, true, true, true, false, false] rfl rfl (by kernel_rfl) (fun _ _ _ h => h) (by rfl) ?hyr1_3 ?har1_3 ?_
        case hyr1_3 =>
          intro w' hx
          go_simp
          with_reducible rfl
        case har1_3 => (simp only [Act.put, List.setIfInBounds_toArray, List.set_cons_zero, List.set_cons_succ]; rfl)
        refine E_split [0] (by kernel_rfl) (by simp) (fun i_ hi_ => ?_)
        simp only [List.mem_cons, List.not_mem_nil, or_false] at hi_
        rcases hi_ with rfl
        (apply K_val (i := 0) (T := (some 18)) #[true, true, true, true, false, false]; rfl; rfl; (show _ = _; kernel_rfl); rfl; (apply R_ldAll hS; rfl; rfl; (focus ((repeat (first | exact .here | apply At.there)); done)); rfl; (rw [hML.out]; rfl)); exact KeepS.refl _ _)
        rintro _ rfl
        simp only [Act.put, List.setIfInBounds_toArray, List.set_cons_zero, List.set_cons_succ]
        refine E_split [4] (by kernel_rfl) (by simp) (fun i_ hi_ => ?_)
        simp only [List.mem_cons, List.not_mem_nil, or_false] at hi_
        rcases hi_ with rfl
        refine E_call1 (i := 4) (N := (some 22)) (args := ?gr1_4) #[true, true, true, true, true, false] rfl rfl (by kernel_rfl) (by rfl) Try.func26 (by kernel_rfl) rfl rfl ?hgr1_4 ?_
        case hgr1_4 => (simp only [List.map_toArray, List.map_cons, List.map_nil]; go_simp; with_reducible rfl)
        refine (rowsD_any bC 256 (mixD y) _ (rd_back (hS.rdp HC.out)) (mixD_len y)).mono ?_
        rintro e w_ ⟨rfl, hb_⟩
        (refine ⟨_, rfl, KeepS.below hb_ hz, ?_⟩; replace hS := hS.ext hb_; replace hz := Nat.le_trans hz hb_.size; clear hb_)
        rintro _ rfl
        simp only [Act.put, List.setIfInBounds_toArray, List.set_cons_zero, List.set_cons_succ]
        refine E_split [5] (by kernel_rfl) (by simp) (fun i_ hi_ => ?_)
        simp only [List.mem_cons, List.not_mem_nil, or_false] at hi_
        rcases hi_ with rfl
        (first | (apply K_stAll (i := 5) hS hz #[true, true, true, true, true, true]; rfl; rfl; kernel_rfl; rfl; rfl; rfl; rfl; (focus ((repeat (first | exact .here | apply At.there)); done)); (first | assumption | (refine Or.inl ?_; assumption) | (refine Or.inr ?_; focus (simp; done))); (first | assumption | (fail) | (focus (simp [bV, Value.oneCell']; done))); (first | rfl | ((rw [hRL.out]; rfl))); (first | rfl | ((rw [hRL.out, hML.out])))) | (apply K_stPart (i := 5) hS hz #[true, true, true, true, true, true]; rfl; rfl; kernel_rfl; rfl; rfl; rfl; rfl; (focus ((repeat (first | exact .here | apply At.there)); done)); (first | assumption | (refine Or.inl ?_; assumption) | (refine Or.inr ?_; focus (simp; done))); (first | assumption | (fail) | (focus (simp [bV, Value.oneCell']; done))); (first | rfl | ((rw [hRL.out]; rfl))); (first | decide | ((rw [hRL.out, hML.out])))))
        clear hS hz
        intro w_ hS hz
        try simp only [List.set_cons_zero, List.set_cons_succ] at hS
        refine E_done (by kernel_rfl) ?_
        go_wp2
        go_roundw
        case rel => exact ⟨r - 1, congrArg (Value.int .i64) hlast.out, by omega, by rw [hE.out, hmx.out]; exact hS⟩
        case measure => simp [intOf]; omega
      · have c2 : ¬ (r : Int) < 14 := by omega
        have hmx := Lib.hid (show mxD r y = y by unfold mxD; rw [if_neg h13])
        go_upto_region 7 with (first | (go_at_call 25; refine (add_any bC b3 K (decR K b (14 - r)) r _ (hS.rdp HC.out) (hS.neOld (b := b3) (by focus ((repeat (first | exact .here | apply At.there)); done)) hl) (hS.blk (by focus ((repeat (first | exact .here | apply At.there)); done))) hel.out HK.out hr).mono ?_; rw [HY.out]; rintro e w_ ⟨rfl, hg_, hB_⟩; replace hS := hS.updB (by focus ((repeat (first | exact .here | apply At.there)); done)) hg_ hB_; clear hg_ hB_))
        have hRL := Lib.hid (show ((rowsD y).map bV).length = 16 by rw [List.length_map, rowsD_len])
        obtain ⟨N_, hN_⟩ := hS.sz
        have h0N_ := hS.size
        rw [hN_] at h0N_
        refine E_start (hR := KeepS.pre (SN N_ [b3])) #[false, false, false, false, false, false] (by kernel_rfl) rfl rfl (fun w_r2 hx_r2 he_r2 => ?_)
        have hzE_ : w_r2.heap.size = N_ := by rw [he_r2]; exact hN_
        have hz : N_ ≤ w_r2.heap.size := Nat.le_of_eq hzE_.symm
        replace hS := hS.drew; rw [← he_r2] at hS
        clear hx_r2 he_r2
        clear hzE_ hN_
        refine E_take (hR := KeepS.pre (SN N_ [b3])) (i := 1) (N := (some 19)) (v := ?vr2_1) (a' := ?ar2_1) #[false, true, false, false, false, false] rfl rfl (by kernel_rfl) (fun _ _ _ h => h) (by rfl) ?hyr2_1 ?har2_1 ?_
        case hyr2_1 =>
          intro w' hx
          go_simp
          with_reducible rfl
        case har2_1 => (simp only [Act.put, List.setIfInBounds_toArray, List.set_cons_zero, List.set_cons_succ]; rfl)
        refine E_take (hR := KeepS.pre (SN N_ [b3])) (i := 2) (N := (some 20)) (v := ?vr2_2) (a' := ?ar2_2) #[false, true, true, false, false, false] rfl rfl (by kernel_rfl) (fun _ _ _ h => h) (by rfl) ?hyr2_2 ?har2_2 ?_
        case hyr2_2 =>
          intro w' hx
          go_simp
          with_reducible rfl
        case har2_2 => (simp only [Act.put, List.setIfInBounds_toArray, List.set_cons_zero, List.set_cons_succ]; rfl)
        refine E_take (hR := KeepS.pre (SN N_ [b3])) (i := 3) (N := (some 21)) (v := ?vr2_3) (a' := ?ar2_3) #[false, true, true, true, false, false] rfl rfl (by kernel_rfl) (fun _ _ _ h => h) (by rfl) ?hyr2_3 ?har2_3 ?_
        case hyr2_3 =>
          intro w' hx
          go_simp
          with_reducible rfl
        case har2_3 => (simp only [Act.put, List.setIfInBounds_toArray, List.set_cons_zero, List.set_cons_succ]; rfl)
        refine E_split [0] (by kernel_rfl) (by simp) (fun i_ hi_ => ?_)
        simp only [List.mem_cons, List.not_mem_nil, or_false] at hi_
        rcases hi_ with rfl
        (apply K_val (i := 0) (T := (some 18)) #[true, true, true, true, false, false]; rfl; rfl; (show _ = _; kernel_rfl); rfl; (apply R_ldAll hS; rfl; rfl; (focus ((repeat (first | exact .here | apply At.there)); done)); rfl; (rw [hYL.out]; rfl)); exact KeepS.refl _ _)
        rintro _ rfl
        simp only [Act.put, List.setIfInBounds_toArray, List.set_cons_zero, List.set_cons_succ]
        refine E_split [4] (by kernel_rfl) (by simp) (fun i_ hi_ => ?_)
        simp only [List.mem_cons, List.not_mem_nil, or_false] at hi_
        rcases hi_ with rfl
        refine E_call1 (i := 4) (N := (some 22)) (args := ?gr2_4) #[true, true, true, true, true, false] rfl rfl (by kernel_rfl) (by rfl) Try.func26 (by kernel_rfl) rfl rfl ?hgr2_4 ?_
        case hgr2_4 => (simp only [List.map_toArray, List.map_cons, List.map_nil]; go_simp; with_reducible rfl)
        refine (rowsD_any bC 256 y _ (rd_back (hS.rdp HC.out)) hal.out).mono ?_
        rintro e w_ ⟨rfl, hb_⟩
        (refine ⟨_, rfl, KeepS.below hb_ hz, ?_⟩; replace hS := hS.ext hb_; replace hz := Nat.le_trans hz hb_.size; clear hb_)
        rintro _ rfl
        simp only [Act.put, List.setIfInBounds_toArray, List.set_cons_zero, List.set_cons_succ]
        refine E_split [5] (by kernel_rfl) (by simp) (fun i_ hi_ => ?_)
        simp only [List.mem_cons, List.not_mem_nil, or_false] at hi_
        rcases hi_ with rfl
        (first | (apply K_stAll (i := 5) hS hz #[true, true, true, true, true, true]; rfl; rfl; kernel_rfl; rfl; rfl; rfl; rfl; (focus ((repeat (first | exact .here | apply At.there)); done)); (first | assumption | (refine Or.inl ?_; assumption) | (refine Or.inr ?_; focus (simp; done))); (first | assumption | (fail) | (focus (simp [bV, Value.oneCell']; done))); (first | rfl | ((rw [hRL.out]; rfl))); (first | rfl | ((rw [hRL.out, hYL.out])))) | (apply K_stPart (i := 5) hS hz #[true, true, true, true, true, true]; rfl; rfl; kernel_rfl; rfl; rfl; rfl; rfl; (focus ((repeat (first | exact .here | apply At.there)); done)); (first | assumption | (refine Or.inl ?_; assumption) | (refine Or.inr ?_; focus (simp; done))); (first | assumption | (fail) | (focus (simp [bV, Value.oneCell']; done))); (first | rfl | ((rw [hRL.out]; rfl))); (first | decide | ((rw [hRL.out, hYL.out])))))
        clear hS hz
        intro w_ hS hz
        try simp only [List.set_cons_zero, List.set_cons_succ] at hS
        refine E_done (by kernel_rfl) ?_
        go_wp2
        go_roundw
        case rel => exact ⟨r - 1, congrArg (Value.int .i64) hlast.out, by omega, by rw [hE.out, hmx.out]; exact hS⟩
        case measure => simp [intOf]; omega
    · have hr0 : r = 0 := by omega
      rw [hr0] at hS
      have c1 : ¬ (0 : Int) < (r : Int) := by omega
      go_wp2_with (first | (go_at_call 25; refine (add_any bC b3 K (decR K b 14) 0 _ (hS.rdp HC.out) (hS.neOld (b := b3) (by focus ((repeat (first | exact .here | apply At.there)); done)) hl) (hS.blk (by focus ((repeat (first | exact .here | apply At.there)); done))) (HER.out 14) HK.out (by decide)).mono ?_; rw [HDF.out]; rintro e w_ ⟨rfl, hg_, hB_⟩; replace hS := hS.updB (by focus ((repeat (first | exact .here | apply At.there)); done)) hg_ hB_; clear hg_ hB_) | ((with_reducible show wpList _ _ _ (⟨some 25, Op.load _ _, _, _, _, _⟩ :: _) _ _); go_loud (apply S_ldAll hS; rfl; rfl; rfl; (focus ((repeat (first | exact .here | apply At.there)); done)); rfl; (first | rfl | (rw [HDL.out]; rfl) | (simp only [List.length_map, List.length_set]; rfl)))) | ((with_reducible show wpList _ _ _ (⟨_, Op.store _ _ _, _, _, _, _⟩ :: _) _ _); go_loud (apply S_stAll hS; rfl; rfl; rfl; rfl; (focus ((repeat (first | exact .here | apply At.there)); done)); (first | assumption | (rw [HDL.out]; rfl) | (focus (simp [bV, wV, Value.oneCell']; done)) | (focus (simp [bV, Value.oneCell']; done))); (first | rfl | (rw [HDL.out]; rfl)); (first | rfl | (rw [HDL.out]; rfl)); clear hS; intro w_ hS)))
      (try simp only [Exit.inBlock, Exit.then]); refine bodyPost_ret (results_cell_one hS rfl _ rfl (by focus ((repeat (first | exact .here | apply At.there)); done)) rfl (by rw [HDL.out]; rfl)) rfl ⟨rfl, hS.below⟩
end Go.Proofs.Ythamhaomfdgdjaa
