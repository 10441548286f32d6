/- The walk of CtsLast. -/
import Derived.Test.YthmdnpaebdlefaaCtsW
import Derived.Test.YthmdnpaebdlefaaCtsT
import Derived.Test.YthmdnpaebdlefaaInts
import Derived.Test.YthmdnpaebdlefaaArr
namespace Go.Proofs.Ythmdnpaebdlefaa
open Go.RowKit
set_option linter.unusedVariables false
set_option linter.unusedSimpArgs false

set_option maxRecDepth 8000 in
set_option maxHeartbeats 1600000 in
theorem last_walk (key b : List UInt8) (cc : UInt8) (w : World) (hk : key.length = 32) (hb : b.length = 48) :
    Calls Try.prog 4 #[.agg (key.map bV).toArray, .agg (b.map bV).toArray, .int .u8 (cc.toNat : Int)] w fun e w' => e = .returned (.bool true) ∧ Below w.heap.size w w' := by
  have hS := St.start w
  have HK := Lib.hid hk
  have HB := Lib.hid hb
  have HKL := Lib.hid (keysF_len hk)
  have HCP := Lib.hid (ciph_aes (keysF_len hk))
  obtain ⟨s1, s2, g1, g2, g3, g4, g5, g6⟩ := cts_last HCP.out hb cc
  have G1 := Lib.hid g1
  have G2 := Lib.hid g2
  have hxl := ctsE_len HCP.out (b := b) (by omega)
  have hyl := ctsE_len HCP.out (b := b ++ [cc]) (by rw [List.length_append]; omega)
  rw [List.length_append, hb] at hyl
  rw [hb] at hxl
  clear hk hb g1 g2
  generalize hKK : keysF key = K at *
  have HKK := Lib.hid (show True → keysF key = K from fun _ => hKK)
  generalize hxx : ctsE (encF K) b = x at *
  generalize hyy : ctsE (encF K) (b ++ [cc]) = y at *
  have HXX := Lib.hid (show True → ctsE (encF K) b = x from fun _ => hxx)
  have HYY := Lib.hid (show True → ctsE (encF K) (b ++ [cc]) = y from fun _ => hyy)
  have G3 := Lib.hid g3
  have G4 := Lib.hid g4
  have G5 := Lib.hid g5
  have G6 := Lib.hid g6
  have HX := Lib.hid hxl
  have HY := Lib.hid (show y.length = 49 from hyl)
  have e1 : ((str s1).toList == (str s1).toList) = true := by simp
  have e2 : ((str s2).toList == (str s2).toList) = true := by simp
  have HBC := Lib.hid (show (b ++ [cc]).length = 49 by rw [List.length_append, HB.out]; rfl)
  clear hKK hxx hyy g3 g4 g5 g6 hxl hyl
  go_enter Try.func4, Try.ntmps4
  go_upto_region 7 with (first | ((with_reducible show wpList _ _ _ (⟨some 3, Op.box _ _, _, _, _, _⟩ :: _) _ _); go_loud (apply S_box hS; rfl; rfl; (focus ((conv => lhs; whnf) <;> rfl)); rfl; clear hS; intro b3 w_ hS)) | ((with_reducible show wpList _ _ _ (⟨some 4, Op.box _ _, _, _, _, _⟩ :: _) _ _); go_loud (apply S_box hS; rfl; rfl; (focus ((conv => lhs; whnf) <;> rfl)); rfl; clear hS; intro b4 w_ hS)) | (go_at_call 6; refine (awake_any _).mono ?_; rintro e w_ ⟨rfl, hb_⟩; replace hS := hS.ext hb_; clear hb_) | (go_at_call 7; refine (new_any (some ⟨b3, 0, none⟩) 32 key _ HK.out (hS.blkRd (b := b3) (by focus ((repeat (first | exact .here | apply At.there)); done))) (by decide)).mono ?_; rintro e w_ ⟨bX, rfl, hge_, hB_, hb_⟩; rw [HKK.out trivial] at hB_; replace hS := hS.gotBlk hb_ hge_ hB_; clear hb_ hge_ hB_) | (go_at_call 8; refine (ctsEnc_any bX (some ⟨b4, 0, none⟩) 48 48 K b _ HB.out (hS.blkRd (b := b4) (by focus ((repeat (first | exact .here | apply At.there)); done))) (by decide) (by decide) (by decide) HKL.out (hS.blkRd (b := bX) (by focus ((repeat (first | exact .here | apply At.there)); done))) (hS.blkLt (b := bX) (by focus ((repeat (first | exact .here | apply At.there)); done)))).mono ?_; rw [HXX.out trivial]; rintro e w_ ⟨gx, cx, rfl, ho_, hb_⟩; rw [HX.out] at ho_ ⊢; replace hS := hS.got hb_ ho_; clear hb_ ho_))
  go_upto_region 8 with (first | ((with_reducible show wpList _ _ _ (⟨some 32, Op.buildSlice _ _ _, _, _, _, _⟩ :: _) _ _); go_loud (apply S_bslice hS; rfl; (go_simp; first | with_reducible rfl | (refine ⟨?_, ?_⟩ <;> with_reducible rfl)); rfl; rfl; rfl; rfl; clear hS; intro b32 w_ hS)) | ((with_reducible show wpList _ _ _ (⟨some 36, Op.buildSlice _ _ _, _, _, _, _⟩ :: _) _ _); go_loud (apply S_bslice hS; rfl; (go_simp; first | with_reducible rfl | (refine ⟨?_, ?_⟩ <;> with_reducible rfl)); rfl; rfl; rfl; rfl; clear hS; intro b36 w_ hS)) | ((with_reducible show wpList _ _ _ (⟨some 34, Op.call _, _, _, _, _⟩ :: _) _ _); go_loud (apply S_app TB hS; rfl; rfl; rfl; (focus ((repeat (first | exact .here | apply At.there)); done)); rfl; exact (RdB.src (c := 48) Try.underlying29 (hS.blkRd (b := b4) (by focus ((repeat (first | exact .here | apply At.there)); done))) HB.out); (unfold maxLen; omega); omega; clear hS; intro A34 c34 w_ hS; (try simp only [Nat.zero_add, List.nil_append] at hS ⊢))) | ((with_reducible show wpList _ _ _ (⟨some 37, Op.call _, _, _, _, _⟩ :: _) _ _); go_loud (apply S_app TB hS; rfl; rfl; rfl; (focus ((repeat (first | exact .here | apply At.there)); done)); rfl; exact (src1 (hS.ownRd (A := some ⟨b36, 0, none⟩) (by focus ((repeat (first | exact .here | apply At.there)); done))) rfl); (unfold maxLen; omega); omega; clear hS; intro A37 c37 w_ hS; (try simp only [Nat.zero_add, List.nil_append] at hS ⊢))) | (go_at_call 8; refine (ctsEnc_any bX A37 49 c37 K (b ++ [cc]) _ HBC.out (by unfold RdB; rw [List.map_append]; exact hS.ownRd (A := A37) (by focus ((repeat (first | exact .here | apply At.there)); done))) (hS.ownCap (A := A37) (by focus ((repeat (first | exact .here | apply At.there)); done))) (by decide) (by decide) HKL.out (hS.blkRd (b := bX) (by focus ((repeat (first | exact .here | apply At.there)); done))) (hS.blkLt (b := bX) (by focus ((repeat (first | exact .here | apply At.there)); done)))).mono ?_; rw [HYY.out trivial]; rintro e w_ ⟨gy, cy, rfl, ho_, hb_⟩; rw [HY.out] at ho_ ⊢; replace hS := hS.got hb_ ho_; clear hb_ ho_))
  have hcx : 48 ≤ cx := hS.ownCap (A := some ⟨gx, 0, none⟩) (by focus ((repeat (first | exact .here | apply At.there)); done))
  have hcy : 49 ≤ cy := hS.ownCap (A := some ⟨gy, 0, none⟩) (by focus ((repeat (first | exact .here | apply At.there)); done))
  refine E_start (hR := Ext.pre) #[false, false, false, false, false, false, false, false, false, false, false, false, false, false, false, false, false, false, false, false, false, false, false, false, false, false, false, false, false, false, false, false, false, false, false] (by kernel_rfl) rfl rfl (fun w_r1 hx_r1 he_r1 => ?_)
  clear he_r1
  replace hS := hS.ext hx_r1; clear hx_r1
  refine E_take (hR := Ext.pre) (i := 0) (N := (some 41)) (v := ?vr1_0) (a' := ?ar1_0) #[true, false, false, false, false, false, false, false, false, false, false, false, false, false, false, false, false, false, false, false, false, false, false, false, false, false, false, false, false, false, false, false, false, false, false] rfl rfl (by kernel_rfl) (fun _ _ _ h => h) (by rfl) ?hyr1_0 ?har1_0 ?_
  case hyr1_0 =>
    intro w' hx
    go_simp
    with_reducible rfl
  case har1_0 => (simp only [Act.put, List.setIfInBounds_toArray, List.set_cons_zero, List.set_cons_succ]; rfl)
  refine E_take (hR := Ext.pre) (i := 1) (N := (some 42)) (v := ?vr1_1) (a' := ?ar1_1) #[true, true, false, false, false, false, false, false, false, false, false, false, false, false, false, false, false, false, false, false, false, false, false, false, false, false, false, false, false, false, false, false, false, false, false] rfl rfl (by kernel_rfl) (fun _ _ _ h => h) (by rfl) ?hyr1_1 ?har1_1 ?_
  case hyr1_1 =>
    intro w' hx
    go_simp
    with_reducible rfl
  case har1_1 => (simp only [Act.put, List.setIfInBounds_toArray, List.set_cons_zero, List.set_cons_succ]; rfl)
  refine E_take (hR := Ext.pre) (i := 2) (N := (some 43)) (v := ?vr1_2) (a' := ?ar1_2) #[true, true, true, false, false, false, false, false, false, false, false, false, false, false, false, false, false, false, false, false, false, false, false, false, false, false, false, false, false, false, false, false, false, false, false] rfl rfl (by kernel_rfl) (fun _ _ _ h => h) (by rfl) ?hyr1_2 ?har1_2 ?_
  case hyr1_2 =>
    intro w' hx
    go_simp
    with_reducible rfl
  case har1_2 => (simp only [Act.put, List.setIfInBounds_toArray, List.set_cons_zero, List.set_cons_succ]; rfl)
  refine E_take (hR := Ext.pre) (i := 3) (N := (some 44)) (v := ?vr1_3) (a' := ?ar1_3) #[true, true, true, true, false, false, false, false, false, false, false, false, false, false, false, false, false, false, false, false, false, false, false, false, false, false, false, false, false, false, false, false, false, false, false] rfl rfl (by kernel_rfl) (fun _ _ _ h => h) (by rfl) ?hyr1_3 ?har1_3 ?_
  case hyr1_3 =>
    intro w' hx
    go_simp
    with_reducible rfl
  case har1_3 => (simp only [Act.put, List.setIfInBounds_toArray, List.set_cons_zero, List.set_cons_succ]; rfl)
  refine E_take (hR := Ext.pre) (i := 4) (N := (some 45)) (v := ?vr1_4) (a' := ?ar1_4) #[true, true, true, true, true, false, false, false, false, false, false, false, false, false, false, false, false, false, false, false, false, false, false, false, false, false, false, false, false, false, false, false, false, false, false] rfl rfl (by kernel_rfl) (fun _ _ _ h => h) (by rfl) ?hyr1_4 ?har1_4 ?_
  case hyr1_4 =>
    intro w' hx
    go_simp
    with_reducible rfl
  case har1_4 => (simp only [Act.put, List.setIfInBounds_toArray, List.set_cons_zero, List.set_cons_succ]; rfl)
  refine E_take (hR := Ext.pre) (i := 5) (N := (some 46)) (v := ?vr1_5) (a' := ?ar1_5) #[true, true, true, true, true, true, false, false, false, false, false, false, false, false, false, false, false, false, false, false, false, false, false, false, false, false, false, false, false, false, false, false, false, false, false] rfl rfl (by kernel_rfl) (fun _ _ _ h => h) (by rfl) ?hyr1_5 ?har1_5 ?_
  case hyr1_5 =>
    intro w' hx
    go_simp
    with_reducible rfl
  case har1_5 => (simp only [Act.put, List.setIfInBounds_toArray, List.set_cons_zero, List.set_cons_succ]; rfl)
  refine E_take (hR := Ext.pre) (i := 6) (N := (some 47)) (v := ?vr1_6) (a' := ?ar1_6) #[true, true, true, true, true, true, true, false, false, false, false, false, false, false, false, false, false, false, false, false, false, false, false, false, false, false, false, false, false, false, false, false, false, false, false] rfl rfl (by kernel_rfl) (fun _ _ _ h => h) (by rfl) ?hyr1_6 ?har1_6 ?_
  case hyr1_6 =>
    intro w' hx
    go_simp
    with_reducible rfl
  case har1_6 => (simp only [Act.put, List.setIfInBounds_toArray, List.set_cons_zero, List.set_cons_succ]; rfl)
  refine E_take (hR := Ext.pre) (i := 7) (N := (some 48)) (v := ?vr1_7) (a' := ?ar1_7) #[true, true, true, true, true, true, true, true, false, false, false, false, false, false, false, false, false, false, false, false, false, false, false, false, false, false, false, false, false, false, false, false, false, false, false] rfl rfl (by kernel_rfl) (fun _ _ _ h => h) (by rfl) ?hyr1_7 ?har1_7 ?_
  case hyr1_7 =>
    intro w' hx
    go_simp
    with_reducible rfl
  case har1_7 => (simp only [Act.put, List.setIfInBounds_toArray, List.set_cons_zero, List.set_cons_succ]; rfl)
  refine E_take (hR := Ext.pre) (i := 8) (N := (some 49)) (v := ?vr1_8) (a' := ?ar1_8) #[true, true, true, true, true, true, true, true, true, false, false, false, false, false, false, false, false, false, false, false, false, false, false, false, false, false, false, false, false, false, false, false, false, false, false] rfl rfl (by kernel_rfl) (fun _ _ _ h => h) (by rfl) ?hyr1_8 ?har1_8 ?_
  case hyr1_8 =>
    intro w' hx
    go_simp
    with_reducible rfl
  case har1_8 => (simp only [Act.put, List.setIfInBounds_toArray, List.set_cons_zero, List.set_cons_succ]; rfl)
  refine E_take (hR := Ext.pre) (i := 9) (N := (some 50)) (v := ?vr1_9) (a' := ?ar1_9) #[true, true, true, true, true, true, true, true, true, true, false, false, false, false, false, false, false, false, false, false, false, false, false, false, false, false, false, false, false, false, false, false, false, false, false] rfl rfl (by kernel_rfl) (fun _ _ _ h => h) (by rfl) ?hyr1_9 ?har1_9 ?_
  case hyr1_9 =>
    intro w' hx
    go_simp
    with_reducible rfl
  case har1_9 => (simp only [Act.put, List.setIfInBounds_toArray, List.set_cons_zero, List.set_cons_succ]; rfl)
  refine E_take (hR := Ext.pre) (i := 10) (N := (some 51)) (v := ?vr1_10) (a' := ?ar1_10) #[true, true, true, true, true, true, true, true, true, true, true, false, false, false, false, false, false, false, false, false, false, false, false, false, false, false, false, false, false, false, false, false, false, false, false] rfl rfl (by kernel_rfl) (fun _ _ _ h => h) (by rfl) ?hyr1_10 ?har1_10 ?_
  case hyr1_10 =>
    intro w' hx
    go_simp
    with_reducible rfl
  case har1_10 => (simp only [Act.put, List.setIfInBounds_toArray, List.set_cons_zero, List.set_cons_succ]; rfl)
  refine E_take (hR := Ext.pre) (i := 11) (N := (some 52)) (v := ?vr1_11) (a' := ?ar1_11) #[true, true, true, true, true, true, true, true, true, true, true, true, false, false, false, false, false, false, false, false, false, false, false, false, false, false, false, false, false, false, false, false, false, false, false] rfl rfl (by kernel_rfl) (fun _ _ _ h => h) (by rfl) ?hyr1_11 ?har1_11 ?_
  case hyr1_11 =>
    intro w' hx
    go_simp
    with_reducible rfl
  case har1_11 => (simp only [Act.put, List.setIfInBounds_toArray, List.set_cons_zero, List.set_cons_succ]; rfl)
  refine E_take (hR := Ext.pre) (i := 12) (N := (some 53)) (v := ?vr1_12) (a' := ?ar1_12) #[true, true, true, true, true, true, true, true, true, true, true, true, true, false, false, false, false, false, false, false, false, false, false, false, false, false, false, false, false, false, false, false, false, false, false] rfl rfl (by kernel_rfl) (fun _ _ _ h => h) (by rfl) ?hyr1_12 ?har1_12 ?_
  case hyr1_12 =>
    intro w' hx
    go_simp
    with_reducible rfl
  case har1_12 => (simp only [Act.put, List.setIfInBounds_toArray, List.set_cons_zero, List.set_cons_succ]; rfl)
  refine E_take (hR := Ext.pre) (i := 13) (N := (some 54)) (v := ?vr1_13) (a' := ?ar1_13) #[true, true, true, true, true, true, true, true, true, true, true, true, true, true, false, false, false, false, false, false, false, false, false, false, false, false, false, false, false, false, false, false, false, false, false] rfl rfl (by kernel_rfl) (fun _ _ _ h => h) (by rfl) ?hyr1_13 ?har1_13 ?_
  case hyr1_13 =>
    intro w' hx
    go_simp
    with_reducible rfl
  case har1_13 => (simp only [Act.put, List.setIfInBounds_toArray, List.set_cons_zero, List.set_cons_succ]; rfl)
  refine E_take (hR := Ext.pre) (i := 14) (N := (some 55)) (v := ?vr1_14) (a' := ?ar1_14) #[true, true, true, true, true, true, true, true, true, true, true, true, true, true, true, false, false, false, false, false, false, false, false, false, false, false, false, false, false, false, false, false, false, false, false] rfl rfl (by kernel_rfl) (fun _ _ _ h => h) (by rfl) ?hyr1_14 ?har1_14 ?_
  case hyr1_14 =>
    intro w' hx
    go_simp
    with_reducible rfl
  case har1_14 => (simp only [Act.put, List.setIfInBounds_toArray, List.set_cons_zero, List.set_cons_succ]; rfl)
  refine E_take (hR := Ext.pre) (i := 15) (N := (some 56)) (v := ?vr1_15) (a' := ?ar1_15) #[true, true, true, true, true, true, true, true, true, true, true, true, true, true, true, true, false, false, false, false, false, false, false, false, false, false, false, false, false, false, false, false, false, false, false] rfl rfl (by kernel_rfl) (fun _ _ _ h => h) (by rfl) ?hyr1_15 ?har1_15 ?_
  case hyr1_15 =>
    intro w' hx
    go_simp
    with_reducible rfl
  case har1_15 => (simp only [Act.put, List.setIfInBounds_toArray, List.set_cons_zero, List.set_cons_succ]; rfl)
  refine E_take (hR := Ext.pre) (i := 16) (N := (some 57)) (v := ?vr1_16) (a' := ?ar1_16) #[true, true, true, true, true, true, true, true, true, true, true, true, true, true, true, true, true, false, false, false, false, false, false, false, false, false, false, false, false, false, false, false, false, false, false] rfl rfl (by kernel_rfl) (fun _ _ _ h => h) (by rfl) ?hyr1_16 ?har1_16 ?_
  case hyr1_16 =>
    intro w' hx
    go_simp
    with_reducible rfl
  case har1_16 => (simp only [Act.put, List.setIfInBounds_toArray, List.set_cons_zero, List.set_cons_succ]; rfl)
  refine E_take (hR := Ext.pre) (i := 17) (N := (some 58)) (v := ?vr1_17) (a' := ?ar1_17) #[true, true, true, true, true, true, true, true, true, true, true, true, true, true, true, true, true, true, false, false, false, false, false, false, false, false, false, false, false, false, false, false, false, false, false] rfl rfl (by kernel_rfl) (fun _ _ _ h => h) (by rfl) ?hyr1_17 ?har1_17 ?_
  case hyr1_17 =>
    intro w' hx
    go_simp
    with_reducible rfl
  case har1_17 => (simp only [Act.put, List.setIfInBounds_toArray, List.set_cons_zero, List.set_cons_succ]; rfl)
  refine E_take (hR := Ext.pre) (i := 18) (N := (some 59)) (v := ?vr1_18) (a' := ?ar1_18) #[true, true, true, true, true, true, true, true, true, true, true, true, true, true, true, true, true, true, true, false, false, false, false, false, false, false, false, false, false, false, false, false, false, false, false] rfl rfl (by kernel_rfl) (fun _ _ _ h => h) (by rfl) ?hyr1_18 ?har1_18 ?_
  case hyr1_18 =>
    intro w' hx
    (first | (apply Eq.trans; (apply R_slice; rfl; rfl; (first | exact SB.no | exact SB.so | exact SB.lit (by decide)); (first | exact SB.no | exact SB.so | exact SB.lit (by decide)); rfl; rfl; (first | assumption | (focus (simp; done)) | (focus (simp; omega)) | omega); (first | assumption | (focus (simp; done)) | (focus (simp; omega)) | omega)); with_reducible rfl) | (go_simp; with_reducible rfl))
  case har1_18 => (simp only [Act.put, List.setIfInBounds_toArray, List.set_cons_zero, List.set_cons_succ]; rfl)
  refine E_take (hR := Ext.pre) (i := 19) (N := (some 60)) (v := ?vr1_19) (a' := ?ar1_19) #[true, true, true, true, true, true, true, true, true, true, true, true, true, true, true, true, true, true, true, true, false, false, false, false, false, false, false, false, false, false, false, false, false, false, false] rfl rfl (by kernel_rfl) (fun _ _ _ h => h) (by rfl) ?hyr1_19 ?har1_19 ?_
  case hyr1_19 =>
    intro w' hx
    (apply Eq.trans; (apply R_strc Try.underlying29 Try.underlying5 Try.underlying9 (by rw [← G3.out]; exact RdB.sub ((hS.ext hx).ownRd (A := some ⟨gx, 0, none⟩) (by focus ((repeat (first | exact .here | apply At.there)); done))) (by rw [HX.out]; exact hcx)) G1.out; rfl; rfl); with_reducible rfl)
  case har1_19 => (simp only [Act.put, List.setIfInBounds_toArray, List.set_cons_zero, List.set_cons_succ]; rfl)
  refine E_take (hR := Ext.pre) (i := 20) (N := (some 61)) (v := ?vr1_20) (a' := ?ar1_20) #[true, true, true, true, true, true, true, true, true, true, true, true, true, true, true, true, true, true, true, true, true, false, false, false, false, false, false, false, false, false, false, false, false, false, false] rfl rfl (by kernel_rfl) (fun _ _ _ h => h) (by rfl) ?hyr1_20 ?har1_20 ?_
  case hyr1_20 =>
    intro w' hx
    go_simp
    with_reducible rfl
  case har1_20 => (simp only [Act.put, List.setIfInBounds_toArray, List.set_cons_zero, List.set_cons_succ]; rfl)
  refine E_take (hR := Ext.pre) (i := 21) (N := (some 62)) (v := ?vr1_21) (a' := ?ar1_21) #[true, true, true, true, true, true, true, true, true, true, true, true, true, true, true, true, true, true, true, true, true, true, false, false, false, false, false, false, false, false, false, false, false, false, false] rfl rfl (by kernel_rfl) (fun _ _ _ h => h) (by rfl) ?hyr1_21 ?har1_21 ?_
  case hyr1_21 =>
    intro w' hx
    (first | (apply Eq.trans; (apply R_slice; rfl; rfl; (first | exact SB.no | exact SB.so | exact SB.lit (by decide)); (first | exact SB.no | exact SB.so | exact SB.lit (by decide)); rfl; rfl; (first | assumption | (focus (simp; done)) | (focus (simp; omega)) | omega); (first | assumption | (focus (simp; done)) | (focus (simp; omega)) | omega)); with_reducible rfl) | (go_simp; with_reducible rfl))
  case har1_21 => (simp only [Act.put, List.setIfInBounds_toArray, List.set_cons_zero, List.set_cons_succ]; rfl)
  refine E_take (hR := Ext.pre) (i := 22) (N := (some 63)) (v := ?vr1_22) (a' := ?ar1_22) #[true, true, true, true, true, true, true, true, true, true, true, true, true, true, true, true, true, true, true, true, true, true, true, false, false, false, false, false, false, false, false, false, false, false, false] rfl rfl (by kernel_rfl) (fun _ _ _ h => h) (by rfl) ?hyr1_22 ?har1_22 ?_
  case hyr1_22 =>
    intro w' hx
    (apply Eq.trans; (apply R_strc Try.underlying29 Try.underlying5 Try.underlying9 (by rw [← G4.out]; exact RdB.sub ((hS.ext hx).ownRd (A := some ⟨gy, 0, none⟩) (by focus ((repeat (first | exact .here | apply At.there)); done))) (by rw [HY.out]; exact hcy)) G1.out; rfl; rfl); with_reducible rfl)
  case har1_22 => (simp only [Act.put, List.setIfInBounds_toArray, List.set_cons_zero, List.set_cons_succ]; rfl)
  refine E_take (hR := Ext.pre) (i := 23) (N := (some 64)) (v := ?vr1_23) (a' := ?ar1_23) #[true, true, true, true, true, true, true, true, true, true, true, true, true, true, true, true, true, true, true, true, true, true, true, true, false, false, false, false, false, false, false, false, false, false, false] rfl rfl (by kernel_rfl) (fun _ _ _ h => h) (by rfl) ?hyr1_23 ?har1_23 ?_
  case hyr1_23 =>
    intro w' hx
    go_simp
    with_reducible rfl
  case har1_23 => (simp only [Act.put, List.setIfInBounds_toArray, List.set_cons_zero, List.set_cons_succ]; rfl)
  refine E_take (hR := Ext.pre) (i := 24) (N := (some 65)) (v := ?vr1_24) (a' := ?ar1_24) #[true, true, true, true, true, true, true, true, true, true, true, true, true, true, true, true, true, true, true, true, true, true, true, true, true, false, false, false, false, false, false, false, false, false, false] rfl rfl (by kernel_rfl) (fun _ _ _ h => h) (by rfl) ?hyr1_24 ?har1_24 ?_
  case hyr1_24 =>
    intro w' hx
    go_simp
    with_reducible rfl
  case har1_24 => (simp only [Act.put, List.setIfInBounds_toArray, List.set_cons_zero, List.set_cons_succ]; rfl)
  refine E_take (hR := Ext.pre) (i := 25) (N := (some 66)) (v := ?vr1_25) (a' := ?ar1_25) #[true, true, true, true, true, true, true, true, true, true, true, true, true, true, true, true, true, true, true, true, true, true, true, true, true, true, false, false, false, false, false, false, false, false, false] rfl rfl (by kernel_rfl) (fun _ _ _ h => h) (by rfl) ?hyr1_25 ?har1_25 ?_
  case hyr1_25 =>
    intro w' hx
    go_simp
    with_reducible rfl
  case har1_25 => (simp only [Act.put, List.setIfInBounds_toArray, List.set_cons_zero, List.set_cons_succ]; rfl)
  refine E_take (hR := Ext.pre) (i := 26) (N := (some 67)) (v := ?vr1_26) (a' := ?ar1_26) #[true, true, true, true, true, true, true, true, true, true, true, true, true, true, true, true, true, true, true, true, true, true, true, true, true, true, true, false, false, false, false, false, false, false, false] rfl rfl (by kernel_rfl) (fun _ _ _ h => h) (by rfl) ?hyr1_26 ?har1_26 ?_
  case hyr1_26 =>
    intro w' hx
    go_simp
    with_reducible rfl
  case har1_26 => (simp only [Act.put, List.setIfInBounds_toArray, List.set_cons_zero, List.set_cons_succ]; rfl)
  refine E_take (hR := Ext.pre) (i := 27) (N := (some 68)) (v := ?vr1_27) (a' := ?ar1_27) #[true, true, true, true, true, true, true, true, true, true, true, true, true, true, true, true, true, true, true, true, true, true, true, true, true, true, true, true, false, false, false, false, false, false, false] rfl rfl (by kernel_rfl) (fun _ _ _ h => h) (by rfl) ?hyr1_27 ?har1_27 ?_
  case hyr1_27 =>
    intro w' hx
    (first | (apply Eq.trans; (apply R_slice; rfl; rfl; (first | exact SB.no | exact SB.so | exact SB.lit (by decide)); (first | exact SB.no | exact SB.so | exact SB.lit (by decide)); rfl; rfl; (first | assumption | (focus (simp; done)) | (focus (simp; omega)) | omega); (first | assumption | (focus (simp; done)) | (focus (simp; omega)) | omega)); with_reducible rfl) | (go_simp; with_reducible rfl))
  case har1_27 => (simp only [Act.put, List.setIfInBounds_toArray, List.set_cons_zero, List.set_cons_succ]; rfl)
  refine E_take (hR := Ext.pre) (i := 28) (N := (some 69)) (v := ?vr1_28) (a' := ?ar1_28) #[true, true, true, true, true, true, true, true, true, true, true, true, true, true, true, true, true, true, true, true, true, true, true, true, true, true, true, true, true, false, false, false, false, false, false] rfl rfl (by kernel_rfl) (fun _ _ _ h => h) (by rfl) ?hyr1_28 ?har1_28 ?_
  case hyr1_28 =>
    intro w' hx
    (apply Eq.trans; (apply R_strc Try.underlying29 Try.underlying5 Try.underlying9 (by rw [← G5.out]; exact RdB.sub ((hS.ext hx).ownRd (A := some ⟨gx, 0, none⟩) (by focus ((repeat (first | exact .here | apply At.there)); done))) (by rw [HX.out]; exact hcx)) G2.out; rfl; rfl); with_reducible rfl)
  case har1_28 => (simp only [Act.put, List.setIfInBounds_toArray, List.set_cons_zero, List.set_cons_succ]; rfl)
  refine E_take (hR := Ext.pre) (i := 29) (N := (some 70)) (v := ?vr1_29) (a' := ?ar1_29) #[true, true, true, true, true, true, true, true, true, true, true, true, true, true, true, true, true, true, true, true, true, true, true, true, true, true, true, true, true, true, false, false, false, false, false] rfl rfl (by kernel_rfl) (fun _ _ _ h => h) (by rfl) ?hyr1_29 ?har1_29 ?_
  case hyr1_29 =>
    intro w' hx
    go_simp
    with_reducible rfl
  case har1_29 => (simp only [Act.put, List.setIfInBounds_toArray, List.set_cons_zero, List.set_cons_succ]; rfl)
  refine E_take (hR := Ext.pre) (i := 30) (N := (some 71)) (v := ?vr1_30) (a' := ?ar1_30) #[true, true, true, true, true, true, true, true, true, true, true, true, true, true, true, true, true, true, true, true, true, true, true, true, true, true, true, true, true, true, true, false, false, false, false] rfl rfl (by kernel_rfl) (fun _ _ _ h => h) (by rfl) ?hyr1_30 ?har1_30 ?_
  case hyr1_30 =>
    intro w' hx
    (first | (apply Eq.trans; (apply R_slice; rfl; rfl; (first | exact SB.no | exact SB.so | exact SB.lit (by decide)); (first | exact SB.no | exact SB.so | exact SB.lit (by decide)); rfl; rfl; (first | assumption | (focus (simp; done)) | (focus (simp; omega)) | omega); (first | assumption | (focus (simp; done)) | (focus (simp; omega)) | omega)); with_reducible rfl) | (go_simp; with_reducible rfl))
  case har1_30 => (simp only [Act.put, List.setIfInBounds_toArray, List.set_cons_zero, List.set_cons_succ]; rfl)
  refine E_take (hR := Ext.pre) (i := 31) (N := (some 72)) (v := ?vr1_31) (a' := ?ar1_31) #[true, true, true, true, true, true, true, true, true, true, true, true, true, true, true, true, true, true, true, true, true, true, true, true, true, true, true, true, true, true, true, true, false, false, false] rfl rfl (by kernel_rfl) (fun _ _ _ h => h) (by rfl) ?hyr1_31 ?har1_31 ?_
  case hyr1_31 =>
    intro w' hx
    (apply Eq.trans; (apply R_strc Try.underlying29 Try.underlying5 Try.underlying9 (by rw [← G6.out]; exact RdB.sub ((hS.ext hx).ownRd (A := some ⟨gy, 0, none⟩) (by focus ((repeat (first | exact .here | apply At.there)); done))) (by rw [HY.out]; exact hcy)) G2.out; rfl; rfl); with_reducible rfl)
  case har1_31 => (simp only [Act.put, List.setIfInBounds_toArray, List.set_cons_zero, List.set_cons_succ]; rfl)
  refine E_take (hR := Ext.pre) (i := 32) (N := (some 73)) (v := ?vr1_32) (a' := ?ar1_32) #[true, true, true, true, true, true, true, true, true, true, true, true, true, true, true, true, true, true, true, true, true, true, true, true, true, true, true, true, true, true, true, true, true, false, false] rfl rfl (by kernel_rfl) (fun _ _ _ h => h) (by rfl) ?hyr1_32 ?har1_32 ?_
  case hyr1_32 =>
    intro w' hx
    go_simp
    with_reducible rfl
  case har1_32 => (simp only [Act.put, List.setIfInBounds_toArray, List.set_cons_zero, List.set_cons_succ]; rfl)
  refine E_take (hR := Ext.pre) (i := 33) (N := (some 74)) (v := ?vr1_33) (a' := ?ar1_33) #[true, true, true, true, true, true, true, true, true, true, true, true, true, true, true, true, true, true, true, true, true, true, true, true, true, true, true, true, true, true, true, true, true, true, false] rfl rfl (by kernel_rfl) (fun _ _ _ h => h) (by rfl) ?hyr1_33 ?har1_33 ?_
  case hyr1_33 =>
    intro w' hx
    go_simp
    with_reducible rfl
  case har1_33 => (simp only [Act.put, List.setIfInBounds_toArray, List.set_cons_zero, List.set_cons_succ]; rfl)
  refine E_take (hR := Ext.pre) (i := 34) (N := (some 6)) (v := ?vr1_34) (a' := ?ar1_34) #[true, true, true, true, true, true, true, true, true, true, true, true, true, true, true, true, true, true, true, true, true, true, true, true, true, true, true, true, true, true, true, true, true, true, true] rfl rfl (by kernel_rfl) (fun _ _ _ h => h) (by rfl) ?hyr1_34 ?har1_34 ?_
  case hyr1_34 =>
    intro w' hx
    go_simp
    with_reducible rfl
  case har1_34 => (simp only [Act.put, List.setIfInBounds_toArray, List.set_cons_zero, List.set_cons_succ]; rfl)
  refine E_done (by kernel_rfl) ?_
  go_wp2
  go_ret
  exact ⟨rfl, hS.below⟩
theorem last_row (z0 z1 : List Int) (a2 : Int) (w : World) (h0 : z0.length = 32) (h1 : z1.length = 48) (v0 : ∀ y ∈ z0, (Lit.int .u8 y).wf = true) (v1 : ∀ y ∈ z1, (Lit.int .u8 y).wf = true) (w2 : (Lit.int .u8 a2).wf = true) :
    Calls Try.prog 4 #[.agg (z0.map (Value.int .u8)).toArray, .agg (z1.map (Value.int .u8)).toArray, .int .u8 a2] w fun e w' => e = .returned (.bool true) ∧ Below w.heap.size w w' := by
  obtain ⟨k, k1, k2⟩ := ints_u8 z0 v0
  obtain ⟨b, b1, b2⟩ := ints_u8 z1 v1
  obtain ⟨c, c1, c2⟩ := ints_u8 [a2] (fun y hy => by rw [List.mem_singleton.1 hy]; exact w2)
  rw [k2, b2]
  obtain ⟨cc, rfl⟩ : ∃ cc, c = [cc] := by
    match c, c1 with
    | [cc], _ => exact ⟨cc, rfl⟩
  have : Value.int .u8 a2 = .int .u8 (cc.toNat : Int) := by simpa [bV] using c2
  rw [this]
  exact last_walk k b cc w (k1.trans h0) (b1.trans h1)
end Go.Proofs.Ythmdnpaebdlefaa
