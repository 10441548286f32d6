/- awake. -/
import Derived.Test.YthmdnpaebdlefaaCtsE
import Derived.Test.YthmdnpaebdlefaaEqF
namespace Go.Proofs.Ythmdnpaebdlefaa
open Go.RowKit
set_option linter.unusedVariables false
set_option linter.unusedSimpArgs false

def kz : List UInt8 := List.replicate 32 0
theorem zz_xor : xorF zz16 zz16 = zz16 := by decide
set_option maxRecDepth 8000 in
set_option maxHeartbeats 1600000 in
theorem awake_any (w : World) : Calls Try.prog 6 #[] w fun e w' => e = .returned (.bool true) ∧ Below w.heap.size w w' := by
  have hS := St.start w
  have hKL := Lib.hid (keysF_len (key := kz) rfl)
  generalize hKK : keysF kz = K at *
  have HKK := Lib.hid (show True → keysF kz = K from fun _ => hKK)
  clear hKK
  have hz := Lib.hid zz_len
  have hel := Lib.hid (encF_len hKL.out hz.out)
  have hct := Lib.hid (show True → ctsE (encF K) zz16 = encF K zz16 from fun _ => by unfold ctsE; rw [if_pos (by decide), zz_xor])
  generalize hxx : encF K zz16 = x at *
  have HXX := Lib.hid (show True → encF K zz16 = x from fun _ => hxx)
  clear hxx
  have hlx := Lib.hid (show (x.map bV).length = 16 by rw [List.length_map]; exact hel.out)
  have e1 : ((str x).toList == (str x).toList) = true := by simp
  go_enter Try.func6, Try.ntmps6
  go_upto_region 7 with (first | ((with_reducible show wpList _ _ _ (⟨some 8, Op.makeSlice _ _ _, _, _, _, _⟩ :: _) _ _); go_loud (refine S_make hS TB 32 rfl rfl rfl rfl ?_ ?_ rfl ?_ ?_ ?_; (first | rfl | omega); (first | rfl | omega); (first | decide | omega); (first | decide | (unfold maxLen; omega)); clear hS; intro b8 w_ hS)) | (go_at_call 7; refine (new_any (some ⟨b8, 0, none⟩) 32 kz _ rfl (hS.ownRd (A := some ⟨b8, 0, none⟩) (by focus ((repeat (first | exact .here | apply At.there)); done))) (by decide)).mono ?_; rintro e w_ ⟨bC, rfl, hge_, hB_, hb_⟩; rw [HKK.out trivial] at hB_; replace hS := hS.gotBlk hb_ hge_ hB_; clear hb_ hge_ hB_) | ((with_reducible show wpList _ _ _ (⟨some 3, Op.alloc _, _, _, _, _⟩ :: _) _ _); go_loud (refine S_alloc (z := .agg ([.int .u8 0, .int .u8 0, .int .u8 0, .int .u8 0, .int .u8 0, .int .u8 0, .int .u8 0, .int .u8 0, .int .u8 0, .int .u8 0, .int .u8 0, .int .u8 0, .int .u8 0, .int .u8 0, .int .u8 0, .int .u8 0] : List Value).toArray) (L := [.int .u8 0, .int .u8 0, .int .u8 0, .int .u8 0, .int .u8 0, .int .u8 0, .int .u8 0, .int .u8 0, .int .u8 0, .int .u8 0, .int .u8 0, .int .u8 0, .int .u8 0, .int .u8 0, .int .u8 0, .int .u8 0]) hS rfl rfl ?_ ?_ ?_; (show _ = _; kernel_rfl); (show _ = _; kernel_rfl); clear hS; intro b3 w_ hS)) | (go_at_call 8; refine (ctsEnc_any bC (some ⟨b3, 0, none⟩) 16 16 K zz16 _ hz.out (hS.blkRd (b := b3) (by focus ((repeat (first | exact .here | apply At.there)); done))) (by decide) (by decide) (by decide) hKL.out (hS.blkRd (b := bC) (by focus ((repeat (first | exact .here | apply At.there)); done))) (hS.blkLt (b := bC) (by focus ((repeat (first | exact .here | apply At.there)); done)))).mono ?_; rw [hct.out trivial]; rintro e w_ ⟨gx, cx, rfl, ho_, hb_⟩; rw [hel.out] at ho_ ⊢; replace hS := hS.got hb_ ho_; clear hb_ ho_) | ((with_reducible show wpList _ _ _ (⟨some 22, Op.load _ _, _, _, _, _⟩ :: _) _ _); go_loud (apply S_ldAll hS; rfl; rfl; rfl; (focus ((repeat (first | exact .here | apply At.there)); done)); rfl; (first | rfl | (rfl) | (simp only [List.length_map, List.length_set]; rfl)))) | (go_at_call 11; refine (encrypt_any bC K zz16 _ (hS.blkRd (b := bC) (by focus ((repeat (first | exact .here | apply At.there)); done))) (hS.blkLt (b := bC) (by focus ((repeat (first | exact .here | apply At.there)); done))) hz.out hKL.out).mono ?_; rw [HXX.out trivial]; rintro e w_ ⟨rfl, hb_⟩; replace hS := hS.ext hb_; clear hb_) | ((with_reducible show wpList _ _ _ (⟨some 6, Op.alloc _, _, _, _, _⟩ :: _) _ _); go_loud (refine S_alloc (z := .agg ([.int .u8 0, .int .u8 0, .int .u8 0, .int .u8 0, .int .u8 0, .int .u8 0, .int .u8 0, .int .u8 0, .int .u8 0, .int .u8 0, .int .u8 0, .int .u8 0, .int .u8 0, .int .u8 0, .int .u8 0, .int .u8 0] : List Value).toArray) (L := [.int .u8 0, .int .u8 0, .int .u8 0, .int .u8 0, .int .u8 0, .int .u8 0, .int .u8 0, .int .u8 0, .int .u8 0, .int .u8 0, .int .u8 0, .int .u8 0, .int .u8 0, .int .u8 0, .int .u8 0, .int .u8 0]) hS rfl rfl ?_ ?_ ?_; (show _ = _; kernel_rfl); (show _ = _; kernel_rfl); clear hS; intro b6 w_ hS)) | ((with_reducible show wpList _ _ _ (⟨_, Op.store _ _ _, _, _, _, _⟩ :: _) _ _); go_loud (apply S_stAll hS; rfl; rfl; rfl; rfl; (focus ((repeat (first | exact .here | apply At.there)); done)); (first | assumption | ((rw [hlx.out]; rfl)) | (focus (simp [bV, wV, Value.oneCell']; done)) | (focus (simp [bV, Value.oneCell']; done))); (first | rfl | ((rw [hlx.out]; rfl))); (first | rfl | ((rw [hlx.out]; rfl))); clear hS; intro w_ hS)))
  refine E_start (hR := Ext.pre) #[false, false, false, false, false, false, false, false, false, false] (by kernel_rfl) rfl rfl (fun w_r1 hx_r1 he_r1 => ?_)
  clear he_r1
  replace hS := hS.ext hx_r1; clear hx_r1
  refine E_take (hR := Ext.pre) (i := 0) (N := (some 24)) (v := ?vr1_0) (a' := ?ar1_0) #[true, false, false, false, false, false, false, false, false, false] rfl rfl (by kernel_rfl) (fun _ _ _ h => h) (by rfl) ?hyr1_0 ?har1_0 ?_
  case hyr1_0 =>
    intro w' hx
    go_simp
    with_reducible rfl
  case har1_0 => (simp only [Act.put, List.setIfInBounds_toArray, List.set_cons_zero, List.set_cons_succ]; rfl)
  refine E_take (hR := Ext.pre) (i := 1) (N := (some 25)) (v := ?vr1_1) (a' := ?ar1_1) #[true, true, false, false, false, false, false, false, false, false] rfl rfl (by kernel_rfl) (fun _ _ _ h => h) (by rfl) ?hyr1_1 ?har1_1 ?_
  case hyr1_1 =>
    intro w' hx
    go_simp
    with_reducible rfl
  case har1_1 => (simp only [Act.put, List.setIfInBounds_toArray, List.set_cons_zero, List.set_cons_succ]; rfl)
  refine E_take (hR := Ext.pre) (i := 2) (N := (some 26)) (v := ?vr1_2) (a' := ?ar1_2) #[true, true, true, false, false, false, false, false, false, false] rfl rfl (by kernel_rfl) (fun _ _ _ h => h) (by rfl) ?hyr1_2 ?har1_2 ?_
  case hyr1_2 =>
    intro w' hx
    go_simp
    with_reducible rfl
  case har1_2 => (simp only [Act.put, List.setIfInBounds_toArray, List.set_cons_zero, List.set_cons_succ]; rfl)
  refine E_take (hR := Ext.pre) (i := 3) (N := (some 27)) (v := ?vr1_3) (a' := ?ar1_3) #[true, true, true, true, false, false, false, false, false, false] rfl rfl (by kernel_rfl) (fun _ _ _ h => h) (by rfl) ?hyr1_3 ?har1_3 ?_
  case hyr1_3 =>
    intro w' hx
    go_simp
    with_reducible rfl
  case har1_3 => (simp only [Act.put, List.setIfInBounds_toArray, List.set_cons_zero, List.set_cons_succ]; rfl)
  refine E_take (hR := Ext.pre) (i := 4) (N := (some 28)) (v := ?vr1_4) (a' := ?ar1_4) #[true, true, true, true, true, false, false, false, false, false] rfl rfl (by kernel_rfl) (fun _ _ _ h => h) (by rfl) ?hyr1_4 ?har1_4 ?_
  case hyr1_4 =>
    intro w' hx
    (apply Eq.trans; (apply R_strc Try.underlying29 Try.underlying5 Try.underlying9 ((hS.ext hx).ownRd (A := some ⟨gx, 0, none⟩) (by focus ((repeat (first | exact .here | apply At.there)); done))) hel.out; rfl; rfl); with_reducible rfl)
  case har1_4 => (simp only [Act.put, List.setIfInBounds_toArray, List.set_cons_zero, List.set_cons_succ]; rfl)
  refine E_take (hR := Ext.pre) (i := 5) (N := (some 29)) (v := ?vr1_5) (a' := ?ar1_5) #[true, true, true, true, true, true, false, false, false, false] rfl rfl (by kernel_rfl) (fun _ _ _ h => h) (by rfl) ?hyr1_5 ?har1_5 ?_
  case hyr1_5 =>
    intro w' hx
    (first | (apply Eq.trans; (apply R_slice; rfl; rfl; (first | exact SB.no | exact SB.so | exact SB.lit (by decide)); (first | exact SB.no | exact SB.so | exact SB.lit (by decide)); rfl; rfl; (first | assumption | (focus (simp; done)) | (focus (simp; omega)) | omega); (first | assumption | (focus (simp; done)) | (focus (simp; omega)) | omega)); with_reducible rfl) | (go_simp; with_reducible rfl))
  case har1_5 => (simp only [Act.put, List.setIfInBounds_toArray, List.set_cons_zero, List.set_cons_succ]; rfl)
  refine E_take (hR := Ext.pre) (i := 6) (N := (some 30)) (v := ?vr1_6) (a' := ?ar1_6) #[true, true, true, true, true, true, true, false, false, false] rfl rfl (by kernel_rfl) (fun _ _ _ h => h) (by rfl) ?hyr1_6 ?har1_6 ?_
  case hyr1_6 =>
    intro w' hx
    (apply Eq.trans; (apply R_strc Try.underlying29 Try.underlying5 Try.underlying9 ((hS.ext hx).blkRd (b := b6) (by focus ((repeat (first | exact .here | apply At.there)); done))) hel.out; rfl; rfl); with_reducible rfl)
  case har1_6 => (simp only [Act.put, List.setIfInBounds_toArray, List.set_cons_zero, List.set_cons_succ]; rfl)
  refine E_take (hR := Ext.pre) (i := 7) (N := (some 31)) (v := ?vr1_7) (a' := ?ar1_7) #[true, true, true, true, true, true, true, true, false, false] rfl rfl (by kernel_rfl) (fun _ _ _ h => h) (by rfl) ?hyr1_7 ?har1_7 ?_
  case hyr1_7 =>
    intro w' hx
    go_simp
    with_reducible rfl
  case har1_7 => (simp only [Act.put, List.setIfInBounds_toArray, List.set_cons_zero, List.set_cons_succ]; rfl)
  refine E_take (hR := Ext.pre) (i := 8) (N := (some 32)) (v := ?vr1_8) (a' := ?ar1_8) #[true, true, true, true, true, true, true, true, true, false] rfl rfl (by kernel_rfl) (fun _ _ _ h => h) (by rfl) ?hyr1_8 ?har1_8 ?_
  case hyr1_8 =>
    intro w' hx
    go_simp
    with_reducible rfl
  case har1_8 => (simp only [Act.put, List.setIfInBounds_toArray, List.set_cons_zero, List.set_cons_succ]; rfl)
  refine E_take (hR := Ext.pre) (i := 9) (N := (some 0)) (v := ?vr1_9) (a' := ?ar1_9) #[true, true, true, true, true, true, true, true, true, true] rfl rfl (by kernel_rfl) (fun _ _ _ h => h) (by rfl) ?hyr1_9 ?har1_9 ?_
  case hyr1_9 =>
    intro w' hx
    go_simp
    with_reducible rfl
  case har1_9 => (simp only [Act.put, List.setIfInBounds_toArray, List.set_cons_zero, List.set_cons_succ]; rfl)
  refine E_done (by kernel_rfl) ?_
  go_wp2
  go_ret
  exact ⟨rfl, hS.below⟩
end Go.Proofs.Ythmdnpaebdlefaa
