/- awake. -/
import Derived.Test.YthamhaomfdgdjaaXtsE
import Derived.Test.YthamhaomfdgdjaaRHex
import Derived.Test.YthamhaomfdgdjaaEqF
namespace Go.Proofs.Ythamhaomfdgdjaa
open Go.RowKit
set_option linter.unusedVariables false
set_option linter.unusedSimpArgs false

def z64 : List UInt8 := List.replicate 64 0
def z32 : List UInt8 := List.replicate 32 0
def ansX : List UInt8 := [100, 52, 53, 54, 98, 52, 102, 99, 50, 101, 54, 50, 48, 98, 98, 97, 54, 102, 102, 98, 101, 100, 50, 55, 98, 57, 53, 54, 99, 57, 53, 52]
set_option maxRecDepth 100000 in
set_option maxHeartbeats 8000000 in
theorem ex_xts : hexF ((xtsE z64 0 z32).take 16) = ansX := by decide +kernel
theorem xtsE_len {key b : List UInt8} {num : Int} (hk : key.length = 64) (hb : b.length % 16 = 0) : (xtsE key num b).length = b.length :=
  xtsT_len (fun x hx => encF_len (keysF_len (key1_len hk)) hx) (encF_len (keysF_len (key2_len hk)) (le16_len num)) hb
theorem xtsD_len {key b : List UInt8} {num : Int} (hk : key.length = 64) (hb : b.length % 16 = 0) : (xtsD key num b).length = b.length :=
  xtsT_len (fun x hx => decF_len (keysF_len (key1_len hk)) hx) (encF_len (keysF_len (key2_len hk)) (le16_len num)) hb

set_option maxRecDepth 8000 in
set_option maxHeartbeats 1600000 in
theorem awake_any (w : World) : Calls Try.prog 6 #[] w fun e w' => e = .returned (.bool true) ∧ Below w.heap.size w w' := by
  have hS := St.start w
  have hXL : (xtsE z64 0 z32).length = 32 := xtsE_len (key := z64) (b := z32) rfl rfl
  have HEX := Lib.hid (show True → hexF ((xtsE z64 0 z32).take 16) = ansX from fun _ => ex_xts)
  generalize hX : xtsE z64 0 z32 = X at *
  have HXX := Lib.hid (show True → xtsE z64 0 z32 = X from fun _ => hX)
  have HXL := Lib.hid hXL
  have HX16 := Lib.hid (show (X.take 16).length = 16 by rw [List.length_take, hXL]; rfl)
  have c4 : ((str ansX).toList == [100, 52, 53, 54, 98, 52, 102, 99, 50, 101, 54, 50, 48, 98, 98, 97, 54, 102, 102, 98, 101, 100, 50, 55, 98, 57, 53, 54, 99, 57, 53, 52]) = true := by rw [str_toList]; rfl
  clear hX hXL
  go_enter Try.func6, Try.ntmps6
  go_upto_region 1 with (fail)
  rename_i K0 hK0
  have hrest : ∀ (u5 u6 u7 u8 u9 u10 : Value) (w_ : World), St (Kp w) w w_ [] → K0 { tmps := #[.bool false, .slice none 0 0, .int .i64 2, undef, undef, u5, u6, u7, u8, u9, u10, undef, undef, undef, undef, undef, undef, undef, undef, undef, undef, undef, undef, undef, undef, undef, undef, undef, undef, undef, undef, undef], defers := [] } w_ := by
    clear hS
    intro u5 u6 u7 u8 u9 u10 w_ hS
    refine hK0 _ _ ?_
    clear hK0
    go_upto_region 2 with (fail)
    rename_i K1 hK1
    have hrest : ∀ (gx cx : Nat) (u5 u6 u7 u8 u9 u10 u11 u12 u13 u14 u15 u16 : Value) (w_ : World), St (Kp w) w w_ [.own 5 1 (.slice (some ⟨gx, 0, none⟩) 32 cx) 32 (X.map bV)] → K1 { tmps := #[.bool false, .slice none 0 0, .int .i64 2, .slice (some ⟨gx, 0, none⟩) 32 cx, .int .i64 0, u5, u6, u7, u8, u9, u10, u11, u12, u13, u14, u15, u16, undef, undef, undef, undef, undef, undef, undef, undef, undef, undef, undef, undef, undef, undef, undef], defers := [] } w_ := by
      clear hS
      intro gx cx u5 u6 u7 u8 u9 u10 u11 u12 u13 u14 u15 u16 w_ hS
      refine hK1 _ _ ?_
      clear hK1
      have hcx : 32 ≤ cx := hS.ownCap (A := some ⟨gx, 0, none⟩) (by focus ((repeat (first | exact .here | apply At.there)); done))
      go_wp2_with (first | ((with_reducible show wpList _ _ _ (⟨_, _, _, _, _, some (_, _)⟩ :: _) _ _); go_loud (first | (apply S_guardT; rfl; rfl; first | rfl | assumption) | (apply S_guardF; rfl; rfl; first | rfl | assumption) | (apply S_guard; rfl; rfl; all_goals intro hg_))) | ((with_reducible show wpList _ _ _ (⟨some 28, Op.slice _ _ _ _ _, _, _, _, _⟩ :: _) _ _); go_loud (apply S_slice; rfl; rfl; rfl; (first | exact SB.no | exact SB.so | exact SB.lit (by decide)); (first | exact SB.no | exact SB.so | exact SB.lit (by decide)); rfl; rfl; (first | assumption | (focus (simp; done)) | (focus (simp; omega)) | omega); (first | assumption | (focus (simp; done)) | (focus (simp; omega)) | omega))) | (go_at_call 11; refine (refHex_any _ 16 _ (X.take 16) _ HX16.out (by have := RdB.sub (c := cx) (l := 0) (r := 16) (hS.ownRd (A := some ⟨gx, 0, none⟩) (by focus ((repeat (first | exact .here | apply At.there)); done))) (by rw [HXL.out]; exact hcx); rwa [List.drop_zero] at this) (by decide)).mono ?_; rw [HEX.out trivial]; rintro e w_ ⟨rfl, hb_⟩; replace hS := hS.ext hb_; clear hb_))
      go_ret
      exact ⟨rfl, hS.below⟩
    clear hK1
    refine E_start (hR := Ext.pre) #[false, false, false, false, false, false, false, false] (by kernel_rfl) rfl rfl (fun w_s1 hx_s1 he_s1 => ?_)
    clear he_s1
    replace hS := hS.ext hx_s1; clear hx_s1
    refine E_split [0, 1] (by kernel_rfl) (by simp) (fun i_ hi_ => ?_)
    simp only [List.mem_cons, List.not_mem_nil, or_false] at hi_
    rcases hi_ with rfl | rfl
    · apply E_mk1 (i := 0) (N := (some 12)) hS (hR := Ext.alloc _) TB 64 #[true, false, false, false, false, false, false, false]
      rfl
      rfl
      kernel_rfl
      rfl
      rfl
      rfl
      rfl
      (first | rfl | omega)
      (first | rfl | omega)
      rfl
      (first | decide | omega)
      (first | decide | (unfold maxLen; omega))
      clear hS
      intro ba w_ hS
      rintro _ rfl
      simp only [Act.put, List.setIfInBounds_toArray, List.set_cons_zero, List.set_cons_succ]
      apply E_mk (i := 1) (N := (some 13)) hS (hR := Ext.alloc _) TB 32 #[true, true, false, false, false, false, false, false]
      rfl
      rfl
      kernel_rfl
      rfl
      rfl
      rfl
      rfl
      (first | rfl | omega)
      (first | rfl | omega)
      rfl
      (first | decide | omega)
      (first | decide | (unfold maxLen; omega))
      clear hS
      intro bb w_ hS
      rintro _ rfl
      simp only [Act.put, List.setIfInBounds_toArray, List.set_cons_zero, List.set_cons_succ]
      refine E_call (i := 2) (N := (some 14)) (args := ?gs1a_2) #[true, true, true, false, false, false, false, false] rfl rfl (by kernel_rfl) (by rfl) Try.func7 (by kernel_rfl) rfl rfl ?hgs1a_2 ?_
      case hgs1a_2 => (simp only [List.map_toArray, List.map_cons, List.map_nil]; go_simp; with_reducible rfl)
      refine (xtsEnc_any (some ⟨ba, 0, none⟩) (some ⟨bb, 0, none⟩) 64 64 32 32 0 z64 z32 _ ⟨rfl, by decide, by decide, by decide, by decide⟩ rfl (hS.ownRd (A := some ⟨ba, 0, none⟩) (by focus ((repeat (first | exact .here | apply At.there)); done))) (by decide) rfl (hS.ownRd (A := some ⟨bb, 0, none⟩) (by focus ((repeat (first | exact .here | apply At.there)); done))) (by decide)).mono ?_
      rw [HXX.out trivial]
      rintro e w_ ⟨gx, cx, rfl, ho_, hb_⟩
      rw [HXL.out] at ho_ ⊢
      refine ⟨_, rfl, hb_, ?_⟩
      replace hS := hS.got hb_ ho_
      clear hb_ ho_
      rintro _ rfl
      simp only [Act.put, List.setIfInBounds_toArray, List.set_cons_zero, List.set_cons_succ]
      refine E_take (hR := Ext.pre) (i := 3) (N := (some 11)) (v := ?vs1a_3) (a' := ?as1a_3) #[true, true, true, true, false, false, false, false] rfl rfl (by kernel_rfl) (fun _ _ _ h => h) (by rfl) ?hys1a_3 ?has1a_3 ?_
      case hys1a_3 =>
        intro w' hx
        go_simp
        with_reducible rfl
      case has1a_3 => (simp only [Act.put, List.setIfInBounds_toArray, List.set_cons_zero, List.set_cons_succ]; rfl)
      refine E_take (hR := Ext.pre) (i := 4) (N := (some 15)) (v := ?vs1a_4) (a' := ?as1a_4) #[true, true, true, true, true, false, false, false] rfl rfl (by kernel_rfl) (fun _ _ _ h => h) (by rfl) ?hys1a_4 ?has1a_4 ?_
      case hys1a_4 =>
        intro w' hx
        go_simp
        with_reducible rfl
      case has1a_4 => (simp only [Act.put, List.setIfInBounds_toArray, List.set_cons_zero, List.set_cons_succ]; rfl)
      refine E_take (hR := Ext.pre) (i := 5) (N := (some 16)) (v := ?vs1a_5) (a' := ?as1a_5) #[true, true, true, true, true, true, false, false] rfl rfl (by kernel_rfl) (fun _ _ _ h => h) (by rfl) ?hys1a_5 ?has1a_5 ?_
      case hys1a_5 =>
        intro w' hx
        go_simp
        with_reducible rfl
      case has1a_5 => (simp only [Act.put, List.setIfInBounds_toArray, List.set_cons_zero, List.set_cons_succ]; rfl)
      refine E_take (hR := Ext.pre) (i := 6) (N := (some 3)) (v := ?vs1a_6) (a' := ?as1a_6) #[true, true, true, true, true, true, true, false] rfl rfl (by kernel_rfl) (fun _ _ _ h => h) (by rfl) ?hys1a_6 ?has1a_6 ?_
      case hys1a_6 =>
        intro w' hx
        go_simp
        with_reducible rfl
      case has1a_6 => (simp only [Act.put, List.setIfInBounds_toArray, List.set_cons_zero, List.set_cons_succ]; rfl)
      refine E_take (hR := Ext.pre) (i := 7) (N := (some 4)) (v := ?vs1a_7) (a' := ?as1a_7) #[true, true, true, true, true, true, true, true] rfl rfl (by kernel_rfl) (fun _ _ _ h => h) (by rfl) ?hys1a_7 ?has1a_7 ?_
      case hys1a_7 =>
        intro w' hx
        go_simp
        with_reducible rfl
      case has1a_7 => (simp only [Act.put, List.setIfInBounds_toArray, List.set_cons_zero, List.set_cons_succ]; rfl)
      refine E_done (by kernel_rfl) ?_
      exact hrest _ _ _ _ _ _ _ _ _ _ _ _ _ _ _ (hS.sub (by repeat (first | exact List.Sublist.refl _ | apply List.Sublist.cons_cons | apply List.Sublist.cons)))
    · apply E_mk1 (i := 1) (N := (some 13)) hS (hR := Ext.alloc _) TB 32 #[false, true, false, false, false, false, false, false]
      rfl
      rfl
      kernel_rfl
      rfl
      rfl
      rfl
      rfl
      (first | rfl | omega)
      (first | rfl | omega)
      rfl
      (first | decide | omega)
      (first | decide | (unfold maxLen; omega))
      clear hS
      intro bb w_ hS
      rintro _ rfl
      simp only [Act.put, List.setIfInBounds_toArray, List.set_cons_zero, List.set_cons_succ]
      apply E_mk (i := 0) (N := (some 12)) hS (hR := Ext.alloc _) TB 64 #[true, true, false, false, false, false, false, false]
      rfl
      rfl
      kernel_rfl
      rfl
      rfl
      rfl
      rfl
      (first | rfl | omega)
      (first | rfl | omega)
      rfl
      (first | decide | omega)
      (first | decide | (unfold maxLen; omega))
      clear hS
      intro ba w_ hS
      rintro _ rfl
      simp only [Act.put, List.setIfInBounds_toArray, List.set_cons_zero, List.set_cons_succ]
      refine E_call (i := 2) (N := (some 14)) (args := ?gs1b_2) #[true, true, true, false, false, false, false, false] rfl rfl (by kernel_rfl) (by rfl) Try.func7 (by kernel_rfl) rfl rfl ?hgs1b_2 ?_
      case hgs1b_2 => (simp only [List.map_toArray, List.map_cons, List.map_nil]; go_simp; with_reducible rfl)
      refine (xtsEnc_any (some ⟨ba, 0, none⟩) (some ⟨bb, 0, none⟩) 64 64 32 32 0 z64 z32 _ ⟨rfl, by decide, by decide, by decide, by decide⟩ rfl (hS.ownRd (A := some ⟨ba, 0, none⟩) (by focus ((repeat (first | exact .here | apply At.there)); done))) (by decide) rfl (hS.ownRd (A := some ⟨bb, 0, none⟩) (by focus ((repeat (first | exact .here | apply At.there)); done))) (by decide)).mono ?_
      rw [HXX.out trivial]
      rintro e w_ ⟨gx, cx, rfl, ho_, hb_⟩
      rw [HXL.out] at ho_ ⊢
      refine ⟨_, rfl, hb_, ?_⟩
      replace hS := hS.got hb_ ho_
      clear hb_ ho_
      rintro _ rfl
      simp only [Act.put, List.setIfInBounds_toArray, List.set_cons_zero, List.set_cons_succ]
      refine E_take (hR := Ext.pre) (i := 3) (N := (some 11)) (v := ?vs1b_3) (a' := ?as1b_3) #[true, true, true, true, false, false, false, false] rfl rfl (by kernel_rfl) (fun _ _ _ h => h) (by rfl) ?hys1b_3 ?has1b_3 ?_
      case hys1b_3 =>
        intro w' hx
        go_simp
        with_reducible rfl
      case has1b_3 => (simp only [Act.put, List.setIfInBounds_toArray, List.set_cons_zero, List.set_cons_succ]; rfl)
      refine E_take (hR := Ext.pre) (i := 4) (N := (some 15)) (v := ?vs1b_4) (a' := ?as1b_4) #[true, true, true, true, true, false, false, false] rfl rfl (by kernel_rfl) (fun _ _ _ h => h) (by rfl) ?hys1b_4 ?has1b_4 ?_
      case hys1b_4 =>
        intro w' hx
        go_simp
        with_reducible rfl
      case has1b_4 => (simp only [Act.put, List.setIfInBounds_toArray, List.set_cons_zero, List.set_cons_succ]; rfl)
      refine E_take (hR := Ext.pre) (i := 5) (N := (some 16)) (v := ?vs1b_5) (a' := ?as1b_5) #[true, true, true, true, true, true, false, false] rfl rfl (by kernel_rfl) (fun _ _ _ h => h) (by rfl) ?hys1b_5 ?has1b_5 ?_
      case hys1b_5 =>
        intro w' hx
        go_simp
        with_reducible rfl
      case has1b_5 => (simp only [Act.put, List.setIfInBounds_toArray, List.set_cons_zero, List.set_cons_succ]; rfl)
      refine E_take (hR := Ext.pre) (i := 6) (N := (some 3)) (v := ?vs1b_6) (a' := ?as1b_6) #[true, true, true, true, true, true, true, false] rfl rfl (by kernel_rfl) (fun _ _ _ h => h) (by rfl) ?hys1b_6 ?has1b_6 ?_
      case hys1b_6 =>
        intro w' hx
        go_simp
        with_reducible rfl
      case has1b_6 => (simp only [Act.put, List.setIfInBounds_toArray, List.set_cons_zero, List.set_cons_succ]; rfl)
      refine E_take (hR := Ext.pre) (i := 7) (N := (some 4)) (v := ?vs1b_7) (a' := ?as1b_7) #[true, true, true, true, true, true, true, true] rfl rfl (by kernel_rfl) (fun _ _ _ h => h) (by rfl) ?hys1b_7 ?has1b_7 ?_
      case hys1b_7 =>
        intro w' hx
        go_simp
        with_reducible rfl
      case has1b_7 => (simp only [Act.put, List.setIfInBounds_toArray, List.set_cons_zero, List.set_cons_succ]; rfl)
      refine E_done (by kernel_rfl) ?_
      exact hrest _ _ _ _ _ _ _ _ _ _ _ _ _ _ _ (hS.sub (by repeat (first | exact List.Sublist.refl _ | apply List.Sublist.cons_cons | apply List.Sublist.cons)))
  clear hK0
  refine E_start (hR := Ext.pre) #[false, false, false, false, false, false, false, false] (by kernel_rfl) rfl rfl (fun w_r2 hx_r2 he_r2 => ?_)
  clear he_r2
  replace hS := hS.ext hx_r2; clear hx_r2
  refine E_split [0, 1] (by kernel_rfl) (by simp) (fun i_ hi_ => ?_)
  simp only [List.mem_cons, List.not_mem_nil, or_false] at hi_
  rcases hi_ with rfl | rfl
  · apply E_mk1 (i := 0) (N := (some 6)) hS (hR := Ext.alloc _) TB 63 #[true, false, false, false, false, false, false, false]
    rfl
    rfl
    kernel_rfl
    rfl
    rfl
    rfl
    rfl
    (first | rfl | omega)
    (first | rfl | omega)
    rfl
    (first | decide | omega)
    (first | decide | (unfold maxLen; omega))
    clear hS
    intro b_0 w_ hS
    rintro _ rfl
    simp only [Act.put, List.setIfInBounds_toArray, List.set_cons_zero, List.set_cons_succ]
    apply E_mk (i := 1) (N := (some 7)) hS (hR := Ext.alloc _) TB 16 #[true, true, false, false, false, false, false, false]
    rfl
    rfl
    kernel_rfl
    rfl
    rfl
    rfl
    rfl
    (first | rfl | omega)
    (first | rfl | omega)
    rfl
    (first | decide | omega)
    (first | decide | (unfold maxLen; omega))
    clear hS
    intro b_1 w_ hS
    rintro _ rfl
    simp only [Act.put, List.setIfInBounds_toArray, List.set_cons_zero, List.set_cons_succ]
    refine E_call (i := 2) (N := (some 8)) (args := ?gr2a_2) #[true, true, true, false, false, false, false, false] rfl rfl (by kernel_rfl) (by rfl) Try.func7 (by kernel_rfl) rfl rfl ?hgr2a_2 ?_
    case hgr2a_2 => (simp only [List.map_toArray, List.map_cons, List.map_nil]; go_simp; with_reducible rfl)
    refine (xtsEnc_no _ _ 63 63 16 16 0 _ (fun h => by have := h.1; omega)).mono ?_
    rintro e w_ ⟨rfl, hb_⟩
    refine ⟨_, rfl, hb_, ?_⟩
    replace hS := hS.ext hb_
    clear hb_
    rintro _ rfl
    simp only [Act.put, List.setIfInBounds_toArray, List.set_cons_zero, List.set_cons_succ]
    refine E_take (hR := Ext.pre) (i := 3) (N := (some 5)) (v := ?vr2a_3) (a' := ?ar2a_3) #[true, true, true, true, false, false, false, false] rfl rfl (by kernel_rfl) (fun _ _ _ h => h) (by rfl) ?hyr2a_3 ?har2a_3 ?_
    case hyr2a_3 =>
      intro w' hx
      go_simp
      with_reducible rfl
    case har2a_3 => (simp only [Act.put, List.setIfInBounds_toArray, List.set_cons_zero, List.set_cons_succ]; rfl)
    refine E_take (hR := Ext.pre) (i := 4) (N := (some 9)) (v := ?vr2a_4) (a' := ?ar2a_4) #[true, true, true, true, true, false, false, false] rfl rfl (by kernel_rfl) (fun _ _ _ h => h) (by rfl) ?hyr2a_4 ?har2a_4 ?_
    case hyr2a_4 =>
      intro w' hx
      go_simp
      with_reducible rfl
    case har2a_4 => (simp only [Act.put, List.setIfInBounds_toArray, List.set_cons_zero, List.set_cons_succ]; rfl)
    refine E_take (hR := Ext.pre) (i := 5) (N := (some 10)) (v := ?vr2a_5) (a' := ?ar2a_5) #[true, true, true, true, true, true, false, false] rfl rfl (by kernel_rfl) (fun _ _ _ h => h) (by rfl) ?hyr2a_5 ?har2a_5 ?_
    case hyr2a_5 =>
      intro w' hx
      go_simp
      with_reducible rfl
    case har2a_5 => (simp only [Act.put, List.setIfInBounds_toArray, List.set_cons_zero, List.set_cons_succ]; rfl)
    refine E_take (hR := Ext.pre) (i := 6) (N := (some 1)) (v := ?vr2a_6) (a' := ?ar2a_6) #[true, true, true, true, true, true, true, false] rfl rfl (by kernel_rfl) (fun _ _ _ h => h) (by rfl) ?hyr2a_6 ?har2a_6 ?_
    case hyr2a_6 =>
      intro w' hx
      go_simp
      with_reducible rfl
    case har2a_6 => (simp only [Act.put, List.setIfInBounds_toArray, List.set_cons_zero, List.set_cons_succ]; rfl)
    refine E_take (hR := Ext.pre) (i := 7) (N := (some 2)) (v := ?vr2a_7) (a' := ?ar2a_7) #[true, true, true, true, true, true, true, true] rfl rfl (by kernel_rfl) (fun _ _ _ h => h) (by rfl) ?hyr2a_7 ?har2a_7 ?_
    case hyr2a_7 =>
      intro w' hx
      go_simp
      with_reducible rfl
    case har2a_7 => (simp only [Act.put, List.setIfInBounds_toArray, List.set_cons_zero, List.set_cons_succ]; rfl)
    refine E_done (by kernel_rfl) ?_
    exact hrest _ _ _ _ _ _ _ (hS.sub (List.nil_sublist _))
  · apply E_mk1 (i := 1) (N := (some 7)) hS (hR := Ext.alloc _) TB 16 #[false, true, false, false, false, false, false, false]
    rfl
    rfl
    kernel_rfl
    rfl
    rfl
    rfl
    rfl
    (first | rfl | omega)
    (first | rfl | omega)
    rfl
    (first | decide | omega)
    (first | decide | (unfold maxLen; omega))
    clear hS
    intro b_1 w_ hS
    rintro _ rfl
    simp only [Act.put, List.setIfInBounds_toArray, List.set_cons_zero, List.set_cons_succ]
    apply E_mk (i := 0) (N := (some 6)) hS (hR := Ext.alloc _) TB 63 #[true, true, false, false, false, false, false, false]
    rfl
    rfl
    kernel_rfl
    rfl
    rfl
    rfl
    rfl
    (first | rfl | omega)
    (first | rfl | omega)
    rfl
    (first | decide | omega)
    (first | decide | (unfold maxLen; omega))
    clear hS
    intro b_0 w_ hS
    rintro _ rfl
    simp only [Act.put, List.setIfInBounds_toArray, List.set_cons_zero, List.set_cons_succ]
    refine E_call (i := 2) (N := (some 8)) (args := ?gr2b_2) #[true, true, true, false, false, false, false, false] rfl rfl (by kernel_rfl) (by rfl) Try.func7 (by kernel_rfl) rfl rfl ?hgr2b_2 ?_
    case hgr2b_2 => (simp only [List.map_toArray, List.map_cons, List.map_nil]; go_simp; with_reducible rfl)
    refine (xtsEnc_no _ _ 63 63 16 16 0 _ (fun h => by have := h.1; omega)).mono ?_
    rintro e w_ ⟨rfl, hb_⟩
    refine ⟨_, rfl, hb_, ?_⟩
    replace hS := hS.ext hb_
    clear hb_
    rintro _ rfl
    simp only [Act.put, List.setIfInBounds_toArray, List.set_cons_zero, List.set_cons_succ]
    refine E_take (hR := Ext.pre) (i := 3) (N := (some 5)) (v := ?vr2b_3) (a' := ?ar2b_3) #[true, true, true, true, false, false, false, false] rfl rfl (by kernel_rfl) (fun _ _ _ h => h) (by rfl) ?hyr2b_3 ?har2b_3 ?_
    case hyr2b_3 =>
      intro w' hx
      go_simp
      with_reducible rfl
    case har2b_3 => (simp only [Act.put, List.setIfInBounds_toArray, List.set_cons_zero, List.set_cons_succ]; rfl)
    refine E_take (hR := Ext.pre) (i := 4) (N := (some 9)) (v := ?vr2b_4) (a' := ?ar2b_4) #[true, true, true, true, true, false, false, false] rfl rfl (by kernel_rfl) (fun _ _ _ h => h) (by rfl) ?hyr2b_4 ?har2b_4 ?_
    case hyr2b_4 =>
      intro w' hx
      go_simp
      with_reducible rfl
    case har2b_4 => (simp only [Act.put, List.setIfInBounds_toArray, List.set_cons_zero, List.set_cons_succ]; rfl)
    refine E_take (hR := Ext.pre) (i := 5) (N := (some 10)) (v := ?vr2b_5) (a' := ?ar2b_5) #[true, true, true, true, true, true, false, false] rfl rfl (by kernel_rfl) (fun _ _ _ h => h) (by rfl) ?hyr2b_5 ?har2b_5 ?_
    case hyr2b_5 =>
      intro w' hx
      go_simp
      with_reducible rfl
    case har2b_5 => (simp only [Act.put, List.setIfInBounds_toArray, List.set_cons_zero, List.set_cons_succ]; rfl)
    refine E_take (hR := Ext.pre) (i := 6) (N := (some 1)) (v := ?vr2b_6) (a' := ?ar2b_6) #[true, true, true, true, true, true, true, false] rfl rfl (by kernel_rfl) (fun _ _ _ h => h) (by rfl) ?hyr2b_6 ?har2b_6 ?_
    case hyr2b_6 =>
      intro w' hx
      go_simp
      with_reducible rfl
    case har2b_6 => (simp only [Act.put, List.setIfInBounds_toArray, List.set_cons_zero, List.set_cons_succ]; rfl)
    refine E_take (hR := Ext.pre) (i := 7) (N := (some 2)) (v := ?vr2b_7) (a' := ?ar2b_7) #[true, true, true, true, true, true, true, true] rfl rfl (by kernel_rfl) (fun _ _ _ h => h) (by rfl) ?hyr2b_7 ?har2b_7 ?_
    case hyr2b_7 =>
      intro w' hx
      go_simp
      with_reducible rfl
    case har2b_7 => (simp only [Act.put, List.setIfInBounds_toArray, List.set_cons_zero, List.set_cons_succ]; rfl)
    refine E_done (by kernel_rfl) ?_
    exact hrest _ _ _ _ _ _ _ (hS.sub (List.nil_sublist _))
end Go.Proofs.Ythamhaomfdgdjaa
