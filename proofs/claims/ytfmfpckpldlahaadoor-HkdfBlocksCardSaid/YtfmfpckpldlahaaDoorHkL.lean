/- The walks of chapter 06's laws: awake, HkdfKeys, HkdfDerives. -/
import Derived.Test.YtfmfpckpldlahaaDoorHkR
namespace Go.Proofs.YtfmfpckpldlahaaDoor
open Go.RowKit Go.Proofs.YtfmfpckpldlahaaDoor.Pure

theorem der_len (mat : List UInt8) (cb : UInt8) (info : List UInt8) {k : Nat} (hk : k ≤ 16320) : (derF mat cb info k).length = k := expF_len _ _ hk

set_option maxRecDepth 8000 in
set_option maxHeartbeats 1600000 in
theorem awake_any (w : World) (hG : GK w) : Calls Tryd.prog 7 #[] w fun e w' => e = .returned (.bool true) ∧ Below w.heap.size w w' := by
  have hS := St.start w
  have HG := Lib.hid hG
  clear hG
  go_enter Tryd.func7, Tryd.ntmps7
  go_wp2_with (first | ((with_reducible show wpList _ _ _ (⟨some 8, Op.buildSlice _ _ _, _, _, _, _⟩ :: _) _ _); go_loud (apply S_lit hS; rfl; (go_simp; first | with_reducible rfl | (refine ⟨?_, ?_⟩ <;> with_reducible rfl)); rfl; rfl; rfl; rfl; rfl; rfl; rfl; clear hS; intro b8 w_ hS)) | ((with_reducible show wpList _ _ _ (⟨some 14, Op.buildSlice _ _ _, _, _, _, _⟩ :: _) _ _); go_loud (apply S_lit hS; rfl; (go_simp; first | with_reducible rfl | (refine ⟨?_, ?_⟩ <;> with_reducible rfl)); rfl; rfl; rfl; rfl; rfl; rfl; rfl; clear hS; intro b14 w_ hS)) | ((with_reducible show wpList _ _ _ (⟨some 20, Op.buildSlice _ _ _, _, _, _, _⟩ :: _) _ _); go_loud (apply S_lit hS; rfl; (go_simp; first | with_reducible rfl | (refine ⟨?_, ?_⟩ <;> with_reducible rfl)); rfl; rfl; rfl; rfl; rfl; rfl; rfl; clear hS; intro b20 w_ hS)) | ((with_reducible show Calls _ 8 #[_, _, .int .i64 0] _ _); refine (expand_any _ 1 _ [107] [105] 0 _ rfl (hS.litRd (b := b8) (by focus ((repeat (first | exact .here | apply At.there)); done))) (by decide) (by decide) (by decide) (HG.out.keep hS.below)).mono ?_; rintro e w_ ⟨A1, rfl, -, hb_⟩; replace hS := hS.ext hb_; clear hb_) | ((with_reducible show Calls _ 8 #[_, _, .int .i64 (-1)] _ _); refine (expand_no _ 1 _ _ (-1) _ (.inl (by decide))).mono ?_; rintro e w_ ⟨rfl, hb_⟩; replace hS := hS.ext hb_; clear hb_) | ((with_reducible show Calls _ 8 #[_, _, .int .i64 3] _ _); refine (expand_any _ 1 _ [107] [105] 3 _ rfl (hS.litRd (b := b20) (by focus ((repeat (first | exact .here | apply At.there)); done))) (by decide) (by decide) (by decide) (HG.out.keep hS.below)).mono ?_; rintro e w_ ⟨A3, rfl, -, hb_⟩; replace hS := hS.ext hb_; clear hb_))
  go_ret
  exact ⟨rfl, hS.below⟩

set_option maxRecDepth 8000 in
set_option maxHeartbeats 1600000 in
theorem keys_walk (A0 A1 : Option Addr) (n0 c0 n1 c1 : Nat) (salt mat : List UInt8) (z : Int) (w : World) (hn0 : salt.length = n0) (hn1 : mat.length = n1) (hr0 : RdB w A0 salt) (hr1 : RdB w A1 mat) (hc0 : n0 ≤ c0) (hc1 : n1 ≤ c1) (hG : GK w) :
    Calls Tryd.prog 5 #[.slice A0 n0 c0, .slice A1 n1 c1, .int .i64 z] w fun e w' => e = .returned (.bool true) ∧ Below w.heap.size w w' := by
  have hS := St.start w
  have HG := Lib.hid hG
  have HR0 := Lib.hid hr0
  have HR1 := Lib.hid hr1
  have HN0 := Lib.hid hn0
  have HN1 := Lib.hid hn1
  clear hG hr0 hr1 hn0 hn1
  by_cases h1 : 200 < n0
  · go_enter Tryd.func5, Tryd.ntmps5
    go_upto_region 3 with (go_at_call 7; refine (awake_any _ (HG.out.keep hS.below)).mono ?_; rintro e w_ ⟨rfl, hb_⟩; replace hS := hS.ext hb_; clear hb_)
    all_goals (go_ret; exact ⟨rfl, hS.below⟩)
  by_cases h2 : 200 < n1
  · go_enter Tryd.func5, Tryd.ntmps5
    go_upto_region 3 with (go_at_call 7; refine (awake_any _ (HG.out.keep hS.below)).mono ?_; rintro e w_ ⟨rfl, hb_⟩; replace hS := hS.ext hb_; clear hb_)
    all_goals (go_ret; exact ⟨rfl, hS.below⟩)
  have i1 : ¬ (200 : Int) < (n0 : Int) := by omega
  have i2 : ¬ (200 : Int) < (n1 : Int) := by omega
  by_cases h3 : 500 < z ∧ z ≤ 16320
  · obtain ⟨h3, h4⟩ := h3
    go_enter Tryd.func5, Tryd.ntmps5
    go_upto_region 3 with (go_at_call 7; refine (awake_any _ (HG.out.keep hS.below)).mono ?_; rintro e w_ ⟨rfl, hb_⟩; replace hS := hS.ext hb_; clear hb_)
    all_goals (go_ret; exact ⟨rfl, hS.below⟩)
  have HL := Lib.hid (show (extF salt mat).length = 64 from hmacF_len _ _)
  by_cases h5 : z < 0
  · have h6 : ¬ 500 < z := by omega
    go_enter Tryd.func5, Tryd.ntmps5
    go_upto_region 4 with (first | (go_at_call 7; refine (awake_any _ (HG.out.keep hS.below)).mono ?_; rintro e w_ ⟨rfl, hb_⟩; replace hS := hS.ext hb_; clear hb_) | (go_at_call 10; refine (extract_any A0 A1 n0 c0 n1 c1 salt mat _ HN0.out (hS.rdp HR0.out) HN1.out (hS.rdp HR1.out) (by omega) (by omega) (HG.out.keep hS.below)).mono ?_; rintro e w_ ⟨rfl, hb_⟩; replace hS := hS.ext hb_; clear hb_) | ((with_reducible show wpList _ _ _ (⟨some 7, Op.alloc _, _, _, _, _⟩ :: _) _ _); go_loud (refine S_alloc (z := .agg (List.replicate 64 (.int .u8 0)).toArray) (L := (List.replicate 64 (.int .u8 0))) hS rfl rfl ?_ ?_ ?_; (show _ = _; kernel_rfl); (show _ = _; kernel_rfl); clear hS; intro b7 w_ hS)) | ((with_reducible show wpList _ _ _ (⟨_, Op.store _ _ _, _, _, _, _⟩ :: _) _ _); go_loud (apply S_stAll hS; rfl; rfl; rfl; rfl; (focus ((repeat (first | exact .here | apply At.there)); done)); (first | assumption | (rw [List.length_map, HL.out]; rfl) | (focus (simp [bV, wV, Value.oneCell']; done)) | (focus (simp [bV, Value.oneCell']; done))); (first | rfl | (rw [List.length_map, HL.out]; rfl)); (first | rfl | (rw [List.length_map, HL.out]; rfl)); clear hS; intro w_ hS)))
    refine E_start (hR := Ext.pre) #[false, false, false, false, false, false] (by kernel_rfl) rfl rfl (fun w_k1 hx_k1 he_k1 => ?_)
    clear he_k1
    replace hS := hS.ext hx_k1; clear hx_k1
    refine E_take (hR := Ext.pre) (i := 0) (N := (some 34)) (v := ?vk1_0) (a' := ?ak1_0) #[true, false, false, false, false, false] rfl rfl (by kernel_rfl) (fun _ _ _ h => h) (by rfl) ?hyk1_0 ?hak1_0 ?_
    case hyk1_0 =>
      intro w' hx
      (first | (apply Eq.trans; (apply R_slice; rfl; rfl; (first | exact SB.no | exact SB.so); (first | exact SB.no | exact SB.so); rfl; rfl; (first | assumption | omega); (first | assumption | omega)); with_reducible rfl) | (go_simp; with_reducible rfl))
    case hak1_0 => (simp only [Act.put, List.setIfInBounds_toArray, List.set_cons_zero, List.set_cons_succ]; rfl)
    refine E_take (hR := Ext.pre) (i := 1) (N := (some 35)) (v := ?vk1_1) (a' := ?ak1_1) #[true, true, false, false, false, false] rfl rfl (by kernel_rfl) (fun _ _ _ h => h) (by rfl) ?hyk1_1 ?hak1_1 ?_
    case hyk1_1 =>
      intro w' hx
      (apply Eq.trans; (apply R_strc Tryd.underlying22 Tryd.underlying5 Tryd.underlying9 ((hS.ext hx).blkRd (b := b7) (by focus ((repeat (first | exact .here | apply At.there)); done)) : RdB _ _ (extF salt mat)) HL.out; rfl; rfl); with_reducible rfl)
    case hak1_1 => (simp only [Act.put, List.setIfInBounds_toArray, List.set_cons_zero, List.set_cons_succ]; rfl)
    refine E_take (hR := Ext.pre) (i := 2) (N := (some 36)) (v := ?vk1_2) (a' := ?ak1_2) #[true, true, true, false, false, false] rfl rfl (by kernel_rfl) (fun _ _ _ h => h) (by rfl) ?hyk1_2 ?hak1_2 ?_
    case hyk1_2 =>
      intro w' hx
      go_simp
      with_reducible rfl
    case hak1_2 => (simp only [Act.put, List.setIfInBounds_toArray, List.set_cons_zero, List.set_cons_succ]; rfl)
    refine E_take (hR := Ext.pre) (i := 3) (N := (some 37)) (v := ?vk1_3) (a' := ?ak1_3) #[true, true, true, true, false, false] rfl rfl (by kernel_rfl) (fun _ _ _ h => h) (by rfl) ?hyk1_3 ?hak1_3 ?_
    case hyk1_3 =>
      intro w' hx
      go_simp
      with_reducible rfl
    case hak1_3 => (simp only [Act.put, List.setIfInBounds_toArray, List.set_cons_zero, List.set_cons_succ]; rfl)
    refine E_call (i := 4) (N := (some 38)) (args := ?gk1_4) #[true, true, true, true, true, false] rfl rfl (by kernel_rfl) (by rfl) Tryd.func11 (by kernel_rfl) rfl rfl ?hgk1_4 ?_
    case hgk1_4 => (simp only [List.map_toArray, List.map_cons, List.map_nil]; go_simp; with_reducible rfl)
    refine (refExtract_any A0 A1 n0 c0 n1 c1 salt mat _ HN0.out (hS.rdp HR0.out) hc0 HN1.out (hS.rdp HR1.out) (by omega) (by omega)).mono ?_
    rintro e w_ ⟨rfl, hb_⟩
    refine ⟨_, rfl, hb_, ?_⟩
    replace hS := hS.ext hb_
    clear hb_
    rintro _ rfl
    simp only [Act.put, List.setIfInBounds_toArray, List.set_cons_zero, List.set_cons_succ]
    refine E_take (hR := Ext.pre) (i := 5) (N := (some 39)) (v := ?vk1_5) (a' := ?ak1_5) #[true, true, true, true, true, true] rfl rfl (by kernel_rfl) (fun _ _ _ h => h) (by rfl) ?hyk1_5 ?hak1_5 ?_
    case hyk1_5 =>
      intro w' hx
      go_simp
      with_reducible rfl
    case hak1_5 => (simp only [Act.put, List.setIfInBounds_toArray, List.set_cons_zero, List.set_cons_succ]; rfl)
    refine E_done (by kernel_rfl) ?_
    go_wp2_with (first | ((with_reducible show wpList _ _ _ (⟨some 43, Op.convert _ _ _, _, _, _, _⟩ :: _) _ _); go_loud (refine S_strc Tryd.underlying22 Tryd.underlying5 Tryd.underlying9 (hS.rdp HR0.out : RdB _ _ salt) HN0.out rfl rfl rfl ?_)) | (go_at_call 8; refine (expand_no _ _ _ _ z _ (.inl h5)).mono ?_; rintro e w_ ⟨rfl, hb_⟩; replace hS := hS.ext hb_; clear hb_))
    go_ret
    exact ⟨rfl, hS.below⟩
  by_cases h6 : 16320 < z
  · have h7 : 500 < z := by omega
    have h8 : ¬ z ≤ 16320 := by omega
    go_enter Tryd.func5, Tryd.ntmps5
    go_upto_region 4 with (first | (go_at_call 7; refine (awake_any _ (HG.out.keep hS.below)).mono ?_; rintro e w_ ⟨rfl, hb_⟩; replace hS := hS.ext hb_; clear hb_) | (go_at_call 10; refine (extract_any A0 A1 n0 c0 n1 c1 salt mat _ HN0.out (hS.rdp HR0.out) HN1.out (hS.rdp HR1.out) (by omega) (by omega) (HG.out.keep hS.below)).mono ?_; rintro e w_ ⟨rfl, hb_⟩; replace hS := hS.ext hb_; clear hb_) | ((with_reducible show wpList _ _ _ (⟨some 7, Op.alloc _, _, _, _, _⟩ :: _) _ _); go_loud (refine S_alloc (z := .agg (List.replicate 64 (.int .u8 0)).toArray) (L := (List.replicate 64 (.int .u8 0))) hS rfl rfl ?_ ?_ ?_; (show _ = _; kernel_rfl); (show _ = _; kernel_rfl); clear hS; intro b7 w_ hS)) | ((with_reducible show wpList _ _ _ (⟨_, Op.store _ _ _, _, _, _, _⟩ :: _) _ _); go_loud (apply S_stAll hS; rfl; rfl; rfl; rfl; (focus ((repeat (first | exact .here | apply At.there)); done)); (first | assumption | (rw [List.length_map, HL.out]; rfl) | (focus (simp [bV, wV, Value.oneCell']; done)) | (focus (simp [bV, Value.oneCell']; done))); (first | rfl | (rw [List.length_map, HL.out]; rfl)); (first | rfl | (rw [List.length_map, HL.out]; rfl)); clear hS; intro w_ hS)))
    refine E_start (hR := Ext.pre) #[false, false, false, false, false, false] (by kernel_rfl) rfl rfl (fun w_k2 hx_k2 he_k2 => ?_)
    clear he_k2
    replace hS := hS.ext hx_k2; clear hx_k2
    refine E_take (hR := Ext.pre) (i := 0) (N := (some 34)) (v := ?vk2_0) (a' := ?ak2_0) #[true, false, false, false, false, false] rfl rfl (by kernel_rfl) (fun _ _ _ h => h) (by rfl) ?hyk2_0 ?hak2_0 ?_
    case hyk2_0 =>
      intro w' hx
      (first | (apply Eq.trans; (apply R_slice; rfl; rfl; (first | exact SB.no | exact SB.so); (first | exact SB.no | exact SB.so); rfl; rfl; (first | assumption | omega); (first | assumption | omega)); with_reducible rfl) | (go_simp; with_reducible rfl))
    case hak2_0 => (simp only [Act.put, List.setIfInBounds_toArray, List.set_cons_zero, List.set_cons_succ]; rfl)
    refine E_take (hR := Ext.pre) (i := 1) (N := (some 35)) (v := ?vk2_1) (a' := ?ak2_1) #[true, true, false, false, false, false] rfl rfl (by kernel_rfl) (fun _ _ _ h => h) (by rfl) ?hyk2_1 ?hak2_1 ?_
    case hyk2_1 =>
      intro w' hx
      (apply Eq.trans; (apply R_strc Tryd.underlying22 Tryd.underlying5 Tryd.underlying9 ((hS.ext hx).blkRd (b := b7) (by focus ((repeat (first | exact .here | apply At.there)); done)) : RdB _ _ (extF salt mat)) HL.out; rfl; rfl); with_reducible rfl)
    case hak2_1 => (simp only [Act.put, List.setIfInBounds_toArray, List.set_cons_zero, List.set_cons_succ]; rfl)
    refine E_take (hR := Ext.pre) (i := 2) (N := (some 36)) (v := ?vk2_2) (a' := ?ak2_2) #[true, true, true, false, false, false] rfl rfl (by kernel_rfl) (fun _ _ _ h => h) (by rfl) ?hyk2_2 ?hak2_2 ?_
    case hyk2_2 =>
      intro w' hx
      go_simp
      with_reducible rfl
    case hak2_2 => (simp only [Act.put, List.setIfInBounds_toArray, List.set_cons_zero, List.set_cons_succ]; rfl)
    refine E_take (hR := Ext.pre) (i := 3) (N := (some 37)) (v := ?vk2_3) (a' := ?ak2_3) #[true, true, true, true, false, false] rfl rfl (by kernel_rfl) (fun _ _ _ h => h) (by rfl) ?hyk2_3 ?hak2_3 ?_
    case hyk2_3 =>
      intro w' hx
      go_simp
      with_reducible rfl
    case hak2_3 => (simp only [Act.put, List.setIfInBounds_toArray, List.set_cons_zero, List.set_cons_succ]; rfl)
    refine E_call (i := 4) (N := (some 38)) (args := ?gk2_4) #[true, true, true, true, true, false] rfl rfl (by kernel_rfl) (by rfl) Tryd.func11 (by kernel_rfl) rfl rfl ?hgk2_4 ?_
    case hgk2_4 => (simp only [List.map_toArray, List.map_cons, List.map_nil]; go_simp; with_reducible rfl)
    refine (refExtract_any A0 A1 n0 c0 n1 c1 salt mat _ HN0.out (hS.rdp HR0.out) hc0 HN1.out (hS.rdp HR1.out) (by omega) (by omega)).mono ?_
    rintro e w_ ⟨rfl, hb_⟩
    refine ⟨_, rfl, hb_, ?_⟩
    replace hS := hS.ext hb_
    clear hb_
    rintro _ rfl
    simp only [Act.put, List.setIfInBounds_toArray, List.set_cons_zero, List.set_cons_succ]
    refine E_take (hR := Ext.pre) (i := 5) (N := (some 39)) (v := ?vk2_5) (a' := ?ak2_5) #[true, true, true, true, true, true] rfl rfl (by kernel_rfl) (fun _ _ _ h => h) (by rfl) ?hyk2_5 ?hak2_5 ?_
    case hyk2_5 =>
      intro w' hx
      go_simp
      with_reducible rfl
    case hak2_5 => (simp only [Act.put, List.setIfInBounds_toArray, List.set_cons_zero, List.set_cons_succ]; rfl)
    refine E_done (by kernel_rfl) ?_
    go_wp2_with (first | ((with_reducible show wpList _ _ _ (⟨some 43, Op.convert _ _ _, _, _, _, _⟩ :: _) _ _); go_loud (refine S_strc Tryd.underlying22 Tryd.underlying5 Tryd.underlying9 (hS.rdp HR0.out : RdB _ _ salt) HN0.out rfl rfl rfl ?_)) | (go_at_call 8; refine (expand_no _ _ _ _ z _ (.inr h6)).mono ?_; rintro e w_ ⟨rfl, hb_⟩; replace hS := hS.ext hb_; clear hb_))
    go_ret
    exact ⟨rfl, hS.below⟩
  obtain ⟨m, rfl⟩ : ∃ m : Nat, z = (m : Int) := ⟨z.toNat, by omega⟩
  have h7 : ¬ 500 < (m : Int) := by omega
  have HXL := Lib.hid (expF_len mat salt (m := m) (by omega))
  go_enter Tryd.func5, Tryd.ntmps5
  go_upto_region 4 with (first | (go_at_call 7; refine (awake_any _ (HG.out.keep hS.below)).mono ?_; rintro e w_ ⟨rfl, hb_⟩; replace hS := hS.ext hb_; clear hb_) | (go_at_call 10; refine (extract_any A0 A1 n0 c0 n1 c1 salt mat _ HN0.out (hS.rdp HR0.out) HN1.out (hS.rdp HR1.out) (by omega) (by omega) (HG.out.keep hS.below)).mono ?_; rintro e w_ ⟨rfl, hb_⟩; replace hS := hS.ext hb_; clear hb_) | ((with_reducible show wpList _ _ _ (⟨some 7, Op.alloc _, _, _, _, _⟩ :: _) _ _); go_loud (refine S_alloc (z := .agg (List.replicate 64 (.int .u8 0)).toArray) (L := (List.replicate 64 (.int .u8 0))) hS rfl rfl ?_ ?_ ?_; (show _ = _; kernel_rfl); (show _ = _; kernel_rfl); clear hS; intro b7 w_ hS)) | ((with_reducible show wpList _ _ _ (⟨_, Op.store _ _ _, _, _, _, _⟩ :: _) _ _); go_loud (apply S_stAll hS; rfl; rfl; rfl; rfl; (focus ((repeat (first | exact .here | apply At.there)); done)); (first | assumption | (rw [List.length_map, HL.out]; rfl) | (focus (simp [bV, wV, Value.oneCell']; done)) | (focus (simp [bV, Value.oneCell']; done))); (first | rfl | (rw [List.length_map, HL.out]; rfl)); (first | rfl | (rw [List.length_map, HL.out]; rfl)); clear hS; intro w_ hS)))
  refine E_start (hR := Ext.pre) #[false, false, false, false, false, false] (by kernel_rfl) rfl rfl (fun w_k3 hx_k3 he_k3 => ?_)
  clear he_k3
  replace hS := hS.ext hx_k3; clear hx_k3
  refine E_take (hR := Ext.pre) (i := 0) (N := (some 34)) (v := ?vk3_0) (a' := ?ak3_0) #[true, false, false, false, false, false] rfl rfl (by kernel_rfl) (fun _ _ _ h => h) (by rfl) ?hyk3_0 ?hak3_0 ?_
  case hyk3_0 =>
    intro w' hx
    (first | (apply Eq.trans; (apply R_slice; rfl; rfl; (first | exact SB.no | exact SB.so); (first | exact SB.no | exact SB.so); rfl; rfl; (first | assumption | omega); (first | assumption | omega)); with_reducible rfl) | (go_simp; with_reducible rfl))
  case hak3_0 => (simp only [Act.put, List.setIfInBounds_toArray, List.set_cons_zero, List.set_cons_succ]; rfl)
  refine E_take (hR := Ext.pre) (i := 1) (N := (some 35)) (v := ?vk3_1) (a' := ?ak3_1) #[true, true, false, false, false, false] rfl rfl (by kernel_rfl) (fun _ _ _ h => h) (by rfl) ?hyk3_1 ?hak3_1 ?_
  case hyk3_1 =>
    intro w' hx
    (apply Eq.trans; (apply R_strc Tryd.underlying22 Tryd.underlying5 Tryd.underlying9 ((hS.ext hx).blkRd (b := b7) (by focus ((repeat (first | exact .here | apply At.there)); done)) : RdB _ _ (extF salt mat)) HL.out; rfl; rfl); with_reducible rfl)
  case hak3_1 => (simp only [Act.put, List.setIfInBounds_toArray, List.set_cons_zero, List.set_cons_succ]; rfl)
  refine E_take (hR := Ext.pre) (i := 2) (N := (some 36)) (v := ?vk3_2) (a' := ?ak3_2) #[true, true, true, false, false, false] rfl rfl (by kernel_rfl) (fun _ _ _ h => h) (by rfl) ?hyk3_2 ?hak3_2 ?_
  case hyk3_2 =>
    intro w' hx
    go_simp
    with_reducible rfl
  case hak3_2 => (simp only [Act.put, List.setIfInBounds_toArray, List.set_cons_zero, List.set_cons_succ]; rfl)
  refine E_take (hR := Ext.pre) (i := 3) (N := (some 37)) (v := ?vk3_3) (a' := ?ak3_3) #[true, true, true, true, false, false] rfl rfl (by kernel_rfl) (fun _ _ _ h => h) (by rfl) ?hyk3_3 ?hak3_3 ?_
  case hyk3_3 =>
    intro w' hx
    go_simp
    with_reducible rfl
  case hak3_3 => (simp only [Act.put, List.setIfInBounds_toArray, List.set_cons_zero, List.set_cons_succ]; rfl)
  refine E_call (i := 4) (N := (some 38)) (args := ?gk3_4) #[true, true, true, true, true, false] rfl rfl (by kernel_rfl) (by rfl) Tryd.func11 (by kernel_rfl) rfl rfl ?hgk3_4 ?_
  case hgk3_4 => (simp only [List.map_toArray, List.map_cons, List.map_nil]; go_simp; with_reducible rfl)
  refine (refExtract_any A0 A1 n0 c0 n1 c1 salt mat _ HN0.out (hS.rdp HR0.out) hc0 HN1.out (hS.rdp HR1.out) (by omega) (by omega)).mono ?_
  rintro e w_ ⟨rfl, hb_⟩
  refine ⟨_, rfl, hb_, ?_⟩
  replace hS := hS.ext hb_
  clear hb_
  rintro _ rfl
  simp only [Act.put, List.setIfInBounds_toArray, List.set_cons_zero, List.set_cons_succ]
  refine E_take (hR := Ext.pre) (i := 5) (N := (some 39)) (v := ?vk3_5) (a' := ?ak3_5) #[true, true, true, true, true, true] rfl rfl (by kernel_rfl) (fun _ _ _ h => h) (by rfl) ?hyk3_5 ?hak3_5 ?_
  case hyk3_5 =>
    intro w' hx
    go_simp
    with_reducible rfl
  case hak3_5 => (simp only [Act.put, List.setIfInBounds_toArray, List.set_cons_zero, List.set_cons_succ]; rfl)
  refine E_done (by kernel_rfl) ?_
  go_upto_region 9 with (first | ((with_reducible show wpList _ _ _ (⟨some 43, Op.convert _ _ _, _, _, _, _⟩ :: _) _ _); go_loud (refine S_strc Tryd.underlying22 Tryd.underlying5 Tryd.underlying9 (hS.rdp HR0.out : RdB _ _ salt) HN0.out rfl rfl rfl ?_)) | (go_at_call 8; refine (expand_any A1 n1 c1 mat salt m _ HN1.out (hS.rdp HR1.out) (by omega) (by rw [HN0.out]; omega) (by omega) (HG.out.keep hS.below)).mono ?_; rintro e w5 ⟨Ao, rfl, hro, hb_⟩; have HRO := Lib.hid hro; have HB0 := Lib.hid (hS.ext hb_).below; have HR05 := Lib.hid ((hS.ext hb_).rdp HR0.out); have HR15 := Lib.hid ((hS.ext hb_).rdp HR1.out); clear hro hb_ hS; have hS := St.start w5))
  refine E_start (hR := Ext.pre) #[false, false, false, false, false, false, false, false, false, false, false, false] (by kernel_rfl) rfl rfl (fun w_x4 hx_x4 he_x4 => ?_)
  clear he_x4
  replace hS := hS.ext hx_x4; clear hx_x4
  refine E_take (hR := Ext.pre) (i := 0) (N := (some 61)) (v := ?vx4_0) (a' := ?ax4_0) #[true, false, false, false, false, false, false, false, false, false, false, false] rfl rfl (by kernel_rfl) (fun _ _ _ h => h) (by rfl) ?hyx4_0 ?hax4_0 ?_
  case hyx4_0 =>
    intro w' hx
    go_simp
    with_reducible rfl
  case hax4_0 => (simp only [Act.put, List.setIfInBounds_toArray, List.set_cons_zero, List.set_cons_succ]; rfl)
  refine E_take (hR := Ext.pre) (i := 1) (N := (some 62)) (v := ?vx4_1) (a' := ?ax4_1) #[true, true, false, false, false, false, false, false, false, false, false, false] rfl rfl (by kernel_rfl) (fun _ _ _ h => h) (by rfl) ?hyx4_1 ?hax4_1 ?_
  case hyx4_1 =>
    intro w' hx
    go_simp
    with_reducible rfl
  case hax4_1 => (simp only [Act.put, List.setIfInBounds_toArray, List.set_cons_zero, List.set_cons_succ]; rfl)
  refine E_take (hR := Ext.pre) (i := 2) (N := (some 63)) (v := ?vx4_2) (a' := ?ax4_2) #[true, true, true, false, false, false, false, false, false, false, false, false] rfl rfl (by kernel_rfl) (fun _ _ _ h => h) (by rfl) ?hyx4_2 ?hax4_2 ?_
  case hyx4_2 =>
    intro w' hx
    go_simp
    with_reducible rfl
  case hax4_2 => (simp only [Act.put, List.setIfInBounds_toArray, List.set_cons_zero, List.set_cons_succ]; rfl)
  refine E_take (hR := Ext.pre) (i := 3) (N := (some 64)) (v := ?vx4_3) (a' := ?ax4_3) #[true, true, true, true, false, false, false, false, false, false, false, false] rfl rfl (by kernel_rfl) (fun _ _ _ h => h) (by rfl) ?hyx4_3 ?hax4_3 ?_
  case hyx4_3 =>
    intro w' hx
    (apply Eq.trans; (apply R_strc Tryd.underlying22 Tryd.underlying5 Tryd.underlying9 ((hS.ext hx).rdp HRO.out : RdB _ _ (expF mat salt m)) HXL.out; rfl; rfl); with_reducible rfl)
  case hax4_3 => (simp only [Act.put, List.setIfInBounds_toArray, List.set_cons_zero, List.set_cons_succ]; rfl)
  refine E_take (hR := Ext.pre) (i := 4) (N := (some 65)) (v := ?vx4_4) (a' := ?ax4_4) #[true, true, true, true, true, false, false, false, false, false, false, false] rfl rfl (by kernel_rfl) (fun _ _ _ h => h) (by rfl) ?hyx4_4 ?hax4_4 ?_
  case hyx4_4 =>
    intro w' hx
    go_simp
    with_reducible rfl
  case hax4_4 => (simp only [Act.put, List.setIfInBounds_toArray, List.set_cons_zero, List.set_cons_succ]; rfl)
  refine E_take (hR := Ext.pre) (i := 5) (N := (some 66)) (v := ?vx4_5) (a' := ?ax4_5) #[true, true, true, true, true, true, false, false, false, false, false, false] rfl rfl (by kernel_rfl) (fun _ _ _ h => h) (by rfl) ?hyx4_5 ?hax4_5 ?_
  case hyx4_5 =>
    intro w' hx
    go_simp
    with_reducible rfl
  case hax4_5 => (simp only [Act.put, List.setIfInBounds_toArray, List.set_cons_zero, List.set_cons_succ]; rfl)
  refine E_take (hR := Ext.pre) (i := 6) (N := (some 67)) (v := ?vx4_6) (a' := ?ax4_6) #[true, true, true, true, true, true, true, false, false, false, false, false] rfl rfl (by kernel_rfl) (fun _ _ _ h => h) (by rfl) ?hyx4_6 ?hax4_6 ?_
  case hyx4_6 =>
    intro w' hx
    (apply Eq.trans; (apply R_strc Tryd.underlying22 Tryd.underlying5 Tryd.underlying9 ((hS.ext hx).rdp HR05.out : RdB _ _ salt) HN0.out; rfl; rfl); with_reducible rfl)
  case hax4_6 => (simp only [Act.put, List.setIfInBounds_toArray, List.set_cons_zero, List.set_cons_succ]; rfl)
  refine E_take (hR := Ext.pre) (i := 7) (N := (some 68)) (v := ?vx4_7) (a' := ?ax4_7) #[true, true, true, true, true, true, true, true, false, false, false, false] rfl rfl (by kernel_rfl) (fun _ _ _ h => h) (by rfl) ?hyx4_7 ?hax4_7 ?_
  case hyx4_7 =>
    intro w' hx
    go_simp
    with_reducible rfl
  case hax4_7 => (simp only [Act.put, List.setIfInBounds_toArray, List.set_cons_zero, List.set_cons_succ]; rfl)
  refine E_call (i := 8) (N := (some 69)) (args := ?gx4_8) #[true, true, true, true, true, true, true, true, true, false, false, false] rfl rfl (by kernel_rfl) (by rfl) Tryd.func12 (by kernel_rfl) rfl rfl ?hgx4_8 ?_
  case hgx4_8 => (simp only [List.map_toArray, List.map_cons, List.map_nil]; go_simp; with_reducible rfl)
  refine (refExpand_any A1 n1 c1 mat salt m _ HN1.out (hS.rdp HR15.out) hc1 (by omega) (by rw [HN0.out]; omega) (by omega)).mono ?_
  rintro e w_ ⟨rfl, hb_⟩
  refine ⟨_, rfl, hb_, ?_⟩
  replace hS := hS.ext hb_
  clear hb_
  rintro _ rfl
  simp only [Act.put, List.setIfInBounds_toArray, List.set_cons_zero, List.set_cons_succ]
  refine E_take (hR := Ext.pre) (i := 9) (N := (some 70)) (v := ?vx4_9) (a' := ?ax4_9) #[true, true, true, true, true, true, true, true, true, true, false, false] rfl rfl (by kernel_rfl) (fun _ _ _ h => h) (by rfl) ?hyx4_9 ?hax4_9 ?_
  case hyx4_9 =>
    intro w' hx
    go_simp
    with_reducible rfl
  case hax4_9 => (simp only [Act.put, List.setIfInBounds_toArray, List.set_cons_zero, List.set_cons_succ]; rfl)
  refine E_take (hR := Ext.pre) (i := 10) (N := (some 71)) (v := ?vx4_10) (a' := ?ax4_10) #[true, true, true, true, true, true, true, true, true, true, true, false] rfl rfl (by kernel_rfl) (fun _ _ _ h => h) (by rfl) ?hyx4_10 ?hax4_10 ?_
  case hyx4_10 =>
    intro w' hx
    go_simp
    with_reducible rfl
  case hax4_10 => (simp only [Act.put, List.setIfInBounds_toArray, List.set_cons_zero, List.set_cons_succ]; rfl)
  refine E_take (hR := Ext.pre) (i := 11) (N := (some 6)) (v := ?vx4_11) (a' := ?ax4_11) #[true, true, true, true, true, true, true, true, true, true, true, true] rfl rfl (by kernel_rfl) (fun _ _ _ h => h) (by rfl) ?hyx4_11 ?hax4_11 ?_
  case hyx4_11 =>
    intro w' hx
    go_simp
    with_reducible rfl
  case hax4_11 => (simp only [Act.put, List.setIfInBounds_toArray, List.set_cons_zero, List.set_cons_succ]; rfl)
  refine E_done (by kernel_rfl) ?_
  go_wp2
  go_ret
  exact ⟨rfl, HB0.out.trans (hS.below.mono HB0.out.size)⟩
end Go.Proofs.YtfmfpckpldlahaaDoor
