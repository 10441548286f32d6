/- The walk of HmacRights. -/
import Derived.Test.YthgfkmjdibhifaaDoorHmL
import Derived.Test.YthgfkmjdibhifaaDoorArr
namespace Go.Proofs.YthgfkmjdibhifaaDoor
open Go.RowKit Go.Proofs.YthgfkmjdibhifaaDoor.Pure

set_option maxRecDepth 8000 in
set_option maxHeartbeats 1600000 in
theorem rights_walk (A0 A1 : Option Addr) (n0 c0 n1 c1 : Nat) (key text ts : List UInt8) (w : World) (hn0 : key.length = n0) (hn1 : text.length = n1) (hr0 : RdB w A0 key) (hr1 : RdB w A1 text) (hc0 : n0 ≤ c0) (hc1 : n1 ≤ c1) (hts : ts.length = 32) (hG : GK w) :
    Calls Tryd.prog 6 #[.slice A0 n0 c0, .slice A1 n1 c1, .agg (ts.map bV).toArray] w fun e w' => e = .returned (.bool true) ∧ Below w.heap.size w w' := by
  have hS := St.start w
  have HG := Lib.hid hG
  have HR0 := Lib.hid hr0
  have HR1 := Lib.hid hr1
  have HN0 := Lib.hid hn0
  have HN1 := Lib.hid hn1
  have HTS := Lib.hid hts
  clear hG hr0 hr1 hn0 hn1 hts
  have HT := Lib.hid (tagF_len key text)
  by_cases h2 : 300 < n0
  · go_enter Tryd.func6, Tryd.ntmps6
    go_wp2_with (first | ((with_reducible show wpList _ _ _ (⟨some 5, Op.box _ _, _, _, _, _⟩ :: _) _ _); go_loud (apply S_box hS; rfl; rfl; (focus ((conv => lhs; whnf) <;> rfl)); rfl; clear hS; intro b5 w_ hS)) | (go_at_call 7; refine (awake_any _ (HG.out.keep hS.below)).mono ?_; rintro e w_ ⟨rfl, hb_⟩; replace hS := hS.ext hb_; clear hb_))
    all_goals (go_ret; exact ⟨rfl, hS.below⟩)
  by_cases h3 : 300 < n1
  · go_enter Tryd.func6, Tryd.ntmps6
    go_wp2_with (first | ((with_reducible show wpList _ _ _ (⟨some 5, Op.box _ _, _, _, _, _⟩ :: _) _ _); go_loud (apply S_box hS; rfl; rfl; (focus ((conv => lhs; whnf) <;> rfl)); rfl; clear hS; intro b5 w_ hS)) | (go_at_call 7; refine (awake_any _ (HG.out.keep hS.below)).mono ?_; rintro e w_ ⟨rfl, hb_⟩; replace hS := hS.ext hb_; clear hb_))
    all_goals (go_ret; exact ⟨rfl, hS.below⟩)
  have i2 : ¬ (300 : Int) < (n0 : Int) := by omega
  have i3 : ¬ (300 : Int) < (n1 : Int) := by omega
  have HE := Lib.hid (show ((tagF key text == ts) == ((str ts).toList == (str (tagF key text)).toList)) = true from by
    rw [str_toList, str_toList, show (ts == tagF key text) = (tagF key text == ts) from BEq.comm]; exact beq_self_eq_true _)
  go_enter Tryd.func6, Tryd.ntmps6
  go_upto_region 4 with (first | ((with_reducible show wpList _ _ _ (⟨some 5, Op.box _ _, _, _, _, _⟩ :: _) _ _); go_loud (apply S_box hS; rfl; rfl; (focus ((conv => lhs; whnf) <;> rfl)); rfl; clear hS; intro b5 w_ hS)) | (go_at_call 7; refine (awake_any _ (HG.out.keep hS.below)).mono ?_; rintro e w_ ⟨rfl, hb_⟩; replace hS := hS.ext hb_; clear hb_) | ((with_reducible show wpList _ _ _ (⟨some 23, Op.buildSlice _ _ _, _, _, _, _⟩ :: _) _ _); go_loud (apply S_bslice hS; rfl; (go_simp; first | with_reducible rfl | (refine ⟨?_, ?_⟩ <;> with_reducible rfl)); rfl; rfl; rfl; rfl; clear hS; intro b23 w_ hS)) | ((with_reducible show wpList _ _ _ (⟨some 7, Op.alloc _, _, _, _, _⟩ :: _) _ _); go_loud (refine S_alloc (z := .agg (List.replicate 32 (.int .u8 0)).toArray) (L := (List.replicate 32 (.int .u8 0))) hS rfl rfl ?_ ?_ ?_; (show _ = _; kernel_rfl); (show _ = _; kernel_rfl); clear hS; intro b7 w_ hS)) | ((with_reducible show wpList _ _ _ (⟨_, Op.store _ _ _, _, _, _, _⟩ :: _) _ _); go_loud (apply S_stAll hS; rfl; rfl; rfl; rfl; (focus ((repeat (first | exact .here | apply At.there)); done)); (first | assumption | (rw [List.length_map, HT.out]; rfl) | (focus (simp [bV, wV, Value.oneCell']; done)) | (focus (simp [bV, Value.oneCell']; done))); (first | rfl | (rw [List.length_map, HT.out]; rfl)); (first | rfl | (rw [List.length_map, HT.out]; rfl)); clear hS; intro w_ hS)) | ((with_reducible show Calls _ 10 #[.slice A0 _ _, _] _ _); refine (tag_any A0 _ n0 c0 1 1 key _ [text] _ HN0.out (hS.rdp HR0.out) rfl (RdBB.one1 (hS.ownRd (by focus ((repeat (first | exact .here | apply At.there)); done))) (hS.rdp HR1.out) HN1.out) (by omega) (by rw [flat1, HN1.out]; omega) (by decide) (HG.out.keep hS.below)).mono ?_; rw [flat1]; rintro e w_ ⟨rfl, hb_⟩; replace hS := hS.ext hb_; clear hb_))
  refine E_start (hR := Ext.pre) #[false, false, false, false, false, false, false, false, false, false, false, false, false, false, false, false, false, false, false, false] (by kernel_rfl) rfl rfl (fun w_r1 hx_r1 he_r1 => ?_)
  clear he_r1
  replace hS := hS.ext hx_r1; clear hx_r1
  refine E_take (hR := Ext.pre) (i := 0) (N := (some 25)) (v := ?vr1_0) (a' := ?ar1_0) #[true, false, false, false, false, false, false, false, false, false, false, false, false, false, false, false, false, false, false, false] rfl rfl (by kernel_rfl) (fun _ _ _ h => h) (by rfl) ?hyr1_0 ?har1_0 ?_
  case hyr1_0 =>
    intro w' hx
    go_simp
    with_reducible rfl
  case har1_0 => (simp only [Act.put, List.setIfInBounds_toArray, List.set_cons_zero, List.set_cons_succ]; rfl)
  refine E_take (hR := Ext.pre) (i := 1) (N := (some 26)) (v := ?vr1_1) (a' := ?ar1_1) #[true, true, false, false, false, false, false, false, false, false, false, false, false, false, false, false, false, false, false, false] rfl rfl (by kernel_rfl) (fun _ _ _ h => h) (by rfl) ?hyr1_1 ?har1_1 ?_
  case hyr1_1 =>
    intro w' hx
    (apply Eq.trans; (apply R_ldPartQ (n := 32) (hS.ext hx); rfl; rfl; (focus ((repeat (first | exact .here | apply At.there)); done)); rfl; rfl; ((rw [List.length_map, HT.out]; decide)); exact (List.take_of_length_le (by rw [List.drop_zero, List.length_map, HT.out]; decide))); with_reducible rfl)
  case har1_1 => (simp only [Act.put, List.setIfInBounds_toArray, List.set_cons_zero, List.set_cons_succ]; rfl)
  refine E_take (hR := Ext.pre) (i := 2) (N := (some 27)) (v := ?vr1_2) (a' := ?ar1_2) #[true, true, true, false, false, false, false, false, false, false, false, false, false, false, false, false, false, false, false, false] rfl rfl (by kernel_rfl) (fun _ _ _ h => h) (by rfl) ?hyr1_2 ?har1_2 ?_
  case hyr1_2 =>
    intro w' hx
    go_simp
    with_reducible rfl
  case har1_2 => (simp only [Act.put, List.setIfInBounds_toArray, List.set_cons_zero, List.set_cons_succ]; rfl)
  apply E_new (i := 3) (N := (some 28)) hS (hR := Ext.alloc _) #[true, true, true, true, false, false, false, false, false, false, false, false, false, false, false, false, false, false, false, false]
  rfl
  rfl
  kernel_rfl
  rfl
  (go_simp; first | with_reducible rfl | (refine ⟨?_, ?_⟩ <;> with_reducible rfl))
  rfl
  rfl
  rfl
  clear hS
  intro b28 w_ hS
  rintro _ rfl
  simp only [Act.put, List.setIfInBounds_toArray, List.set_cons_zero, List.set_cons_succ]
  refine E_call (i := 4) (N := (some 29)) (args := ?gr1_4) #[true, true, true, true, true, false, false, false, false, false, false, false, false, false, false, false, false, false, false, false] rfl rfl (by kernel_rfl) (by rfl) Tryd.func13 (by kernel_rfl) rfl rfl ?hgr1_4 ?_
  case hgr1_4 => (simp only [List.map_toArray, List.map_cons, List.map_nil]; go_simp; with_reducible rfl)
  refine (hright_any A0 _ n0 c0 1 1 key (tagF key text) _ [text] _ HN0.out (hS.rdp HR0.out) HT.out rfl (RdBB.one1 (hS.ownRd (A := some ⟨b28, 0, none⟩) (by focus ((repeat (first | exact .here | apply At.there)); done))) (hS.rdp HR1.out) HN1.out) (by omega) (by rw [flat1, HN1.out]; omega) (by decide) (HG.out.keep hS.below)).mono ?_
  rw [flat1, beq_self_eq_true]
  rintro e w_ ⟨rfl, hb_⟩
  refine ⟨_, rfl, hb_, ?_⟩
  replace hS := hS.ext hb_
  clear hb_
  rintro _ rfl
  simp only [Act.put, List.setIfInBounds_toArray, List.set_cons_zero, List.set_cons_succ]
  refine E_take (hR := Ext.pre) (i := 5) (N := (some 30)) (v := ?vr1_5) (a' := ?ar1_5) #[true, true, true, true, true, true, false, false, false, false, false, false, false, false, false, false, false, false, false, false] rfl rfl (by kernel_rfl) (fun _ _ _ h => h) (by rfl) ?hyr1_5 ?har1_5 ?_
  case hyr1_5 =>
    intro w' hx
    go_simp
    with_reducible rfl
  case har1_5 => (simp only [Act.put, List.setIfInBounds_toArray, List.set_cons_zero, List.set_cons_succ]; rfl)
  refine E_take (hR := Ext.pre) (i := 6) (N := (some 31)) (v := ?vr1_6) (a' := ?ar1_6) #[true, true, true, true, true, true, true, false, false, false, false, false, false, false, false, false, false, false, false, false] rfl rfl (by kernel_rfl) (fun _ _ _ h => h) (by rfl) ?hyr1_6 ?har1_6 ?_
  case hyr1_6 =>
    intro w' hx
    go_simp
    with_reducible rfl
  case har1_6 => (simp only [Act.put, List.setIfInBounds_toArray, List.set_cons_zero, List.set_cons_succ]; rfl)
  refine E_take (hR := Ext.pre) (i := 7) (N := (some 32)) (v := ?vr1_7) (a' := ?ar1_7) #[true, true, true, true, true, true, true, true, false, false, false, false, false, false, false, false, false, false, false, false] rfl rfl (by kernel_rfl) (fun _ _ _ h => h) (by rfl) ?hyr1_7 ?har1_7 ?_
  case hyr1_7 =>
    intro w' hx
    (apply Eq.trans; (apply R_ldPartQ (n := 32) (hS.ext hx); rfl; rfl; (focus ((repeat (first | exact .here | apply At.there)); done)); rfl; rfl; ((rw [List.length_map, HTS.out]; decide)); exact (List.take_of_length_le (by rw [List.drop_zero, List.length_map, HTS.out]; decide))); with_reducible rfl)
  case har1_7 => (simp only [Act.put, List.setIfInBounds_toArray, List.set_cons_zero, List.set_cons_succ]; rfl)
  refine E_take (hR := Ext.pre) (i := 8) (N := (some 33)) (v := ?vr1_8) (a' := ?ar1_8) #[true, true, true, true, true, true, true, true, true, false, false, false, false, false, false, false, false, false, false, false] rfl rfl (by kernel_rfl) (fun _ _ _ h => h) (by rfl) ?hyr1_8 ?har1_8 ?_
  case hyr1_8 =>
    intro w' hx
    go_simp
    with_reducible rfl
  case har1_8 => (simp only [Act.put, List.setIfInBounds_toArray, List.set_cons_zero, List.set_cons_succ]; rfl)
  refine E_take (hR := Ext.pre) (i := 11) (N := (some 36)) (v := ?vr1_11) (a' := ?ar1_11) #[true, true, true, true, true, true, true, true, true, false, false, true, false, false, false, false, false, false, false, false] rfl rfl (by kernel_rfl) (fun _ _ _ h => h) (by rfl) ?hyr1_11 ?har1_11 ?_
  case hyr1_11 =>
    intro w' hx
    (first | (apply Eq.trans; (apply R_slice; rfl; rfl; (first | exact SB.no | exact SB.so); (first | exact SB.no | exact SB.so); rfl; rfl; (first | assumption | omega); (first | assumption | omega)); with_reducible rfl) | (go_simp; with_reducible rfl))
  case har1_11 => (simp only [Act.put, List.setIfInBounds_toArray, List.set_cons_zero, List.set_cons_succ]; rfl)
  refine E_take (hR := Ext.pre) (i := 12) (N := (some 37)) (v := ?vr1_12) (a' := ?ar1_12) #[true, true, true, true, true, true, true, true, true, false, false, true, true, false, false, false, false, false, false, false] rfl rfl (by kernel_rfl) (fun _ _ _ h => h) (by rfl) ?hyr1_12 ?har1_12 ?_
  case hyr1_12 =>
    intro w' hx
    (apply Eq.trans; (apply R_strc Tryd.underlying22 Tryd.underlying5 Tryd.underlying9 ((hS.ext hx).blkRd (b := b5) (by focus ((repeat (first | exact .here | apply At.there)); done)) : RdB _ _ ts) HTS.out; rfl; rfl); with_reducible rfl)
  case har1_12 => (simp only [Act.put, List.setIfInBounds_toArray, List.set_cons_zero, List.set_cons_succ]; rfl)
  refine E_take (hR := Ext.pre) (i := 13) (N := (some 38)) (v := ?vr1_13) (a' := ?ar1_13) #[true, true, true, true, true, true, true, true, true, false, false, true, true, true, false, false, false, false, false, false] rfl rfl (by kernel_rfl) (fun _ _ _ h => h) (by rfl) ?hyr1_13 ?har1_13 ?_
  case hyr1_13 =>
    intro w' hx
    go_simp
    with_reducible rfl
  case har1_13 => (simp only [Act.put, List.setIfInBounds_toArray, List.set_cons_zero, List.set_cons_succ]; rfl)
  refine E_take (hR := Ext.pre) (i := 14) (N := (some 39)) (v := ?vr1_14) (a' := ?ar1_14) #[true, true, true, true, true, true, true, true, true, false, false, true, true, true, true, false, false, false, false, false] rfl rfl (by kernel_rfl) (fun _ _ _ h => h) (by rfl) ?hyr1_14 ?har1_14 ?_
  case hyr1_14 =>
    intro w' hx
    go_simp
    with_reducible rfl
  case har1_14 => (simp only [Act.put, List.setIfInBounds_toArray, List.set_cons_zero, List.set_cons_succ]; rfl)
  apply E_new (i := 9) (N := (some 34)) hS (hR := Ext.alloc _) #[true, true, true, true, true, true, true, true, true, true, false, true, true, true, true, false, false, false, false, false]
  rfl
  rfl
  kernel_rfl
  rfl
  (go_simp; first | with_reducible rfl | (refine ⟨?_, ?_⟩ <;> with_reducible rfl))
  rfl
  rfl
  rfl
  clear hS
  intro b34 w_ hS
  rintro _ rfl
  simp only [Act.put, List.setIfInBounds_toArray, List.set_cons_zero, List.set_cons_succ]
  refine E_call (i := 10) (N := (some 35)) (args := ?gr1_10) #[true, true, true, true, true, true, true, true, true, true, true, true, true, true, true, false, false, false, false, false] rfl rfl (by kernel_rfl) (by rfl) Tryd.func13 (by kernel_rfl) rfl rfl ?hgr1_10 ?_
  case hgr1_10 => (simp only [List.map_toArray, List.map_cons, List.map_nil]; go_simp; with_reducible rfl)
  refine (hright_any A0 _ n0 c0 1 1 key ts _ [text] _ HN0.out (hS.rdp HR0.out) HTS.out rfl (RdBB.one1 (hS.ownRd (A := some ⟨b34, 0, none⟩) (by focus ((repeat (first | exact .here | apply At.there)); done))) (hS.rdp HR1.out) HN1.out) (by omega) (by rw [flat1, HN1.out]; omega) (by decide) (HG.out.keep hS.below)).mono ?_
  rw [flat1]
  rintro e w_ ⟨rfl, hb_⟩
  refine ⟨_, rfl, hb_, ?_⟩
  replace hS := hS.ext hb_
  clear hb_
  rintro _ rfl
  simp only [Act.put, List.setIfInBounds_toArray, List.set_cons_zero, List.set_cons_succ]
  refine E_call (i := 15) (N := (some 40)) (args := ?gr1_15) #[true, true, true, true, true, true, true, true, true, true, true, true, true, true, true, true, false, false, false, false] rfl rfl (by kernel_rfl) (by rfl) Tryd.func14 (by kernel_rfl) rfl rfl ?hgr1_15 ?_
  case hgr1_15 => (simp only [List.map_toArray, List.map_cons, List.map_nil]; go_simp; with_reducible rfl)
  refine (refTag_any A0 A1 n0 c0 n1 c1 key text _ HN0.out (hS.rdp HR0.out) hc0 HN1.out (hS.rdp HR1.out) (by omega) (by omega)).mono ?_
  rintro e w_ ⟨rfl, hb_⟩
  refine ⟨_, rfl, hb_, ?_⟩
  replace hS := hS.ext hb_
  clear hb_
  rw [show (hmacF key text).take 32 = tagF key text from rfl]
  rintro _ rfl
  simp only [Act.put, List.setIfInBounds_toArray, List.set_cons_zero, List.set_cons_succ]
  refine E_take (hR := Ext.pre) (i := 16) (N := (some 41)) (v := ?vr1_16) (a' := ?ar1_16) #[true, true, true, true, true, true, true, true, true, true, true, true, true, true, true, true, true, false, false, false] rfl rfl (by kernel_rfl) (fun _ _ _ h => h) (by rfl) ?hyr1_16 ?har1_16 ?_
  case hyr1_16 =>
    intro w' hx
    go_simp
    with_reducible rfl
  case har1_16 => (simp only [Act.put, List.setIfInBounds_toArray, List.set_cons_zero, List.set_cons_succ]; rfl)
  refine E_take (hR := Ext.pre) (i := 17) (N := (some 42)) (v := ?vr1_17) (a' := ?ar1_17) #[true, true, true, true, true, true, true, true, true, true, true, true, true, true, true, true, true, true, false, false] rfl rfl (by kernel_rfl) (fun _ _ _ h => h) (by rfl) ?hyr1_17 ?har1_17 ?_
  case hyr1_17 =>
    intro w' hx
    go_simp
    with_reducible rfl
  case har1_17 => (simp only [Act.put, List.setIfInBounds_toArray, List.set_cons_zero, List.set_cons_succ]; rfl)
  refine E_take (hR := Ext.pre) (i := 18) (N := (some 43)) (v := ?vr1_18) (a' := ?ar1_18) #[true, true, true, true, true, true, true, true, true, true, true, true, true, true, true, true, true, true, true, false] rfl rfl (by kernel_rfl) (fun _ _ _ h => h) (by rfl) ?hyr1_18 ?har1_18 ?_
  case hyr1_18 =>
    intro w' hx
    go_simp
    with_reducible rfl
  case har1_18 => (simp only [Act.put, List.setIfInBounds_toArray, List.set_cons_zero, List.set_cons_succ]; rfl)
  refine E_take (hR := Ext.pre) (i := 19) (N := (some 6)) (v := ?vr1_19) (a' := ?ar1_19) #[true, true, true, true, true, true, true, true, true, true, true, true, true, true, true, true, true, true, true, true] rfl rfl (by kernel_rfl) (fun _ _ _ h => h) (by rfl) ?hyr1_19 ?har1_19 ?_
  case hyr1_19 =>
    intro w' hx
    go_simp
    with_reducible rfl
  case har1_19 => (simp only [Act.put, List.setIfInBounds_toArray, List.set_cons_zero, List.set_cons_succ]; rfl)
  refine E_done (by kernel_rfl) ?_
  go_wp2
  go_ret
  exact ⟨congrArg (fun b => Ending.returned (Value.bool b)) HE.out, hS.below⟩
theorem rights_row (A0 A1 : Option Addr) (n0 c0 n1 c1 : Nat) (key text : List UInt8) (w : World) (hn0 : key.length = n0) (hn1 : text.length = n1) (hr0 : RdB w A0 key) (hr1 : RdB w A1 text) (hc0 : n0 ≤ c0) (hc1 : n1 ≤ c1) (z : List Int) (hz : z.length = 32) (wz : ∀ y ∈ z, (Lit.int .u8 y).wf = true) (hG : GK w) :
    Calls Tryd.prog 6 #[.slice A0 n0 c0, .slice A1 n1 c1, .agg (z.map (Value.int .u8)).toArray] w fun e w' => e = .returned (.bool true) ∧ Below w.heap.size w w' := by
  obtain ⟨ts, h1, h2⟩ := ints_u8 z wz
  rw [h2]
  exact rights_walk A0 A1 n0 c0 n1 c1 key text ts w hn0 hn1 hr0 hr1 hc0 hc1 (h1.trans hz) hG
end Go.Proofs.YthgfkmjdibhifaaDoor
