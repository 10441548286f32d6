/- hmac: Tag, Right; awake. -/
import Derived.Test.YthgfkmjdibhifaaDoorHmR
import Derived.Test.YthgfkmjdibhifaaDoorLit
namespace Go.Proofs.YthgfkmjdibhifaaDoor
open Go.RowKit Go.Proofs.YthgfkmjdibhifaaDoor.Pure

def tagF (key text : List UInt8) : List UInt8 := (hmacF key text).take 32
theorem tagF_len (key text : List UInt8) : (tagF key text).length = 32 := by unfold tagF; rw [List.length_take, hmacF_len]; rfl
theorem tag_copy (key text : List UInt8) (z : Value) : splice (List.replicate 32 z) 0 ((tagF key text).map bV) = (tagF key text).map bV := splice_all _ _ (by rw [List.length_map, tagF_len, List.length_replicate])

set_option maxRecDepth 8000 in
set_option maxHeartbeats 1600000 in
theorem tag_any (A B : Option Addr) (n c m c' : Nat) (key : List UInt8) (vs : List Value) (bs : List (List UInt8)) (w : World) (hn : key.length = n) (hr : RdB w A key) (hm : bs.length = m) (hB : RdBB w B vs bs) (hk : n ≤ 1000000) (hb : bs.flatten.length ≤ 1000000) (hm2 : m ≤ 1000000) (hG : GK w) :
    Calls Tryd.prog 10 #[.slice A n c, .slice B m c'] w fun e w' => e = .returned (.agg ((tagF key bs.flatten).map bV).toArray) ∧ Below w.heap.size w w' := by
  have hS := St.start w
  have HR := Lib.hid hr
  have HB := Lib.hid hB
  have HG := Lib.hid hG
  have HX := Lib.hid hb
  clear hr hB hG hb
  have HL := Lib.hid (hmacF_len key bs.flatten)
  have HT := Lib.hid (tagF_len key bs.flatten)
  have HC := Lib.hid (tag_copy key bs.flatten (.int .u8 0))
  have HD := Lib.hid (show ((hmacF key bs.flatten).map bV).take 32 = (tagF key bs.flatten).map bV from (List.map_take ..).symm)
  go_enter Tryd.func10, Tryd.ntmps10
  go_upto_region 3 with (first | ((with_reducible show wpList _ _ _ (⟨some 4, Op.alloc _, _, _, _, _⟩ :: _) _ _); go_loud (refine S_alloc (z := .agg (List.replicate 32 (.int .u8 0)).toArray) (L := (List.replicate 32 (.int .u8 0))) hS rfl rfl ?_ ?_ ?_; (show _ = _; kernel_rfl); (show _ = _; kernel_rfl); clear hS; intro b4 w_ hS)) | ((with_reducible show wpList _ _ _ (⟨some 5, Op.alloc _, _, _, _, _⟩ :: _) _ _); go_loud (refine S_alloc (z := .agg (List.replicate 32 (.int .u8 0)).toArray) (L := (List.replicate 32 (.int .u8 0))) hS rfl rfl ?_ ?_ ?_; (show _ = _; kernel_rfl); (show _ = _; kernel_rfl); clear hS; intro b5 w_ hS)) | ((with_reducible show wpList _ _ _ (⟨some 6, Op.alloc _, _, _, _, _⟩ :: _) _ _); go_loud (refine S_alloc (z := .agg (List.replicate 64 (.int .u8 0)).toArray) (L := (List.replicate 64 (.int .u8 0))) hS rfl rfl ?_ ?_ ?_; (show _ = _; kernel_rfl); (show _ = _; kernel_rfl); clear hS; intro b6 w_ hS)) | (go_at_call 8; refine (hsum_any A B n c m c' key vs bs _ hn (hS.rdp HR.out) hm (HB.out.keep hS.below) hk HX.out hm2 (HG.out.keep hS.below)).mono ?_; rintro e w_ ⟨rfl, hb_⟩; replace hS := hS.ext hb_; clear hb_) | ((with_reducible show wpList _ _ _ (⟨_, Op.store _ _ _, _, _, _, _⟩ :: _) _ _); go_loud (apply S_stAll hS; rfl; rfl; rfl; rfl; (focus ((repeat (first | exact .here | apply At.there)); done)); (first | assumption | (rw [List.length_map, HL.out]; rfl) | (focus (simp [bV, wV, Value.oneCell']; done)) | (focus (simp [bV, Value.oneCell']; done))); (first | rfl | (rw [List.length_map, HL.out]; rfl)); (first | rfl | (rw [List.length_map, HL.out]; rfl)); clear hS; intro w_ hS)))
  obtain ⟨N_, hN_⟩ := hS.sz
  have h0N_ := hS.size
  rw [hN_] at h0N_
  refine E_start (hR := KeepS.pre (SN N_ [b5])) #[false, false, false] (by kernel_rfl) rfl rfl (fun w_r1 hx_r1 he_r1 => ?_)
  have hzE_ : w_r1.heap.size = N_ := by rw [he_r1]; exact hN_
  have hz : N_ ≤ w_r1.heap.size := Nat.le_of_eq hzE_.symm
  replace hS := hS.drew; rw [← he_r1] at hS
  clear hx_r1 he_r1
  clear hzE_ hN_
  refine E_take (hR := KeepS.pre (SN N_ [b5])) (i := 0) (N := (some 10)) (v := ?vr1_0) (a' := ?ar1_0) #[true, false, false] rfl rfl (by kernel_rfl) (fun _ _ _ h => h) (by rfl) ?hyr1_0 ?har1_0 ?_
  case hyr1_0 =>
    intro w' hx
    (first | (apply Eq.trans; (apply R_slice; rfl; rfl; (first | exact SB.no | exact SB.so | exact SB.lit (by decide)); (first | exact SB.no | exact SB.so | exact SB.lit (by decide)); rfl; rfl; (first | assumption | (focus (simp; done)) | (focus (simp; omega)) | omega); (first | assumption | (focus (simp; done)) | (focus (simp; omega)) | omega)); with_reducible rfl) | (go_simp; with_reducible rfl))
  case har1_0 => (simp only [Act.put, List.setIfInBounds_toArray, List.set_cons_zero, List.set_cons_succ]; rfl)
  refine E_take (hR := KeepS.pre (SN N_ [b5])) (i := 1) (N := (some 11)) (v := ?vr1_1) (a' := ?ar1_1) #[true, true, false] rfl rfl (by kernel_rfl) (fun _ _ _ h => h) (by rfl) ?hyr1_1 ?har1_1 ?_
  case hyr1_1 =>
    intro w' hx
    (first | (apply Eq.trans; (apply R_slice; rfl; rfl; (first | exact SB.no | exact SB.so | exact SB.lit (by decide)); (first | exact SB.no | exact SB.so | exact SB.lit (by decide)); rfl; rfl; (first | assumption | (focus (simp; done)) | (focus (simp; omega)) | omega); (first | assumption | (focus (simp; done)) | (focus (simp; omega)) | omega)); with_reducible rfl) | (go_simp; with_reducible rfl))
  case har1_1 => (simp only [Act.put, List.setIfInBounds_toArray, List.set_cons_zero, List.set_cons_succ]; rfl)
  refine E_split [2] (by kernel_rfl) (by simp) (fun i_ hi_ => ?_)
  simp only [List.mem_cons, List.not_mem_nil, or_false] at hi_
  rcases hi_ with rfl
  (apply K_copyN (i := 2) (T := (some 12)) hS hz #[true, true, true]; rfl; rfl; (show _ = _; kernel_rfl); rfl; rfl; rfl; rfl; rfl; (focus ((repeat (first | exact .here | apply At.there)); done)); (refine Or.inr ?_; focus (simp; done)); rfl; exact (show Rd _ _ ((tagF key bs.flatten).map bV) from by have := (hS.blkRd (b := b6) (by focus ((repeat (first | exact .here | apply At.there)); done))).take 32; rwa [HD.out] at this); (rw [List.length_map, HT.out]; rfl); (rw [List.length_map, HT.out, List.length_replicate]; decide); exact one_bV _; (rw [List.length_map, HT.out]; decide))
  clear hS hz
  intro w_ hS hz
  rintro _ rfl
  simp only [Act.put, List.setIfInBounds_toArray, List.set_cons_zero, List.set_cons_succ]
  refine E_done (by kernel_rfl) ?_
  rw [HC.out] at hS
  go_wp2_with (first | ((with_reducible show wpList _ _ _ (⟨some 13, Op.load _ _, _, _, _, _⟩ :: _) _ _); go_loud (apply S_ldAll hS; rfl; rfl; rfl; (focus ((repeat (first | exact .here | apply At.there)); done)); rfl; (first | rfl | (rw [List.length_map, HT.out]; rfl) | (simp only [List.length_map, List.length_set]; rfl)))) | ((with_reducible show wpList _ _ _ (⟨_, Op.store _ _ _, _, _, _, _⟩ :: _) _ _); go_loud (apply S_stAll hS; rfl; rfl; rfl; rfl; (focus ((repeat (first | exact .here | apply At.there)); done)); (first | assumption | (rw [List.length_map, HT.out]; rfl) | (focus (simp [bV, wV, Value.oneCell']; done)) | (focus (simp [bV, Value.oneCell']; done))); (first | rfl | (rw [List.length_map, HT.out]; rfl)); (first | rfl | (rw [List.length_map, HT.out]; rfl)); clear hS; intro w_ hS)))
  (try simp only [Exit.inBlock, Exit.then]); refine bodyPost_ret (results_cell_one hS rfl _ rfl (by focus ((repeat (first | exact .here | apply At.there)); done)) rfl (by rw [List.length_map, HT.out]; rfl)) rfl ⟨rfl, hS.below⟩

set_option maxRecDepth 8000 in
set_option maxHeartbeats 1600000 in
theorem hright_any (A B : Option Addr) (n c m c' : Nat) (key : List UInt8) (ts : List UInt8) (vs : List Value) (bs : List (List UInt8)) (w : World) (hn : key.length = n) (hr : RdB w A key) (ht : ts.length = 32) (hm : bs.length = m) (hB : RdBB w B vs bs) (hk : n ≤ 1000000) (hb : bs.flatten.length ≤ 1000000) (hm2 : m ≤ 1000000) (hG : GK w) :
    Calls Tryd.prog 13 #[.slice A n c, .agg (ts.map bV).toArray, .slice B m c'] w fun e w' => e = .returned (.bool (tagF key bs.flatten == ts)) ∧ Below w.heap.size w w' := by
  have hS := St.start w
  have HR := Lib.hid hr
  have HB := Lib.hid hB
  have HG := Lib.hid hG
  have HX := Lib.hid hb
  have HTS := Lib.hid ht
  clear hr hB hG hb ht
  have HT := Lib.hid (tagF_len key bs.flatten)
  go_enter Tryd.func13, Tryd.ntmps13
  go_upto_region 2 with (first | ((with_reducible show wpList _ _ _ (⟨some 4, Op.box _ _, _, _, _, _⟩ :: _) _ _); go_loud (apply S_box hS; rfl; rfl; (focus ((conv => lhs; whnf) <;> rfl)); rfl; clear hS; intro b4 w_ hS)) | ((with_reducible show wpList _ _ _ (⟨some 7, Op.alloc _, _, _, _, _⟩ :: _) _ _); go_loud (refine S_alloc (z := .agg (List.replicate 32 (.int .u8 0)).toArray) (L := (List.replicate 32 (.int .u8 0))) hS rfl rfl ?_ ?_ ?_; (show _ = _; kernel_rfl); (show _ = _; kernel_rfl); clear hS; intro b7 w_ hS)) | (go_at_call 10; refine (tag_any A B n c m c' key vs bs _ hn (hS.rdp HR.out) hm (HB.out.keep hS.below) hk HX.out hm2 (HG.out.keep hS.below)).mono ?_; rintro e w_ ⟨rfl, hb_⟩; replace hS := hS.ext hb_; clear hb_) | ((with_reducible show wpList _ _ _ (⟨_, Op.store _ _ _, _, _, _, _⟩ :: _) _ _); go_loud (apply S_stAll hS; rfl; rfl; rfl; rfl; (focus ((repeat (first | exact .here | apply At.there)); done)); (first | assumption | (rw [List.length_map, HT.out]; rfl) | (focus (simp [bV, wV, Value.oneCell']; done)) | (focus (simp [bV, Value.oneCell']; done))); (first | rfl | (rw [List.length_map, HT.out]; rfl)); (first | rfl | (rw [List.length_map, HT.out]; rfl)); clear hS; intro w_ hS)))
  refine E_start (hR := Ext.pre) #[false, false, false, false] (by kernel_rfl) rfl rfl (fun w_r2 hx_r2 he_r2 => ?_)
  clear he_r2
  replace hS := hS.ext hx_r2; clear hx_r2
  refine E_take (hR := Ext.pre) (i := 0) (N := (some 11)) (v := ?vr2_0) (a' := ?ar2_0) #[true, false, false, false] rfl rfl (by kernel_rfl) (fun _ _ _ h => h) (by rfl) ?hyr2_0 ?har2_0 ?_
  case hyr2_0 =>
    intro w' hx
    (first | (apply Eq.trans; (apply R_slice; rfl; rfl; (first | exact SB.no | exact SB.so); (first | exact SB.no | exact SB.so); rfl; rfl; (first | assumption | omega); (first | assumption | omega)); with_reducible rfl) | (go_simp; with_reducible rfl))
  case har2_0 => (simp only [Act.put, List.setIfInBounds_toArray, List.set_cons_zero, List.set_cons_succ]; rfl)
  refine E_take (hR := Ext.pre) (i := 1) (N := (some 12)) (v := ?vr2_1) (a' := ?ar2_1) #[true, true, false, false] rfl rfl (by kernel_rfl) (fun _ _ _ h => h) (by rfl) ?hyr2_1 ?har2_1 ?_
  case hyr2_1 =>
    intro w' hx
    (first | (apply Eq.trans; (apply R_slice; rfl; rfl; (first | exact SB.no | exact SB.so); (first | exact SB.no | exact SB.so); rfl; rfl; (first | assumption | omega); (first | assumption | omega)); with_reducible rfl) | (go_simp; with_reducible rfl))
  case har2_1 => (simp only [Act.put, List.setIfInBounds_toArray, List.set_cons_zero, List.set_cons_succ]; rfl)
  refine E_call (i := 2) (N := (some 13)) (args := ?gr2_2) #[true, true, true, false] rfl rfl (by kernel_rfl) (by rfl) Tryd.func20 (by kernel_rfl) rfl rfl ?hgr2_2 ?_
  case hgr2_2 => (simp only [List.map_toArray, List.map_cons, List.map_nil]; go_simp; with_reducible rfl)
  refine (same_any _ _ 32 32 _ _ (tagF key bs.flatten) ts _ HT.out HTS.out (hS.blkRd (by focus ((repeat (first | exact .here | apply At.there)); done))) (hS.blkRd (by focus ((repeat (first | exact .here | apply At.there)); done))) (by decide) (by decide)).mono ?_
  rintro e w_ ⟨rfl, rfl⟩
  refine ⟨_, rfl, Below.refl _ _, ?_⟩
  rintro _ rfl
  simp only [Act.put, List.setIfInBounds_toArray, List.set_cons_zero, List.set_cons_succ]
  refine E_take (hR := Ext.pre) (i := 3) (N := (some 6)) (v := ?vr2_3) (a' := ?ar2_3) #[true, true, true, true] rfl rfl (by kernel_rfl) (fun _ _ _ h => h) (by rfl) ?hyr2_3 ?har2_3 ?_
  case hyr2_3 =>
    intro w' hx
    go_simp
    with_reducible rfl
  case har2_3 => (simp only [Act.put, List.setIfInBounds_toArray, List.set_cons_zero, List.set_cons_succ]; rfl)
  refine E_done (by kernel_rfl) ?_
  go_wp2
  go_ret
  exact ⟨rfl, hS.below⟩

def jefe : List UInt8 := [74, 101, 102, 101]
def what : List UInt8 := [119, 104, 97, 116, 32, 100, 111, 32, 121, 97, 32, 119, 97, 110, 116, 32, 102, 111, 114, 32, 110, 111, 116, 104, 105, 110, 103, 63]
set_option maxRecDepth 100000 in
theorem jefe8 : hexF ((hmacF jefe what).take 8) = [49, 54, 52, 98, 55, 97, 55, 98, 102, 99, 102, 56, 49, 57, 101, 50] := by decide +kernel
set_option maxRecDepth 100000 in
set_option maxHeartbeats 1600000 in
theorem awake_any (w : World) (hG : GK w) : Calls Tryd.prog 7 #[] w fun e w' => e = .returned (.bool true) ∧ Below w.heap.size w w' := by
  have hS := St.start w
  have HG := Lib.hid hG
  clear hG
  have HE := Lib.hid jefe8
  have HL := Lib.hid (hmacF_len jefe what)
  have c4 : ((str [49, 54, 52, 98, 55, 97, 55, 98, 102, 99, 102, 56, 49, 57, 101, 50]).toList == [49, 54, 52, 98, 55, 97, 55, 98, 102, 99, 102, 56, 49, 57, 101, 50]) = true := by rw [str_toList]; rfl
  go_enter Tryd.func7, Tryd.ntmps7
  go_wp2_with (first | ((with_reducible show wpList _ _ _ (⟨some 2, Op.buildSlice _ _ _, _, _, _, _⟩ :: _) _ _); go_loud (apply S_lit hS; rfl; (go_simp; first | with_reducible rfl | (refine ⟨?_, ?_⟩ <;> with_reducible rfl)); rfl; rfl; rfl; rfl; rfl; rfl; rfl; clear hS; intro b2 w_ hS)) | ((with_reducible show wpList _ _ _ (⟨some 4, Op.buildSlice _ _ _, _, _, _, _⟩ :: _) _ _); go_loud (apply S_lit hS; rfl; (go_simp; first | with_reducible rfl | (refine ⟨?_, ?_⟩ <;> with_reducible rfl)); rfl; rfl; rfl; rfl; rfl; rfl; rfl; clear hS; intro b4 w_ hS)) | ((with_reducible show wpList _ _ _ (⟨some 6, Op.buildSlice _ _ _, _, _, _, _⟩ :: _) _ _); go_loud (apply S_bslice hS; rfl; (go_simp; first | with_reducible rfl | (refine ⟨?_, ?_⟩ <;> with_reducible rfl)); rfl; rfl; rfl; rfl; clear hS; intro b6 w_ hS)) | (go_at_call 8; refine (hsum_any _ _ 4 _ 1 _ jefe _ [what] _ rfl (hS.litRd (b := b2) (by focus ((repeat (first | exact .here | apply At.there)); done))) rfl (RdBB.of (hS.ownRd (by focus ((repeat (first | exact .here | apply At.there)); done))) (Slcs.cons (Slcs.nil _) (hS.litRd (b := b4) (by focus ((repeat (first | exact .here | apply At.there)); done))) rfl)) (by decide) (by decide) (by decide) (HG.out.keep hS.below)).mono ?_; rw [show [what].flatten = what from rfl]; generalize hmacF jefe what = s at *; rintro e w_ ⟨rfl, hb_⟩; replace hS := hS.ext hb_; clear hb_) | ((with_reducible show wpList _ _ _ (⟨some 1, Op.alloc _, _, _, _, _⟩ :: _) _ _); go_loud (refine S_alloc (z := .agg (List.replicate 64 (.int .u8 0)).toArray) (L := (List.replicate 64 (.int .u8 0))) hS rfl rfl ?_ ?_ ?_; (show _ = _; kernel_rfl); (show _ = _; kernel_rfl); clear hS; intro b1 w_ hS)) | ((with_reducible show wpList _ _ _ (⟨_, Op.store _ _ _, _, _, _, _⟩ :: _) _ _); go_loud (apply S_stAll hS; rfl; rfl; rfl; rfl; (focus ((repeat (first | exact .here | apply At.there)); done)); (first | assumption | (rw [List.length_map, HL.out]; rfl) | (focus (simp [bV, wV, Value.oneCell']; done)) | (focus (simp [bV, Value.oneCell']; done))); (first | rfl | (rw [List.length_map, HL.out]; rfl)); (first | rfl | (rw [List.length_map, HL.out]; rfl)); clear hS; intro w_ hS)) | (go_at_call 15; refine (refHex_any _ 8 _ (s.take 8) _ (by rw [List.length_take, HL.out]; rfl) (RdB.take (hS.blkRd (b := b1) (by focus ((repeat (first | exact .here | apply At.there)); done))) 8) (by decide)).mono ?_; rintro e w_ ⟨rfl, hb_⟩; replace hS := hS.ext hb_; clear hb_; rw [HE.out]))
  go_ret
  exact ⟨rfl, hS.below⟩
end Go.Proofs.YthgfkmjdibhifaaDoor
