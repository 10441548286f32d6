/- The walk of AesBack. -/
import Derived.Test.YtaacnbponodagaaAesL
import Derived.Test.YtaacnbponodagaaAesG
import Derived.Test.YtaacnbponodagaaAesB
namespace Go.Proofs.Ytaacnbponodagaa
open Go.RowKit

set_option maxRecDepth 8000 in
set_option maxHeartbeats 1600000 in
theorem back_walk (key b : List UInt8) (w : World) (hk : key.length = 32) (hb : b.length = 16) :
    Calls Try.prog 5 #[.agg (key.map bV).toArray, .agg (b.map bV).toArray] w fun e w' => e = .returned (.bool true) ∧ Below w.heap.size w w' := by
  have hS := St.start w
  have HK := Lib.hid hk
  have HB := Lib.hid hb
  have hlb := Lib.hid (show (b.map bV).length = 16 by rw [List.length_map]; exact hb)
  have HKL := Lib.hid (keysF_len hk)
  clear hk hb
  generalize hKK : keysF key = K at *
  have HKK := Lib.hid (show True → keysF key = K from fun _ => hKK)
  clear hKK
  have HX := Lib.hid (decF_len HKL.out HB.out)
  have hlx := Lib.hid (show ((decF K b).map bV).length = 16 by rw [List.length_map]; exact HX.out)
  have HD := Lib.hid (show True → encF K (decF K b) = b from fun _ => enc_dec HKL.out HB.out)
  have f2 := fun wx => eq16s HB.out wx
  generalize hxx : decF K b = x at *
  have HXX := Lib.hid (show True → decF K b = x from fun _ => hxx)
  clear hxx
  go_enter Try.func5, Try.ntmps5
  go_upto_region 7 with (first | ((with_reducible show wpList _ _ _ (⟨some 2, Op.box _ _, _, _, _, _⟩ :: _) _ _); go_loud (apply S_box hS; rfl; rfl; (focus ((conv => lhs; whnf) <;> rfl)); rfl; clear hS; intro b2 w_ hS)) | ((with_reducible show wpList _ _ _ (⟨some 3, Op.box _ _, _, _, _, _⟩ :: _) _ _); go_loud (apply S_box hS; rfl; rfl; (focus ((conv => lhs; whnf) <;> rfl)); rfl; clear hS; intro b3 w_ hS)) | (go_at_call 7; refine (awake_any _).mono ?_; rintro e w_ ⟨rfl, hb_⟩; replace hS := hS.ext hb_; clear hb_) | (go_at_call 8; refine (new_any (some ⟨b2, 0, none⟩) 32 key _ HK.out (hS.blkRd (b := b2) (by focus ((repeat (first | exact .here | apply At.there)); done))) (by decide)).mono ?_; rintro e w_ ⟨bX, rfl, hge_, hB_, hb_⟩; rw [HKK.out trivial] at hB_; replace hS := hS.gotBlk hb_ hge_ hB_; clear hb_ hge_ hB_) | ((with_reducible show wpList _ _ _ (⟨some 18, Op.load _ _, _, _, _, _⟩ :: _) _ _); go_loud (apply S_ldAll hS; rfl; rfl; rfl; (focus ((repeat (first | exact .here | apply At.there)); done)); rfl; (first | rfl | (rw [hlb.out]; rfl) | (simp only [List.length_map, List.length_set]; rfl)))) | ((with_reducible show Calls _ 12 #[_, _] _ _); refine (decrypt_any _ K b _ (hS.blkRd (by focus ((repeat (first | exact .here | apply At.there)); done))) (hS.blkLt (by focus ((repeat (first | exact .here | apply At.there)); done))) HB.out HKL.out).mono ?_; rw [HXX.out trivial]; rintro e w_ ⟨rfl, hb_⟩; replace hS := hS.ext hb_; clear hb_) | ((with_reducible show wpList _ _ _ (⟨some 7, Op.alloc _, _, _, _, _⟩ :: _) _ _); go_loud (refine S_alloc (z := .agg ([.int .u8 0, .int .u8 0, .int .u8 0, .int .u8 0, .int .u8 0, .int .u8 0, .int .u8 0, .int .u8 0, .int .u8 0, .int .u8 0, .int .u8 0, .int .u8 0, .int .u8 0, .int .u8 0, .int .u8 0, .int .u8 0] : List Value).toArray) (L := [.int .u8 0, .int .u8 0, .int .u8 0, .int .u8 0, .int .u8 0, .int .u8 0, .int .u8 0, .int .u8 0, .int .u8 0, .int .u8 0, .int .u8 0, .int .u8 0, .int .u8 0, .int .u8 0, .int .u8 0, .int .u8 0]) hS rfl rfl ?_ ?_ ?_; (show _ = _; kernel_rfl); (show _ = _; kernel_rfl); clear hS; intro b7 w_ hS)) | ((with_reducible show wpList _ _ _ (⟨_, Op.store _ _ _, _, _, _, _⟩ :: _) _ _); go_loud (apply S_stAll hS; rfl; rfl; rfl; rfl; (focus ((repeat (first | exact .here | apply At.there)); done)); (first | assumption | (rw [hlx.out]; rfl) | (focus (simp [bV, wV, Value.oneCell']; done)) | (focus (simp [bV, Value.oneCell']; done))); (first | rfl | (rw [hlx.out]; rfl)); (first | rfl | (rw [hlx.out]; rfl)); clear hS; intro w_ hS)))
  refine E_start (hR := Ext.pre) #[false, false, false, false, false, false, false, false, false, false, false, false, false, false] (by kernel_rfl) rfl rfl (fun w_r1 hx_r1 he_r1 => ?_)
  clear he_r1
  replace hS := hS.ext hx_r1; clear hx_r1
  refine E_take (hR := Ext.pre) (i := 0) (N := (some 20)) (v := ?vr1_0) (a' := ?ar1_0) #[true, false, false, false, false, false, false, false, false, false, false, false, false, false] rfl rfl (by kernel_rfl) (fun _ _ _ h => h) (by rfl) ?hyr1_0 ?har1_0 ?_
  case hyr1_0 =>
    intro w' hx
    go_simp
    with_reducible rfl
  case har1_0 => (simp only [Act.put, List.setIfInBounds_toArray, List.set_cons_zero, List.set_cons_succ]; rfl)
  refine E_take (hR := Ext.pre) (i := 1) (N := (some 21)) (v := ?vr1_1) (a' := ?ar1_1) #[true, true, false, false, false, false, false, false, false, false, false, false, false, false] rfl rfl (by kernel_rfl) (fun _ _ _ h => h) (by rfl) ?hyr1_1 ?har1_1 ?_
  case hyr1_1 =>
    intro w' hx
    (apply Eq.trans; (apply R_ldPartQ (n := 16) (hS.ext hx); rfl; rfl; (focus ((repeat (first | exact .here | apply At.there)); done)); rfl; rfl; ((rw [hlx.out]; decide)); exact (List.take_of_length_le (by rw [List.drop_zero, hlx.out]; decide))); with_reducible rfl)
  case har1_1 => (simp only [Act.put, List.setIfInBounds_toArray, List.set_cons_zero, List.set_cons_succ]; rfl)
  refine E_take (hR := Ext.pre) (i := 3) (N := (some 23)) (v := ?vr1_3) (a' := ?ar1_3) #[true, true, false, true, false, false, false, false, false, false, false, false, false, false] rfl rfl (by kernel_rfl) (fun _ _ _ h => h) (by rfl) ?hyr1_3 ?har1_3 ?_
  case hyr1_3 =>
    intro w' hx
    (apply Eq.trans; (apply R_ldPartQ (n := 16) (hS.ext hx); rfl; rfl; (focus ((repeat (first | exact .here | apply At.there)); done)); rfl; rfl; ((rw [hlb.out]; decide)); exact (List.take_of_length_le (by rw [List.drop_zero, hlb.out]; decide))); with_reducible rfl)
  case har1_3 => (simp only [Act.put, List.setIfInBounds_toArray, List.set_cons_zero, List.set_cons_succ]; rfl)
  refine E_call (i := 2) (N := (some 22)) (args := ?gr1_2) #[true, true, true, true, false, false, false, false, false, false, false, false, false, false] rfl rfl (by kernel_rfl) (by rfl) Try.func9 (by kernel_rfl) rfl rfl ?hgr1_2 ?_
  case hgr1_2 => (simp only [List.map_toArray, List.map_cons, List.map_nil]; go_simp; with_reducible rfl)
  refine (encrypt_any _ K x _ (hS.blkRd (by focus ((repeat (first | exact .here | apply At.there)); done))) (hS.blkLt (by focus ((repeat (first | exact .here | apply At.there)); done))) HX.out HKL.out).mono ?_
  rw [HD.out trivial]
  rintro e w_ ⟨rfl, hb_⟩
  refine ⟨_, rfl, hb_, ?_⟩
  replace hS := hS.ext hb_
  clear hb_
  rintro _ rfl
  simp only [Act.put, List.setIfInBounds_toArray, List.set_cons_zero, List.set_cons_succ]
  refine E_take (hR := Ext.pre) (i := 4) (N := (some 24)) (v := ?vr1_4) (a' := ?ar1_4) #[true, true, true, true, true, false, false, false, false, false, false, false, false, false] rfl rfl (by kernel_rfl) (fun _ _ _ h => h) (by rfl) ?hyr1_4 ?har1_4 ?_
  case hyr1_4 =>
    intro w' hx
    go_simp
    with_reducible rfl
  case har1_4 => (simp only [Act.put, List.setIfInBounds_toArray, List.set_cons_zero, List.set_cons_succ]; rfl)
  refine E_take (hR := Ext.pre) (i := 5) (N := (some 25)) (v := ?vr1_5) (a' := ?ar1_5) #[true, true, true, true, true, true, false, false, false, false, false, false, false, false] rfl rfl (by kernel_rfl) (fun _ _ _ h => h) (by rfl) ?hyr1_5 ?har1_5 ?_
  case hyr1_5 =>
    intro w' hx
    go_simp
    with_reducible rfl
  case har1_5 => (simp only [Act.put, List.setIfInBounds_toArray, List.set_cons_zero, List.set_cons_succ]; rfl)
  refine E_take (hR := Ext.pre) (i := 6) (N := (some 26)) (v := ?vr1_6) (a' := ?ar1_6) #[true, true, true, true, true, true, true, false, false, false, false, false, false, false] rfl rfl (by kernel_rfl) (fun _ _ _ h => h) (by rfl) ?hyr1_6 ?har1_6 ?_
  case hyr1_6 =>
    intro w' hx
    (first | (apply Eq.trans; (apply R_slice; rfl; rfl; (first | exact SB.no | exact SB.so); (first | exact SB.no | exact SB.so); rfl; rfl; (first | assumption | omega); (first | assumption | omega)); with_reducible rfl) | (go_simp; with_reducible rfl))
  case har1_6 => (simp only [Act.put, List.setIfInBounds_toArray, List.set_cons_zero, List.set_cons_succ]; rfl)
  refine E_take (hR := Ext.pre) (i := 8) (N := (some 28)) (v := ?vr1_8) (a' := ?ar1_8) #[true, true, true, true, true, true, true, false, true, false, false, false, false, false] rfl rfl (by kernel_rfl) (fun _ _ _ h => h) (by rfl) ?hyr1_8 ?har1_8 ?_
  case hyr1_8 =>
    intro w' hx
    (apply Eq.trans; (apply R_ldPartQ (n := 16) (hS.ext hx); rfl; rfl; (focus ((repeat (first | exact .here | apply At.there)); done)); rfl; rfl; ((rw [hlx.out]; decide)); exact (List.take_of_length_le (by rw [List.drop_zero, hlx.out]; decide))); with_reducible rfl)
  case har1_8 => (simp only [Act.put, List.setIfInBounds_toArray, List.set_cons_zero, List.set_cons_succ]; rfl)
  refine E_take (hR := Ext.pre) (i := 10) (N := (some 30)) (v := ?vr1_10) (a' := ?ar1_10) #[true, true, true, true, true, true, true, false, true, false, true, false, false, false] rfl rfl (by kernel_rfl) (fun _ _ _ h => h) (by rfl) ?hyr1_10 ?har1_10 ?_
  case hyr1_10 =>
    intro w' hx
    (apply Eq.trans; (apply R_ldPartQ (n := 16) (hS.ext hx); rfl; rfl; (focus ((repeat (first | exact .here | apply At.there)); done)); rfl; rfl; ((rw [hlb.out]; decide)); exact (List.take_of_length_le (by rw [List.drop_zero, hlb.out]; decide))); with_reducible rfl)
  case har1_10 => (simp only [Act.put, List.setIfInBounds_toArray, List.set_cons_zero, List.set_cons_succ]; rfl)
  refine E_call (i := 7) (N := (some 27)) (args := ?gr1_7) #[true, true, true, true, true, true, true, true, true, false, true, false, false, false] rfl rfl (by kernel_rfl) (by rfl) Try.func11 (by kernel_rfl) rfl rfl ?hgr1_7 ?_
  case hgr1_7 => (simp only [List.map_toArray, List.map_cons, List.map_nil]; go_simp; with_reducible rfl)
  refine (refKeys_any (some ⟨b2, 0, none⟩) 32 key _ HK.out (hS.blkRd (b := b2) (by focus ((repeat (first | exact .here | apply At.there)); done))) (by decide)).mono ?_
  rintro e w_ ⟨g, cap, rfl, ho_, hb_⟩
  rw [HKK.out trivial] at ho_
  refine ⟨_, rfl, hb_, ?_⟩
  replace hS := hS.got hb_ ho_
  clear hb_ ho_
  rintro _ rfl
  simp only [Act.put, List.setIfInBounds_toArray, List.set_cons_zero, List.set_cons_succ]
  refine E_call (i := 9) (N := (some 29)) (args := ?gr1_9) #[true, true, true, true, true, true, true, true, true, true, true, false, false, false] rfl rfl (by kernel_rfl) (by rfl) Try.func10 (by kernel_rfl) rfl rfl ?hgr1_9 ?_
  case hgr1_9 => (simp only [List.map_toArray, List.map_cons, List.map_nil]; go_simp; with_reducible rfl)
  refine (refEnc_any _ _ K x _ HKL.out (hS.ownRd (A := some ⟨g, 0, none⟩) (by focus ((repeat (first | exact .here | apply At.there)); done))) HX.out).mono ?_
  rw [HD.out trivial]
  rintro e w_ ⟨rfl, hb_⟩
  refine ⟨_, rfl, hb_, ?_⟩
  replace hS := hS.ext hb_
  clear hb_
  rintro _ rfl
  simp only [Act.put, List.setIfInBounds_toArray, List.set_cons_zero, List.set_cons_succ]
  refine E_take (hR := Ext.pre) (i := 11) (N := (some 31)) (v := ?vr1_11) (a' := ?ar1_11) #[true, true, true, true, true, true, true, true, true, true, true, true, false, false] rfl rfl (by kernel_rfl) (fun _ _ _ h => h) (by rfl) ?hyr1_11 ?har1_11 ?_
  case hyr1_11 =>
    intro w' hx
    go_simp
    with_reducible rfl
  case har1_11 => (simp only [Act.put, List.setIfInBounds_toArray, List.set_cons_zero, List.set_cons_succ]; rfl)
  refine E_take (hR := Ext.pre) (i := 12) (N := (some 32)) (v := ?vr1_12) (a' := ?ar1_12) #[true, true, true, true, true, true, true, true, true, true, true, true, true, false] rfl rfl (by kernel_rfl) (fun _ _ _ h => h) (by rfl) ?hyr1_12 ?har1_12 ?_
  case hyr1_12 =>
    intro w' hx
    go_simp
    with_reducible rfl
  case har1_12 => (simp only [Act.put, List.setIfInBounds_toArray, List.set_cons_zero, List.set_cons_succ]; rfl)
  refine E_take (hR := Ext.pre) (i := 13) (N := (some 4)) (v := ?vr1_13) (a' := ?ar1_13) #[true, true, true, true, true, true, true, true, true, true, true, true, true, true] rfl rfl (by kernel_rfl) (fun _ _ _ h => h) (by rfl) ?hyr1_13 ?har1_13 ?_
  case hyr1_13 =>
    intro w' hx
    go_simp
    with_reducible rfl
  case har1_13 => (simp only [Act.put, List.setIfInBounds_toArray, List.set_cons_zero, List.set_cons_succ]; rfl)
  refine E_done (by kernel_rfl) ?_
  go_wp2
  go_ret
  exact ⟨rfl, hS.below⟩
theorem back_row (z0 z1 : List Int) (w : World) (h0 : z0.length = 32) (h1 : z1.length = 16) (v0 : ∀ y ∈ z0, (Lit.int .u8 y).wf = true) (v1 : ∀ y ∈ z1, (Lit.int .u8 y).wf = true) :
    Calls Try.prog 5 #[.agg (z0.map (Value.int .u8)).toArray, .agg (z1.map (Value.int .u8)).toArray] w fun e w' => e = .returned (.bool true) ∧ Below w.heap.size w w' := by
  obtain ⟨k, k1, k2⟩ := ints_u8 z0 v0
  obtain ⟨b, b1, b2⟩ := ints_u8 z1 v1
  rw [k2, b2]
  exact back_walk k b w (k1.trans h0) (b1.trans h1)
end Go.Proofs.Ytaacnbponodagaa
