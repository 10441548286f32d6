/- The walk of XtsPlaces. -/
import Derived.Test.YthamhaomfdgdjaaXtsW
import Derived.Test.YthamhaomfdgdjaaInts
import Derived.Test.YthamhaomfdgdjaaArr
import Derived.Test.YthamhaomfdgdjaaSlA
import Derived.Test.YthamhaomfdgdjaaTmd
namespace Go.Proofs.Ythamhaomfdgdjaa
open Go.RowKit
set_option linter.unusedVariables false
set_option linter.unusedSimpArgs false

theorem xtsE_take {key b : List UInt8} {num : Int} (hk : key.length = 64) (hb : b.length % 16 = 0) {k : Nat} (hl : 16 * k ≤ b.length) : xtsE key num (b.take (16 * k)) = (xtsE key num b).take (16 * k) :=
  xtsT_take (fun x hx => encF_len (keysF_len (key1_len hk)) hx) (encF_len (keysF_len (key2_len hk)) (le16_len num)) hl hb
theorem xtsDE {key b : List UInt8} {num : Int} (hk : key.length = 64) (hb : b.length % 16 = 0) : xtsD key num (xtsE key num b) = b :=
  xtsT_inv (fun x hx => encF_len (keysF_len (key1_len hk)) hx) (fun x hx => dec_enc (keysF_len (key1_len hk)) hx) (encF_len (keysF_len (key2_len hk)) (le16_len num)) hb
theorem xtsED {key b : List UInt8} {num : Int} (hk : key.length = 64) (hb : b.length % 16 = 0) : xtsE key num (xtsD key num b) = b :=
  xtsT_inv (fun x hx => decF_len (keysF_len (key1_len hk)) hx) (fun x hx => enc_dec (keysF_len (key1_len hk)) hx) (encF_len (keysF_len (key2_len hk)) (le16_len num)) hb

set_option maxRecDepth 8000 in
set_option maxHeartbeats 3200000 in
theorem places_walk (key b : List UInt8) (m0 m1 : Int) (w : World) (hk : key.length = 64) (hb : b.length = 64) :
    Calls Try.prog 5 #[.agg (key.map bV).toArray, .agg #[.int .i64 m0, .int .i64 m1], .agg (b.map bV).toArray] w fun e w' => e = .returned (.bool true) ∧ Below w.heap.size w w' := by
  have hS := St.start w
  by_cases hneg : m0 < 0
  · have hkl := Lib.hid (show (key.map bV).length = 64 by rw [List.length_map]; exact hk)
    clear hk hb
    go_enter Try.func5, Try.ntmps5
    go_wp2_with (first | ((with_reducible show wpList _ _ _ (⟨_, _, _, _, _, some (_, _)⟩ :: _) _ _); go_loud (first | (apply S_guardT; rfl; rfl; first | rfl | assumption) | (apply S_guardF; rfl; rfl; first | rfl | assumption) | (apply S_guard; rfl; rfl; all_goals intro hg_))) | ((with_reducible show wpList _ _ _ (⟨some 3, Op.box _ _, _, _, _, _⟩ :: _) _ _); go_loud (apply S_box hS; rfl; rfl; (focus ((conv => lhs; whnf) <;> rfl)); rfl; clear hS; intro b3 w_ hS)) | ((with_reducible show wpList _ _ _ (⟨some 4, Op.box _ _, _, _, _, _⟩ :: _) _ _); go_loud (apply S_box hS; rfl; rfl; (focus ((conv => lhs; whnf) <;> rfl)); rfl; clear hS; intro b4 w_ hS)) | ((with_reducible show wpList _ _ _ (⟨some 5, Op.box _ _, _, _, _, _⟩ :: _) _ _); go_loud (apply S_box hS; rfl; rfl; (focus ((conv => lhs; whnf) <;> rfl)); rfl; clear hS; intro b5 w_ hS)) | ((with_reducible show wpList _ _ _ (⟨some 18, Op.load _ _, _, _, _, _⟩ :: _) _ _); go_loud (first | (apply S_ld hS; rfl; rfl; rfl; (focus ((repeat (first | exact .here | apply At.there)); done)); rfl; (first | fail | assumption | rfl | exact mapGetB (by first | assumption | (simp only [List.length_map, List.length_set, List.length_replicate, List.length_append, List.length_cons, List.length_nil]; omega)) | exact mapGet _ (by first | assumption | (simp only [List.length_map, List.length_set, List.length_replicate, List.length_append, List.length_cons, List.length_nil]; omega)))) | (apply S_ldOwn hS; rfl; rfl; rfl; (focus ((repeat (first | exact .here | apply At.there)); done)); rfl; (first | rfl | exact mapGetB (by first | assumption | (simp only [List.length_map, List.length_set, List.length_replicate, List.length_append, List.length_cons, List.length_nil]; omega)) | exact mapGet _ (by first | assumption | (simp only [List.length_map, List.length_set, List.length_replicate, List.length_append, List.length_cons, List.length_nil]; omega)))))) | (go_at_call 6; refine (awake_any _).mono ?_; rintro e w_ ⟨rfl, hb_⟩; replace hS := hS.ext hb_; clear hb_))
    go_ret
    exact ⟨rfl, hS.below⟩
  · have hpos : 0 ≤ m0 := by omega
    have t1 := tmod_bound m1 (k := 4) (by decide)
    obtain ⟨p, hp, hpk⟩ := tmod_cut m1 (k := 4) (by decide)
    have w1 : IntKind.i64.wrap (m1.tmod 4 + 4) = m1.tmod 4 + 4 := by rw [IntKind.wrap_i64]; omega
    obtain ⟨l, hl⟩ : ∃ l, 16 * (1 + p) = l := ⟨_, rfl⟩
    have hli : 16 * (1 + (p : Int)) = (l : Int) := by omega
    have hl64 : l ≤ 64 := by omega
    have hl16 : 16 ≤ l := by omega
    have hlm : l % 16 = 0 := by omega
    have w2 : IntKind.i64.wrap (1 + (p : Int)) = 1 + (p : Int) := by rw [IntKind.wrap_i64]; omega
    have w3 : IntKind.i64.wrap (16 * (1 + (p : Int))) = (l : Int) := by rw [IntKind.wrap_i64]; omega
    have hXL : (xtsE key m0 b).length = 64 := by rw [xtsE_len hk (by rw [hb]), hb]
    have hT := xtsE_take (num := m0) hk (b := b) (by rw [hb]) (k := 1 + p) (by rw [hb]; omega)
    rw [hl] at hT
    have hbl : (b.take l).length = l := by rw [List.length_take, hb]; omega
    have hDE := xtsDE (num := m0) hk (b := b.take l) (by rw [hbl]; exact hlm)
    generalize hX : xtsE key m0 b = X at *
    obtain ⟨s1, hs1⟩ : ∃ s, (X.take l).drop 0 = s := ⟨_, rfl⟩
    obtain ⟨s2, hs2⟩ : ∃ s, (b.take l).drop 0 = s := ⟨_, rfl⟩
    rw [← List.drop_zero (l := b.take l), ← List.drop_zero (l := X.take l), hs1, hs2] at hT
    rw [← List.drop_zero (l := b.take l), hs2, hT] at hDE
    have hL1 : s1.length = l := by rw [← hs1, List.drop_zero, List.length_take, hXL]; omega
    have hL2 : s2.length = l := by rw [← hs2, List.drop_zero, hbl]
    have hmin : (if (l : Int) < 64 then (l : Int) else 64) = (l : Int) := by split <;> omega
    have e1 : ((str s1).toList == (str s1).toList) = true := by simp
    have e2 : ((str s2).toList == (str s2).toList) = true := by simp
    have HK := Lib.hid hk
    have HB := Lib.hid hb
    have HXX := Lib.hid (show True → xtsE key m0 b = X from fun _ => hX)
    have HXL := Lib.hid hXL
    have HT := Lib.hid (show True → xtsE key m0 s2 = s1 from fun _ => hT)
    have HD := Lib.hid (show True → xtsD key m0 s1 = s2 from fun _ => hDE)
    have L1 := Lib.hid hL1
    have L2 := Lib.hid hL2
    have S1 := Lib.hid hs1
    have S2 := Lib.hid hs2
    clear hk hb hneg hl hlm hXL hT hbl hDE hX hs1 hs2 hL1 hL2 hpk
    have HLM := Lib.hid (show l % 16 = 0 by omega)
    go_enter Try.func5, Try.ntmps5
    go_upto_region 4 with (first | ((with_reducible show wpList _ _ _ (⟨_, _, _, _, _, some (_, _)⟩ :: _) _ _); go_loud (first | (apply S_guardT; rfl; rfl; first | rfl | assumption) | (apply S_guardF; rfl; rfl; first | rfl | assumption) | (apply S_guard; rfl; rfl; all_goals intro hg_))) | ((with_reducible show wpList _ _ _ (⟨some 3, Op.box _ _, _, _, _, _⟩ :: _) _ _); go_loud (apply S_box hS; rfl; rfl; (focus ((conv => lhs; whnf) <;> rfl)); rfl; clear hS; intro b3 w_ hS)) | ((with_reducible show wpList _ _ _ (⟨some 4, Op.box _ _, _, _, _, _⟩ :: _) _ _); go_loud (apply S_box hS; rfl; rfl; (focus ((conv => lhs; whnf) <;> rfl)); rfl; clear hS; intro b4 w_ hS)) | ((with_reducible show wpList _ _ _ (⟨some 5, Op.box _ _, _, _, _, _⟩ :: _) _ _); go_loud (apply S_box hS; rfl; rfl; (focus ((conv => lhs; whnf) <;> rfl)); rfl; clear hS; intro b5 w_ hS)) | ((with_reducible show wpList _ _ _ (⟨some 18, Op.load _ _, _, _, _, _⟩ :: _) _ _); go_loud (first | (apply S_ld hS; rfl; rfl; rfl; (focus ((repeat (first | exact .here | apply At.there)); done)); rfl; (first | fail | assumption | rfl | exact mapGetB (by first | assumption | (simp only [List.length_map, List.length_set, List.length_replicate, List.length_append, List.length_cons, List.length_nil]; omega)) | exact mapGet _ (by first | assumption | (simp only [List.length_map, List.length_set, List.length_replicate, List.length_append, List.length_cons, List.length_nil]; omega)))) | (apply S_ldOwn hS; rfl; rfl; rfl; (focus ((repeat (first | exact .here | apply At.there)); done)); rfl; (first | rfl | exact mapGetB (by first | assumption | (simp only [List.length_map, List.length_set, List.length_replicate, List.length_append, List.length_cons, List.length_nil]; omega)) | exact mapGet _ (by first | assumption | (simp only [List.length_map, List.length_set, List.length_replicate, List.length_append, List.length_cons, List.length_nil]; omega)))))) | ((with_reducible show wpList _ _ _ (⟨some 23, Op.load _ _, _, _, _, _⟩ :: _) _ _); go_loud (first | (apply S_ld hS; rfl; rfl; rfl; (focus ((repeat (first | exact .here | apply At.there)); done)); rfl; (first | fail | assumption | rfl | exact mapGetB (by first | assumption | (simp only [List.length_map, List.length_set, List.length_replicate, List.length_append, List.length_cons, List.length_nil]; omega)) | exact mapGet _ (by first | assumption | (simp only [List.length_map, List.length_set, List.length_replicate, List.length_append, List.length_cons, List.length_nil]; omega)))) | (apply S_ldOwn hS; rfl; rfl; rfl; (focus ((repeat (first | exact .here | apply At.there)); done)); rfl; (first | rfl | exact mapGetB (by first | assumption | (simp only [List.length_map, List.length_set, List.length_replicate, List.length_append, List.length_cons, List.length_nil]; omega)) | exact mapGet _ (by first | assumption | (simp only [List.length_map, List.length_set, List.length_replicate, List.length_append, List.length_cons, List.length_nil]; omega)))))) | (go_at_call 6; refine (awake_any _).mono ?_; rintro e w_ ⟨rfl, hb_⟩; replace hS := hS.ext hb_; clear hb_))
    refine E_start (hR := Ext.pre) #[false, false, false, false, false, false, false, false, false, false] (by kernel_rfl) rfl rfl (fun w_r1 hx_r1 he_r1 => ?_)
    clear he_r1
    replace hS := hS.ext hx_r1; clear hx_r1
    refine E_take (hR := Ext.pre) (i := 0) (N := (some 30)) (v := ?vr1_0) (a' := ?ar1_0) #[true, false, false, false, false, false, false, false, false, false] rfl rfl (by kernel_rfl) (fun _ _ _ h => h) (by rfl) ?hyr1_0 ?har1_0 ?_
    case hyr1_0 =>
      intro w' hx
      (first | (apply Eq.trans; (apply R_slice; rfl; rfl; (first | exact SB.no | exact SB.so | exact SB.lit (by decide)); (first | exact SB.no | exact SB.so | exact SB.lit (by decide)); rfl; rfl; (first | assumption | (focus (simp; done)) | (focus (simp; omega)) | omega); (first | assumption | (focus (simp; done)) | (focus (simp; omega)) | omega)); with_reducible rfl) | (go_simp; with_reducible rfl))
    case har1_0 => (simp only [Act.put, List.setIfInBounds_toArray, List.set_cons_zero, List.set_cons_succ]; rfl)
    refine E_take (hR := Ext.pre) (i := 1) (N := (some 31)) (v := ?vr1_1) (a' := ?ar1_1) #[true, true, false, false, false, false, false, false, false, false] rfl rfl (by kernel_rfl) (fun _ _ _ h => h) (by rfl) ?hyr1_1 ?har1_1 ?_
    case hyr1_1 =>
      intro w' hx
      go_simp
      with_reducible rfl
    case har1_1 => (simp only [Act.put, List.setIfInBounds_toArray, List.set_cons_zero, List.set_cons_succ]; rfl)
    refine E_take (hR := Ext.pre) (i := 2) (N := (some 32)) (v := ?vr1_2) (a' := ?ar1_2) #[true, true, true, false, false, false, false, false, false, false] rfl rfl (by kernel_rfl) (fun _ _ _ h => h) (by rfl) ?hyr1_2 ?har1_2 ?_
    case hyr1_2 =>
      intro w' hx
      (first | (apply Eq.trans; (first | (apply R_ld (hS.ext hx); rfl; rfl; (focus ((repeat (first | exact .here | apply At.there)); done)); rfl; (first | assumption | rfl | exact mapGetB (by first | assumption | omega) | exact mapGet _ (by first | assumption | omega))) | (apply R_ldAll (hS.ext hx); rfl; rfl; (focus ((repeat (first | exact .here | apply At.there)); done)); rfl; (first | rfl | (simp only [List.length_map, sumF_length]; rfl))) | (apply R_ldOwn (hS.ext hx); rfl; rfl; (focus ((repeat (first | exact .here | apply At.there)); done)); rfl; (first | rfl | exact mapGetB (by first | assumption | omega) | exact mapGet _ (by first | assumption | omega)))); with_reducible rfl) | (go_simp; with_reducible rfl))
    case har1_2 => (simp only [Act.put, List.setIfInBounds_toArray, List.set_cons_zero, List.set_cons_succ]; rfl)
    refine E_take (hR := Ext.pre) (i := 3) (N := (some 33)) (v := ?vr1_3) (a' := ?ar1_3) #[true, true, true, true, false, false, false, false, false, false] rfl rfl (by kernel_rfl) (fun _ _ _ h => h) (by rfl) ?hyr1_3 ?har1_3 ?_
    case hyr1_3 =>
      intro w' hx
      (first | (apply Eq.trans; (apply R_slice; rfl; rfl; (first | exact SB.no | exact SB.so | exact SB.lit (by decide)); (first | exact SB.no | exact SB.so | exact SB.lit (by decide)); rfl; rfl; (first | assumption | (focus (simp; done)) | (focus (simp; omega)) | omega); (first | assumption | (focus (simp; done)) | (focus (simp; omega)) | omega)); with_reducible rfl) | (go_simp; with_reducible rfl))
    case har1_3 => (simp only [Act.put, List.setIfInBounds_toArray, List.set_cons_zero, List.set_cons_succ]; rfl)
    refine E_call (i := 4) (N := (some 34)) (args := ?gr1_4) #[true, true, true, true, true, false, false, false, false, false] rfl rfl (by kernel_rfl) (by rfl) Try.func7 (by kernel_rfl) rfl rfl ?hgr1_4 ?_
    case hgr1_4 => (simp only [List.map_toArray, List.map_cons, List.map_nil]; go_simp; with_reducible rfl)
    refine (xtsEnc_any (some ⟨b3, 0, none⟩) (some ⟨b5, 0, none⟩) 64 64 64 64 m0 key b _ ⟨rfl, hpos, by decide, by decide, by decide⟩ HK.out (hS.blkRd (b := b3) (by focus ((repeat (first | exact .here | apply At.there)); done))) (by decide) HB.out (hS.blkRd (b := b5) (by focus ((repeat (first | exact .here | apply At.there)); done))) (by decide)).mono ?_
    rw [HXX.out trivial]
    rintro e w_ ⟨gx, cx, rfl, ho_, hb_⟩
    rw [HXL.out] at ho_ ⊢
    refine ⟨_, rfl, hb_, ?_⟩
    replace hS := hS.got hb_ ho_
    clear hb_ ho_
    rintro _ rfl
    simp only [Act.put, List.setIfInBounds_toArray, List.set_cons_zero, List.set_cons_succ]
    refine E_take (hR := Ext.pre) (i := 5) (N := (some 29)) (v := ?vr1_5) (a' := ?ar1_5) #[true, true, true, true, true, true, false, false, false, false] rfl rfl (by kernel_rfl) (fun _ _ _ h => h) (by rfl) ?hyr1_5 ?har1_5 ?_
    case hyr1_5 =>
      intro w' hx
      go_simp
      with_reducible rfl
    case har1_5 => (simp only [Act.put, List.setIfInBounds_toArray, List.set_cons_zero, List.set_cons_succ]; rfl)
    refine E_take (hR := Ext.pre) (i := 6) (N := (some 35)) (v := ?vr1_6) (a' := ?ar1_6) #[true, true, true, true, true, true, true, false, false, false] rfl rfl (by kernel_rfl) (fun _ _ _ h => h) (by rfl) ?hyr1_6 ?har1_6 ?_
    case hyr1_6 =>
      intro w' hx
      go_simp
      with_reducible rfl
    case har1_6 => (simp only [Act.put, List.setIfInBounds_toArray, List.set_cons_zero, List.set_cons_succ]; rfl)
    refine E_take (hR := Ext.pre) (i := 7) (N := (some 36)) (v := ?vr1_7) (a' := ?ar1_7) #[true, true, true, true, true, true, true, true, false, false] rfl rfl (by kernel_rfl) (fun _ _ _ h => h) (by rfl) ?hyr1_7 ?har1_7 ?_
    case hyr1_7 =>
      intro w' hx
      go_simp
      with_reducible rfl
    case har1_7 => (simp only [Act.put, List.setIfInBounds_toArray, List.set_cons_zero, List.set_cons_succ]; rfl)
    refine E_take (hR := Ext.pre) (i := 8) (N := (some 8)) (v := ?vr1_8) (a' := ?ar1_8) #[true, true, true, true, true, true, true, true, true, false] rfl rfl (by kernel_rfl) (fun _ _ _ h => h) (by rfl) ?hyr1_8 ?har1_8 ?_
    case hyr1_8 =>
      intro w' hx
      go_simp
      with_reducible rfl
    case har1_8 => (simp only [Act.put, List.setIfInBounds_toArray, List.set_cons_zero, List.set_cons_succ]; rfl)
    refine E_take (hR := Ext.pre) (i := 9) (N := (some 9)) (v := ?vr1_9) (a' := ?ar1_9) #[true, true, true, true, true, true, true, true, true, true] rfl rfl (by kernel_rfl) (fun _ _ _ h => h) (by rfl) ?hyr1_9 ?har1_9 ?_
    case hyr1_9 =>
      intro w' hx
      go_simp
      with_reducible rfl
    case har1_9 => (simp only [Act.put, List.setIfInBounds_toArray, List.set_cons_zero, List.set_cons_succ]; rfl)
    refine E_done (by kernel_rfl) ?_
    have hcx : 64 ≤ cx := hS.ownCap (A := some ⟨gx, 0, none⟩) (by focus ((repeat (first | exact .here | apply At.there)); done))
    have hlc : l ≤ cx := by omega
    have HCX := Lib.hid hcx
    clear hcx
    go_upto_region 5 with (fail)
    refine E_start (hR := Ext.pre) #[false, false, false, false, false, false, false, false, false, false, false] (by kernel_rfl) rfl rfl (fun w_s2 hx_s2 he_s2 => ?_)
    clear he_s2
    replace hS := hS.ext hx_s2; clear hx_s2
    refine E_take (hR := Ext.pre) (i := 0) (N := (some 38)) (v := ?vs2_0) (a' := ?as2_0) #[true, false, false, false, false, false, false, false, false, false, false] rfl rfl (by kernel_rfl) (fun _ _ _ h => h) (by rfl) ?hys2_0 ?has2_0 ?_
    case hys2_0 =>
      intro w' hx
      (first | (apply Eq.trans; (apply R_slice; rfl; rfl; (first | exact SB.no | exact SB.so | exact SB.lit (by decide)); (first | exact SB.no | exact SB.so | exact SB.lit (by decide)); rfl; rfl; (first | assumption | (focus (simp; done)) | (focus (simp; omega)) | omega); (first | assumption | (focus (simp; done)) | (focus (simp; omega)) | omega)); with_reducible rfl) | (go_simp; with_reducible rfl))
    case has2_0 => (simp only [Act.put, List.setIfInBounds_toArray, List.set_cons_zero, List.set_cons_succ]; rfl)
    refine E_take (hR := Ext.pre) (i := 1) (N := (some 39)) (v := ?vs2_1) (a' := ?as2_1) #[true, true, false, false, false, false, false, false, false, false, false] rfl rfl (by kernel_rfl) (fun _ _ _ h => h) (by rfl) ?hys2_1 ?has2_1 ?_
    case hys2_1 =>
      intro w' hx
      go_simp
      with_reducible rfl
    case has2_1 => (simp only [Act.put, List.setIfInBounds_toArray, List.set_cons_zero, List.set_cons_succ]; rfl)
    refine E_take (hR := Ext.pre) (i := 2) (N := (some 40)) (v := ?vs2_2) (a' := ?as2_2) #[true, true, true, false, false, false, false, false, false, false, false] rfl rfl (by kernel_rfl) (fun _ _ _ h => h) (by rfl) ?hys2_2 ?has2_2 ?_
    case hys2_2 =>
      intro w' hx
      (first | (apply Eq.trans; (first | (apply R_ld (hS.ext hx); rfl; rfl; (focus ((repeat (first | exact .here | apply At.there)); done)); rfl; (first | assumption | rfl | exact mapGetB (by first | assumption | omega) | exact mapGet _ (by first | assumption | omega))) | (apply R_ldAll (hS.ext hx); rfl; rfl; (focus ((repeat (first | exact .here | apply At.there)); done)); rfl; (first | rfl | (simp only [List.length_map, sumF_length]; rfl))) | (apply R_ldOwn (hS.ext hx); rfl; rfl; (focus ((repeat (first | exact .here | apply At.there)); done)); rfl; (first | rfl | exact mapGetB (by first | assumption | omega) | exact mapGet _ (by first | assumption | omega)))); with_reducible rfl) | (go_simp; with_reducible rfl))
    case has2_2 => (simp only [Act.put, List.setIfInBounds_toArray, List.set_cons_zero, List.set_cons_succ]; rfl)
    refine E_take (hR := Ext.pre) (i := 3) (N := (some 41)) (v := ?vs2_3) (a' := ?as2_3) #[true, true, true, true, false, false, false, false, false, false, false] rfl rfl (by kernel_rfl) (fun _ _ _ h => h) (by rfl) ?hys2_3 ?has2_3 ?_
    case hys2_3 =>
      intro w' hx
      go_simp
      with_reducible rfl
    case has2_3 => (simp only [Act.put, List.setIfInBounds_toArray, List.set_cons_zero, List.set_cons_succ]; rfl)
    refine E_take (hR := Ext.pre) (i := 4) (N := (some 42)) (v := ?vs2_4) (a' := ?as2_4) #[true, true, true, true, true, false, false, false, false, false, false] rfl rfl (by kernel_rfl) (fun _ _ _ h => h) (by rfl) ?hys2_4 ?has2_4 ?_
    case hys2_4 =>
      intro w' hx
      (apply Eq.trans; (apply R_sliceA; rfl; rfl; rfl; rfl; (first | exact SB.no | exact SB.so | exact SB.lit (by decide)); (first | exact SB.no | exact SB.so | exact SB.lit (by decide)); (first | assumption | (focus (simp; done)) | (focus (simp; omega)) | omega); (first | assumption | (focus (simp; done)) | (focus (simp; omega)) | omega)); with_reducible rfl)
    case has2_4 => (simp only [Act.put, List.setIfInBounds_toArray, List.set_cons_zero, List.set_cons_succ]; rfl)
    refine E_call (i := 5) (N := (some 43)) (args := ?gs2_5) #[true, true, true, true, true, true, false, false, false, false, false] rfl rfl (by kernel_rfl) (by rfl) Try.func7 (by kernel_rfl) rfl rfl ?hgs2_5 ?_
    case hgs2_5 => (simp only [List.map_toArray, List.map_cons, List.map_nil]; go_simp; with_reducible rfl)
    refine (xtsEnc_any (some ⟨b3, 0, none⟩) (cutA (some ⟨b5, 0, none⟩) 64 0) 64 64 (l - 0) (64 - 0) m0 key s2 _ ⟨rfl, hpos, by omega, by omega, HLM.out⟩ HK.out (hS.blkRd (b := b3) (by focus ((repeat (first | exact .here | apply At.there)); done))) (by decide) L2.out (by rw [← S2.out]; exact RdB.sub (c := 64) (hS.blkRd (b := b5) (by focus ((repeat (first | exact .here | apply At.there)); done))) (by rw [HB.out]; decide)) (by omega)).mono ?_
    rw [HT.out trivial]
    rintro e w_ ⟨gy, cy, rfl, ho_, hb_⟩
    rw [L1.out] at ho_ ⊢
    refine ⟨_, rfl, hb_, ?_⟩
    replace hS := hS.got hb_ ho_
    clear hb_ ho_
    rintro _ rfl
    simp only [Act.put, List.setIfInBounds_toArray, List.set_cons_zero, List.set_cons_succ]
    refine E_take (hR := Ext.pre) (i := 6) (N := (some 37)) (v := ?vs2_6) (a' := ?as2_6) #[true, true, true, true, true, true, true, false, false, false, false] rfl rfl (by kernel_rfl) (fun _ _ _ h => h) (by rfl) ?hys2_6 ?has2_6 ?_
    case hys2_6 =>
      intro w' hx
      go_simp
      with_reducible rfl
    case has2_6 => (simp only [Act.put, List.setIfInBounds_toArray, List.set_cons_zero, List.set_cons_succ]; rfl)
    refine E_take (hR := Ext.pre) (i := 7) (N := (some 44)) (v := ?vs2_7) (a' := ?as2_7) #[true, true, true, true, true, true, true, true, false, false, false] rfl rfl (by kernel_rfl) (fun _ _ _ h => h) (by rfl) ?hys2_7 ?has2_7 ?_
    case hys2_7 =>
      intro w' hx
      go_simp
      with_reducible rfl
    case has2_7 => (simp only [Act.put, List.setIfInBounds_toArray, List.set_cons_zero, List.set_cons_succ]; rfl)
    refine E_take (hR := Ext.pre) (i := 8) (N := (some 45)) (v := ?vs2_8) (a' := ?as2_8) #[true, true, true, true, true, true, true, true, true, false, false] rfl rfl (by kernel_rfl) (fun _ _ _ h => h) (by rfl) ?hys2_8 ?has2_8 ?_
    case hys2_8 =>
      intro w' hx
      go_simp
      with_reducible rfl
    case has2_8 => (simp only [Act.put, List.setIfInBounds_toArray, List.set_cons_zero, List.set_cons_succ]; rfl)
    refine E_take (hR := Ext.pre) (i := 9) (N := (some 10)) (v := ?vs2_9) (a' := ?as2_9) #[true, true, true, true, true, true, true, true, true, true, false] rfl rfl (by kernel_rfl) (fun _ _ _ h => h) (by rfl) ?hys2_9 ?has2_9 ?_
    case hys2_9 =>
      intro w' hx
      go_simp
      with_reducible rfl
    case has2_9 => (simp only [Act.put, List.setIfInBounds_toArray, List.set_cons_zero, List.set_cons_succ]; rfl)
    refine E_take (hR := Ext.pre) (i := 10) (N := (some 11)) (v := ?vs2_10) (a' := ?as2_10) #[true, true, true, true, true, true, true, true, true, true, true] rfl rfl (by kernel_rfl) (fun _ _ _ h => h) (by rfl) ?hys2_10 ?has2_10 ?_
    case hys2_10 =>
      intro w' hx
      go_simp
      with_reducible rfl
    case has2_10 => (simp only [Act.put, List.setIfInBounds_toArray, List.set_cons_zero, List.set_cons_succ]; rfl)
    refine E_done (by kernel_rfl) ?_
    go_upto_region 6 with (fail)
    refine E_start (hR := Ext.pre) #[false, false, false, false, false, false, false, false, false, false, false, false, false, false, false] (by kernel_rfl) rfl rfl (fun w_t3 hx_t3 he_t3 => ?_)
    clear he_t3
    replace hS := hS.ext hx_t3; clear hx_t3
    refine E_take (hR := Ext.pre) (i := 0) (N := (some 47)) (v := ?vt3_0) (a' := ?at3_0) #[true, false, false, false, false, false, false, false, false, false, false, false, false, false, false] rfl rfl (by kernel_rfl) (fun _ _ _ h => h) (by rfl) ?hyt3_0 ?hat3_0 ?_
    case hyt3_0 =>
      intro w' hx
      (first | (apply Eq.trans; (apply R_slice; rfl; rfl; (first | exact SB.no | exact SB.so | exact SB.lit (by decide)); (first | exact SB.no | exact SB.so | exact SB.lit (by decide)); rfl; rfl; (first | assumption | (focus (simp; done)) | (focus (simp; omega)) | omega); (first | assumption | (focus (simp; done)) | (focus (simp; omega)) | omega)); with_reducible rfl) | (go_simp; with_reducible rfl))
    case hat3_0 => (simp only [Act.put, List.setIfInBounds_toArray, List.set_cons_zero, List.set_cons_succ]; rfl)
    refine E_take (hR := Ext.pre) (i := 1) (N := (some 48)) (v := ?vt3_1) (a' := ?at3_1) #[true, true, false, false, false, false, false, false, false, false, false, false, false, false, false] rfl rfl (by kernel_rfl) (fun _ _ _ h => h) (by rfl) ?hyt3_1 ?hat3_1 ?_
    case hyt3_1 =>
      intro w' hx
      go_simp
      with_reducible rfl
    case hat3_1 => (simp only [Act.put, List.setIfInBounds_toArray, List.set_cons_zero, List.set_cons_succ]; rfl)
    refine E_take (hR := Ext.pre) (i := 2) (N := (some 49)) (v := ?vt3_2) (a' := ?at3_2) #[true, true, true, false, false, false, false, false, false, false, false, false, false, false, false] rfl rfl (by kernel_rfl) (fun _ _ _ h => h) (by rfl) ?hyt3_2 ?hat3_2 ?_
    case hyt3_2 =>
      intro w' hx
      (first | (apply Eq.trans; (first | (apply R_ld (hS.ext hx); rfl; rfl; (focus ((repeat (first | exact .here | apply At.there)); done)); rfl; (first | assumption | rfl | exact mapGetB (by first | assumption | omega) | exact mapGet _ (by first | assumption | omega))) | (apply R_ldAll (hS.ext hx); rfl; rfl; (focus ((repeat (first | exact .here | apply At.there)); done)); rfl; (first | rfl | (simp only [List.length_map, sumF_length]; rfl))) | (apply R_ldOwn (hS.ext hx); rfl; rfl; (focus ((repeat (first | exact .here | apply At.there)); done)); rfl; (first | rfl | exact mapGetB (by first | assumption | omega) | exact mapGet _ (by first | assumption | omega)))); with_reducible rfl) | (go_simp; with_reducible rfl))
    case hat3_2 => (simp only [Act.put, List.setIfInBounds_toArray, List.set_cons_zero, List.set_cons_succ]; rfl)
    refine E_take (hR := Ext.pre) (i := 3) (N := (some 50)) (v := ?vt3_3) (a' := ?at3_3) #[true, true, true, true, false, false, false, false, false, false, false, false, false, false, false] rfl rfl (by kernel_rfl) (fun _ _ _ h => h) (by rfl) ?hyt3_3 ?hat3_3 ?_
    case hyt3_3 =>
      intro w' hx
      go_simp
      with_reducible rfl
    case hat3_3 => (simp only [Act.put, List.setIfInBounds_toArray, List.set_cons_zero, List.set_cons_succ]; rfl)
    refine E_take (hR := Ext.pre) (i := 4) (N := (some 51)) (v := ?vt3_4) (a' := ?at3_4) #[true, true, true, true, true, false, false, false, false, false, false, false, false, false, false] rfl rfl (by kernel_rfl) (fun _ _ _ h => h) (by rfl) ?hyt3_4 ?hat3_4 ?_
    case hyt3_4 =>
      intro w' hx
      go_simp
      with_reducible rfl
    case hat3_4 => (simp only [Act.put, List.setIfInBounds_toArray, List.set_cons_zero, List.set_cons_succ]; rfl)
    refine E_take (hR := Ext.pre) (i := 5) (N := (some 52)) (v := ?vt3_5) (a' := ?at3_5) #[true, true, true, true, true, true, false, false, false, false, false, false, false, false, false] rfl rfl (by kernel_rfl) (fun _ _ _ h => h) (by rfl) ?hyt3_5 ?hat3_5 ?_
    case hyt3_5 =>
      intro w' hx
      go_simp
      with_reducible rfl
    case hat3_5 => (simp only [Act.put, List.setIfInBounds_toArray, List.set_cons_zero, List.set_cons_succ]; rfl)
    refine E_take (hR := Ext.pre) (i := 6) (N := (some 53)) (v := ?vt3_6) (a' := ?at3_6) #[true, true, true, true, true, true, true, false, false, false, false, false, false, false, false] rfl rfl (by kernel_rfl) (fun _ _ _ h => h) (by rfl) ?hyt3_6 ?hat3_6 ?_
    case hyt3_6 =>
      intro w' hx
      go_simp
      with_reducible rfl
    case hat3_6 => (simp only [Act.put, List.setIfInBounds_toArray, List.set_cons_zero, List.set_cons_succ]; rfl)
    refine E_take (hR := Ext.pre) (i := 7) (N := (some 54)) (v := ?vt3_7) (a' := ?at3_7) #[true, true, true, true, true, true, true, true, false, false, false, false, false, false, false] rfl rfl (by kernel_rfl) (fun _ _ _ h => h) (by rfl) ?hyt3_7 ?hat3_7 ?_
    case hyt3_7 =>
      intro w' hx
      go_simp
      with_reducible rfl
    case hat3_7 => (simp only [Act.put, List.setIfInBounds_toArray, List.set_cons_zero, List.set_cons_succ]; rfl)
    refine E_take (hR := Ext.pre) (i := 8) (N := (some 55)) (v := ?vt3_8) (a' := ?at3_8) #[true, true, true, true, true, true, true, true, true, false, false, false, false, false, false] rfl rfl (by kernel_rfl) (fun _ _ _ h => h) (by rfl) ?hyt3_8 ?hat3_8 ?_
    case hyt3_8 =>
      intro w' hx
      (first | (apply Eq.trans; (apply R_slice; rfl; rfl; (first | exact SB.no | exact SB.so | exact SB.lit (by decide)); (first | exact SB.no | exact SB.so | exact SB.lit (by decide)); rfl; rfl; (first | assumption | (focus (simp; done)) | (focus (simp; omega)) | omega); (first | assumption | (focus (simp; done)) | (focus (simp; omega)) | omega)); with_reducible rfl) | (go_simp; with_reducible rfl))
    case hat3_8 => (simp only [Act.put, List.setIfInBounds_toArray, List.set_cons_zero, List.set_cons_succ]; rfl)
    refine E_call (i := 9) (N := (some 56)) (args := ?gt3_9) #[true, true, true, true, true, true, true, true, true, true, false, false, false, false, false] rfl rfl (by kernel_rfl) (by rfl) Try.func8 (by kernel_rfl) rfl rfl ?hgt3_9 ?_
    case hgt3_9 => (simp only [List.map_toArray, List.map_cons, List.map_nil]; go_simp; with_reducible rfl)
    refine (xtsDec_any (some ⟨b3, 0, none⟩) (cutA (some ⟨gx, 0, none⟩) cx 0) 64 64 (l - 0) (cx - 0) m0 key s1 _ ⟨rfl, hpos, by omega, by omega, HLM.out⟩ HK.out (hS.blkRd (b := b3) (by focus ((repeat (first | exact .here | apply At.there)); done))) (by decide) L1.out (by rw [← S1.out]; exact RdB.sub (c := cx) (hS.ownRd (A := some ⟨gx, 0, none⟩) (by focus ((repeat (first | exact .here | apply At.there)); done))) (by rw [HXL.out]; exact HCX.out)) (by omega)).mono ?_
    rw [HD.out trivial]
    rintro e w_ ⟨gz, cz, rfl, ho_, hb_⟩
    rw [L2.out] at ho_ ⊢
    refine ⟨_, rfl, hb_, ?_⟩
    replace hS := hS.got hb_ ho_
    clear hb_ ho_
    rintro _ rfl
    simp only [Act.put, List.setIfInBounds_toArray, List.set_cons_zero, List.set_cons_succ]
    refine E_take (hR := Ext.pre) (i := 10) (N := (some 46)) (v := ?vt3_10) (a' := ?at3_10) #[true, true, true, true, true, true, true, true, true, true, true, false, false, false, false] rfl rfl (by kernel_rfl) (fun _ _ _ h => h) (by rfl) ?hyt3_10 ?hat3_10 ?_
    case hyt3_10 =>
      intro w' hx
      go_simp
      with_reducible rfl
    case hat3_10 => (simp only [Act.put, List.setIfInBounds_toArray, List.set_cons_zero, List.set_cons_succ]; rfl)
    refine E_take (hR := Ext.pre) (i := 11) (N := (some 57)) (v := ?vt3_11) (a' := ?at3_11) #[true, true, true, true, true, true, true, true, true, true, true, true, false, false, false] rfl rfl (by kernel_rfl) (fun _ _ _ h => h) (by rfl) ?hyt3_11 ?hat3_11 ?_
    case hyt3_11 =>
      intro w' hx
      go_simp
      with_reducible rfl
    case hat3_11 => (simp only [Act.put, List.setIfInBounds_toArray, List.set_cons_zero, List.set_cons_succ]; rfl)
    refine E_take (hR := Ext.pre) (i := 12) (N := (some 58)) (v := ?vt3_12) (a' := ?at3_12) #[true, true, true, true, true, true, true, true, true, true, true, true, true, false, false] rfl rfl (by kernel_rfl) (fun _ _ _ h => h) (by rfl) ?hyt3_12 ?hat3_12 ?_
    case hyt3_12 =>
      intro w' hx
      go_simp
      with_reducible rfl
    case hat3_12 => (simp only [Act.put, List.setIfInBounds_toArray, List.set_cons_zero, List.set_cons_succ]; rfl)
    refine E_take (hR := Ext.pre) (i := 13) (N := (some 12)) (v := ?vt3_13) (a' := ?at3_13) #[true, true, true, true, true, true, true, true, true, true, true, true, true, true, false] rfl rfl (by kernel_rfl) (fun _ _ _ h => h) (by rfl) ?hyt3_13 ?hat3_13 ?_
    case hyt3_13 =>
      intro w' hx
      go_simp
      with_reducible rfl
    case hat3_13 => (simp only [Act.put, List.setIfInBounds_toArray, List.set_cons_zero, List.set_cons_succ]; rfl)
    refine E_take (hR := Ext.pre) (i := 14) (N := (some 13)) (v := ?vt3_14) (a' := ?at3_14) #[true, true, true, true, true, true, true, true, true, true, true, true, true, true, true] rfl rfl (by kernel_rfl) (fun _ _ _ h => h) (by rfl) ?hyt3_14 ?hat3_14 ?_
    case hyt3_14 =>
      intro w' hx
      go_simp
      with_reducible rfl
    case hat3_14 => (simp only [Act.put, List.setIfInBounds_toArray, List.set_cons_zero, List.set_cons_succ]; rfl)
    refine E_done (by kernel_rfl) ?_
    go_upto_region 7 with (fail)
    refine E_start (hR := Ext.pre) #[false, false, false, false, false, false, false, false, false, false, false, false, false, false, false, false, false, false, false, false, false, false, false, false, false, false, false, false, false, false, false, false, false] (by kernel_rfl) rfl rfl (fun w_u4 hx_u4 he_u4 => ?_)
    clear he_u4
    replace hS := hS.ext hx_u4; clear hx_u4
    refine E_take (hR := Ext.pre) (i := 0) (N := (some 59)) (v := ?vu4_0) (a' := ?au4_0) #[true, false, false, false, false, false, false, false, false, false, false, false, false, false, false, false, false, false, false, false, false, false, false, false, false, false, false, false, false, false, false, false, false] rfl rfl (by kernel_rfl) (fun _ _ _ h => h) (by rfl) ?hyu4_0 ?hau4_0 ?_
    case hyu4_0 =>
      intro w' hx
      go_simp
      with_reducible rfl
    case hau4_0 => (simp only [Act.put, List.setIfInBounds_toArray, List.set_cons_zero, List.set_cons_succ]; rfl)
    refine E_take (hR := Ext.pre) (i := 1) (N := (some 60)) (v := ?vu4_1) (a' := ?au4_1) #[true, true, false, false, false, false, false, false, false, false, false, false, false, false, false, false, false, false, false, false, false, false, false, false, false, false, false, false, false, false, false, false, false] rfl rfl (by kernel_rfl) (fun _ _ _ h => h) (by rfl) ?hyu4_1 ?hau4_1 ?_
    case hyu4_1 =>
      intro w' hx
      go_simp
      with_reducible rfl
    case hau4_1 => (simp only [Act.put, List.setIfInBounds_toArray, List.set_cons_zero, List.set_cons_succ]; rfl)
    refine E_take (hR := Ext.pre) (i := 2) (N := (some 61)) (v := ?vu4_2) (a' := ?au4_2) #[true, true, true, false, false, false, false, false, false, false, false, false, false, false, false, false, false, false, false, false, false, false, false, false, false, false, false, false, false, false, false, false, false] rfl rfl (by kernel_rfl) (fun _ _ _ h => h) (by rfl) ?hyu4_2 ?hau4_2 ?_
    case hyu4_2 =>
      intro w' hx
      go_simp
      with_reducible rfl
    case hau4_2 => (simp only [Act.put, List.setIfInBounds_toArray, List.set_cons_zero, List.set_cons_succ]; rfl)
    refine E_take (hR := Ext.pre) (i := 3) (N := (some 62)) (v := ?vu4_3) (a' := ?au4_3) #[true, true, true, true, false, false, false, false, false, false, false, false, false, false, false, false, false, false, false, false, false, false, false, false, false, false, false, false, false, false, false, false, false] rfl rfl (by kernel_rfl) (fun _ _ _ h => h) (by rfl) ?hyu4_3 ?hau4_3 ?_
    case hyu4_3 =>
      intro w' hx
      go_simp
      with_reducible rfl
    case hau4_3 => (simp only [Act.put, List.setIfInBounds_toArray, List.set_cons_zero, List.set_cons_succ]; rfl)
    refine E_take (hR := Ext.pre) (i := 4) (N := (some 63)) (v := ?vu4_4) (a' := ?au4_4) #[true, true, true, true, true, false, false, false, false, false, false, false, false, false, false, false, false, false, false, false, false, false, false, false, false, false, false, false, false, false, false, false, false] rfl rfl (by kernel_rfl) (fun _ _ _ h => h) (by rfl) ?hyu4_4 ?hau4_4 ?_
    case hyu4_4 =>
      intro w' hx
      go_simp
      with_reducible rfl
    case hau4_4 => (simp only [Act.put, List.setIfInBounds_toArray, List.set_cons_zero, List.set_cons_succ]; rfl)
    refine E_take (hR := Ext.pre) (i := 5) (N := (some 64)) (v := ?vu4_5) (a' := ?au4_5) #[true, true, true, true, true, true, false, false, false, false, false, false, false, false, false, false, false, false, false, false, false, false, false, false, false, false, false, false, false, false, false, false, false] rfl rfl (by kernel_rfl) (fun _ _ _ h => h) (by rfl) ?hyu4_5 ?hau4_5 ?_
    case hyu4_5 =>
      intro w' hx
      go_simp
      with_reducible rfl
    case hau4_5 => (simp only [Act.put, List.setIfInBounds_toArray, List.set_cons_zero, List.set_cons_succ]; rfl)
    refine E_take (hR := Ext.pre) (i := 6) (N := (some 65)) (v := ?vu4_6) (a' := ?au4_6) #[true, true, true, true, true, true, true, false, false, false, false, false, false, false, false, false, false, false, false, false, false, false, false, false, false, false, false, false, false, false, false, false, false] rfl rfl (by kernel_rfl) (fun _ _ _ h => h) (by rfl) ?hyu4_6 ?hau4_6 ?_
    case hyu4_6 =>
      intro w' hx
      go_simp
      with_reducible rfl
    case hau4_6 => (simp only [Act.put, List.setIfInBounds_toArray, List.set_cons_zero, List.set_cons_succ]; rfl)
    refine E_take (hR := Ext.pre) (i := 7) (N := (some 66)) (v := ?vu4_7) (a' := ?au4_7) #[true, true, true, true, true, true, true, true, false, false, false, false, false, false, false, false, false, false, false, false, false, false, false, false, false, false, false, false, false, false, false, false, false] rfl rfl (by kernel_rfl) (fun _ _ _ h => h) (by rfl) ?hyu4_7 ?hau4_7 ?_
    case hyu4_7 =>
      intro w' hx
      go_simp
      with_reducible rfl
    case hau4_7 => (simp only [Act.put, List.setIfInBounds_toArray, List.set_cons_zero, List.set_cons_succ]; rfl)
    refine E_take (hR := Ext.pre) (i := 8) (N := (some 67)) (v := ?vu4_8) (a' := ?au4_8) #[true, true, true, true, true, true, true, true, true, false, false, false, false, false, false, false, false, false, false, false, false, false, false, false, false, false, false, false, false, false, false, false, false] rfl rfl (by kernel_rfl) (fun _ _ _ h => h) (by rfl) ?hyu4_8 ?hau4_8 ?_
    case hyu4_8 =>
      intro w' hx
      go_simp
      with_reducible rfl
    case hau4_8 => (simp only [Act.put, List.setIfInBounds_toArray, List.set_cons_zero, List.set_cons_succ]; rfl)
    refine E_take (hR := Ext.pre) (i := 9) (N := (some 68)) (v := ?vu4_9) (a' := ?au4_9) #[true, true, true, true, true, true, true, true, true, true, false, false, false, false, false, false, false, false, false, false, false, false, false, false, false, false, false, false, false, false, false, false, false] rfl rfl (by kernel_rfl) (fun _ _ _ h => h) (by rfl) ?hyu4_9 ?hau4_9 ?_
    case hyu4_9 =>
      intro w' hx
      go_simp
      with_reducible rfl
    case hau4_9 => (simp only [Act.put, List.setIfInBounds_toArray, List.set_cons_zero, List.set_cons_succ]; rfl)
    refine E_take (hR := Ext.pre) (i := 10) (N := (some 69)) (v := ?vu4_10) (a' := ?au4_10) #[true, true, true, true, true, true, true, true, true, true, true, false, false, false, false, false, false, false, false, false, false, false, false, false, false, false, false, false, false, false, false, false, false] rfl rfl (by kernel_rfl) (fun _ _ _ h => h) (by rfl) ?hyu4_10 ?hau4_10 ?_
    case hyu4_10 =>
      intro w' hx
      go_simp
      with_reducible rfl
    case hau4_10 => (simp only [Act.put, List.setIfInBounds_toArray, List.set_cons_zero, List.set_cons_succ]; rfl)
    refine E_take (hR := Ext.pre) (i := 11) (N := (some 70)) (v := ?vu4_11) (a' := ?au4_11) #[true, true, true, true, true, true, true, true, true, true, true, true, false, false, false, false, false, false, false, false, false, false, false, false, false, false, false, false, false, false, false, false, false] rfl rfl (by kernel_rfl) (fun _ _ _ h => h) (by rfl) ?hyu4_11 ?hau4_11 ?_
    case hyu4_11 =>
      intro w' hx
      go_simp
      with_reducible rfl
    case hau4_11 => (simp only [Act.put, List.setIfInBounds_toArray, List.set_cons_zero, List.set_cons_succ]; rfl)
    refine E_take (hR := Ext.pre) (i := 12) (N := (some 71)) (v := ?vu4_12) (a' := ?au4_12) #[true, true, true, true, true, true, true, true, true, true, true, true, true, false, false, false, false, false, false, false, false, false, false, false, false, false, false, false, false, false, false, false, false] rfl rfl (by kernel_rfl) (fun _ _ _ h => h) (by rfl) ?hyu4_12 ?hau4_12 ?_
    case hyu4_12 =>
      intro w' hx
      go_simp
      with_reducible rfl
    case hau4_12 => (simp only [Act.put, List.setIfInBounds_toArray, List.set_cons_zero, List.set_cons_succ]; rfl)
    refine E_take (hR := Ext.pre) (i := 13) (N := (some 72)) (v := ?vu4_13) (a' := ?au4_13) #[true, true, true, true, true, true, true, true, true, true, true, true, true, true, false, false, false, false, false, false, false, false, false, false, false, false, false, false, false, false, false, false, false] rfl rfl (by kernel_rfl) (fun _ _ _ h => h) (by rfl) ?hyu4_13 ?hau4_13 ?_
    case hyu4_13 =>
      intro w' hx
      go_simp
      with_reducible rfl
    case hau4_13 => (simp only [Act.put, List.setIfInBounds_toArray, List.set_cons_zero, List.set_cons_succ]; rfl)
    refine E_take (hR := Ext.pre) (i := 14) (N := (some 73)) (v := ?vu4_14) (a' := ?au4_14) #[true, true, true, true, true, true, true, true, true, true, true, true, true, true, true, false, false, false, false, false, false, false, false, false, false, false, false, false, false, false, false, false, false] rfl rfl (by kernel_rfl) (fun _ _ _ h => h) (by rfl) ?hyu4_14 ?hau4_14 ?_
    case hyu4_14 =>
      intro w' hx
      go_simp
      with_reducible rfl
    case hau4_14 => (simp only [Act.put, List.setIfInBounds_toArray, List.set_cons_zero, List.set_cons_succ]; rfl)
    refine E_take (hR := Ext.pre) (i := 15) (N := (some 74)) (v := ?vu4_15) (a' := ?au4_15) #[true, true, true, true, true, true, true, true, true, true, true, true, true, true, true, true, false, false, false, false, false, false, false, false, false, false, false, false, false, false, false, false, false] rfl rfl (by kernel_rfl) (fun _ _ _ h => h) (by rfl) ?hyu4_15 ?hau4_15 ?_
    case hyu4_15 =>
      intro w' hx
      go_simp
      with_reducible rfl
    case hau4_15 => (simp only [Act.put, List.setIfInBounds_toArray, List.set_cons_zero, List.set_cons_succ]; rfl)
    refine E_take (hR := Ext.pre) (i := 16) (N := (some 75)) (v := ?vu4_16) (a' := ?au4_16) #[true, true, true, true, true, true, true, true, true, true, true, true, true, true, true, true, true, false, false, false, false, false, false, false, false, false, false, false, false, false, false, false, false] rfl rfl (by kernel_rfl) (fun _ _ _ h => h) (by rfl) ?hyu4_16 ?hau4_16 ?_
    case hyu4_16 =>
      intro w' hx
      go_simp
      with_reducible rfl
    case hau4_16 => (simp only [Act.put, List.setIfInBounds_toArray, List.set_cons_zero, List.set_cons_succ]; rfl)
    refine E_take (hR := Ext.pre) (i := 17) (N := (some 76)) (v := ?vu4_17) (a' := ?au4_17) #[true, true, true, true, true, true, true, true, true, true, true, true, true, true, true, true, true, true, false, false, false, false, false, false, false, false, false, false, false, false, false, false, false] rfl rfl (by kernel_rfl) (fun _ _ _ h => h) (by rfl) ?hyu4_17 ?hau4_17 ?_
    case hyu4_17 =>
      intro w' hx
      go_simp
      with_reducible rfl
    case hau4_17 => (simp only [Act.put, List.setIfInBounds_toArray, List.set_cons_zero, List.set_cons_succ]; rfl)
    refine E_take (hR := Ext.pre) (i := 18) (N := (some 77)) (v := ?vu4_18) (a' := ?au4_18) #[true, true, true, true, true, true, true, true, true, true, true, true, true, true, true, true, true, true, true, false, false, false, false, false, false, false, false, false, false, false, false, false, false] rfl rfl (by kernel_rfl) (fun _ _ _ h => h) (by rfl) ?hyu4_18 ?hau4_18 ?_
    case hyu4_18 =>
      intro w' hx
      (first | (apply Eq.trans; (apply R_slice; rfl; rfl; (first | exact SB.no | exact SB.so | exact SB.lit (by decide)); (first | exact SB.no | exact SB.so | exact SB.lit (by decide)); rfl; rfl; (first | assumption | (focus (simp; done)) | (focus (simp; omega)) | omega); (first | assumption | (focus (simp; done)) | (focus (simp; omega)) | omega)); with_reducible rfl) | (go_simp; with_reducible rfl))
    case hau4_18 => (simp only [Act.put, List.setIfInBounds_toArray, List.set_cons_zero, List.set_cons_succ]; rfl)
    refine E_take (hR := Ext.pre) (i := 19) (N := (some 78)) (v := ?vu4_19) (a' := ?au4_19) #[true, true, true, true, true, true, true, true, true, true, true, true, true, true, true, true, true, true, true, true, false, false, false, false, false, false, false, false, false, false, false, false, false] rfl rfl (by kernel_rfl) (fun _ _ _ h => h) (by rfl) ?hyu4_19 ?hau4_19 ?_
    case hyu4_19 =>
      intro w' hx
      (apply Eq.trans; (apply R_strc Try.underlying26 Try.underlying5 Try.underlying9 (by rw [← S1.out]; exact RdB.sub (c := cx) ((hS.ext hx).ownRd (A := some ⟨gx, 0, none⟩) (by focus ((repeat (first | exact .here | apply At.there)); done))) (by rw [HXL.out]; exact HCX.out)) L1.out; rfl; rfl); with_reducible rfl)
    case hau4_19 => (simp only [Act.put, List.setIfInBounds_toArray, List.set_cons_zero, List.set_cons_succ]; rfl)
    refine E_take (hR := Ext.pre) (i := 20) (N := (some 79)) (v := ?vu4_20) (a' := ?au4_20) #[true, true, true, true, true, true, true, true, true, true, true, true, true, true, true, true, true, true, true, true, true, false, false, false, false, false, false, false, false, false, false, false, false] rfl rfl (by kernel_rfl) (fun _ _ _ h => h) (by rfl) ?hyu4_20 ?hau4_20 ?_
    case hyu4_20 =>
      intro w' hx
      go_simp
      with_reducible rfl
    case hau4_20 => (simp only [Act.put, List.setIfInBounds_toArray, List.set_cons_zero, List.set_cons_succ]; rfl)
    refine E_take (hR := Ext.pre) (i := 21) (N := (some 80)) (v := ?vu4_21) (a' := ?au4_21) #[true, true, true, true, true, true, true, true, true, true, true, true, true, true, true, true, true, true, true, true, true, true, false, false, false, false, false, false, false, false, false, false, false] rfl rfl (by kernel_rfl) (fun _ _ _ h => h) (by rfl) ?hyu4_21 ?hau4_21 ?_
    case hyu4_21 =>
      intro w' hx
      (apply Eq.trans; (apply R_strc Try.underlying26 Try.underlying5 Try.underlying9 ((hS.ext hx).ownRd (A := some ⟨gy, 0, none⟩) (by focus ((repeat (first | exact .here | apply At.there)); done))) L1.out; rfl; rfl); with_reducible rfl)
    case hau4_21 => (simp only [Act.put, List.setIfInBounds_toArray, List.set_cons_zero, List.set_cons_succ]; rfl)
    refine E_take (hR := Ext.pre) (i := 22) (N := (some 81)) (v := ?vu4_22) (a' := ?au4_22) #[true, true, true, true, true, true, true, true, true, true, true, true, true, true, true, true, true, true, true, true, true, true, true, false, false, false, false, false, false, false, false, false, false] rfl rfl (by kernel_rfl) (fun _ _ _ h => h) (by rfl) ?hyu4_22 ?hau4_22 ?_
    case hyu4_22 =>
      intro w' hx
      go_simp
      with_reducible rfl
    case hau4_22 => (simp only [Act.put, List.setIfInBounds_toArray, List.set_cons_zero, List.set_cons_succ]; rfl)
    refine E_take (hR := Ext.pre) (i := 23) (N := (some 82)) (v := ?vu4_23) (a' := ?au4_23) #[true, true, true, true, true, true, true, true, true, true, true, true, true, true, true, true, true, true, true, true, true, true, true, true, false, false, false, false, false, false, false, false, false] rfl rfl (by kernel_rfl) (fun _ _ _ h => h) (by rfl) ?hyu4_23 ?hau4_23 ?_
    case hyu4_23 =>
      intro w' hx
      go_simp
      with_reducible rfl
    case hau4_23 => (simp only [Act.put, List.setIfInBounds_toArray, List.set_cons_zero, List.set_cons_succ]; rfl)
    refine E_take (hR := Ext.pre) (i := 24) (N := (some 83)) (v := ?vu4_24) (a' := ?au4_24) #[true, true, true, true, true, true, true, true, true, true, true, true, true, true, true, true, true, true, true, true, true, true, true, true, true, false, false, false, false, false, false, false, false] rfl rfl (by kernel_rfl) (fun _ _ _ h => h) (by rfl) ?hyu4_24 ?hau4_24 ?_
    case hyu4_24 =>
      intro w' hx
      go_simp
      with_reducible rfl
    case hau4_24 => (simp only [Act.put, List.setIfInBounds_toArray, List.set_cons_zero, List.set_cons_succ]; rfl)
    refine E_take (hR := Ext.pre) (i := 25) (N := (some 84)) (v := ?vu4_25) (a' := ?au4_25) #[true, true, true, true, true, true, true, true, true, true, true, true, true, true, true, true, true, true, true, true, true, true, true, true, true, true, false, false, false, false, false, false, false] rfl rfl (by kernel_rfl) (fun _ _ _ h => h) (by rfl) ?hyu4_25 ?hau4_25 ?_
    case hyu4_25 =>
      intro w' hx
      go_simp
      with_reducible rfl
    case hau4_25 => (simp only [Act.put, List.setIfInBounds_toArray, List.set_cons_zero, List.set_cons_succ]; rfl)
    refine E_take (hR := Ext.pre) (i := 26) (N := (some 85)) (v := ?vu4_26) (a' := ?au4_26) #[true, true, true, true, true, true, true, true, true, true, true, true, true, true, true, true, true, true, true, true, true, true, true, true, true, true, true, false, false, false, false, false, false] rfl rfl (by kernel_rfl) (fun _ _ _ h => h) (by rfl) ?hyu4_26 ?hau4_26 ?_
    case hyu4_26 =>
      intro w' hx
      (apply Eq.trans; (apply R_strc Try.underlying26 Try.underlying5 Try.underlying9 ((hS.ext hx).ownRd (A := some ⟨gz, 0, none⟩) (by focus ((repeat (first | exact .here | apply At.there)); done))) L2.out; rfl; rfl); with_reducible rfl)
    case hau4_26 => (simp only [Act.put, List.setIfInBounds_toArray, List.set_cons_zero, List.set_cons_succ]; rfl)
    refine E_take (hR := Ext.pre) (i := 27) (N := (some 86)) (v := ?vu4_27) (a' := ?au4_27) #[true, true, true, true, true, true, true, true, true, true, true, true, true, true, true, true, true, true, true, true, true, true, true, true, true, true, true, true, false, false, false, false, false] rfl rfl (by kernel_rfl) (fun _ _ _ h => h) (by rfl) ?hyu4_27 ?hau4_27 ?_
    case hyu4_27 =>
      intro w' hx
      go_simp
      with_reducible rfl
    case hau4_27 => (simp only [Act.put, List.setIfInBounds_toArray, List.set_cons_zero, List.set_cons_succ]; rfl)
    refine E_take (hR := Ext.pre) (i := 28) (N := (some 87)) (v := ?vu4_28) (a' := ?au4_28) #[true, true, true, true, true, true, true, true, true, true, true, true, true, true, true, true, true, true, true, true, true, true, true, true, true, true, true, true, true, false, false, false, false] rfl rfl (by kernel_rfl) (fun _ _ _ h => h) (by rfl) ?hyu4_28 ?hau4_28 ?_
    case hyu4_28 =>
      intro w' hx
      (apply Eq.trans; (apply R_sliceA; rfl; rfl; rfl; rfl; (first | exact SB.no | exact SB.so | exact SB.lit (by decide)); (first | exact SB.no | exact SB.so | exact SB.lit (by decide)); (first | assumption | (focus (simp; done)) | (focus (simp; omega)) | omega); (first | assumption | (focus (simp; done)) | (focus (simp; omega)) | omega)); with_reducible rfl)
    case hau4_28 => (simp only [Act.put, List.setIfInBounds_toArray, List.set_cons_zero, List.set_cons_succ]; rfl)
    refine E_take (hR := Ext.pre) (i := 29) (N := (some 88)) (v := ?vu4_29) (a' := ?au4_29) #[true, true, true, true, true, true, true, true, true, true, true, true, true, true, true, true, true, true, true, true, true, true, true, true, true, true, true, true, true, true, false, false, false] rfl rfl (by kernel_rfl) (fun _ _ _ h => h) (by rfl) ?hyu4_29 ?hau4_29 ?_
    case hyu4_29 =>
      intro w' hx
      (apply Eq.trans; (apply R_strc Try.underlying26 Try.underlying5 Try.underlying9 (by rw [← S2.out]; exact RdB.sub (c := 64) ((hS.ext hx).blkRd (b := b5) (by focus ((repeat (first | exact .here | apply At.there)); done))) (by rw [HB.out]; decide)) L2.out; rfl; rfl); with_reducible rfl)
    case hau4_29 => (simp only [Act.put, List.setIfInBounds_toArray, List.set_cons_zero, List.set_cons_succ]; rfl)
    refine E_take (hR := Ext.pre) (i := 30) (N := (some 89)) (v := ?vu4_30) (a' := ?au4_30) #[true, true, true, true, true, true, true, true, true, true, true, true, true, true, true, true, true, true, true, true, true, true, true, true, true, true, true, true, true, true, true, false, false] rfl rfl (by kernel_rfl) (fun _ _ _ h => h) (by rfl) ?hyu4_30 ?hau4_30 ?_
    case hyu4_30 =>
      intro w' hx
      go_simp
      with_reducible rfl
    case hau4_30 => (simp only [Act.put, List.setIfInBounds_toArray, List.set_cons_zero, List.set_cons_succ]; rfl)
    refine E_take (hR := Ext.pre) (i := 31) (N := (some 90)) (v := ?vu4_31) (a' := ?au4_31) #[true, true, true, true, true, true, true, true, true, true, true, true, true, true, true, true, true, true, true, true, true, true, true, true, true, true, true, true, true, true, true, true, false] rfl rfl (by kernel_rfl) (fun _ _ _ h => h) (by rfl) ?hyu4_31 ?hau4_31 ?_
    case hyu4_31 =>
      intro w' hx
      go_simp
      with_reducible rfl
    case hau4_31 => (simp only [Act.put, List.setIfInBounds_toArray, List.set_cons_zero, List.set_cons_succ]; rfl)
    refine E_take (hR := Ext.pre) (i := 32) (N := (some 6)) (v := ?vu4_32) (a' := ?au4_32) #[true, true, true, true, true, true, true, true, true, true, true, true, true, true, true, true, true, true, true, true, true, true, true, true, true, true, true, true, true, true, true, true, true] rfl rfl (by kernel_rfl) (fun _ _ _ h => h) (by rfl) ?hyu4_32 ?hau4_32 ?_
    case hyu4_32 =>
      intro w' hx
      go_simp
      with_reducible rfl
    case hau4_32 => (simp only [Act.put, List.setIfInBounds_toArray, List.set_cons_zero, List.set_cons_succ]; rfl)
    refine E_done (by kernel_rfl) ?_
    go_wp2
    go_ret
    exact ⟨rfl, hS.below⟩
theorem places_row (z0 z1 z2 : List Int) (w : World) (h0 : z0.length = 64) (h1 : z1.length = 2) (h2 : z2.length = 64) (v0 : ∀ y ∈ z0, (Lit.int .u8 y).wf = true) (v2 : ∀ y ∈ z2, (Lit.int .u8 y).wf = true) :
    Calls Try.prog 5 #[.agg (z0.map (Value.int .u8)).toArray, .agg (z1.map (Value.int .i64)).toArray, .agg (z2.map (Value.int .u8)).toArray] w fun e w' => e = .returned (.bool true) ∧ Below w.heap.size w w' := by
  obtain ⟨k, k1, k2⟩ := ints_u8 z0 v0
  obtain ⟨b, b1, b2⟩ := ints_u8 z2 v2
  rw [k2, b2]
  match z1, h1 with
  | [m0, m1], _ => exact places_walk k b m0 m1 w (k1.trans h0) (b1.trans h2)
end Go.Proofs.Ythamhaomfdgdjaa
