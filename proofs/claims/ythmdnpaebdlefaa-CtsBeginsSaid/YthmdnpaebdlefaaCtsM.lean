/- The walk of CtsBegins. -/
import Derived.Test.YthmdnpaebdlefaaCtsW
import Derived.Test.YthmdnpaebdlefaaCtsT
import Derived.Test.YthmdnpaebdlefaaInts
import Derived.Test.YthmdnpaebdlefaaArr
import Derived.Test.YthmdnpaebdlefaaSlA
namespace Go.Proofs.Ythmdnpaebdlefaa
open Go.RowKit
set_option linter.unusedVariables false
set_option linter.unusedSimpArgs false

theorem str_eq_dec (x y : List UInt8) : ((str x).toList == (str y).toList) = decide (x = y) := by
  rw [str_toList, str_toList]
  by_cases h : x = y
  · subst h; simp
  · rw [decide_eq_false h]; simpa using h
theorem eq64 {a b : List UInt8} (ha : a.length = 64) (hb : b.length = 64) (w : World) :
    (binOp .eql 23 (.agg (a.map bV).toArray) (.agg (b.map bV).toArray)).run Try.prog w = .ok (.bool (decide (a = b))) w :=
  run_eql_flat (ls := List.replicate 64 (.int .u8)) (by kernel_rfl) (by kernel_rfl) (mtch_bytes a 64 ha) (mtch_bytes b 64 hb) map_bV_inj w
set_option maxRecDepth 8000 in
set_option maxHeartbeats 1600000 in
theorem begins_walk (key a b : List UInt8) (w : World) (hk : key.length = 32) (ha : a.length = 64) (hb : b.length = 64) :
    Calls Try.prog 3 #[.agg (key.map bV).toArray, .agg (a.map bV).toArray, .agg (b.map bV).toArray] w fun e w' => e = .returned (.bool true) ∧ Below w.heap.size w w' := by
  have hS := St.start w
  have HK := Lib.hid hk
  have HA := Lib.hid ha
  have HB := Lib.hid hb
  have HKL := Lib.hid (keysF_len hk)
  have hCP := ciph_aes (keysF_len hk)
  have hxl := ctsE_len hCP (b := a) (by omega)
  have hyl := ctsE_len hCP (b := b) (by omega)
  rw [ha] at hxl
  rw [hb] at hyl
  have hinj := cts_inj hCP (a := a) (b := b) (by omega) (by omega)
  have hbeg := fun j (hj : j ≤ 2) => cts_begin hCP ha hb hj
  have hla := Lib.hid (show (a.map bV).length = 64 by rw [List.length_map]; exact ha)
  have hlb := Lib.hid (show (b.map bV).length = 64 by rw [List.length_map]; exact hb)
  obtain ⟨q, hq⟩ : ∃ q, decide (a = b) = q := ⟨_, rfl⟩
  have f2 : ∀ wx, (binOp .eql 23 (.agg (a.map bV).toArray) (.agg (b.map bV).toArray)).run Try.prog wx = .ok (.bool q) wx := fun wx => by rw [eq64 ha hb, hq]
  have f1 : ((str (ctsE (encF (keysF key)) a)).toList == (str (ctsE (encF (keysF key)) b)).toList) = q := by rw [str_eq_dec, decide_eq_decide.2 hinj, hq]
  clear hk ha hb hCP hinj
  generalize hKK : keysF key = K at *
  have HKK := Lib.hid (show True → keysF key = K from fun _ => hKK)
  generalize hxx : ctsE (encF K) a = x at *
  generalize hyy : ctsE (encF K) b = y at *
  have HXX := Lib.hid (show True → ctsE (encF K) a = x from fun _ => hxx)
  have HYY := Lib.hid (show True → ctsE (encF K) b = y from fun _ => hyy)
  have HXL := Lib.hid (show x.length = 64 from hxl)
  have HYL := Lib.hid (show y.length = 64 from hyl)
  have HBEG := Lib.hid hbeg
  clear hKK hxx hyy hxl hyl hbeg hq
  go_enter Try.func3, Try.ntmps3
  go_upto_region 7 with (first | ((with_reducible show wpList _ _ _ (⟨some 3, Op.box _ _, _, _, _, _⟩ :: _) _ _); go_loud (apply S_box hS; rfl; rfl; (focus ((conv => lhs; whnf) <;> rfl)); rfl; clear hS; intro b3 w_ hS)) | ((with_reducible show wpList _ _ _ (⟨some 4, Op.box _ _, _, _, _, _⟩ :: _) _ _); go_loud (apply S_box hS; rfl; rfl; (focus ((conv => lhs; whnf) <;> rfl)); rfl; clear hS; intro b4 w_ hS)) | ((with_reducible show wpList _ _ _ (⟨some 5, Op.box _ _, _, _, _, _⟩ :: _) _ _); go_loud (apply S_box hS; rfl; rfl; (focus ((conv => lhs; whnf) <;> rfl)); rfl; clear hS; intro b5 w_ hS)) | (go_at_call 6; refine (awake_any _).mono ?_; rintro e w_ ⟨rfl, hb_⟩; replace hS := hS.ext hb_; clear hb_) | (go_at_call 7; refine (new_any (some ⟨b3, 0, none⟩) 32 key _ HK.out (hS.blkRd (b := b3) (by focus ((repeat (first | exact .here | apply At.there)); done))) (by decide)).mono ?_; rintro e w_ ⟨bX, rfl, hge_, hB_, hb_⟩; rw [HKK.out trivial] at hB_; replace hS := hS.gotBlk hb_ hge_ hB_; clear hb_ hge_ hB_) | (go_at_call 8; refine (ctsEnc_any bX (some ⟨b4, 0, none⟩) 64 64 K a _ HA.out (hS.blkRd (b := b4) (by focus ((repeat (first | exact .here | apply At.there)); done))) (by decide) (by decide) (by decide) HKL.out (hS.blkRd (b := bX) (by focus ((repeat (first | exact .here | apply At.there)); done))) (hS.blkLt (b := bX) (by focus ((repeat (first | exact .here | apply At.there)); done)))).mono ?_; rw [HXX.out trivial]; rintro e w_ ⟨gx, cx, rfl, ho_, hb_⟩; rw [HXL.out] at ho_ ⊢; replace hS := hS.got hb_ ho_; clear hb_ ho_))
  go_upto_region 8 with (first | (go_at_call 8; refine (ctsEnc_any bX (some ⟨b5, 0, none⟩) 64 64 K b _ HB.out (hS.blkRd (b := b5) (by focus ((repeat (first | exact .here | apply At.there)); done))) (by decide) (by decide) (by decide) HKL.out (hS.blkRd (b := bX) (by focus ((repeat (first | exact .here | apply At.there)); done))) (hS.blkLt (b := bX) (by focus ((repeat (first | exact .here | apply At.there)); done)))).mono ?_; rw [HYY.out trivial]; rintro e w_ ⟨gy, cy, rfl, ho_, hb_⟩; rw [HYL.out] at ho_ ⊢; replace hS := hS.got hb_ ho_; clear hb_ ho_))
  have hcx : 64 ≤ cx := hS.ownCap (A := some ⟨gx, 0, none⟩) (by focus ((repeat (first | exact .here | apply At.there)); done))
  have hcy : 64 ≤ cy := hS.ownCap (A := some ⟨gy, 0, none⟩) (by focus ((repeat (first | exact .here | apply At.there)); done))
  have HCX := Lib.hid hcx
  have HCY := Lib.hid hcy
  clear hcx hcy
  refine E_start (hR := Ext.pre) #[false, false, false, false, false, false, false, false, false, false, false, false, false, false, false, false, false, false, false] (by kernel_rfl) rfl rfl (fun w_r1 hx_r1 he_r1 => ?_)
  clear he_r1
  replace hS := hS.ext hx_r1; clear hx_r1
  refine E_take (hR := Ext.pre) (i := 0) (N := (some 37)) (v := ?vr1_0) (a' := ?ar1_0) #[true, false, false, false, false, false, false, false, false, false, false, false, false, false, false, false, false, false, false] rfl rfl (by kernel_rfl) (fun _ _ _ h => h) (by rfl) ?hyr1_0 ?har1_0 ?_
  case hyr1_0 =>
    intro w' hx
    go_simp
    with_reducible rfl
  case har1_0 => (simp only [Act.put, List.setIfInBounds_toArray, List.set_cons_zero, List.set_cons_succ]; rfl)
  refine E_take (hR := Ext.pre) (i := 1) (N := (some 38)) (v := ?vr1_1) (a' := ?ar1_1) #[true, true, false, false, false, false, false, false, false, false, false, false, false, false, false, false, false, false, false] rfl rfl (by kernel_rfl) (fun _ _ _ h => h) (by rfl) ?hyr1_1 ?har1_1 ?_
  case hyr1_1 =>
    intro w' hx
    go_simp
    with_reducible rfl
  case har1_1 => (simp only [Act.put, List.setIfInBounds_toArray, List.set_cons_zero, List.set_cons_succ]; rfl)
  refine E_take (hR := Ext.pre) (i := 2) (N := (some 39)) (v := ?vr1_2) (a' := ?ar1_2) #[true, true, true, false, false, false, false, false, false, false, false, false, false, false, false, false, false, false, false] rfl rfl (by kernel_rfl) (fun _ _ _ h => h) (by rfl) ?hyr1_2 ?har1_2 ?_
  case hyr1_2 =>
    intro w' hx
    go_simp
    with_reducible rfl
  case har1_2 => (simp only [Act.put, List.setIfInBounds_toArray, List.set_cons_zero, List.set_cons_succ]; rfl)
  refine E_take (hR := Ext.pre) (i := 3) (N := (some 40)) (v := ?vr1_3) (a' := ?ar1_3) #[true, true, true, true, false, false, false, false, false, false, false, false, false, false, false, false, false, false, false] rfl rfl (by kernel_rfl) (fun _ _ _ h => h) (by rfl) ?hyr1_3 ?har1_3 ?_
  case hyr1_3 =>
    intro w' hx
    go_simp
    with_reducible rfl
  case har1_3 => (simp only [Act.put, List.setIfInBounds_toArray, List.set_cons_zero, List.set_cons_succ]; rfl)
  refine E_take (hR := Ext.pre) (i := 4) (N := (some 41)) (v := ?vr1_4) (a' := ?ar1_4) #[true, true, true, true, true, false, false, false, false, false, false, false, false, false, false, false, false, false, false] rfl rfl (by kernel_rfl) (fun _ _ _ h => h) (by rfl) ?hyr1_4 ?har1_4 ?_
  case hyr1_4 =>
    intro w' hx
    go_simp
    with_reducible rfl
  case har1_4 => (simp only [Act.put, List.setIfInBounds_toArray, List.set_cons_zero, List.set_cons_succ]; rfl)
  refine E_take (hR := Ext.pre) (i := 5) (N := (some 42)) (v := ?vr1_5) (a' := ?ar1_5) #[true, true, true, true, true, true, false, false, false, false, false, false, false, false, false, false, false, false, false] rfl rfl (by kernel_rfl) (fun _ _ _ h => h) (by rfl) ?hyr1_5 ?har1_5 ?_
  case hyr1_5 =>
    intro w' hx
    go_simp
    with_reducible rfl
  case har1_5 => (simp only [Act.put, List.setIfInBounds_toArray, List.set_cons_zero, List.set_cons_succ]; rfl)
  refine E_take (hR := Ext.pre) (i := 6) (N := (some 43)) (v := ?vr1_6) (a' := ?ar1_6) #[true, true, true, true, true, true, true, false, false, false, false, false, false, false, false, false, false, false, false] rfl rfl (by kernel_rfl) (fun _ _ _ h => h) (by rfl) ?hyr1_6 ?har1_6 ?_
  case hyr1_6 =>
    intro w' hx
    go_simp
    with_reducible rfl
  case har1_6 => (simp only [Act.put, List.setIfInBounds_toArray, List.set_cons_zero, List.set_cons_succ]; rfl)
  refine E_take (hR := Ext.pre) (i := 7) (N := (some 44)) (v := ?vr1_7) (a' := ?ar1_7) #[true, true, true, true, true, true, true, true, false, false, false, false, false, false, false, false, false, false, false] rfl rfl (by kernel_rfl) (fun _ _ _ h => h) (by rfl) ?hyr1_7 ?har1_7 ?_
  case hyr1_7 =>
    intro w' hx
    go_simp
    with_reducible rfl
  case har1_7 => (simp only [Act.put, List.setIfInBounds_toArray, List.set_cons_zero, List.set_cons_succ]; rfl)
  refine E_take (hR := Ext.pre) (i := 8) (N := (some 45)) (v := ?vr1_8) (a' := ?ar1_8) #[true, true, true, true, true, true, true, true, true, false, false, false, false, false, false, false, false, false, false] rfl rfl (by kernel_rfl) (fun _ _ _ h => h) (by rfl) ?hyr1_8 ?har1_8 ?_
  case hyr1_8 =>
    intro w' hx
    go_simp
    with_reducible rfl
  case har1_8 => (simp only [Act.put, List.setIfInBounds_toArray, List.set_cons_zero, List.set_cons_succ]; rfl)
  refine E_take (hR := Ext.pre) (i := 9) (N := (some 46)) (v := ?vr1_9) (a' := ?ar1_9) #[true, true, true, true, true, true, true, true, true, true, false, false, false, false, false, false, false, false, false] rfl rfl (by kernel_rfl) (fun _ _ _ h => h) (by rfl) ?hyr1_9 ?har1_9 ?_
  case hyr1_9 =>
    intro w' hx
    go_simp
    with_reducible rfl
  case har1_9 => (simp only [Act.put, List.setIfInBounds_toArray, List.set_cons_zero, List.set_cons_succ]; rfl)
  refine E_take (hR := Ext.pre) (i := 10) (N := (some 47)) (v := ?vr1_10) (a' := ?ar1_10) #[true, true, true, true, true, true, true, true, true, true, true, false, false, false, false, false, false, false, false] rfl rfl (by kernel_rfl) (fun _ _ _ h => h) (by rfl) ?hyr1_10 ?har1_10 ?_
  case hyr1_10 =>
    intro w' hx
    (apply Eq.trans; (apply R_strc Try.underlying29 Try.underlying5 Try.underlying9 ((hS.ext hx).ownRd (A := some ⟨gx, 0, none⟩) (by focus ((repeat (first | exact .here | apply At.there)); done))) HXL.out; rfl; rfl); with_reducible rfl)
  case har1_10 => (simp only [Act.put, List.setIfInBounds_toArray, List.set_cons_zero, List.set_cons_succ]; rfl)
  refine E_take (hR := Ext.pre) (i := 11) (N := (some 48)) (v := ?vr1_11) (a' := ?ar1_11) #[true, true, true, true, true, true, true, true, true, true, true, true, false, false, false, false, false, false, false] rfl rfl (by kernel_rfl) (fun _ _ _ h => h) (by rfl) ?hyr1_11 ?har1_11 ?_
  case hyr1_11 =>
    intro w' hx
    go_simp
    with_reducible rfl
  case har1_11 => (simp only [Act.put, List.setIfInBounds_toArray, List.set_cons_zero, List.set_cons_succ]; rfl)
  refine E_take (hR := Ext.pre) (i := 12) (N := (some 49)) (v := ?vr1_12) (a' := ?ar1_12) #[true, true, true, true, true, true, true, true, true, true, true, true, true, false, false, false, false, false, false] rfl rfl (by kernel_rfl) (fun _ _ _ h => h) (by rfl) ?hyr1_12 ?har1_12 ?_
  case hyr1_12 =>
    intro w' hx
    (apply Eq.trans; (apply R_strc Try.underlying29 Try.underlying5 Try.underlying9 ((hS.ext hx).ownRd (A := some ⟨gy, 0, none⟩) (by focus ((repeat (first | exact .here | apply At.there)); done))) HYL.out; rfl; rfl); with_reducible rfl)
  case har1_12 => (simp only [Act.put, List.setIfInBounds_toArray, List.set_cons_zero, List.set_cons_succ]; rfl)
  refine E_take (hR := Ext.pre) (i := 13) (N := (some 50)) (v := ?vr1_13) (a' := ?ar1_13) #[true, true, true, true, true, true, true, true, true, true, true, true, true, true, false, false, false, false, false] rfl rfl (by kernel_rfl) (fun _ _ _ h => h) (by rfl) ?hyr1_13 ?har1_13 ?_
  case hyr1_13 =>
    intro w' hx
    go_simp
    with_reducible rfl
  case har1_13 => (simp only [Act.put, List.setIfInBounds_toArray, List.set_cons_zero, List.set_cons_succ]; rfl)
  refine E_take (hR := Ext.pre) (i := 14) (N := (some 51)) (v := ?vr1_14) (a' := ?ar1_14) #[true, true, true, true, true, true, true, true, true, true, true, true, true, true, true, false, false, false, false] rfl rfl (by kernel_rfl) (fun _ _ _ h => h) (by rfl) ?hyr1_14 ?har1_14 ?_
  case hyr1_14 =>
    intro w' hx
    (apply Eq.trans; (apply R_ldPartQ (n := 64) (hS.ext hx); rfl; rfl; (focus ((repeat (first | exact .here | apply At.there)); done)); rfl; rfl; ((rw [hla.out]; decide)); exact (List.take_of_length_le (by rw [List.drop_zero, hla.out]; decide))); with_reducible rfl)
  case har1_14 => (simp only [Act.put, List.setIfInBounds_toArray, List.set_cons_zero, List.set_cons_succ]; rfl)
  refine E_take (hR := Ext.pre) (i := 15) (N := (some 52)) (v := ?vr1_15) (a' := ?ar1_15) #[true, true, true, true, true, true, true, true, true, true, true, true, true, true, true, true, false, false, false] rfl rfl (by kernel_rfl) (fun _ _ _ h => h) (by rfl) ?hyr1_15 ?har1_15 ?_
  case hyr1_15 =>
    intro w' hx
    (apply Eq.trans; (apply R_ldPartQ (n := 64) (hS.ext hx); rfl; rfl; (focus ((repeat (first | exact .here | apply At.there)); done)); rfl; rfl; ((rw [hlb.out]; decide)); exact (List.take_of_length_le (by rw [List.drop_zero, hlb.out]; decide))); with_reducible rfl)
  case har1_15 => (simp only [Act.put, List.setIfInBounds_toArray, List.set_cons_zero, List.set_cons_succ]; rfl)
  refine E_take (hR := Ext.pre) (i := 16) (N := (some 53)) (v := ?vr1_16) (a' := ?ar1_16) #[true, true, true, true, true, true, true, true, true, true, true, true, true, true, true, true, true, false, false] rfl rfl (by kernel_rfl) (fun _ _ _ h => h) (by rfl) ?hyr1_16 ?har1_16 ?_
  case hyr1_16 =>
    intro w' hx
    go_simp
    with_reducible rfl
  case har1_16 => (simp only [Act.put, List.setIfInBounds_toArray, List.set_cons_zero, List.set_cons_succ]; rfl)
  refine E_take (hR := Ext.pre) (i := 17) (N := (some 54)) (v := ?vr1_17) (a' := ?ar1_17) #[true, true, true, true, true, true, true, true, true, true, true, true, true, true, true, true, true, true, false] rfl rfl (by kernel_rfl) (fun _ _ _ h => h) (by rfl) ?hyr1_17 ?har1_17 ?_
  case hyr1_17 =>
    intro w' hx
    go_simp
    with_reducible rfl
  case har1_17 => (simp only [Act.put, List.setIfInBounds_toArray, List.set_cons_zero, List.set_cons_succ]; rfl)
  refine E_take (hR := Ext.pre) (i := 18) (N := (some 55)) (v := ?vr1_18) (a' := ?ar1_18) #[true, true, true, true, true, true, true, true, true, true, true, true, true, true, true, true, true, true, true] rfl rfl (by kernel_rfl) (fun _ _ _ h => h) (by rfl) ?hyr1_18 ?har1_18 ?_
  case hyr1_18 =>
    intro w' hx
    go_simp
    with_reducible rfl
  case har1_18 => (simp only [Act.put, List.setIfInBounds_toArray, List.set_cons_zero, List.set_cons_succ]; rfl)
  refine E_done (by kernel_rfl) ?_
  clear f1 f2
  go_wp2
  go_loopw [13] (fun i wr => ∃ l : Nat, i = .int .i64 (l : Int) ∧ (l = 16 ∨ l = 32 ∨ l = 48) ∧ St (Kp w) w wr [.own 5 1 (.slice (some ⟨gy, 0, none⟩) 64 cy) 64 (y.map bV), .own 5 1 (.slice (some ⟨gx, 0, none⟩) 64 cx) 64 (x.map bV), .blk bX 42 (ciC K), .blk b5 23 (b.map bV), .blk b4 23 (a.map bV), .blk b3 22 (key.map bV)]) (fun i _ => 48 - (intOf i).toNat)
  case atStart => exact ⟨16, rfl, .inl rfl, hS⟩
  case round =>
    clear hS
    obtain ⟨l, rfl, hl, hS⟩ := hrel
    by_cases hlt : l ≤ 32
    · have hl64 : l ≤ 64 := by omega
      have hj := HBEG.out (l / 16) (by omega)
      rw [show 16 * (l / 16) = l by omega] at hj
      obtain ⟨q2, hq2⟩ : ∃ q, decide (a.take l = b.take l) = q := ⟨_, rfl⟩
      obtain ⟨s1, hs1⟩ : ∃ s, (x.take l).drop 0 = s := ⟨_, rfl⟩
      obtain ⟨s2, hs2⟩ : ∃ s, (y.take l).drop 0 = s := ⟨_, rfl⟩
      obtain ⟨s3, hs3⟩ : ∃ s, (a.take l).drop 0 = s := ⟨_, rfl⟩
      obtain ⟨s4, hs4⟩ : ∃ s, (b.take l).drop 0 = s := ⟨_, rfl⟩
      have f3 : ((str s3).toList == (str s4).toList) = q2 := by rw [str_eq_dec, ← hs3, ← hs4, List.drop_zero, List.drop_zero, hq2]
      have f4 : ((str s1).toList == (str s2).toList) = q2 := by rw [str_eq_dec, ← hs1, ← hs2, List.drop_zero, List.drop_zero, decide_eq_decide.2 hj, hq2]
      have L1 := Lib.hid (show s1.length = l by rw [← hs1, List.drop_zero, List.length_take, HXL.out]; omega)
      have L2 := Lib.hid (show s2.length = l by rw [← hs2, List.drop_zero, List.length_take, HYL.out]; omega)
      have L3 := Lib.hid (show s3.length = l by rw [← hs3, List.drop_zero, List.length_take, HA.out]; omega)
      have L4 := Lib.hid (show s4.length = l by rw [← hs4, List.drop_zero, List.length_take, HB.out]; omega)
      have S1 := Lib.hid hs1
      have S2 := Lib.hid hs2
      have S3 := Lib.hid hs3
      have S4 := Lib.hid hs4
      have hlc : l ≤ cx := by have := HCX.out; omega
      have hld : l ≤ cy := by have := HCY.out; omega
      have HL := Lib.hid hl
      clear hs1 hs2 hs3 hs4 hj hl hq2
      go_upto_region 13 with (fail)
      refine E_start (hR := Ext.pre) #[false, false, false, false, false, false, false, false, false, false, false, false, false, false, false, false, false] (by kernel_rfl) rfl rfl (fun w_r2 hx_r2 he_r2 => ?_)
      clear he_r2
      replace hS := hS.ext hx_r2; clear hx_r2
      refine E_take (hR := Ext.pre) (i := 0) (N := (some 60)) (v := ?vr2_0) (a' := ?ar2_0) #[true, false, false, false, false, false, false, false, false, false, false, false, false, false, false, false, false] rfl rfl (by kernel_rfl) (fun _ _ _ h => h) (by rfl) ?hyr2_0 ?har2_0 ?_
      case hyr2_0 =>
        intro w' hx
        go_simp
        with_reducible rfl
      case har2_0 => (simp only [Act.put, List.setIfInBounds_toArray, List.set_cons_zero, List.set_cons_succ]; rfl)
      refine E_take (hR := Ext.pre) (i := 1) (N := (some 61)) (v := ?vr2_1) (a' := ?ar2_1) #[true, true, false, false, false, false, false, false, false, false, false, false, false, false, false, false, false] rfl rfl (by kernel_rfl) (fun _ _ _ h => h) (by rfl) ?hyr2_1 ?har2_1 ?_
      case hyr2_1 =>
        intro w' hx
        go_simp
        with_reducible rfl
      case har2_1 => (simp only [Act.put, List.setIfInBounds_toArray, List.set_cons_zero, List.set_cons_succ]; rfl)
      refine E_take (hR := Ext.pre) (i := 2) (N := (some 62)) (v := ?vr2_2) (a' := ?ar2_2) #[true, true, true, false, false, false, false, false, false, false, false, false, false, false, false, false, false] rfl rfl (by kernel_rfl) (fun _ _ _ h => h) (by rfl) ?hyr2_2 ?har2_2 ?_
      case hyr2_2 =>
        intro w' hx
        (first | (apply Eq.trans; (apply R_slice; rfl; rfl; (first | exact SB.no | exact SB.so | exact SB.lit (by decide)); (first | exact SB.no | exact SB.so | exact SB.lit (by decide)); rfl; rfl; (first | assumption | (focus (simp; done)) | (focus (simp; omega)) | omega); (first | assumption | (focus (simp; done)) | (focus (simp; omega)) | omega)); with_reducible rfl) | (go_simp; with_reducible rfl))
      case har2_2 => (simp only [Act.put, List.setIfInBounds_toArray, List.set_cons_zero, List.set_cons_succ]; rfl)
      refine E_take (hR := Ext.pre) (i := 3) (N := (some 63)) (v := ?vr2_3) (a' := ?ar2_3) #[true, true, true, true, false, false, false, false, false, false, false, false, false, false, false, false, false] rfl rfl (by kernel_rfl) (fun _ _ _ h => h) (by rfl) ?hyr2_3 ?har2_3 ?_
      case hyr2_3 =>
        intro w' hx
        (apply Eq.trans; (apply R_strc Try.underlying29 Try.underlying5 Try.underlying9 (by rw [← S1.out]; exact RdB.sub ((hS.ext hx).ownRd (A := some ⟨gx, 0, none⟩) (by focus ((repeat (first | exact .here | apply At.there)); done))) (by rw [HXL.out]; exact HCX.out)) L1.out; rfl; rfl); with_reducible rfl)
      case har2_3 => (simp only [Act.put, List.setIfInBounds_toArray, List.set_cons_zero, List.set_cons_succ]; rfl)
      refine E_take (hR := Ext.pre) (i := 4) (N := (some 64)) (v := ?vr2_4) (a' := ?ar2_4) #[true, true, true, true, true, false, false, false, false, false, false, false, false, false, false, false, false] rfl rfl (by kernel_rfl) (fun _ _ _ h => h) (by rfl) ?hyr2_4 ?har2_4 ?_
      case hyr2_4 =>
        intro w' hx
        go_simp
        with_reducible rfl
      case har2_4 => (simp only [Act.put, List.setIfInBounds_toArray, List.set_cons_zero, List.set_cons_succ]; rfl)
      refine E_take (hR := Ext.pre) (i := 5) (N := (some 65)) (v := ?vr2_5) (a' := ?ar2_5) #[true, true, true, true, true, true, false, false, false, false, false, false, false, false, false, false, false] rfl rfl (by kernel_rfl) (fun _ _ _ h => h) (by rfl) ?hyr2_5 ?har2_5 ?_
      case hyr2_5 =>
        intro w' hx
        go_simp
        with_reducible rfl
      case har2_5 => (simp only [Act.put, List.setIfInBounds_toArray, List.set_cons_zero, List.set_cons_succ]; rfl)
      refine E_take (hR := Ext.pre) (i := 6) (N := (some 66)) (v := ?vr2_6) (a' := ?ar2_6) #[true, true, true, true, true, true, true, false, false, false, false, false, false, false, false, false, false] rfl rfl (by kernel_rfl) (fun _ _ _ h => h) (by rfl) ?hyr2_6 ?har2_6 ?_
      case hyr2_6 =>
        intro w' hx
        (first | (apply Eq.trans; (apply R_slice; rfl; rfl; (first | exact SB.no | exact SB.so | exact SB.lit (by decide)); (first | exact SB.no | exact SB.so | exact SB.lit (by decide)); rfl; rfl; (first | assumption | (focus (simp; done)) | (focus (simp; omega)) | omega); (first | assumption | (focus (simp; done)) | (focus (simp; omega)) | omega)); with_reducible rfl) | (go_simp; with_reducible rfl))
      case har2_6 => (simp only [Act.put, List.setIfInBounds_toArray, List.set_cons_zero, List.set_cons_succ]; rfl)
      refine E_take (hR := Ext.pre) (i := 7) (N := (some 67)) (v := ?vr2_7) (a' := ?ar2_7) #[true, true, true, true, true, true, true, true, false, false, false, false, false, false, false, false, false] rfl rfl (by kernel_rfl) (fun _ _ _ h => h) (by rfl) ?hyr2_7 ?har2_7 ?_
      case hyr2_7 =>
        intro w' hx
        (apply Eq.trans; (apply R_strc Try.underlying29 Try.underlying5 Try.underlying9 (by rw [← S2.out]; exact RdB.sub ((hS.ext hx).ownRd (A := some ⟨gy, 0, none⟩) (by focus ((repeat (first | exact .here | apply At.there)); done))) (by rw [HYL.out]; exact HCY.out)) L2.out; rfl; rfl); with_reducible rfl)
      case har2_7 => (simp only [Act.put, List.setIfInBounds_toArray, List.set_cons_zero, List.set_cons_succ]; rfl)
      refine E_take (hR := Ext.pre) (i := 8) (N := (some 68)) (v := ?vr2_8) (a' := ?ar2_8) #[true, true, true, true, true, true, true, true, true, false, false, false, false, false, false, false, false] rfl rfl (by kernel_rfl) (fun _ _ _ h => h) (by rfl) ?hyr2_8 ?har2_8 ?_
      case hyr2_8 =>
        intro w' hx
        go_simp
        with_reducible rfl
      case har2_8 => (simp only [Act.put, List.setIfInBounds_toArray, List.set_cons_zero, List.set_cons_succ]; rfl)
      refine E_take (hR := Ext.pre) (i := 9) (N := (some 69)) (v := ?vr2_9) (a' := ?ar2_9) #[true, true, true, true, true, true, true, true, true, true, false, false, false, false, false, false, false] rfl rfl (by kernel_rfl) (fun _ _ _ h => h) (by rfl) ?hyr2_9 ?har2_9 ?_
      case hyr2_9 =>
        intro w' hx
        go_simp
        with_reducible rfl
      case har2_9 => (simp only [Act.put, List.setIfInBounds_toArray, List.set_cons_zero, List.set_cons_succ]; rfl)
      refine E_take (hR := Ext.pre) (i := 10) (N := (some 70)) (v := ?vr2_10) (a' := ?ar2_10) #[true, true, true, true, true, true, true, true, true, true, true, false, false, false, false, false, false] rfl rfl (by kernel_rfl) (fun _ _ _ h => h) (by rfl) ?hyr2_10 ?har2_10 ?_
      case hyr2_10 =>
        intro w' hx
        (apply Eq.trans; (apply R_sliceA; rfl; rfl; rfl; rfl; (first | exact SB.no | exact SB.so | exact SB.lit (by decide)); (first | exact SB.no | exact SB.so | exact SB.lit (by decide)); (first | assumption | (focus (simp; done)) | (focus (simp; omega)) | omega); (first | assumption | (focus (simp; done)) | (focus (simp; omega)) | omega)); with_reducible rfl)
      case har2_10 => (simp only [Act.put, List.setIfInBounds_toArray, List.set_cons_zero, List.set_cons_succ]; rfl)
      refine E_take (hR := Ext.pre) (i := 11) (N := (some 71)) (v := ?vr2_11) (a' := ?ar2_11) #[true, true, true, true, true, true, true, true, true, true, true, true, false, false, false, false, false] rfl rfl (by kernel_rfl) (fun _ _ _ h => h) (by rfl) ?hyr2_11 ?har2_11 ?_
      case hyr2_11 =>
        intro w' hx
        (apply Eq.trans; (apply R_strc Try.underlying29 Try.underlying5 Try.underlying9 (by rw [← S3.out]; exact RdB.sub (c := 64) ((hS.ext hx).blkRd (b := b4) (by focus ((repeat (first | exact .here | apply At.there)); done))) (by rw [HA.out]; decide)) L3.out; rfl; rfl); with_reducible rfl)
      case har2_11 => (simp only [Act.put, List.setIfInBounds_toArray, List.set_cons_zero, List.set_cons_succ]; rfl)
      refine E_take (hR := Ext.pre) (i := 12) (N := (some 72)) (v := ?vr2_12) (a' := ?ar2_12) #[true, true, true, true, true, true, true, true, true, true, true, true, true, false, false, false, false] rfl rfl (by kernel_rfl) (fun _ _ _ h => h) (by rfl) ?hyr2_12 ?har2_12 ?_
      case hyr2_12 =>
        intro w' hx
        go_simp
        with_reducible rfl
      case har2_12 => (simp only [Act.put, List.setIfInBounds_toArray, List.set_cons_zero, List.set_cons_succ]; rfl)
      refine E_take (hR := Ext.pre) (i := 13) (N := (some 73)) (v := ?vr2_13) (a' := ?ar2_13) #[true, true, true, true, true, true, true, true, true, true, true, true, true, true, false, false, false] rfl rfl (by kernel_rfl) (fun _ _ _ h => h) (by rfl) ?hyr2_13 ?har2_13 ?_
      case hyr2_13 =>
        intro w' hx
        (apply Eq.trans; (apply R_sliceA; rfl; rfl; rfl; rfl; (first | exact SB.no | exact SB.so | exact SB.lit (by decide)); (first | exact SB.no | exact SB.so | exact SB.lit (by decide)); (first | assumption | (focus (simp; done)) | (focus (simp; omega)) | omega); (first | assumption | (focus (simp; done)) | (focus (simp; omega)) | omega)); with_reducible rfl)
      case har2_13 => (simp only [Act.put, List.setIfInBounds_toArray, List.set_cons_zero, List.set_cons_succ]; rfl)
      refine E_take (hR := Ext.pre) (i := 14) (N := (some 74)) (v := ?vr2_14) (a' := ?ar2_14) #[true, true, true, true, true, true, true, true, true, true, true, true, true, true, true, false, false] rfl rfl (by kernel_rfl) (fun _ _ _ h => h) (by rfl) ?hyr2_14 ?har2_14 ?_
      case hyr2_14 =>
        intro w' hx
        (apply Eq.trans; (apply R_strc Try.underlying29 Try.underlying5 Try.underlying9 (by rw [← S4.out]; exact RdB.sub (c := 64) ((hS.ext hx).blkRd (b := b5) (by focus ((repeat (first | exact .here | apply At.there)); done))) (by rw [HB.out]; decide)) L4.out; rfl; rfl); with_reducible rfl)
      case har2_14 => (simp only [Act.put, List.setIfInBounds_toArray, List.set_cons_zero, List.set_cons_succ]; rfl)
      refine E_take (hR := Ext.pre) (i := 15) (N := (some 75)) (v := ?vr2_15) (a' := ?ar2_15) #[true, true, true, true, true, true, true, true, true, true, true, true, true, true, true, true, false] rfl rfl (by kernel_rfl) (fun _ _ _ h => h) (by rfl) ?hyr2_15 ?har2_15 ?_
      case hyr2_15 =>
        intro w' hx
        go_simp
        with_reducible rfl
      case har2_15 => (simp only [Act.put, List.setIfInBounds_toArray, List.set_cons_zero, List.set_cons_succ]; rfl)
      refine E_take (hR := Ext.pre) (i := 16) (N := (some 76)) (v := ?vr2_16) (a' := ?ar2_16) #[true, true, true, true, true, true, true, true, true, true, true, true, true, true, true, true, true] rfl rfl (by kernel_rfl) (fun _ _ _ h => h) (by rfl) ?hyr2_16 ?har2_16 ?_
      case hyr2_16 =>
        intro w' hx
        go_simp
        with_reducible rfl
      case har2_16 => (simp only [Act.put, List.setIfInBounds_toArray, List.set_cons_zero, List.set_cons_succ]; rfl)
      refine E_done (by kernel_rfl) ?_
      go_wp2
      go_roundw
      case rel => exact ⟨l + 16, by go_num, by have := HL.out; omega, hS⟩
      case measure => simp [intOf]; omega
    · have h48 : l = 48 := by omega
      subst h48
      go_wp2
      go_ret
      exact ⟨rfl, hS.below⟩
theorem begins_row (z0 z1 z2 : List Int) (w : World) (h0 : z0.length = 32) (h1 : z1.length = 64) (h2 : z2.length = 64) (v0 : ∀ y ∈ z0, (Lit.int .u8 y).wf = true) (v1 : ∀ y ∈ z1, (Lit.int .u8 y).wf = true) (v2 : ∀ y ∈ z2, (Lit.int .u8 y).wf = true) :
    Calls Try.prog 3 #[.agg (z0.map (Value.int .u8)).toArray, .agg (z1.map (Value.int .u8)).toArray, .agg (z2.map (Value.int .u8)).toArray] w fun e w' => e = .returned (.bool true) ∧ Below w.heap.size w w' := by
  obtain ⟨k, k1, k2⟩ := ints_u8 z0 v0
  obtain ⟨a, a1, a2⟩ := ints_u8 z1 v1
  obtain ⟨b, b1, b2⟩ := ints_u8 z2 v2
  rw [k2, a2, b2]
  exact begins_walk k a b w (k1.trans h0) (a1.trans h1) (b1.trans h2)
end Go.Proofs.Ythmdnpaebdlefaa
