/- The walk of XtsBlocks. -/
import Derived.Test.YthamhaomfdgdjaaXtsL
import Derived.Test.YthamhaomfdgdjaaSlB
import Derived.Test.YthamhaomfdgdjaaOpn
namespace Go.Proofs.Ythamhaomfdgdjaa
open Go.RowKit
set_option linter.unusedVariables false
set_option linter.unusedSimpArgs false

theorem open96 {cs : List Value} (h : mtchW (List.replicate 96 (.int .u8)) cs) : ∃ x : List UInt8, x.length = 96 ∧ cs = x.map bV := mtchW_bytes 96 h
theorem str_eq_dec (x y : List UInt8) : ((str x).toList == (str y).toList) = decide (x = y) := by
  rw [str_toList, str_toList]
  by_cases h : x = y
  · subst h; simp
  · rw [decide_eq_false h]; simpa using h
theorem lo48 {w : World} {b : Nat} {bb : List UInt8} (h : Rd w (some ⟨b, 0, none⟩) (bb.map bV)) : RdB w (some ⟨b, 0, none⟩) (bb.take 48) := RdB.take h 48
theorem hi48 {w : World} {b : Nat} {bb : List UInt8} (h : Rd w (some ⟨b, 0, none⟩) (bb.map bV)) : RdB w (some ⟨b, 48, none⟩) (bb.drop 48) := by
  have := h.drop 48
  rw [← List.map_drop, Nat.zero_add] at this
  exact this
theorem xts_blk {key a c : List UInt8} {num : Int} (hk : key.length = 64) (ha : a.length = 48) (hc : c.length = 48) {l : Nat} (hl : l % 16 = 0) (hl2 : l < 48) :
    (((xtsE key num a).take (l + 16)).drop l = ((xtsE key num c).take (l + 16)).drop l) ↔ ((a.take (l + 16)).drop l = (c.take (l + 16)).drop l) := by
  have hF : ∀ b : List UInt8, b.length = 16 → (encF (keysF (key1 key)) b).length = 16 := fun x hx => encF_len (keysF_len (key1_len hk)) hx
  have ht := encF_len (keysF_len (key2_len hk)) (le16_len num)
  have h1 := xtsT_block hF ht (b := a) (k := l / 16) (by omega) (by omega)
  have h2 := xtsT_block hF ht (b := c) (k := l / 16) (by omega) (by omega)
  rw [show 16 * (l / 16) = l by omega] at h1 h2
  unfold xtsE
  rw [h1, h2]
  exact one_inj hF (fun x hx => dec_enc (keysF_len (key1_len hk)) hx) (by rw [twk_len, ht]) (by rw [List.length_drop, List.length_take]; omega) (by rw [List.length_drop, List.length_take]; omega)

set_option maxRecDepth 8000 in
set_option maxHeartbeats 3200000 in
theorem blocks_walk (key bb : List UInt8) (num : Int) (w : World) (hk : key.length = 64) (hb : bb.length = 96) :
    Calls Try.prog 3 #[.agg (key.map bV).toArray, .int .i64 num, .agg (bb.map bV).toArray] w fun e w' => e = .returned (.bool true) ∧ Below w.heap.size w w' := by
  have hS := St.start w
  by_cases hneg : num < 0
  · clear hk hb
    go_enter Try.func3, Try.ntmps3
    go_wp2_with (first | ((with_reducible show wpList _ _ _ (⟨_, _, _, _, _, some (_, _)⟩ :: _) _ _); go_loud (first | (apply S_guardT; rfl; rfl; first | rfl | assumption) | (apply S_guardF; rfl; rfl; first | rfl | assumption) | (apply S_guard; rfl; rfl; all_goals intro hg_))) | ((with_reducible show wpList _ _ _ (⟨some 3, Op.box _ _, _, _, _, _⟩ :: _) _ _); go_loud (apply S_box hS; rfl; rfl; (focus ((conv => lhs; whnf) <;> rfl)); rfl; clear hS; intro b3 w_ hS)) | ((with_reducible show wpList _ _ _ (⟨some 5, Op.box _ _, _, _, _, _⟩ :: _) _ _); go_loud (apply S_box hS; rfl; rfl; (focus ((conv => lhs; whnf) <;> rfl)); rfl; clear hS; intro b5 w_ hS)) | (go_at_call 6; refine (awake_any _).mono ?_; rintro e w_ ⟨rfl, hb_⟩; replace hS := hS.ext hb_; clear hb_))
    go_ret
    exact ⟨rfl, hS.below⟩
  · have hpos : 0 ≤ num := by omega
    obtain ⟨a, haa⟩ : ∃ a, bb.take 48 = a := ⟨_, rfl⟩
    obtain ⟨c, hcc⟩ : ∃ c, bb.drop 48 = c := ⟨_, rfl⟩
    have ha : a.length = 48 := by rw [← haa, List.length_take, hb]; rfl
    have hc : c.length = 48 := by rw [← hcc, List.length_drop, hb]
    have hXL : (xtsE key num a).length = 48 := by rw [xtsE_len hk (by rw [ha]), ha]
    have hYL : (xtsE key num c).length = 48 := by rw [xtsE_len hk (by rw [hc]), hc]
    have hblk := fun l (h1 : l % 16 = 0) (h2 : l < 48) => xts_blk (num := num) hk ha hc h1 h2
    generalize hX : xtsE key num a = X at *
    generalize hY : xtsE key num c = Y at *
    have HK := Lib.hid hk
    have HA := Lib.hid ha
    have HC := Lib.hid hc
    have HAA := Lib.hid haa
    have HCC := Lib.hid hcc
    have HXX := Lib.hid (show True → xtsE key num a = X from fun _ => hX)
    have HYY := Lib.hid (show True → xtsE key num c = Y from fun _ => hY)
    have HXL := Lib.hid hXL
    have HYL := Lib.hid hYL
    have HBLK := Lib.hid hblk
    clear hk hb hneg haa hcc ha hc hXL hYL hblk hX hY
    go_enter Try.func3, Try.ntmps3
    go_upto_region 3 with (first | ((with_reducible show wpList _ _ _ (⟨_, _, _, _, _, some (_, _)⟩ :: _) _ _); go_loud (first | (apply S_guardT; rfl; rfl; first | rfl | assumption) | (apply S_guardF; rfl; rfl; first | rfl | assumption) | (apply S_guard; rfl; rfl; all_goals intro hg_))) | ((with_reducible show wpList _ _ _ (⟨some 3, Op.box _ _, _, _, _, _⟩ :: _) _ _); go_loud (apply S_box hS; rfl; rfl; (focus ((conv => lhs; whnf) <;> rfl)); rfl; clear hS; intro b3 w_ hS)) | ((with_reducible show wpList _ _ _ (⟨some 5, Op.box _ _, _, _, _, _⟩ :: _) _ _); go_loud (apply S_box hS; rfl; rfl; (focus ((conv => lhs; whnf) <;> rfl)); rfl; clear hS; intro b5 w_ hS)) | (go_at_call 6; refine (awake_any _).mono ?_; rintro e w_ ⟨rfl, hb_⟩; replace hS := hS.ext hb_; clear hb_))
    refine E_start (hR := Ext.pre) #[false, false, false, false, false, false, false, false, false, false] (by kernel_rfl) rfl rfl (fun w_r1 hx_r1 he_r1 => ?_)
    clear he_r1
    replace hS := hS.ext hx_r1; clear hx_r1
    refine E_take (hR := Ext.pre) (i := 0) (N := (some 20)) (v := ?vr1_0) (a' := ?ar1_0) #[true, false, false, false, false, false, false, false, false, false] rfl rfl (by kernel_rfl) (fun _ _ _ h => h) (by rfl) ?hyr1_0 ?har1_0 ?_
    case hyr1_0 =>
      intro w' hx
      (first | (apply Eq.trans; (apply R_slice; rfl; rfl; (first | exact SB.no | exact SB.so | exact SB.lit (by decide)); (first | exact SB.no | exact SB.so | exact SB.lit (by decide)); rfl; rfl; (first | assumption | (focus (simp; done)) | (focus (simp; omega)) | omega); (first | assumption | (focus (simp; done)) | (focus (simp; omega)) | omega)); with_reducible rfl) | (go_simp; with_reducible rfl))
    case har1_0 => (simp only [Act.put, List.setIfInBounds_toArray, List.set_cons_zero, List.set_cons_succ]; rfl)
    refine E_take (hR := Ext.pre) (i := 1) (N := (some 21)) (v := ?vr1_1) (a' := ?ar1_1) #[true, true, false, false, false, false, false, false, false, false] rfl rfl (by kernel_rfl) (fun _ _ _ h => h) (by rfl) ?hyr1_1 ?har1_1 ?_
    case hyr1_1 =>
      intro w' hx
      go_simp
      with_reducible rfl
    case har1_1 => (simp only [Act.put, List.setIfInBounds_toArray, List.set_cons_zero, List.set_cons_succ]; rfl)
    refine E_take (hR := Ext.pre) (i := 2) (N := (some 22)) (v := ?vr1_2) (a' := ?ar1_2) #[true, true, true, false, false, false, false, false, false, false] rfl rfl (by kernel_rfl) (fun _ _ _ h => h) (by rfl) ?hyr1_2 ?har1_2 ?_
    case hyr1_2 =>
      intro w' hx
      go_simp
      with_reducible rfl
    case har1_2 => (simp only [Act.put, List.setIfInBounds_toArray, List.set_cons_zero, List.set_cons_succ]; rfl)
    refine E_take (hR := Ext.pre) (i := 3) (N := (some 23)) (v := ?vr1_3) (a' := ?ar1_3) #[true, true, true, true, false, false, false, false, false, false] rfl rfl (by kernel_rfl) (fun _ _ _ h => h) (by rfl) ?hyr1_3 ?har1_3 ?_
    case hyr1_3 =>
      intro w' hx
      (first | (apply Eq.trans; (apply R_slice; rfl; rfl; (first | exact SB.no | exact SB.so | exact SB.lit (by decide)); (first | exact SB.no | exact SB.so | exact SB.lit (by decide)); rfl; rfl; (first | assumption | (focus (simp; done)) | (focus (simp; omega)) | omega); (first | assumption | (focus (simp; done)) | (focus (simp; omega)) | omega)); with_reducible rfl) | (go_simp; with_reducible rfl))
    case har1_3 => (simp only [Act.put, List.setIfInBounds_toArray, List.set_cons_zero, List.set_cons_succ]; rfl)
    refine E_call (i := 4) (N := (some 24)) (args := ?gr1_4) #[true, true, true, true, true, false, false, false, false, false] rfl rfl (by kernel_rfl) (by rfl) Try.func7 (by kernel_rfl) rfl rfl ?hgr1_4 ?_
    case hgr1_4 => (simp only [List.map_toArray, List.map_cons, List.map_nil]; go_simp; with_reducible rfl)
    refine (xtsEnc_any (some ⟨b3, 0, none⟩) (some ⟨b5, 0, none⟩) 64 64 48 48 num key a _ ⟨rfl, hpos, by decide, by decide, by decide⟩ HK.out (hS.blkRd (b := b3) (by focus ((repeat (first | exact .here | apply At.there)); done))) (by decide) HA.out (by rw [← HAA.out]; exact lo48 (hS.blkRd (b := b5) (by focus ((repeat (first | exact .here | apply At.there)); done)))) (by decide)).mono ?_
    rw [HXX.out trivial]
    rintro e w_ ⟨gx, cx, rfl, ho_, hb_⟩
    rw [HXL.out] at ho_ ⊢
    refine ⟨_, rfl, hb_, ?_⟩
    replace hS := hS.got hb_ ho_
    clear hb_ ho_
    rintro _ rfl
    simp only [Act.put, List.setIfInBounds_toArray, List.set_cons_zero, List.set_cons_succ]
    refine E_take (hR := Ext.pre) (i := 5) (N := (some 19)) (v := ?vr1_5) (a' := ?ar1_5) #[true, true, true, true, true, true, false, false, false, false] rfl rfl (by kernel_rfl) (fun _ _ _ h => h) (by rfl) ?hyr1_5 ?har1_5 ?_
    case hyr1_5 =>
      intro w' hx
      go_simp
      with_reducible rfl
    case har1_5 => (simp only [Act.put, List.setIfInBounds_toArray, List.set_cons_zero, List.set_cons_succ]; rfl)
    refine E_take (hR := Ext.pre) (i := 6) (N := (some 25)) (v := ?vr1_6) (a' := ?ar1_6) #[true, true, true, true, true, true, true, false, false, false] rfl rfl (by kernel_rfl) (fun _ _ _ h => h) (by rfl) ?hyr1_6 ?har1_6 ?_
    case hyr1_6 =>
      intro w' hx
      go_simp
      with_reducible rfl
    case har1_6 => (simp only [Act.put, List.setIfInBounds_toArray, List.set_cons_zero, List.set_cons_succ]; rfl)
    refine E_take (hR := Ext.pre) (i := 7) (N := (some 26)) (v := ?vr1_7) (a' := ?ar1_7) #[true, true, true, true, true, true, true, true, false, false] rfl rfl (by kernel_rfl) (fun _ _ _ h => h) (by rfl) ?hyr1_7 ?har1_7 ?_
    case hyr1_7 =>
      intro w' hx
      go_simp
      with_reducible rfl
    case har1_7 => (simp only [Act.put, List.setIfInBounds_toArray, List.set_cons_zero, List.set_cons_succ]; rfl)
    refine E_take (hR := Ext.pre) (i := 8) (N := (some 7)) (v := ?vr1_8) (a' := ?ar1_8) #[true, true, true, true, true, true, true, true, true, false] rfl rfl (by kernel_rfl) (fun _ _ _ h => h) (by rfl) ?hyr1_8 ?har1_8 ?_
    case hyr1_8 =>
      intro w' hx
      go_simp
      with_reducible rfl
    case har1_8 => (simp only [Act.put, List.setIfInBounds_toArray, List.set_cons_zero, List.set_cons_succ]; rfl)
    refine E_take (hR := Ext.pre) (i := 9) (N := (some 8)) (v := ?vr1_9) (a' := ?ar1_9) #[true, true, true, true, true, true, true, true, true, true] rfl rfl (by kernel_rfl) (fun _ _ _ h => h) (by rfl) ?hyr1_9 ?har1_9 ?_
    case hyr1_9 =>
      intro w' hx
      go_simp
      with_reducible rfl
    case har1_9 => (simp only [Act.put, List.setIfInBounds_toArray, List.set_cons_zero, List.set_cons_succ]; rfl)
    refine E_done (by kernel_rfl) ?_
    go_upto_region 4 with (fail)
    refine E_start (hR := Ext.pre) #[false, false, false, false, false, false, false, false, false, false] (by kernel_rfl) rfl rfl (fun w_s2 hx_s2 he_s2 => ?_)
    clear he_s2
    replace hS := hS.ext hx_s2; clear hx_s2
    refine E_take (hR := Ext.pre) (i := 0) (N := (some 28)) (v := ?vs2_0) (a' := ?as2_0) #[true, false, false, false, false, false, false, false, false, false] rfl rfl (by kernel_rfl) (fun _ _ _ h => h) (by rfl) ?hys2_0 ?has2_0 ?_
    case hys2_0 =>
      intro w' hx
      (first | (apply Eq.trans; (apply R_slice; rfl; rfl; (first | exact SB.no | exact SB.so | exact SB.lit (by decide)); (first | exact SB.no | exact SB.so | exact SB.lit (by decide)); rfl; rfl; (first | assumption | (focus (simp; done)) | (focus (simp; omega)) | omega); (first | assumption | (focus (simp; done)) | (focus (simp; omega)) | omega)); with_reducible rfl) | (go_simp; with_reducible rfl))
    case has2_0 => (simp only [Act.put, List.setIfInBounds_toArray, List.set_cons_zero, List.set_cons_succ]; rfl)
    refine E_take (hR := Ext.pre) (i := 1) (N := (some 29)) (v := ?vs2_1) (a' := ?as2_1) #[true, true, false, false, false, false, false, false, false, false] rfl rfl (by kernel_rfl) (fun _ _ _ h => h) (by rfl) ?hys2_1 ?has2_1 ?_
    case hys2_1 =>
      intro w' hx
      go_simp
      with_reducible rfl
    case has2_1 => (simp only [Act.put, List.setIfInBounds_toArray, List.set_cons_zero, List.set_cons_succ]; rfl)
    refine E_take (hR := Ext.pre) (i := 2) (N := (some 30)) (v := ?vs2_2) (a' := ?as2_2) #[true, true, true, false, false, false, false, false, false, false] rfl rfl (by kernel_rfl) (fun _ _ _ h => h) (by rfl) ?hys2_2 ?has2_2 ?_
    case hys2_2 =>
      intro w' hx
      go_simp
      with_reducible rfl
    case has2_2 => (simp only [Act.put, List.setIfInBounds_toArray, List.set_cons_zero, List.set_cons_succ]; rfl)
    refine E_take (hR := Ext.pre) (i := 3) (N := (some 31)) (v := ?vs2_3) (a' := ?as2_3) #[true, true, true, true, false, false, false, false, false, false] rfl rfl (by kernel_rfl) (fun _ _ _ h => h) (by rfl) ?hys2_3 ?has2_3 ?_
    case hys2_3 =>
      intro w' hx
      (first | (apply Eq.trans; (apply R_slice; rfl; rfl; (first | exact SB.no | exact SB.so | exact SB.lit (by decide)); (first | exact SB.no | exact SB.so | exact SB.lit (by decide)); rfl; rfl; (first | assumption | (focus (simp; done)) | (focus (simp; omega)) | omega); (first | assumption | (focus (simp; done)) | (focus (simp; omega)) | omega)); with_reducible rfl) | (go_simp; with_reducible rfl))
    case has2_3 => (simp only [Act.put, List.setIfInBounds_toArray, List.set_cons_zero, List.set_cons_succ]; rfl)
    refine E_call (i := 4) (N := (some 32)) (args := ?gs2_4) #[true, true, true, true, true, false, false, false, false, false] rfl rfl (by kernel_rfl) (by rfl) Try.func7 (by kernel_rfl) rfl rfl ?hgs2_4 ?_
    case hgs2_4 => (simp only [List.map_toArray, List.map_cons, List.map_nil]; go_simp; with_reducible rfl)
    refine (xtsEnc_any (some ⟨b3, 0, none⟩) (some ⟨b5, 48, none⟩) 64 64 48 48 num key c _ ⟨rfl, hpos, by decide, by decide, by decide⟩ HK.out (hS.blkRd (b := b3) (by focus ((repeat (first | exact .here | apply At.there)); done))) (by decide) HC.out (by rw [← HCC.out]; exact hi48 (hS.blkRd (b := b5) (by focus ((repeat (first | exact .here | apply At.there)); done)))) (by decide)).mono ?_
    rw [HYY.out trivial]
    rintro e w_ ⟨gy, cy, rfl, ho_, hb_⟩
    rw [HYL.out] at ho_ ⊢
    refine ⟨_, rfl, hb_, ?_⟩
    replace hS := hS.got hb_ ho_
    clear hb_ ho_
    rintro _ rfl
    simp only [Act.put, List.setIfInBounds_toArray, List.set_cons_zero, List.set_cons_succ]
    refine E_take (hR := Ext.pre) (i := 5) (N := (some 27)) (v := ?vs2_5) (a' := ?as2_5) #[true, true, true, true, true, true, false, false, false, false] rfl rfl (by kernel_rfl) (fun _ _ _ h => h) (by rfl) ?hys2_5 ?has2_5 ?_
    case hys2_5 =>
      intro w' hx
      go_simp
      with_reducible rfl
    case has2_5 => (simp only [Act.put, List.setIfInBounds_toArray, List.set_cons_zero, List.set_cons_succ]; rfl)
    refine E_take (hR := Ext.pre) (i := 6) (N := (some 33)) (v := ?vs2_6) (a' := ?as2_6) #[true, true, true, true, true, true, true, false, false, false] rfl rfl (by kernel_rfl) (fun _ _ _ h => h) (by rfl) ?hys2_6 ?has2_6 ?_
    case hys2_6 =>
      intro w' hx
      go_simp
      with_reducible rfl
    case has2_6 => (simp only [Act.put, List.setIfInBounds_toArray, List.set_cons_zero, List.set_cons_succ]; rfl)
    refine E_take (hR := Ext.pre) (i := 7) (N := (some 34)) (v := ?vs2_7) (a' := ?as2_7) #[true, true, true, true, true, true, true, true, false, false] rfl rfl (by kernel_rfl) (fun _ _ _ h => h) (by rfl) ?hys2_7 ?has2_7 ?_
    case hys2_7 =>
      intro w' hx
      go_simp
      with_reducible rfl
    case has2_7 => (simp only [Act.put, List.setIfInBounds_toArray, List.set_cons_zero, List.set_cons_succ]; rfl)
    refine E_take (hR := Ext.pre) (i := 8) (N := (some 9)) (v := ?vs2_8) (a' := ?as2_8) #[true, true, true, true, true, true, true, true, true, false] rfl rfl (by kernel_rfl) (fun _ _ _ h => h) (by rfl) ?hys2_8 ?has2_8 ?_
    case hys2_8 =>
      intro w' hx
      go_simp
      with_reducible rfl
    case has2_8 => (simp only [Act.put, List.setIfInBounds_toArray, List.set_cons_zero, List.set_cons_succ]; rfl)
    refine E_take (hR := Ext.pre) (i := 9) (N := (some 10)) (v := ?vs2_9) (a' := ?as2_9) #[true, true, true, true, true, true, true, true, true, true] rfl rfl (by kernel_rfl) (fun _ _ _ h => h) (by rfl) ?hys2_9 ?has2_9 ?_
    case hys2_9 =>
      intro w' hx
      go_simp
      with_reducible rfl
    case has2_9 => (simp only [Act.put, List.setIfInBounds_toArray, List.set_cons_zero, List.set_cons_succ]; rfl)
    refine E_done (by kernel_rfl) ?_
    have HCX := Lib.hid (hS.ownCap (A := some ⟨gx, 0, none⟩) (by focus ((repeat (first | exact .here | apply At.there)); done)))
    have HCY := Lib.hid (hS.ownCap (A := some ⟨gy, 0, none⟩) (by focus ((repeat (first | exact .here | apply At.there)); done)))
    go_wp2_with (((with_reducible show wpList _ _ _ (⟨_, _, _, _, _, some (_, _)⟩ :: _) _ _); go_loud (first | (apply S_guardT; rfl; rfl; first | rfl | assumption) | (apply S_guardF; rfl; rfl; first | rfl | assumption) | (apply S_guard; rfl; rfl; all_goals intro hg_))))
    go_loopw [11] (fun i wr => ∃ l : Nat, i = .int .i64 (l : Int) ∧ (l = 0 ∨ l = 16 ∨ l = 32 ∨ l = 48) ∧ St (Kp w) w wr [.own 5 1 (.slice (some ⟨gy, 0, none⟩) 48 cy) 48 (Y.map bV), .own 5 1 (.slice (some ⟨gx, 0, none⟩) 48 cx) 48 (X.map bV), .blk b5 24 (bb.map bV), .blk b3 22 (key.map bV)]) (fun i _ => 48 - (intOf i).toNat)
    case atStart => exact ⟨0, rfl, .inl rfl, hS⟩
    case round =>
      clear hS
      obtain ⟨l, rfl, hl, hS⟩ := hrel
      by_cases hlt : l < 48
      · obtain ⟨r, hr⟩ : ∃ r, l + 16 = r := ⟨_, rfl⟩
        have hri : (l : Int) + 16 = (r : Int) := by omega
        have hr48 : r ≤ 48 := by omega
        have hrw : IntKind.i64.wrap (r : Int) = (r : Int) := by rw [IntKind.wrap_i64]; omega
        have hlr : l ≤ r := by omega
        have hj := HBLK.out l (by omega) hlt
        rw [hr] at hj
        obtain ⟨q2, hq2⟩ : ∃ q, decide ((a.take r).drop l = (c.take r).drop l) = q := ⟨_, rfl⟩
        obtain ⟨s1, hs1⟩ : ∃ s, (X.take r).drop l = s := ⟨_, rfl⟩
        obtain ⟨s2, hs2⟩ : ∃ s, (Y.take r).drop l = s := ⟨_, rfl⟩
        obtain ⟨s3, hs3⟩ : ∃ s, (a.take r).drop l = s := ⟨_, rfl⟩
        obtain ⟨s4, hs4⟩ : ∃ s, (c.take r).drop l = s := ⟨_, rfl⟩
        have f3 : ((str s3).toList == (str s4).toList) = q2 := by rw [str_eq_dec, ← hs3, ← hs4, hq2]
        have f4 : ((str s1).toList == (str s2).toList) = q2 := by rw [str_eq_dec, ← hs1, ← hs2, decide_eq_decide.2 hj, hq2]
        have L1 := Lib.hid (show s1.length = r - l by rw [← hs1, List.length_drop, List.length_take, HXL.out]; omega)
        have L2 := Lib.hid (show s2.length = r - l by rw [← hs2, List.length_drop, List.length_take, HYL.out]; omega)
        have L3 := Lib.hid (show s3.length = r - l by rw [← hs3, List.length_drop, List.length_take, HA.out]; omega)
        have L4 := Lib.hid (show s4.length = r - l by rw [← hs4, List.length_drop, List.length_take, HC.out]; omega)
        have S1 := Lib.hid hs1
        have S2 := Lib.hid hs2
        have S3 := Lib.hid hs3
        have S4 := Lib.hid hs4
        have hlc : r ≤ cx := by have := HCX.out; omega
        have hld : r ≤ cy := by have := HCY.out; omega
        have HL := Lib.hid hl
        have HRR := Lib.hid hr
        clear hs1 hs2 hs3 hs4 hj hl hq2 hr
        go_upto_region 10 with (fail)
        refine E_start (hR := Ext.pre) #[false, false, false, false, false, false, false, false, false, false, false, false, false, false, false, false, false, false, false, false, false, false, false, false, false, false, false] (by kernel_rfl) rfl rfl (fun w_t3 hx_t3 he_t3 => ?_)
        clear he_t3
        replace hS := hS.ext hx_t3; clear hx_t3
        refine E_take (hR := Ext.pre) (i := 0) (N := (some 47)) (v := ?vt3_0) (a' := ?at3_0) #[true, false, false, false, false, false, false, false, false, false, false, false, false, false, false, false, false, false, false, false, false, false, false, false, false, false, false] rfl rfl (by kernel_rfl) (fun _ _ _ h => h) (by rfl) ?hyt3_0 ?hat3_0 ?_
        case hyt3_0 =>
          intro w' hx
          go_simp
          with_reducible rfl
        case hat3_0 => (simp only [Act.put, List.setIfInBounds_toArray, List.set_cons_zero, List.set_cons_succ]; rfl)
        refine E_take (hR := Ext.pre) (i := 1) (N := (some 48)) (v := ?vt3_1) (a' := ?at3_1) #[true, true, false, false, false, false, false, false, false, false, false, false, false, false, false, false, false, false, false, false, false, false, false, false, false, false, false] rfl rfl (by kernel_rfl) (fun _ _ _ h => h) (by rfl) ?hyt3_1 ?hat3_1 ?_
        case hyt3_1 =>
          intro w' hx
          go_simp
          with_reducible rfl
        case hat3_1 => (simp only [Act.put, List.setIfInBounds_toArray, List.set_cons_zero, List.set_cons_succ]; rfl)
        refine E_take (hR := Ext.pre) (i := 2) (N := (some 49)) (v := ?vt3_2) (a' := ?at3_2) #[true, true, true, false, false, false, false, false, false, false, false, false, false, false, false, false, false, false, false, false, false, false, false, false, false, false, false] rfl rfl (by kernel_rfl) (fun _ _ _ h => h) (by rfl) ?hyt3_2 ?hat3_2 ?_
        case hyt3_2 =>
          intro w' hx
          go_simp
          with_reducible rfl
        case hat3_2 => (simp only [Act.put, List.setIfInBounds_toArray, List.set_cons_zero, List.set_cons_succ]; rfl)
        refine E_take (hR := Ext.pre) (i := 3) (N := (some 50)) (v := ?vt3_3) (a' := ?at3_3) #[true, true, true, true, false, false, false, false, false, false, false, false, false, false, false, false, false, false, false, false, false, false, false, false, false, false, false] rfl rfl (by kernel_rfl) (fun _ _ _ h => h) (by rfl) ?hyt3_3 ?hat3_3 ?_
        case hyt3_3 =>
          intro w' hx
          go_simp
          with_reducible rfl
        case hat3_3 => (simp only [Act.put, List.setIfInBounds_toArray, List.set_cons_zero, List.set_cons_succ]; rfl)
        refine E_take (hR := Ext.pre) (i := 4) (N := (some 51)) (v := ?vt3_4) (a' := ?at3_4) #[true, true, true, true, true, false, false, false, false, false, false, false, false, false, false, false, false, false, false, false, false, false, false, false, false, false, false] rfl rfl (by kernel_rfl) (fun _ _ _ h => h) (by rfl) ?hyt3_4 ?hat3_4 ?_
        case hyt3_4 =>
          intro w' hx
          (first | (apply Eq.trans; (apply R_slice; rfl; rfl; (first | exact SB.no | exact SB.so | exact SB.lit (by decide)); (first | exact SB.no | exact SB.so | exact SB.lit (by decide)); rfl; rfl; (first | assumption | (focus (simp; done)) | (focus (simp; omega)) | omega); (first | assumption | (focus (simp; done)) | (focus (simp; omega)) | omega)); with_reducible rfl) | (go_simp; with_reducible rfl))
        case hat3_4 => (simp only [Act.put, List.setIfInBounds_toArray, List.set_cons_zero, List.set_cons_succ]; rfl)
        refine E_take (hR := Ext.pre) (i := 5) (N := (some 52)) (v := ?vt3_5) (a' := ?at3_5) #[true, true, true, true, true, true, false, false, false, false, false, false, false, false, false, false, false, false, false, false, false, false, false, false, false, false, false] rfl rfl (by kernel_rfl) (fun _ _ _ h => h) (by rfl) ?hyt3_5 ?hat3_5 ?_
        case hyt3_5 =>
          intro w' hx
          (apply Eq.trans; (apply R_strc Try.underlying26 Try.underlying5 Try.underlying9 (by rw [← S1.out]; exact RdB.sub (c := cx) ((hS.ext hx).ownRd (A := some ⟨gx, 0, none⟩) (by focus ((repeat (first | exact .here | apply At.there)); done))) (by rw [HXL.out]; exact HCX.out)) L1.out; rfl; rfl); with_reducible rfl)
        case hat3_5 => (simp only [Act.put, List.setIfInBounds_toArray, List.set_cons_zero, List.set_cons_succ]; rfl)
        refine E_take (hR := Ext.pre) (i := 6) (N := (some 53)) (v := ?vt3_6) (a' := ?at3_6) #[true, true, true, true, true, true, true, false, false, false, false, false, false, false, false, false, false, false, false, false, false, false, false, false, false, false, false] rfl rfl (by kernel_rfl) (fun _ _ _ h => h) (by rfl) ?hyt3_6 ?hat3_6 ?_
        case hyt3_6 =>
          intro w' hx
          go_simp
          with_reducible rfl
        case hat3_6 => (simp only [Act.put, List.setIfInBounds_toArray, List.set_cons_zero, List.set_cons_succ]; rfl)
        refine E_take (hR := Ext.pre) (i := 7) (N := (some 54)) (v := ?vt3_7) (a' := ?at3_7) #[true, true, true, true, true, true, true, true, false, false, false, false, false, false, false, false, false, false, false, false, false, false, false, false, false, false, false] rfl rfl (by kernel_rfl) (fun _ _ _ h => h) (by rfl) ?hyt3_7 ?hat3_7 ?_
        case hyt3_7 =>
          intro w' hx
          go_simp
          with_reducible rfl
        case hat3_7 => (simp only [Act.put, List.setIfInBounds_toArray, List.set_cons_zero, List.set_cons_succ]; rfl)
        refine E_take (hR := Ext.pre) (i := 8) (N := (some 55)) (v := ?vt3_8) (a' := ?at3_8) #[true, true, true, true, true, true, true, true, true, false, false, false, false, false, false, false, false, false, false, false, false, false, false, false, false, false, false] rfl rfl (by kernel_rfl) (fun _ _ _ h => h) (by rfl) ?hyt3_8 ?hat3_8 ?_
        case hyt3_8 =>
          intro w' hx
          go_simp
          with_reducible rfl
        case hat3_8 => (simp only [Act.put, List.setIfInBounds_toArray, List.set_cons_zero, List.set_cons_succ]; rfl)
        refine E_take (hR := Ext.pre) (i := 9) (N := (some 56)) (v := ?vt3_9) (a' := ?at3_9) #[true, true, true, true, true, true, true, true, true, true, false, false, false, false, false, false, false, false, false, false, false, false, false, false, false, false, false] rfl rfl (by kernel_rfl) (fun _ _ _ h => h) (by rfl) ?hyt3_9 ?hat3_9 ?_
        case hyt3_9 =>
          intro w' hx
          go_simp
          with_reducible rfl
        case hat3_9 => (simp only [Act.put, List.setIfInBounds_toArray, List.set_cons_zero, List.set_cons_succ]; rfl)
        refine E_take (hR := Ext.pre) (i := 10) (N := (some 57)) (v := ?vt3_10) (a' := ?at3_10) #[true, true, true, true, true, true, true, true, true, true, true, false, false, false, false, false, false, false, false, false, false, false, false, false, false, false, false] rfl rfl (by kernel_rfl) (fun _ _ _ h => h) (by rfl) ?hyt3_10 ?hat3_10 ?_
        case hyt3_10 =>
          intro w' hx
          (first | (apply Eq.trans; (apply R_slice; rfl; rfl; (first | exact SB.no | exact SB.so | exact SB.lit (by decide)); (first | exact SB.no | exact SB.so | exact SB.lit (by decide)); rfl; rfl; (first | assumption | (focus (simp; done)) | (focus (simp; omega)) | omega); (first | assumption | (focus (simp; done)) | (focus (simp; omega)) | omega)); with_reducible rfl) | (go_simp; with_reducible rfl))
        case hat3_10 => (simp only [Act.put, List.setIfInBounds_toArray, List.set_cons_zero, List.set_cons_succ]; rfl)
        refine E_take (hR := Ext.pre) (i := 11) (N := (some 58)) (v := ?vt3_11) (a' := ?at3_11) #[true, true, true, true, true, true, true, true, true, true, true, true, false, false, false, false, false, false, false, false, false, false, false, false, false, false, false] rfl rfl (by kernel_rfl) (fun _ _ _ h => h) (by rfl) ?hyt3_11 ?hat3_11 ?_
        case hyt3_11 =>
          intro w' hx
          (apply Eq.trans; (apply R_strc Try.underlying26 Try.underlying5 Try.underlying9 (by rw [← S2.out]; exact RdB.sub (c := cy) ((hS.ext hx).ownRd (A := some ⟨gy, 0, none⟩) (by focus ((repeat (first | exact .here | apply At.there)); done))) (by rw [HYL.out]; exact HCY.out)) L2.out; rfl; rfl); with_reducible rfl)
        case hat3_11 => (simp only [Act.put, List.setIfInBounds_toArray, List.set_cons_zero, List.set_cons_succ]; rfl)
        refine E_take (hR := Ext.pre) (i := 12) (N := (some 59)) (v := ?vt3_12) (a' := ?at3_12) #[true, true, true, true, true, true, true, true, true, true, true, true, true, false, false, false, false, false, false, false, false, false, false, false, false, false, false] rfl rfl (by kernel_rfl) (fun _ _ _ h => h) (by rfl) ?hyt3_12 ?hat3_12 ?_
        case hyt3_12 =>
          intro w' hx
          go_simp
          with_reducible rfl
        case hat3_12 => (simp only [Act.put, List.setIfInBounds_toArray, List.set_cons_zero, List.set_cons_succ]; rfl)
        refine E_take (hR := Ext.pre) (i := 13) (N := (some 60)) (v := ?vt3_13) (a' := ?at3_13) #[true, true, true, true, true, true, true, true, true, true, true, true, true, true, false, false, false, false, false, false, false, false, false, false, false, false, false] rfl rfl (by kernel_rfl) (fun _ _ _ h => h) (by rfl) ?hyt3_13 ?hat3_13 ?_
        case hyt3_13 =>
          intro w' hx
          go_simp
          with_reducible rfl
        case hat3_13 => (simp only [Act.put, List.setIfInBounds_toArray, List.set_cons_zero, List.set_cons_succ]; rfl)
        refine E_take (hR := Ext.pre) (i := 14) (N := (some 61)) (v := ?vt3_14) (a' := ?at3_14) #[true, true, true, true, true, true, true, true, true, true, true, true, true, true, true, false, false, false, false, false, false, false, false, false, false, false, false] rfl rfl (by kernel_rfl) (fun _ _ _ h => h) (by rfl) ?hyt3_14 ?hat3_14 ?_
        case hyt3_14 =>
          intro w' hx
          go_simp
          with_reducible rfl
        case hat3_14 => (simp only [Act.put, List.setIfInBounds_toArray, List.set_cons_zero, List.set_cons_succ]; rfl)
        refine E_take (hR := Ext.pre) (i := 15) (N := (some 62)) (v := ?vt3_15) (a' := ?at3_15) #[true, true, true, true, true, true, true, true, true, true, true, true, true, true, true, true, false, false, false, false, false, false, false, false, false, false, false] rfl rfl (by kernel_rfl) (fun _ _ _ h => h) (by rfl) ?hyt3_15 ?hat3_15 ?_
        case hyt3_15 =>
          intro w' hx
          go_simp
          with_reducible rfl
        case hat3_15 => (simp only [Act.put, List.setIfInBounds_toArray, List.set_cons_zero, List.set_cons_succ]; rfl)
        refine E_take (hR := Ext.pre) (i := 16) (N := (some 63)) (v := ?vt3_16) (a' := ?at3_16) #[true, true, true, true, true, true, true, true, true, true, true, true, true, true, true, true, true, false, false, false, false, false, false, false, false, false, false] rfl rfl (by kernel_rfl) (fun _ _ _ h => h) (by rfl) ?hyt3_16 ?hat3_16 ?_
        case hyt3_16 =>
          intro w' hx
          go_simp
          with_reducible rfl
        case hat3_16 => (simp only [Act.put, List.setIfInBounds_toArray, List.set_cons_zero, List.set_cons_succ]; rfl)
        refine E_take (hR := Ext.pre) (i := 17) (N := (some 64)) (v := ?vt3_17) (a' := ?at3_17) #[true, true, true, true, true, true, true, true, true, true, true, true, true, true, true, true, true, true, false, false, false, false, false, false, false, false, false] rfl rfl (by kernel_rfl) (fun _ _ _ h => h) (by rfl) ?hyt3_17 ?hat3_17 ?_
        case hyt3_17 =>
          intro w' hx
          (apply Eq.trans; (apply R_sliceB; rfl; rfl; rfl; rfl; (first | exact SB.no | exact SB.so | exact SB.lit (by decide)); (first | exact SB.no | exact SB.so | exact SB.lit (by decide)); (first | assumption | (focus (simp; done)) | (focus (simp; omega)) | omega); (first | assumption | (focus (simp; done)) | (focus (simp; omega)) | omega)); with_reducible rfl)
        case hat3_17 => (simp only [Act.put, List.setIfInBounds_toArray, List.set_cons_zero, List.set_cons_succ]; rfl)
        refine E_take (hR := Ext.pre) (i := 18) (N := (some 65)) (v := ?vt3_18) (a' := ?at3_18) #[true, true, true, true, true, true, true, true, true, true, true, true, true, true, true, true, true, true, true, false, false, false, false, false, false, false, false] rfl rfl (by kernel_rfl) (fun _ _ _ h => h) (by rfl) ?hyt3_18 ?hat3_18 ?_
        case hyt3_18 =>
          intro w' hx
          (apply Eq.trans; (apply R_strc Try.underlying26 Try.underlying5 Try.underlying9 (by rw [← S3.out]; exact RdB.sub (c := 48) (by rw [← HAA.out]; exact lo48 ((hS.ext hx).blkRd (b := b5) (by focus ((repeat (first | exact .here | apply At.there)); done)))) (by rw [HA.out]; decide)) L3.out; rfl; rfl); with_reducible rfl)
        case hat3_18 => (simp only [Act.put, List.setIfInBounds_toArray, List.set_cons_zero, List.set_cons_succ]; rfl)
        refine E_take (hR := Ext.pre) (i := 19) (N := (some 66)) (v := ?vt3_19) (a' := ?at3_19) #[true, true, true, true, true, true, true, true, true, true, true, true, true, true, true, true, true, true, true, true, false, false, false, false, false, false, false] rfl rfl (by kernel_rfl) (fun _ _ _ h => h) (by rfl) ?hyt3_19 ?hat3_19 ?_
        case hyt3_19 =>
          intro w' hx
          go_simp
          with_reducible rfl
        case hat3_19 => (simp only [Act.put, List.setIfInBounds_toArray, List.set_cons_zero, List.set_cons_succ]; rfl)
        refine E_take (hR := Ext.pre) (i := 20) (N := (some 67)) (v := ?vt3_20) (a' := ?at3_20) #[true, true, true, true, true, true, true, true, true, true, true, true, true, true, true, true, true, true, true, true, true, false, false, false, false, false, false] rfl rfl (by kernel_rfl) (fun _ _ _ h => h) (by rfl) ?hyt3_20 ?hat3_20 ?_
        case hyt3_20 =>
          intro w' hx
          go_simp
          with_reducible rfl
        case hat3_20 => (simp only [Act.put, List.setIfInBounds_toArray, List.set_cons_zero, List.set_cons_succ]; rfl)
        refine E_take (hR := Ext.pre) (i := 21) (N := (some 68)) (v := ?vt3_21) (a' := ?at3_21) #[true, true, true, true, true, true, true, true, true, true, true, true, true, true, true, true, true, true, true, true, true, true, false, false, false, false, false] rfl rfl (by kernel_rfl) (fun _ _ _ h => h) (by rfl) ?hyt3_21 ?hat3_21 ?_
        case hyt3_21 =>
          intro w' hx
          go_simp
          with_reducible rfl
        case hat3_21 => (simp only [Act.put, List.setIfInBounds_toArray, List.set_cons_zero, List.set_cons_succ]; rfl)
        refine E_take (hR := Ext.pre) (i := 22) (N := (some 69)) (v := ?vt3_22) (a' := ?at3_22) #[true, true, true, true, true, true, true, true, true, true, true, true, true, true, true, true, true, true, true, true, true, true, true, false, false, false, false] rfl rfl (by kernel_rfl) (fun _ _ _ h => h) (by rfl) ?hyt3_22 ?hat3_22 ?_
        case hyt3_22 =>
          intro w' hx
          go_simp
          with_reducible rfl
        case hat3_22 => (simp only [Act.put, List.setIfInBounds_toArray, List.set_cons_zero, List.set_cons_succ]; rfl)
        refine E_take (hR := Ext.pre) (i := 23) (N := (some 70)) (v := ?vt3_23) (a' := ?at3_23) #[true, true, true, true, true, true, true, true, true, true, true, true, true, true, true, true, true, true, true, true, true, true, true, true, false, false, false] rfl rfl (by kernel_rfl) (fun _ _ _ h => h) (by rfl) ?hyt3_23 ?hat3_23 ?_
        case hyt3_23 =>
          intro w' hx
          (apply Eq.trans; (apply R_sliceB; rfl; rfl; rfl; rfl; (first | exact SB.no | exact SB.so | exact SB.lit (by decide)); (first | exact SB.no | exact SB.so | exact SB.lit (by decide)); (first | assumption | (focus (simp; done)) | (focus (simp; omega)) | omega); (first | assumption | (focus (simp; done)) | (focus (simp; omega)) | omega)); with_reducible rfl)
        case hat3_23 => (simp only [Act.put, List.setIfInBounds_toArray, List.set_cons_zero, List.set_cons_succ]; rfl)
        refine E_take (hR := Ext.pre) (i := 24) (N := (some 71)) (v := ?vt3_24) (a' := ?at3_24) #[true, true, true, true, true, true, true, true, true, true, true, true, true, true, true, true, true, true, true, true, true, true, true, true, true, false, false] rfl rfl (by kernel_rfl) (fun _ _ _ h => h) (by rfl) ?hyt3_24 ?hat3_24 ?_
        case hyt3_24 =>
          intro w' hx
          (apply Eq.trans; (apply R_strc Try.underlying26 Try.underlying5 Try.underlying9 (by rw [← S4.out]; exact RdB.sub (c := 48) (by rw [← HCC.out]; exact hi48 ((hS.ext hx).blkRd (b := b5) (by focus ((repeat (first | exact .here | apply At.there)); done)))) (by rw [HC.out]; decide)) L4.out; rfl; rfl); with_reducible rfl)
        case hat3_24 => (simp only [Act.put, List.setIfInBounds_toArray, List.set_cons_zero, List.set_cons_succ]; rfl)
        refine E_take (hR := Ext.pre) (i := 25) (N := (some 72)) (v := ?vt3_25) (a' := ?at3_25) #[true, true, true, true, true, true, true, true, true, true, true, true, true, true, true, true, true, true, true, true, true, true, true, true, true, true, false] rfl rfl (by kernel_rfl) (fun _ _ _ h => h) (by rfl) ?hyt3_25 ?hat3_25 ?_
        case hyt3_25 =>
          intro w' hx
          go_simp
          with_reducible rfl
        case hat3_25 => (simp only [Act.put, List.setIfInBounds_toArray, List.set_cons_zero, List.set_cons_succ]; rfl)
        refine E_take (hR := Ext.pre) (i := 26) (N := (some 73)) (v := ?vt3_26) (a' := ?at3_26) #[true, true, true, true, true, true, true, true, true, true, true, true, true, true, true, true, true, true, true, true, true, true, true, true, true, true, true] rfl rfl (by kernel_rfl) (fun _ _ _ h => h) (by rfl) ?hyt3_26 ?hat3_26 ?_
        case hyt3_26 =>
          intro w' hx
          go_simp
          with_reducible rfl
        case hat3_26 => (simp only [Act.put, List.setIfInBounds_toArray, List.set_cons_zero, List.set_cons_succ]; rfl)
        refine E_done (by kernel_rfl) ?_
        go_wp2
        go_roundw
        case rel => exact ⟨r, by first | rfl | go_num, by have := HL.out; have := HRR.out; omega, hS⟩
        case measure => have := HRR.out; simp [intOf]; omega
      · have h48 : l = 48 := by omega
        subst h48
        go_wp2
        go_ret
        exact ⟨rfl, hS.below⟩
theorem blocks_row (z0 : List Int) (a1 : Int) (x : List UInt8) (w : World) (h0 : z0.length = 64) (v0 : ∀ y ∈ z0, (Lit.int .u8 y).wf = true) (hx : x.length = 96) :
    Calls Try.prog 3 #[.agg (z0.map (Value.int .u8)).toArray, .int .i64 a1, .agg (x.map bV).toArray] w fun e w' => e = .returned (.bool true) ∧ Below w.heap.size w w' := by
  obtain ⟨k, k1, k2⟩ := ints_u8 z0 v0
  rw [k2]
  exact blocks_walk k x a1 w (k1.trans h0) hx
end Go.Proofs.Ythamhaomfdgdjaa
