/- cts.Encrypt. -/
import Derived.Test.YthmdnpaebdlefaaCtsS
import Derived.Test.YthmdnpaebdlefaaAesN
import Derived.Test.YthmdnpaebdlefaaXor
import Derived.Test.YthmdnpaebdlefaaCat
import Derived.Test.YthmdnpaebdlefaaStM
namespace Go.Proofs.Ythmdnpaebdlefaa
open Go.RowKit
set_option linter.unusedVariables false
set_option linter.unusedSimpArgs false

theorem take_add1 {α : Type} {P : List α} {k : Nat} (h : k < P.length) : P.drop k = P[k] :: P.drop (k + 1) := List.drop_eq_getElem_cons h

set_option maxRecDepth 8000 in
set_option maxHeartbeats 3200000 in
theorem ctsEnc_any (bC : Nat) (A : Option Addr) (n c : Nat) (K b : List UInt8) (w : World) (hn : b.length = n) (hr : RdB w A b) (hc : n ≤ c) (h16 : 16 ≤ n) (h256 : n ≤ 256) (hK : K.length = 240) (hC : Rd w (some ⟨bC, 0, none⟩) (ciC K)) (hl : bC < w.heap.size) :
    Calls Try.prog 8 #[.iface 25 (.pointer (some ⟨bC, 0, none⟩)), .slice A n c] w (GivesT (ctsE (encF K) b) w) := by
  have hS := St.start w
  have HN := Lib.hid hn
  have HR := Lib.hid hr
  have HK := Lib.hid hK
  have HCI := Lib.hid hC
  have HL := Lib.hid hl
  have HCUT := Lib.hid (cutF_cut16 b)
  have hmB : nB n = (n + 15) / 16 := rfl
  have HPL := Lib.hid (show (cut16 (nB n) b).length = nB n from cut16_len _ _)
  have HP16 := Lib.hid (show ∀ k (h : k < (cut16 (nB n) b).length), (cut16 (nB n) b)[k].length ≤ 16 from fun k h => by
    have e := cut16_range (nB n) b
    have h' : k < ((List.range (nB n)).map (fun j => (b.drop (j * 16)).take 16)).length := by rw [e]; exact h
    have : (cut16 (nB n) b)[k] = ((List.range (nB n)).map (fun j => (b.drop (j * 16)).take 16))[k]'h' := by simp only [e]
    rw [this, List.getElem_map, List.length_take]; omega)
  have HCH := Lib.hid (show True → cbcE (encF K) zz16 ((cut16 (nB n) b).map f16) = chainE (encF K) b from fun _ => by unfold chainE; rw [hn])
  have HCP := Lib.hid (ciph_aes hK)
  have HA16 := Lib.hid (show ∀ k, A16 (((cut16 (nB n) b).map f16).take k) from fun k p hp => by
    obtain ⟨x, hx, rfl⟩ := List.mem_map.1 (List.mem_of_mem_take hp)
    obtain ⟨i, hi, rfl⟩ := List.mem_iff_getElem.1 hx
    exact f16_len (HP16.out i hi))
  have HCL := Lib.hid (show (chainE (encF K) b).length = nB n by rw [chain_len, hn])
  have HSW := Lib.hid (swp_chain (ciph_aes hK) (b := b) (by omega) (by omega))
  have HCTL := Lib.hid (show (ctsE (encF K) b).length = n by rw [ctsE_len (ciph_aes hK) (by omega), hn])
  rw [hn] at HCUT HSW
  clear hn hr hK hC hl
  generalize hPP : cut16 (nB n) b = P at *
  generalize hmm : nB n = m at *
  have hm1 : 1 ≤ m := by omega
  have hm16 : m ≤ 16 := by omega
  have HMN := Lib.hid (show (m = 1 ↔ n = 16) by omega)
  clear hPP hmm hmB
  go_enter Try.func8, Try.ntmps8
  go_upto_region 5 with (first | (go_at_call 14; refine (right_ok _ _ A n c _ h16 h256).mono ?_; rintro e w_ ⟨rfl, rfl⟩) | (go_at_call 15; refine (cut_any A n c 16 b _ HN.out HR.out hc (by omega) (by decide)).mono ?_; rintro e w1 ⟨v, vs, rfl, ho_, he_, hb_⟩; rw [HCUT.out] at ho_ he_; rw [HPL.out] at ho_))
  obtain ⟨g, cap, rfl⟩ := Joins.ownsRow_form ho_ (by omega)
  obtain ⟨tl, hB_, hge_, hvl_, hmc_, hLl_, -⟩ := own_blk ho_
  have hRows := Lib.hid (he_.rowsG (tl := tl) hB_)
  have hcapl : m ≤ (vs ++ tl).length := by rw [hLl_]; exact hmc_
  have hS0 := hS.gotBlk hb_ hge_ hB_
  have HW1 := Lib.hid hge_
  clear hS hb_ he_ ho_ hvl_ hmc_ hLl_ hge_
  generalize vs ++ tl = L0 at *
  have hS := St.start1 (x := .blk g 29 L0) hB_ rfl
  clear hB_
  go_upto_region 6 with (first | ((with_reducible show wpList _ _ _ (⟨some 20, Op.makeSlice _ _ _, _, _, _, _⟩ :: _) _ _); go_loud (refine S_make hS TB 16 rfl rfl rfl rfl ?_ ?_ rfl ?_ ?_ ?_; (first | rfl | omega); (first | rfl | omega); (first | decide | omega); (first | decide | (unfold maxLen; omega)); clear hS; intro b8 w_ hS)))
  have hne8 : b8 ≠ g := hS.dist 0 1 (by omega) rfl rfl rfl rfl
  have hS1 := hS0.updB .here hS.grownBy (hS.blk (b := g) (by focus ((repeat (first | exact .here | apply At.there)); done)))
  have hR1 := hRows.out.keep (W' := w_) fun A' xs h h' => hS.rdm h h'
  have hZ1 : RdB w_ (some ⟨b8, 0, none⟩) zz16 := hS.ownRd (A := some ⟨b8, 0, none⟩) (by focus ((repeat (first | exact .here | apply At.there)); done))
  clear hS hS0 hRows
  go_wp2
  go_loopw [8, 23] (fun v i wr => ∃ (k : Nat) (AL : Option Addr) (cL : Nat) (L : List Value), i = .int .i64 (k : Int) ∧ k ≤ m ∧ v = .slice AL 16 cL ∧ m ≤ L.length ∧ St (Kp w) w wr [.blk g 29 L] ∧
    Hid (RowsG wr g L (cbcE (encF K) zz16 ((P.map f16).take k) ++ P.drop k)) ∧ Hid (RdB wr AL ((cbcE (encF K) zz16 ((P.map f16).take k)).getLastD zz16)) ∧ Hid (∀ ad, AL = some ad → ad.block ≠ g)) (fun _ i _ => m - (intOf i).toNat)
  case atStart => exact ⟨0, some ⟨b8, 0, none⟩, 16, L0, rfl, by omega, rfl, hcapl, hS1, Lib.hid hR1, Lib.hid hZ1, Lib.hid fun ad e => by cases e; exact hne8⟩
  case round =>
    clear hS1 hR1 hZ1 hcapl
    obtain ⟨k, AL, cL, L, rfl, hk, rfl, hLl, hS1, HRW, HLS, HLN⟩ := hrel
    by_cases hlt : k < m
    · have hkP : k < P.length := by rw [HPL.out]; exact hlt
      have hkL : k < L.length := by omega
      have hdec := take_add1 hkP
      have hp16 := HP16.out k hkP
      have hsn := cbcE_snoc (encF K) zz16 (P.map f16) (k := k) (by rw [List.length_map]; exact hkP)
      rw [List.getElem_map] at hsn
      have hrw := HRW.out
      rw [hdec] at hrw
      have hXl : (cbcE (encF K) zz16 ((P.map f16).take k)).length = k := by rw [cbcE_len, List.length_take, List.length_map]; omega
      have hv16 : ((cbcE (encF K) zz16 ((P.map f16).take k)).getLastD zz16).length = 16 := (cbcE_16 HCP.out zz_len (HA16.out k)).last zz_len
      have HLS2 := HLS
      generalize P[k] = p at *
      generalize hX : cbcE (encF K) zz16 ((P.map f16).take k) = X at *
      clear hX
      generalize hl : X.getLastD zz16 = l at *
      have hq16 := f16_len hp16
      have hqq : fillF p 16 = f16 p := rfl
      generalize f16 p = q at *
      have hy16 := xorF_l16 hq16 hv16
      generalize hyy : xorF q l = y at *
      have hct := encF_len HK.out hy16
      generalize hcc : encF K y = ct at *
      obtain ⟨Ai, ci, hLk, hrk, hck, hnk⟩ := hrw k p (by rw [List.getElem?_append_right (by omega), hXl, Nat.sub_self]; rfl)
      obtain ⟨pl, hpl⟩ : ∃ pl, p.length = pl := ⟨_, rfl⟩
      rw [hpl] at hLk hck hp16
      have hge : g < wr.heap.size := hS1.blkLt (b := g) (by focus ((repeat (first | exact .here | apply At.there)); done))
      have hbCg : bC ≠ g := hS1.neOld (by focus ((repeat (first | exact .here | apply At.there)); done)) HL.out
      have HBS := Lib.hid (show bC < wr.heap.size from Nat.lt_of_lt_of_le HL.out hS1.size)
      have HCW := Lib.hid (hS1.rdp HCI.out)
      have HQ := Lib.hid hq16
      have HV := Lib.hid hv16
      have HY := Lib.hid hy16
      have HCT := Lib.hid hct
      have HQQ := Lib.hid hqq
      have HYY := Lib.hid hyy
      have HCC := Lib.hid hcc
      have HPLN := Lib.hid hpl
      have HRK := Lib.hid hrk
      have HNK := Lib.hid hnk
      have HSN := Lib.hid hsn
      have HXL := Lib.hid hXl
      have HRW2 := Lib.hid hrw
      have HS1 := Lib.hid hS1
      have HNC := Lib.hid (show ∀ ad : Addr, some (⟨bC, 0, none⟩ : Addr) = some ad → ad.block ≠ g from fun ad e => by cases e; exact hbCg)
      have hyl : (y.map bV).length = 16 := by rw [List.length_map]; exact hy16
      have hcl : (ct.map bV).length = 16 := by rw [List.length_map]; exact hct
      have HYL := Lib.hid hyl
      have HCLN := Lib.hid hcl
      have hS := St.start1 (x := .blk g 29 L) (hS1.blk (b := g) (by focus ((repeat (first | exact .here | apply At.there)); done))) rfl
      clear hS1 hq16 hv16 hy16 hct hqq hyy hcc hpl hrk hnk hsn hXl hrw hyl hcl hdec hl HRW hbCg hkP
      clear hge
      go_upto_region 9 with (first | ((with_reducible show wpList _ _ _ (⟨some 27, Op.load _ _, _, _, _, _⟩ :: _) _ _); go_loud (first | (apply S_ld hS; rfl; rfl; rfl; (focus ((repeat (first | exact .here | apply At.there)); done)); rfl; (first | exact hLk | assumption | rfl | exact mapGetB (by first | assumption | (simp only [List.length_map, List.length_set, List.length_replicate, List.length_append, List.length_cons, List.length_nil]; omega)) | exact mapGet _ (by first | assumption | (simp only [List.length_map, List.length_set, List.length_replicate, List.length_append, List.length_cons, List.length_nil]; omega)))) | (apply S_ldOwn hS; rfl; rfl; rfl; (focus ((repeat (first | exact .here | apply At.there)); done)); rfl; (first | rfl | exact mapGetB (by first | assumption | (simp only [List.length_map, List.length_set, List.length_replicate, List.length_append, List.length_cons, List.length_nil]; omega)) | exact mapGet _ (by first | assumption | (simp only [List.length_map, List.length_set, List.length_replicate, List.length_append, List.length_cons, List.length_nil]; omega)))))))
      obtain ⟨N_, hN_⟩ := hS.sz
      have h0N_ := hS.size
      rw [hN_] at h0N_
      refine E_start (hR := KeepS.pre (SN N_ [])) #[false, false, false, false, false, false, false, false, false, false, false, false, false] (by kernel_rfl) rfl rfl (fun w_r1 hx_r1 he_r1 => ?_)
      have hzE_ : w_r1.heap.size = N_ := by rw [he_r1]; exact hN_
      have hz : N_ ≤ w_r1.heap.size := Nat.le_of_eq hzE_.symm
      replace hS := hS.drew; rw [← he_r1] at hS
      clear hx_r1 he_r1
      clear hzE_ hN_
      refine E_take (hR := KeepS.pre (SN N_ [])) (i := 0) (N := (some 28)) (v := ?vr1_0) (a' := ?ar1_0) #[true, false, false, false, false, false, false, false, false, false, false, false, false] rfl rfl (by kernel_rfl) (fun _ _ _ h => h) (by rfl) ?hyr1_0 ?har1_0 ?_
      case hyr1_0 =>
        intro w' hx
        go_simp
        with_reducible rfl
      case har1_0 => (simp only [Act.put, List.setIfInBounds_toArray, List.set_cons_zero, List.set_cons_succ]; rfl)
      refine E_take (hR := KeepS.pre (SN N_ [])) (i := 1) (N := (some 29)) (v := ?vr1_1) (a' := ?ar1_1) #[true, true, false, false, false, false, false, false, false, false, false, false, false] rfl rfl (by kernel_rfl) (fun _ _ _ h => h) (by rfl) ?hyr1_1 ?har1_1 ?_
      case hyr1_1 =>
        intro w' hx
        go_simp
        with_reducible rfl
      case har1_1 => (simp only [Act.put, List.setIfInBounds_toArray, List.set_cons_zero, List.set_cons_succ]; rfl)
      refine E_take (hR := KeepS.pre (SN N_ [])) (i := 3) (N := (some 31)) (v := ?vr1_3) (a' := ?ar1_3) #[true, true, false, true, false, false, false, false, false, false, false, false, false] rfl rfl (by kernel_rfl) (fun _ _ _ h => h) (by rfl) ?hyr1_3 ?har1_3 ?_
      case hyr1_3 =>
        intro w' hx
        go_simp
        with_reducible rfl
      case har1_3 => (simp only [Act.put, List.setIfInBounds_toArray, List.set_cons_zero, List.set_cons_succ]; rfl)
      refine E_take (hR := KeepS.pre (SN N_ [])) (i := 7) (N := (some 35)) (v := ?vr1_7) (a' := ?ar1_7) #[true, true, false, true, false, false, false, true, false, false, false, false, false] rfl rfl (by kernel_rfl) (fun _ _ _ h => h) (by rfl) ?hyr1_7 ?har1_7 ?_
      case hyr1_7 =>
        intro w' hx
        (apply Eq.trans; (apply run_makeFn; rfl; (simp only [List.map_toArray, List.map_cons, List.map_nil]; go_simp; with_reducible rfl); (simp only [List.map_toArray, List.map_cons, List.map_nil]; with_reducible rfl)); with_reducible rfl)
      case har1_7 => (simp only [Act.put, List.setIfInBounds_toArray, List.set_cons_zero, List.set_cons_succ]; rfl)
      refine E_take (hR := KeepS.pre (SN N_ [])) (i := 8) (N := (some 36)) (v := ?vr1_8) (a' := ?ar1_8) #[true, true, false, true, false, false, false, true, true, false, false, false, false] rfl rfl (by kernel_rfl) (fun _ _ _ h => h) (by rfl) ?hyr1_8 ?har1_8 ?_
      case hyr1_8 =>
        intro w' hx
        (apply Eq.trans; (apply run_nilCheckI (hm := meth_enc bC); rfl; rfl); with_reducible rfl)
      case har1_8 => (simp only [Act.put, List.setIfInBounds_toArray, List.set_cons_zero, List.set_cons_succ]; rfl)
      refine E_take (hR := KeepS.pre (SN N_ [])) (i := 9) (N := (some 37)) (v := ?vr1_9) (a' := ?ar1_9) #[true, true, false, true, false, false, false, true, true, true, false, false, false] rfl rfl (by kernel_rfl) (fun _ _ _ h => h) (by rfl) ?hyr1_9 ?har1_9 ?_
      case hyr1_9 =>
        intro w' hx
        go_simp
        with_reducible rfl
      case har1_9 => (simp only [Act.put, List.setIfInBounds_toArray, List.set_cons_zero, List.set_cons_succ]; rfl)
      refine E_split [2, 11] (by kernel_rfl) (by simp) (fun i_ hi_ => ?_)
      simp only [List.mem_cons, List.not_mem_nil, or_false] at hi_
      rcases hi_ with rfl | rfl
      · refine E_call1 (i := 2) (N := (some 30)) (args := ?gr1a_2) #[true, true, true, true, false, false, false, true, true, true, false, false, false] rfl rfl (by kernel_rfl) (by rfl) Try.func17 (by kernel_rfl) rfl rfl ?hgr1a_2 ?_
        case hgr1a_2 => (simp only [List.map_toArray, List.map_cons, List.map_nil]; go_simp; with_reducible rfl)
        refine (fill_any Ai pl ci p 16 _ HPLN.out (hS.rdm HRK.out HNK.out) (by omega) (by decide)).mono ?_
        rintro e w_ ⟨v1, rfl, hown_, hb_⟩
        rw [HQQ.out, HQ.out] at hown_
        (obtain ⟨A1, c1, rfl, hc_A1, -⟩ := own_rd hown_; refine ⟨_, rfl, KeepS.below hb_ hz, ?_⟩; have hn_A1 : ∀ g, Value.ownBlock (.slice A1 _ c1) = some g → N_ ≤ g := (fun g hg => Nat.le_trans hz (hown_.lt g hg).1); replace hS := hS.got hb_ hown_; replace hz := Nat.le_trans hz hb_.size; clear hb_ hown_)
        rintro _ rfl
        simp only [Act.put, List.setIfInBounds_toArray, List.set_cons_zero, List.set_cons_succ]
        refine E_split [4, 11] (by kernel_rfl) (by simp) (fun i_ hi_ => ?_)
        simp only [List.mem_cons, List.not_mem_nil, or_false] at hi_
        rcases hi_ with rfl | rfl
        · refine E_call1 (i := 4) (N := (some 32)) (args := ?gr1aa_4) #[true, true, true, true, true, false, false, true, true, true, false, false, false] rfl rfl (by kernel_rfl) (by rfl) Try.func16 (by kernel_rfl) rfl rfl ?hgr1aa_4 ?_
          case hgr1aa_4 => (simp only [List.map_toArray, List.map_cons, List.map_nil]; go_simp; with_reducible rfl)
          refine (xor_any A1 AL 16 16 c1 cL q l _ HQ.out HV.out (hS.ownRd (A := A1) (by focus ((repeat (first | exact .here | apply At.there)); done))) (hS.rdm HLS2.out HLN.out) hc_A1 (by decide)).mono ?_
          rintro e w_ ⟨v2, rfl, hown_, hb_⟩
          rw [HYY.out, HY.out] at hown_
          (obtain ⟨A2, c2, rfl, hc_A2, -⟩ := own_rd hown_; refine ⟨_, rfl, KeepS.below hb_ hz, ?_⟩; have hn_A2 : ∀ g, Value.ownBlock (.slice A2 _ c2) = some g → N_ ≤ g := (fun g hg => Nat.le_trans hz (hown_.lt g hg).1); replace hS := hS.got hb_ hown_; replace hz := Nat.le_trans hz hb_.size; clear hb_ hown_)
          rintro _ rfl
          simp only [Act.put, List.setIfInBounds_toArray, List.set_cons_zero, List.set_cons_succ]
          refine E_take (hR := KeepS.pre (SN N_ [])) (i := 5) (N := (some 33)) (v := ?vr1aa_5) (a' := ?ar1aa_5) #[true, true, true, true, true, true, false, true, true, true, false, false, false] rfl rfl (by kernel_rfl) (fun _ _ _ h => h) (by rfl) ?hyr1aa_5 ?har1aa_5 ?_
          case hyr1aa_5 =>
            intro w' hx
            (apply Eq.trans; (apply R_s2a; rfl; rfl; rfl; (first | assumption | omega)); with_reducible rfl)
          case har1aa_5 => (simp only [Act.put, List.setIfInBounds_toArray, List.set_cons_zero, List.set_cons_succ]; rfl)
          refine E_split [6, 11] (by kernel_rfl) (by simp) (fun i_ hi_ => ?_)
          simp only [List.mem_cons, List.not_mem_nil, or_false] at hi_
          rcases hi_ with rfl | rfl
          · (apply K_val (i := 6) (T := (some 34)) #[true, true, true, true, true, true, true, true, true, true, false, false, false]; rfl; rfl; (show _ = _; kernel_rfl); rfl; (apply R_ldRdAll (hS.ownRd (A := A2) (by focus ((repeat (first | exact .here | apply At.there)); done))); (exact HYL.out); decide; rfl; rfl; rfl; rfl); exact KeepS.refl _ _)
            rintro _ rfl
            simp only [Act.put, List.setIfInBounds_toArray, List.set_cons_zero, List.set_cons_succ]
            refine E_split [10, 11] (by kernel_rfl) (by simp) (fun i_ hi_ => ?_)
            simp only [List.mem_cons, List.not_mem_nil, or_false] at hi_
            rcases hi_ with rfl | rfl
            · refine E_callI1 (i := 10) (N := (some 38)) (args := ?gr1aaaa_10) #[true, true, true, true, true, true, true, true, true, true, true, false, false] rfl rfl (by kernel_rfl) (by rfl) Try.func11 (by kernel_rfl) rfl rfl rfl (meth_enc bC) ?hgr1aaaa_10 ?_
              case hgr1aaaa_10 => (simp only [List.map_toArray, List.map_cons, List.map_nil, List.append_toArray, List.cons_append, List.nil_append]; go_simp; with_reducible rfl)
              refine (encrypt_any bC K y _ (hS.rdm HCW.out HNC.out) (Nat.lt_of_lt_of_le HBS.out hS.size) HY.out HK.out).mono ?_
              rw [HCC.out]
              rintro e w_ ⟨rfl, hb_⟩
              (refine ⟨_, rfl, KeepS.below hb_ hz, ?_⟩; replace hS := hS.ext hb_; replace hz := Nat.le_trans hz hb_.size; clear hb_)
              rintro _ rfl
              simp only [Act.put, List.setIfInBounds_toArray, List.set_cons_zero, List.set_cons_succ]
              refine E_split [11] (by kernel_rfl) (by simp) (fun i_ hi_ => ?_)
              simp only [List.mem_cons, List.not_mem_nil, or_false] at hi_
              rcases hi_ with rfl
              apply K_alloc (i := 11) (T := (some 11)) (z := .agg ([.int .u8 0, .int .u8 0, .int .u8 0, .int .u8 0, .int .u8 0, .int .u8 0, .int .u8 0, .int .u8 0, .int .u8 0, .int .u8 0, .int .u8 0, .int .u8 0, .int .u8 0, .int .u8 0, .int .u8 0, .int .u8 0] : List Value).toArray) (L := [.int .u8 0, .int .u8 0, .int .u8 0, .int .u8 0, .int .u8 0, .int .u8 0, .int .u8 0, .int .u8 0, .int .u8 0, .int .u8 0, .int .u8 0, .int .u8 0, .int .u8 0, .int .u8 0, .int .u8 0, .int .u8 0]) hS hz #[true, true, true, true, true, true, true, true, true, true, true, true, false]
              (rfl; rfl; (show _ = _; kernel_rfl); rfl; rfl; (show _ = _; kernel_rfl); (show _ = _; rfl))
              clear hS hz
              intro bx w_ hN_bx hS hz
              rintro _ rfl
              simp only [Act.put, List.setIfInBounds_toArray, List.set_cons_zero, List.set_cons_succ]
              refine E_split [12] (by kernel_rfl) (by simp) (fun i_ hi_ => ?_)
              simp only [List.mem_cons, List.not_mem_nil, or_false] at hi_
              rcases hi_ with rfl
              (first | (apply K_stAll (i := 12) hS hz #[true, true, true, true, true, true, true, true, true, true, true, true, true]; rfl; rfl; kernel_rfl; rfl; rfl; rfl; rfl; (focus ((repeat (first | exact .here | apply At.there)); done)); (first | assumption | (refine Or.inl ?_; assumption) | (refine Or.inr ?_; focus (simp; done))); (first | assumption | (fail) | (focus (simp [bV, Value.oneCell']; done))); (first | rfl | ((rw [HCLN.out]; rfl))); (first | rfl | ((rw [HCLN.out]; rfl)))) | (apply K_stPart (i := 12) hS hz #[true, true, true, true, true, true, true, true, true, true, true, true, true]; rfl; rfl; kernel_rfl; rfl; rfl; rfl; rfl; (focus ((repeat (first | exact .here | apply At.there)); done)); (first | assumption | (refine Or.inl ?_; assumption) | (refine Or.inr ?_; focus (simp; done))); (first | assumption | (fail) | (focus (simp [bV, Value.oneCell']; done))); (first | rfl | ((rw [HCLN.out]; rfl))); (first | decide | ((rw [HCLN.out]; rfl)))))
              clear hS hz
              intro w_ hS hz
              try simp only [List.set_cons_zero, List.set_cons_succ] at hS
              refine E_done (by kernel_rfl) ?_
              have hneb : bx ≠ g := by first | exact hS.dist 0 3 (by omega) rfl rfl rfl rfl | exact hS.dist 1 3 (by omega) rfl rfl rfl rfl | exact hS.dist 2 3 (by omega) rfl rfl rfl rfl
              have hset := List.getElem?_set_self (a := Value.slice (some ⟨bx, 0, none⟩) 16 16) hkL
              go_wp2_with (first | ((with_reducible show wpList _ _ _ (⟨_, Op.store _ _ _, _, _, _, _⟩ :: _) _ _); go_loud (first | (apply S_st hS; rfl; rfl; rfl; (focus ((conv => lhs; whnf) <;> rfl)); (focus ((repeat (first | exact .here | apply At.there)); done)); rfl; rfl; (first | (assumption) | decide | assumption | (simp only [List.length_map, List.length_set, List.length_replicate, List.length_append, List.length_cons, List.length_nil]; omega)); clear hS; intro w_ hS; (try simp only [List.set_cons_zero, List.set_cons_succ] at hS)) | (apply S_stOwn hS; rfl; rfl; rfl; (focus ((conv => lhs; whnf) <;> rfl)); (focus ((repeat (first | exact .here | apply At.there)); done)); rfl; rfl; (first | decide | assumption | omega); clear hS; intro w_ hS; (try simp only [List.set_cons_zero, List.set_cons_succ] at hS)))) | ((with_reducible show wpList _ _ _ (⟨some 46, Op.load _ _, _, _, _, _⟩ :: _) _ _); go_loud (first | (apply S_ld hS; rfl; rfl; rfl; (focus ((repeat (first | exact .here | apply At.there)); done)); rfl; (first | exact hset | assumption | rfl | exact mapGetB (by first | assumption | (simp only [List.length_map, List.length_set, List.length_replicate, List.length_append, List.length_cons, List.length_nil]; omega)) | exact mapGet _ (by first | assumption | (simp only [List.length_map, List.length_set, List.length_replicate, List.length_append, List.length_cons, List.length_nil]; omega)))) | (apply S_ldOwn hS; rfl; rfl; rfl; (focus ((repeat (first | exact .here | apply At.there)); done)); rfl; (first | rfl | exact mapGetB (by first | assumption | (simp only [List.length_map, List.length_set, List.length_replicate, List.length_append, List.length_cons, List.length_nil]; omega)) | exact mapGet _ (by first | assumption | (simp only [List.length_map, List.length_set, List.length_replicate, List.length_append, List.length_cons, List.length_nil]; omega)))))))
              go_roundw
              case rel =>
                refine ⟨k + 1, some ⟨bx, 0, none⟩, 16, L.set k (.slice (some ⟨bx, 0, none⟩) 16 16), by go_num, by omega, rfl, by rw [List.length_set]; exact hLl, HS1.out.updB .here hS.grownBy (hS.blk (b := g) (by focus ((repeat (first | exact .here | apply At.there)); done))), Lib.hid ?_, Lib.hid ?_, Lib.hid fun ad e => by cases e; exact hneb⟩
                · have h1 := (HRW2.out.keep (W' := w_) fun A' xs h h' => hS.rdm h h').set (q := ct) HXL.out hkL (A := some ⟨bx, 0, none⟩) (c := 16) (hS.blkRd (b := bx) (by focus ((repeat (first | exact .here | apply At.there)); done))) (by rw [HCT.out]; exact Nat.le_refl _) (fun ad e => by cases e; exact hneb)
                  rw [HSN.out, List.append_assoc]
                  rw [HCT.out] at h1
                  exact h1
                · rw [HSN.out, List.getLastD_concat]
                  exact hS.blkRd (b := bx) (by focus ((repeat (first | exact .here | apply At.there)); done))
              case measure => simp [intOf]; omega
            · apply K_alloc (i := 11) (T := (some 11)) (z := .agg ([.int .u8 0, .int .u8 0, .int .u8 0, .int .u8 0, .int .u8 0, .int .u8 0, .int .u8 0, .int .u8 0, .int .u8 0, .int .u8 0, .int .u8 0, .int .u8 0, .int .u8 0, .int .u8 0, .int .u8 0, .int .u8 0] : List Value).toArray) (L := [.int .u8 0, .int .u8 0, .int .u8 0, .int .u8 0, .int .u8 0, .int .u8 0, .int .u8 0, .int .u8 0, .int .u8 0, .int .u8 0, .int .u8 0, .int .u8 0, .int .u8 0, .int .u8 0, .int .u8 0, .int .u8 0]) hS hz #[true, true, true, true, true, true, true, true, true, true, false, true, false]
              (rfl; rfl; (show _ = _; kernel_rfl); rfl; rfl; (show _ = _; kernel_rfl); (show _ = _; rfl))
              clear hS hz
              intro bx w_ hN_bx hS hz
              rintro _ rfl
              simp only [Act.put, List.setIfInBounds_toArray, List.set_cons_zero, List.set_cons_succ]
              refine E_split [10] (by kernel_rfl) (by simp) (fun i_ hi_ => ?_)
              simp only [List.mem_cons, List.not_mem_nil, or_false] at hi_
              rcases hi_ with rfl
              refine E_callI1 (i := 10) (N := (some 38)) (args := ?gr1aaab_10) #[true, true, true, true, true, true, true, true, true, true, true, true, false] rfl rfl (by kernel_rfl) (by rfl) Try.func11 (by kernel_rfl) rfl rfl rfl (meth_enc bC) ?hgr1aaab_10 ?_
              case hgr1aaab_10 => (simp only [List.map_toArray, List.map_cons, List.map_nil, List.append_toArray, List.cons_append, List.nil_append]; go_simp; with_reducible rfl)
              refine (encrypt_any bC K y _ (hS.rdm HCW.out HNC.out) (Nat.lt_of_lt_of_le HBS.out hS.size) HY.out HK.out).mono ?_
              rw [HCC.out]
              rintro e w_ ⟨rfl, hb_⟩
              (refine ⟨_, rfl, KeepS.below hb_ hz, ?_⟩; replace hS := hS.ext hb_; replace hz := Nat.le_trans hz hb_.size; clear hb_)
              rintro _ rfl
              simp only [Act.put, List.setIfInBounds_toArray, List.set_cons_zero, List.set_cons_succ]
              refine E_split [12] (by kernel_rfl) (by simp) (fun i_ hi_ => ?_)
              simp only [List.mem_cons, List.not_mem_nil, or_false] at hi_
              rcases hi_ with rfl
              (first | (apply K_stAll (i := 12) hS hz #[true, true, true, true, true, true, true, true, true, true, true, true, true]; rfl; rfl; kernel_rfl; rfl; rfl; rfl; rfl; (focus ((repeat (first | exact .here | apply At.there)); done)); (first | assumption | (refine Or.inl ?_; assumption) | (refine Or.inr ?_; focus (simp; done))); (first | assumption | (fail) | (focus (simp [bV, Value.oneCell']; done))); (first | rfl | ((rw [HCLN.out]; rfl))); (first | rfl | ((rw [HCLN.out]; rfl)))) | (apply K_stPart (i := 12) hS hz #[true, true, true, true, true, true, true, true, true, true, true, true, true]; rfl; rfl; kernel_rfl; rfl; rfl; rfl; rfl; (focus ((repeat (first | exact .here | apply At.there)); done)); (first | assumption | (refine Or.inl ?_; assumption) | (refine Or.inr ?_; focus (simp; done))); (first | assumption | (fail) | (focus (simp [bV, Value.oneCell']; done))); (first | rfl | ((rw [HCLN.out]; rfl))); (first | decide | ((rw [HCLN.out]; rfl)))))
              clear hS hz
              intro w_ hS hz
              try simp only [List.set_cons_zero, List.set_cons_succ] at hS
              refine E_done (by kernel_rfl) ?_
              have hneb : bx ≠ g := by first | exact hS.dist 0 3 (by omega) rfl rfl rfl rfl | exact hS.dist 1 3 (by omega) rfl rfl rfl rfl | exact hS.dist 2 3 (by omega) rfl rfl rfl rfl
              have hset := List.getElem?_set_self (a := Value.slice (some ⟨bx, 0, none⟩) 16 16) hkL
              go_wp2_with (first | ((with_reducible show wpList _ _ _ (⟨_, Op.store _ _ _, _, _, _, _⟩ :: _) _ _); go_loud (first | (apply S_st hS; rfl; rfl; rfl; (focus ((conv => lhs; whnf) <;> rfl)); (focus ((repeat (first | exact .here | apply At.there)); done)); rfl; rfl; (first | (assumption) | decide | assumption | (simp only [List.length_map, List.length_set, List.length_replicate, List.length_append, List.length_cons, List.length_nil]; omega)); clear hS; intro w_ hS; (try simp only [List.set_cons_zero, List.set_cons_succ] at hS)) | (apply S_stOwn hS; rfl; rfl; rfl; (focus ((conv => lhs; whnf) <;> rfl)); (focus ((repeat (first | exact .here | apply At.there)); done)); rfl; rfl; (first | decide | assumption | omega); clear hS; intro w_ hS; (try simp only [List.set_cons_zero, List.set_cons_succ] at hS)))) | ((with_reducible show wpList _ _ _ (⟨some 46, Op.load _ _, _, _, _, _⟩ :: _) _ _); go_loud (first | (apply S_ld hS; rfl; rfl; rfl; (focus ((repeat (first | exact .here | apply At.there)); done)); rfl; (first | exact hset | assumption | rfl | exact mapGetB (by first | assumption | (simp only [List.length_map, List.length_set, List.length_replicate, List.length_append, List.length_cons, List.length_nil]; omega)) | exact mapGet _ (by first | assumption | (simp only [List.length_map, List.length_set, List.length_replicate, List.length_append, List.length_cons, List.length_nil]; omega)))) | (apply S_ldOwn hS; rfl; rfl; rfl; (focus ((repeat (first | exact .here | apply At.there)); done)); rfl; (first | rfl | exact mapGetB (by first | assumption | (simp only [List.length_map, List.length_set, List.length_replicate, List.length_append, List.length_cons, List.length_nil]; omega)) | exact mapGet _ (by first | assumption | (simp only [List.length_map, List.length_set, List.length_replicate, List.length_append, List.length_cons, List.length_nil]; omega)))))))
              go_roundw
              case rel =>
                refine ⟨k + 1, some ⟨bx, 0, none⟩, 16, L.set k (.slice (some ⟨bx, 0, none⟩) 16 16), by go_num, by omega, rfl, by rw [List.length_set]; exact hLl, HS1.out.updB .here hS.grownBy (hS.blk (b := g) (by focus ((repeat (first | exact .here | apply At.there)); done))), Lib.hid ?_, Lib.hid ?_, Lib.hid fun ad e => by cases e; exact hneb⟩
                · have h1 := (HRW2.out.keep (W' := w_) fun A' xs h h' => hS.rdm h h').set (q := ct) HXL.out hkL (A := some ⟨bx, 0, none⟩) (c := 16) (hS.blkRd (b := bx) (by focus ((repeat (first | exact .here | apply At.there)); done))) (by rw [HCT.out]; exact Nat.le_refl _) (fun ad e => by cases e; exact hneb)
                  rw [HSN.out, List.append_assoc]
                  rw [HCT.out] at h1
                  exact h1
                · rw [HSN.out, List.getLastD_concat]
                  exact hS.blkRd (b := bx) (by focus ((repeat (first | exact .here | apply At.there)); done))
              case measure => simp [intOf]; omega
          · apply K_alloc (i := 11) (T := (some 11)) (z := .agg ([.int .u8 0, .int .u8 0, .int .u8 0, .int .u8 0, .int .u8 0, .int .u8 0, .int .u8 0, .int .u8 0, .int .u8 0, .int .u8 0, .int .u8 0, .int .u8 0, .int .u8 0, .int .u8 0, .int .u8 0, .int .u8 0] : List Value).toArray) (L := [.int .u8 0, .int .u8 0, .int .u8 0, .int .u8 0, .int .u8 0, .int .u8 0, .int .u8 0, .int .u8 0, .int .u8 0, .int .u8 0, .int .u8 0, .int .u8 0, .int .u8 0, .int .u8 0, .int .u8 0, .int .u8 0]) hS hz #[true, true, true, true, true, true, false, true, true, true, false, true, false]
            (rfl; rfl; (show _ = _; kernel_rfl); rfl; rfl; (show _ = _; kernel_rfl); (show _ = _; rfl))
            clear hS hz
            intro bx w_ hN_bx hS hz
            rintro _ rfl
            simp only [Act.put, List.setIfInBounds_toArray, List.set_cons_zero, List.set_cons_succ]
            refine E_split [6] (by kernel_rfl) (by simp) (fun i_ hi_ => ?_)
            simp only [List.mem_cons, List.not_mem_nil, or_false] at hi_
            rcases hi_ with rfl
            (apply K_val (i := 6) (T := (some 34)) #[true, true, true, true, true, true, true, true, true, true, false, true, false]; rfl; rfl; (show _ = _; kernel_rfl); rfl; (apply R_ldRdAll (hS.ownRd (A := A2) (by focus ((repeat (first | exact .here | apply At.there)); done))); (exact HYL.out); decide; rfl; rfl; rfl; rfl); exact KeepS.refl _ _)
            rintro _ rfl
            simp only [Act.put, List.setIfInBounds_toArray, List.set_cons_zero, List.set_cons_succ]
            refine E_split [10] (by kernel_rfl) (by simp) (fun i_ hi_ => ?_)
            simp only [List.mem_cons, List.not_mem_nil, or_false] at hi_
            rcases hi_ with rfl
            refine E_callI1 (i := 10) (N := (some 38)) (args := ?gr1aab_10) #[true, true, true, true, true, true, true, true, true, true, true, true, false] rfl rfl (by kernel_rfl) (by rfl) Try.func11 (by kernel_rfl) rfl rfl rfl (meth_enc bC) ?hgr1aab_10 ?_
            case hgr1aab_10 => (simp only [List.map_toArray, List.map_cons, List.map_nil, List.append_toArray, List.cons_append, List.nil_append]; go_simp; with_reducible rfl)
            refine (encrypt_any bC K y _ (hS.rdm HCW.out HNC.out) (Nat.lt_of_lt_of_le HBS.out hS.size) HY.out HK.out).mono ?_
            rw [HCC.out]
            rintro e w_ ⟨rfl, hb_⟩
            (refine ⟨_, rfl, KeepS.below hb_ hz, ?_⟩; replace hS := hS.ext hb_; replace hz := Nat.le_trans hz hb_.size; clear hb_)
            rintro _ rfl
            simp only [Act.put, List.setIfInBounds_toArray, List.set_cons_zero, List.set_cons_succ]
            refine E_split [12] (by kernel_rfl) (by simp) (fun i_ hi_ => ?_)
            simp only [List.mem_cons, List.not_mem_nil, or_false] at hi_
            rcases hi_ with rfl
            (first | (apply K_stAll (i := 12) hS hz #[true, true, true, true, true, true, true, true, true, true, true, true, true]; rfl; rfl; kernel_rfl; rfl; rfl; rfl; rfl; (focus ((repeat (first | exact .here | apply At.there)); done)); (first | assumption | (refine Or.inl ?_; assumption) | (refine Or.inr ?_; focus (simp; done))); (first | assumption | (fail) | (focus (simp [bV, Value.oneCell']; done))); (first | rfl | ((rw [HCLN.out]; rfl))); (first | rfl | ((rw [HCLN.out]; rfl)))) | (apply K_stPart (i := 12) hS hz #[true, true, true, true, true, true, true, true, true, true, true, true, true]; rfl; rfl; kernel_rfl; rfl; rfl; rfl; rfl; (focus ((repeat (first | exact .here | apply At.there)); done)); (first | assumption | (refine Or.inl ?_; assumption) | (refine Or.inr ?_; focus (simp; done))); (first | assumption | (fail) | (focus (simp [bV, Value.oneCell']; done))); (first | rfl | ((rw [HCLN.out]; rfl))); (first | decide | ((rw [HCLN.out]; rfl)))))
            clear hS hz
            intro w_ hS hz
            try simp only [List.set_cons_zero, List.set_cons_succ] at hS
            refine E_done (by kernel_rfl) ?_
            have hneb : bx ≠ g := by first | exact hS.dist 0 3 (by omega) rfl rfl rfl rfl | exact hS.dist 1 3 (by omega) rfl rfl rfl rfl | exact hS.dist 2 3 (by omega) rfl rfl rfl rfl
            have hset := List.getElem?_set_self (a := Value.slice (some ⟨bx, 0, none⟩) 16 16) hkL
            go_wp2_with (first | ((with_reducible show wpList _ _ _ (⟨_, Op.store _ _ _, _, _, _, _⟩ :: _) _ _); go_loud (first | (apply S_st hS; rfl; rfl; rfl; (focus ((conv => lhs; whnf) <;> rfl)); (focus ((repeat (first | exact .here | apply At.there)); done)); rfl; rfl; (first | (assumption) | decide | assumption | (simp only [List.length_map, List.length_set, List.length_replicate, List.length_append, List.length_cons, List.length_nil]; omega)); clear hS; intro w_ hS; (try simp only [List.set_cons_zero, List.set_cons_succ] at hS)) | (apply S_stOwn hS; rfl; rfl; rfl; (focus ((conv => lhs; whnf) <;> rfl)); (focus ((repeat (first | exact .here | apply At.there)); done)); rfl; rfl; (first | decide | assumption | omega); clear hS; intro w_ hS; (try simp only [List.set_cons_zero, List.set_cons_succ] at hS)))) | ((with_reducible show wpList _ _ _ (⟨some 46, Op.load _ _, _, _, _, _⟩ :: _) _ _); go_loud (first | (apply S_ld hS; rfl; rfl; rfl; (focus ((repeat (first | exact .here | apply At.there)); done)); rfl; (first | exact hset | assumption | rfl | exact mapGetB (by first | assumption | (simp only [List.length_map, List.length_set, List.length_replicate, List.length_append, List.length_cons, List.length_nil]; omega)) | exact mapGet _ (by first | assumption | (simp only [List.length_map, List.length_set, List.length_replicate, List.length_append, List.length_cons, List.length_nil]; omega)))) | (apply S_ldOwn hS; rfl; rfl; rfl; (focus ((repeat (first | exact .here | apply At.there)); done)); rfl; (first | rfl | exact mapGetB (by first | assumption | (simp only [List.length_map, List.length_set, List.length_replicate, List.length_append, List.length_cons, List.length_nil]; omega)) | exact mapGet _ (by first | assumption | (simp only [List.length_map, List.length_set, List.length_replicate, List.length_append, List.length_cons, List.length_nil]; omega)))))))
            go_roundw
            case rel =>
              refine ⟨k + 1, some ⟨bx, 0, none⟩, 16, L.set k (.slice (some ⟨bx, 0, none⟩) 16 16), by go_num, by omega, rfl, by rw [List.length_set]; exact hLl, HS1.out.updB .here hS.grownBy (hS.blk (b := g) (by focus ((repeat (first | exact .here | apply At.there)); done))), Lib.hid ?_, Lib.hid ?_, Lib.hid fun ad e => by cases e; exact hneb⟩
              · have h1 := (HRW2.out.keep (W' := w_) fun A' xs h h' => hS.rdm h h').set (q := ct) HXL.out hkL (A := some ⟨bx, 0, none⟩) (c := 16) (hS.blkRd (b := bx) (by focus ((repeat (first | exact .here | apply At.there)); done))) (by rw [HCT.out]; exact Nat.le_refl _) (fun ad e => by cases e; exact hneb)
                rw [HSN.out, List.append_assoc]
                rw [HCT.out] at h1
                exact h1
              · rw [HSN.out, List.getLastD_concat]
                exact hS.blkRd (b := bx) (by focus ((repeat (first | exact .here | apply At.there)); done))
            case measure => simp [intOf]; omega
        · apply K_alloc (i := 11) (T := (some 11)) (z := .agg ([.int .u8 0, .int .u8 0, .int .u8 0, .int .u8 0, .int .u8 0, .int .u8 0, .int .u8 0, .int .u8 0, .int .u8 0, .int .u8 0, .int .u8 0, .int .u8 0, .int .u8 0, .int .u8 0, .int .u8 0, .int .u8 0] : List Value).toArray) (L := [.int .u8 0, .int .u8 0, .int .u8 0, .int .u8 0, .int .u8 0, .int .u8 0, .int .u8 0, .int .u8 0, .int .u8 0, .int .u8 0, .int .u8 0, .int .u8 0, .int .u8 0, .int .u8 0, .int .u8 0, .int .u8 0]) hS hz #[true, true, true, true, false, false, false, true, true, true, false, true, false]
          (rfl; rfl; (show _ = _; kernel_rfl); rfl; rfl; (show _ = _; kernel_rfl); (show _ = _; rfl))
          clear hS hz
          intro bx w_ hN_bx hS hz
          rintro _ rfl
          simp only [Act.put, List.setIfInBounds_toArray, List.set_cons_zero, List.set_cons_succ]
          refine E_split [4] (by kernel_rfl) (by simp) (fun i_ hi_ => ?_)
          simp only [List.mem_cons, List.not_mem_nil, or_false] at hi_
          rcases hi_ with rfl
          refine E_call1 (i := 4) (N := (some 32)) (args := ?gr1ab_4) #[true, true, true, true, true, false, false, true, true, true, false, true, false] rfl rfl (by kernel_rfl) (by rfl) Try.func16 (by kernel_rfl) rfl rfl ?hgr1ab_4 ?_
          case hgr1ab_4 => (simp only [List.map_toArray, List.map_cons, List.map_nil]; go_simp; with_reducible rfl)
          refine (xor_any A1 AL 16 16 c1 cL q l _ HQ.out HV.out (hS.ownRd (A := A1) (by focus ((repeat (first | exact .here | apply At.there)); done))) (hS.rdm HLS2.out HLN.out) hc_A1 (by decide)).mono ?_
          rintro e w_ ⟨v2, rfl, hown_, hb_⟩
          rw [HYY.out, HY.out] at hown_
          (obtain ⟨A2, c2, rfl, hc_A2, -⟩ := own_rd hown_; refine ⟨_, rfl, KeepS.below hb_ hz, ?_⟩; have hn_A2 : ∀ g, Value.ownBlock (.slice A2 _ c2) = some g → N_ ≤ g := (fun g hg => Nat.le_trans hz (hown_.lt g hg).1); replace hS := hS.got hb_ hown_; replace hz := Nat.le_trans hz hb_.size; clear hb_ hown_)
          rintro _ rfl
          simp only [Act.put, List.setIfInBounds_toArray, List.set_cons_zero, List.set_cons_succ]
          refine E_take (hR := KeepS.pre (SN N_ [])) (i := 5) (N := (some 33)) (v := ?vr1ab_5) (a' := ?ar1ab_5) #[true, true, true, true, true, true, false, true, true, true, false, true, false] rfl rfl (by kernel_rfl) (fun _ _ _ h => h) (by rfl) ?hyr1ab_5 ?har1ab_5 ?_
          case hyr1ab_5 =>
            intro w' hx
            (apply Eq.trans; (apply R_s2a; rfl; rfl; rfl; (first | assumption | omega)); with_reducible rfl)
          case har1ab_5 => (simp only [Act.put, List.setIfInBounds_toArray, List.set_cons_zero, List.set_cons_succ]; rfl)
          refine E_split [6] (by kernel_rfl) (by simp) (fun i_ hi_ => ?_)
          simp only [List.mem_cons, List.not_mem_nil, or_false] at hi_
          rcases hi_ with rfl
          (apply K_val (i := 6) (T := (some 34)) #[true, true, true, true, true, true, true, true, true, true, false, true, false]; rfl; rfl; (show _ = _; kernel_rfl); rfl; (apply R_ldRdAll (hS.ownRd (A := A2) (by focus ((repeat (first | exact .here | apply At.there)); done))); (exact HYL.out); decide; rfl; rfl; rfl; rfl); exact KeepS.refl _ _)
          rintro _ rfl
          simp only [Act.put, List.setIfInBounds_toArray, List.set_cons_zero, List.set_cons_succ]
          refine E_split [10] (by kernel_rfl) (by simp) (fun i_ hi_ => ?_)
          simp only [List.mem_cons, List.not_mem_nil, or_false] at hi_
          rcases hi_ with rfl
          refine E_callI1 (i := 10) (N := (some 38)) (args := ?gr1ab_10) #[true, true, true, true, true, true, true, true, true, true, true, true, false] rfl rfl (by kernel_rfl) (by rfl) Try.func11 (by kernel_rfl) rfl rfl rfl (meth_enc bC) ?hgr1ab_10 ?_
          case hgr1ab_10 => (simp only [List.map_toArray, List.map_cons, List.map_nil, List.append_toArray, List.cons_append, List.nil_append]; go_simp; with_reducible rfl)
          refine (encrypt_any bC K y _ (hS.rdm HCW.out HNC.out) (Nat.lt_of_lt_of_le HBS.out hS.size) HY.out HK.out).mono ?_
          rw [HCC.out]
          rintro e w_ ⟨rfl, hb_⟩
          (refine ⟨_, rfl, KeepS.below hb_ hz, ?_⟩; replace hS := hS.ext hb_; replace hz := Nat.le_trans hz hb_.size; clear hb_)
          rintro _ rfl
          simp only [Act.put, List.setIfInBounds_toArray, List.set_cons_zero, List.set_cons_succ]
          refine E_split [12] (by kernel_rfl) (by simp) (fun i_ hi_ => ?_)
          simp only [List.mem_cons, List.not_mem_nil, or_false] at hi_
          rcases hi_ with rfl
          (first | (apply K_stAll (i := 12) hS hz #[true, true, true, true, true, true, true, true, true, true, true, true, true]; rfl; rfl; kernel_rfl; rfl; rfl; rfl; rfl; (focus ((repeat (first | exact .here | apply At.there)); done)); (first | assumption | (refine Or.inl ?_; assumption) | (refine Or.inr ?_; focus (simp; done))); (first | assumption | (fail) | (focus (simp [bV, Value.oneCell']; done))); (first | rfl | ((rw [HCLN.out]; rfl))); (first | rfl | ((rw [HCLN.out]; rfl)))) | (apply K_stPart (i := 12) hS hz #[true, true, true, true, true, true, true, true, true, true, true, true, true]; rfl; rfl; kernel_rfl; rfl; rfl; rfl; rfl; (focus ((repeat (first | exact .here | apply At.there)); done)); (first | assumption | (refine Or.inl ?_; assumption) | (refine Or.inr ?_; focus (simp; done))); (first | assumption | (fail) | (focus (simp [bV, Value.oneCell']; done))); (first | rfl | ((rw [HCLN.out]; rfl))); (first | decide | ((rw [HCLN.out]; rfl)))))
          clear hS hz
          intro w_ hS hz
          try simp only [List.set_cons_zero, List.set_cons_succ] at hS
          refine E_done (by kernel_rfl) ?_
          have hneb : bx ≠ g := by first | exact hS.dist 0 3 (by omega) rfl rfl rfl rfl | exact hS.dist 1 3 (by omega) rfl rfl rfl rfl | exact hS.dist 2 3 (by omega) rfl rfl rfl rfl
          have hset := List.getElem?_set_self (a := Value.slice (some ⟨bx, 0, none⟩) 16 16) hkL
          go_wp2_with (first | ((with_reducible show wpList _ _ _ (⟨_, Op.store _ _ _, _, _, _, _⟩ :: _) _ _); go_loud (first | (apply S_st hS; rfl; rfl; rfl; (focus ((conv => lhs; whnf) <;> rfl)); (focus ((repeat (first | exact .here | apply At.there)); done)); rfl; rfl; (first | (assumption) | decide | assumption | (simp only [List.length_map, List.length_set, List.length_replicate, List.length_append, List.length_cons, List.length_nil]; omega)); clear hS; intro w_ hS; (try simp only [List.set_cons_zero, List.set_cons_succ] at hS)) | (apply S_stOwn hS; rfl; rfl; rfl; (focus ((conv => lhs; whnf) <;> rfl)); (focus ((repeat (first | exact .here | apply At.there)); done)); rfl; rfl; (first | decide | assumption | omega); clear hS; intro w_ hS; (try simp only [List.set_cons_zero, List.set_cons_succ] at hS)))) | ((with_reducible show wpList _ _ _ (⟨some 46, Op.load _ _, _, _, _, _⟩ :: _) _ _); go_loud (first | (apply S_ld hS; rfl; rfl; rfl; (focus ((repeat (first | exact .here | apply At.there)); done)); rfl; (first | exact hset | assumption | rfl | exact mapGetB (by first | assumption | (simp only [List.length_map, List.length_set, List.length_replicate, List.length_append, List.length_cons, List.length_nil]; omega)) | exact mapGet _ (by first | assumption | (simp only [List.length_map, List.length_set, List.length_replicate, List.length_append, List.length_cons, List.length_nil]; omega)))) | (apply S_ldOwn hS; rfl; rfl; rfl; (focus ((repeat (first | exact .here | apply At.there)); done)); rfl; (first | rfl | exact mapGetB (by first | assumption | (simp only [List.length_map, List.length_set, List.length_replicate, List.length_append, List.length_cons, List.length_nil]; omega)) | exact mapGet _ (by first | assumption | (simp only [List.length_map, List.length_set, List.length_replicate, List.length_append, List.length_cons, List.length_nil]; omega)))))))
          go_roundw
          case rel =>
            refine ⟨k + 1, some ⟨bx, 0, none⟩, 16, L.set k (.slice (some ⟨bx, 0, none⟩) 16 16), by go_num, by omega, rfl, by rw [List.length_set]; exact hLl, HS1.out.updB .here hS.grownBy (hS.blk (b := g) (by focus ((repeat (first | exact .here | apply At.there)); done))), Lib.hid ?_, Lib.hid ?_, Lib.hid fun ad e => by cases e; exact hneb⟩
            · have h1 := (HRW2.out.keep (W' := w_) fun A' xs h h' => hS.rdm h h').set (q := ct) HXL.out hkL (A := some ⟨bx, 0, none⟩) (c := 16) (hS.blkRd (b := bx) (by focus ((repeat (first | exact .here | apply At.there)); done))) (by rw [HCT.out]; exact Nat.le_refl _) (fun ad e => by cases e; exact hneb)
              rw [HSN.out, List.append_assoc]
              rw [HCT.out] at h1
              exact h1
            · rw [HSN.out, List.getLastD_concat]
              exact hS.blkRd (b := bx) (by focus ((repeat (first | exact .here | apply At.there)); done))
          case measure => simp [intOf]; omega
      · apply K_alloc (i := 11) (T := (some 11)) (z := .agg ([.int .u8 0, .int .u8 0, .int .u8 0, .int .u8 0, .int .u8 0, .int .u8 0, .int .u8 0, .int .u8 0, .int .u8 0, .int .u8 0, .int .u8 0, .int .u8 0, .int .u8 0, .int .u8 0, .int .u8 0, .int .u8 0] : List Value).toArray) (L := [.int .u8 0, .int .u8 0, .int .u8 0, .int .u8 0, .int .u8 0, .int .u8 0, .int .u8 0, .int .u8 0, .int .u8 0, .int .u8 0, .int .u8 0, .int .u8 0, .int .u8 0, .int .u8 0, .int .u8 0, .int .u8 0]) hS hz #[true, true, false, true, false, false, false, true, true, true, false, true, false]
        (rfl; rfl; (show _ = _; kernel_rfl); rfl; rfl; (show _ = _; kernel_rfl); (show _ = _; rfl))
        clear hS hz
        intro bx w_ hN_bx hS hz
        rintro _ rfl
        simp only [Act.put, List.setIfInBounds_toArray, List.set_cons_zero, List.set_cons_succ]
        refine E_split [2] (by kernel_rfl) (by simp) (fun i_ hi_ => ?_)
        simp only [List.mem_cons, List.not_mem_nil, or_false] at hi_
        rcases hi_ with rfl
        refine E_call1 (i := 2) (N := (some 30)) (args := ?gr1b_2) #[true, true, true, true, false, false, false, true, true, true, false, true, false] rfl rfl (by kernel_rfl) (by rfl) Try.func17 (by kernel_rfl) rfl rfl ?hgr1b_2 ?_
        case hgr1b_2 => (simp only [List.map_toArray, List.map_cons, List.map_nil]; go_simp; with_reducible rfl)
        refine (fill_any Ai pl ci p 16 _ HPLN.out (hS.rdm HRK.out HNK.out) (by omega) (by decide)).mono ?_
        rintro e w_ ⟨v1, rfl, hown_, hb_⟩
        rw [HQQ.out, HQ.out] at hown_
        (obtain ⟨A1, c1, rfl, hc_A1, -⟩ := own_rd hown_; refine ⟨_, rfl, KeepS.below hb_ hz, ?_⟩; have hn_A1 : ∀ g, Value.ownBlock (.slice A1 _ c1) = some g → N_ ≤ g := (fun g hg => Nat.le_trans hz (hown_.lt g hg).1); replace hS := hS.got hb_ hown_; replace hz := Nat.le_trans hz hb_.size; clear hb_ hown_)
        rintro _ rfl
        simp only [Act.put, List.setIfInBounds_toArray, List.set_cons_zero, List.set_cons_succ]
        refine E_split [4] (by kernel_rfl) (by simp) (fun i_ hi_ => ?_)
        simp only [List.mem_cons, List.not_mem_nil, or_false] at hi_
        rcases hi_ with rfl
        refine E_call1 (i := 4) (N := (some 32)) (args := ?gr1b_4) #[true, true, true, true, true, false, false, true, true, true, false, true, false] rfl rfl (by kernel_rfl) (by rfl) Try.func16 (by kernel_rfl) rfl rfl ?hgr1b_4 ?_
        case hgr1b_4 => (simp only [List.map_toArray, List.map_cons, List.map_nil]; go_simp; with_reducible rfl)
        refine (xor_any A1 AL 16 16 c1 cL q l _ HQ.out HV.out (hS.ownRd (A := A1) (by focus ((repeat (first | exact .here | apply At.there)); done))) (hS.rdm HLS2.out HLN.out) hc_A1 (by decide)).mono ?_
        rintro e w_ ⟨v2, rfl, hown_, hb_⟩
        rw [HYY.out, HY.out] at hown_
        (obtain ⟨A2, c2, rfl, hc_A2, -⟩ := own_rd hown_; refine ⟨_, rfl, KeepS.below hb_ hz, ?_⟩; have hn_A2 : ∀ g, Value.ownBlock (.slice A2 _ c2) = some g → N_ ≤ g := (fun g hg => Nat.le_trans hz (hown_.lt g hg).1); replace hS := hS.got hb_ hown_; replace hz := Nat.le_trans hz hb_.size; clear hb_ hown_)
        rintro _ rfl
        simp only [Act.put, List.setIfInBounds_toArray, List.set_cons_zero, List.set_cons_succ]
        refine E_take (hR := KeepS.pre (SN N_ [])) (i := 5) (N := (some 33)) (v := ?vr1b_5) (a' := ?ar1b_5) #[true, true, true, true, true, true, false, true, true, true, false, true, false] rfl rfl (by kernel_rfl) (fun _ _ _ h => h) (by rfl) ?hyr1b_5 ?har1b_5 ?_
        case hyr1b_5 =>
          intro w' hx
          (apply Eq.trans; (apply R_s2a; rfl; rfl; rfl; (first | assumption | omega)); with_reducible rfl)
        case har1b_5 => (simp only [Act.put, List.setIfInBounds_toArray, List.set_cons_zero, List.set_cons_succ]; rfl)
        refine E_split [6] (by kernel_rfl) (by simp) (fun i_ hi_ => ?_)
        simp only [List.mem_cons, List.not_mem_nil, or_false] at hi_
        rcases hi_ with rfl
        (apply K_val (i := 6) (T := (some 34)) #[true, true, true, true, true, true, true, true, true, true, false, true, false]; rfl; rfl; (show _ = _; kernel_rfl); rfl; (apply R_ldRdAll (hS.ownRd (A := A2) (by focus ((repeat (first | exact .here | apply At.there)); done))); (exact HYL.out); decide; rfl; rfl; rfl; rfl); exact KeepS.refl _ _)
        rintro _ rfl
        simp only [Act.put, List.setIfInBounds_toArray, List.set_cons_zero, List.set_cons_succ]
        refine E_split [10] (by kernel_rfl) (by simp) (fun i_ hi_ => ?_)
        simp only [List.mem_cons, List.not_mem_nil, or_false] at hi_
        rcases hi_ with rfl
        refine E_callI1 (i := 10) (N := (some 38)) (args := ?gr1b_10) #[true, true, true, true, true, true, true, true, true, true, true, true, false] rfl rfl (by kernel_rfl) (by rfl) Try.func11 (by kernel_rfl) rfl rfl rfl (meth_enc bC) ?hgr1b_10 ?_
        case hgr1b_10 => (simp only [List.map_toArray, List.map_cons, List.map_nil, List.append_toArray, List.cons_append, List.nil_append]; go_simp; with_reducible rfl)
        refine (encrypt_any bC K y _ (hS.rdm HCW.out HNC.out) (Nat.lt_of_lt_of_le HBS.out hS.size) HY.out HK.out).mono ?_
        rw [HCC.out]
        rintro e w_ ⟨rfl, hb_⟩
        (refine ⟨_, rfl, KeepS.below hb_ hz, ?_⟩; replace hS := hS.ext hb_; replace hz := Nat.le_trans hz hb_.size; clear hb_)
        rintro _ rfl
        simp only [Act.put, List.setIfInBounds_toArray, List.set_cons_zero, List.set_cons_succ]
        refine E_split [12] (by kernel_rfl) (by simp) (fun i_ hi_ => ?_)
        simp only [List.mem_cons, List.not_mem_nil, or_false] at hi_
        rcases hi_ with rfl
        (first | (apply K_stAll (i := 12) hS hz #[true, true, true, true, true, true, true, true, true, true, true, true, true]; rfl; rfl; kernel_rfl; rfl; rfl; rfl; rfl; (focus ((repeat (first | exact .here | apply At.there)); done)); (first | assumption | (refine Or.inl ?_; assumption) | (refine Or.inr ?_; focus (simp; done))); (first | assumption | (fail) | (focus (simp [bV, Value.oneCell']; done))); (first | rfl | ((rw [HCLN.out]; rfl))); (first | rfl | ((rw [HCLN.out]; rfl)))) | (apply K_stPart (i := 12) hS hz #[true, true, true, true, true, true, true, true, true, true, true, true, true]; rfl; rfl; kernel_rfl; rfl; rfl; rfl; rfl; (focus ((repeat (first | exact .here | apply At.there)); done)); (first | assumption | (refine Or.inl ?_; assumption) | (refine Or.inr ?_; focus (simp; done))); (first | assumption | (fail) | (focus (simp [bV, Value.oneCell']; done))); (first | rfl | ((rw [HCLN.out]; rfl))); (first | decide | ((rw [HCLN.out]; rfl)))))
        clear hS hz
        intro w_ hS hz
        try simp only [List.set_cons_zero, List.set_cons_succ] at hS
        refine E_done (by kernel_rfl) ?_
        have hneb : bx ≠ g := by first | exact hS.dist 0 3 (by omega) rfl rfl rfl rfl | exact hS.dist 1 3 (by omega) rfl rfl rfl rfl | exact hS.dist 2 3 (by omega) rfl rfl rfl rfl
        have hset := List.getElem?_set_self (a := Value.slice (some ⟨bx, 0, none⟩) 16 16) hkL
        go_wp2_with (first | ((with_reducible show wpList _ _ _ (⟨_, Op.store _ _ _, _, _, _, _⟩ :: _) _ _); go_loud (first | (apply S_st hS; rfl; rfl; rfl; (focus ((conv => lhs; whnf) <;> rfl)); (focus ((repeat (first | exact .here | apply At.there)); done)); rfl; rfl; (first | (assumption) | decide | assumption | (simp only [List.length_map, List.length_set, List.length_replicate, List.length_append, List.length_cons, List.length_nil]; omega)); clear hS; intro w_ hS; (try simp only [List.set_cons_zero, List.set_cons_succ] at hS)) | (apply S_stOwn hS; rfl; rfl; rfl; (focus ((conv => lhs; whnf) <;> rfl)); (focus ((repeat (first | exact .here | apply At.there)); done)); rfl; rfl; (first | decide | assumption | omega); clear hS; intro w_ hS; (try simp only [List.set_cons_zero, List.set_cons_succ] at hS)))) | ((with_reducible show wpList _ _ _ (⟨some 46, Op.load _ _, _, _, _, _⟩ :: _) _ _); go_loud (first | (apply S_ld hS; rfl; rfl; rfl; (focus ((repeat (first | exact .here | apply At.there)); done)); rfl; (first | exact hset | assumption | rfl | exact mapGetB (by first | assumption | (simp only [List.length_map, List.length_set, List.length_replicate, List.length_append, List.length_cons, List.length_nil]; omega)) | exact mapGet _ (by first | assumption | (simp only [List.length_map, List.length_set, List.length_replicate, List.length_append, List.length_cons, List.length_nil]; omega)))) | (apply S_ldOwn hS; rfl; rfl; rfl; (focus ((repeat (first | exact .here | apply At.there)); done)); rfl; (first | rfl | exact mapGetB (by first | assumption | (simp only [List.length_map, List.length_set, List.length_replicate, List.length_append, List.length_cons, List.length_nil]; omega)) | exact mapGet _ (by first | assumption | (simp only [List.length_map, List.length_set, List.length_replicate, List.length_append, List.length_cons, List.length_nil]; omega)))))))
        go_roundw
        case rel =>
          refine ⟨k + 1, some ⟨bx, 0, none⟩, 16, L.set k (.slice (some ⟨bx, 0, none⟩) 16 16), by go_num, by omega, rfl, by rw [List.length_set]; exact hLl, HS1.out.updB .here hS.grownBy (hS.blk (b := g) (by focus ((repeat (first | exact .here | apply At.there)); done))), Lib.hid ?_, Lib.hid ?_, Lib.hid fun ad e => by cases e; exact hneb⟩
          · have h1 := (HRW2.out.keep (W' := w_) fun A' xs h h' => hS.rdm h h').set (q := ct) HXL.out hkL (A := some ⟨bx, 0, none⟩) (c := 16) (hS.blkRd (b := bx) (by focus ((repeat (first | exact .here | apply At.there)); done))) (by rw [HCT.out]; exact Nat.le_refl _) (fun ad e => by cases e; exact hneb)
            rw [HSN.out, List.append_assoc]
            rw [HCT.out] at h1
            exact h1
          · rw [HSN.out, List.getLastD_concat]
            exact hS.blkRd (b := bx) (by focus ((repeat (first | exact .here | apply At.there)); done))
        case measure => simp [intOf]; omega
    · have hkm : k = m := by omega
      have hrw := HRW.out
      rw [hkm, List.drop_of_length_le (by rw [HPL.out]; exact Nat.le_refl _), List.append_nil, List.take_of_length_le (by rw [List.length_map, HPL.out]; exact Nat.le_refl _), HCH.out trivial] at hrw
      have hCl : (chainE (encF K) b).length = m := HCL.out
      clear hkm HRW HLS HLN
      obtain ⟨hs1, hs2, hs3⟩ := HSW.out
      have hswl := swpF_len (chainE (encF K) b)
      rw [hCl] at hswl
      have HSWR := Lib.hid (swap_rows g m cap L (chainE (encF K) b) wr (hS1.blk (b := g) (by focus ((repeat (first | exact .here | apply At.there)); done))) hm1 (by omega) hLl hrw hCl)
      clear hrw hCl
      generalize swpF (chainE (encF K) b) = C2 at *
      generalize hfl : C2.flatten = fl at *
      have hro : fl.take n = ctsE (encF K) b := hs1
      have HRO := Lib.hid hro
      have HSL := Lib.hid hswl
      have HFL := Lib.hid hfl
      have HS1 := Lib.hid hS1
      have hCT := Lib.hid (show (ctsE (encF K) b).length = n from HCTL.out)
      generalize ctsE (encF K) b = ct at *
      obtain ⟨fn, hfn⟩ : ∃ fn, fl.length = fn := ⟨_, rfl⟩
      rw [hfn] at hs2 hs3
      have HFN := Lib.hid hfn
      clear hs1 hro hswl hfl hfn hS1
      go_upto_region 14 with (go_at_call 18; refine HSWR.out.mono ?_; rintro e w3 ⟨z, L2, rfl, hg_, hB_, hl2, hR2⟩)
      have hS3 := HS1.out.updB .here hg_ hB_
      have HRB := Lib.hid (RdBB.of (Rd.take (hS3.blkRd (b := g) (by focus ((repeat (first | exact .here | apply At.there)); done))) C2.length) (hR2.slcs (by rw [HSL.out]; exact hl2)))
      have hS := hS3
      clear hg_ hB_ hR2 hS3 HSWR
      go_wp2_with (go_at_call 19; refine (concat_any (some ⟨g, 0, none⟩) m cap _ C2 _ HSL.out HRB.out (by rw [HFL.out, HFN.out]; omega) (by omega)).mono ?_; rw [HFL.out]; rintro e w4 ⟨v4, rfl, ho_, hb_⟩; rw [HFN.out] at ho_; obtain ⟨g4, c4, rfl⟩ := Joins.ownsRow_form ho_ (by omega); obtain ⟨A4', c4', e4, hc4, -, -, -⟩ := own_rd ho_; cases e4; have HB4 := Lib.hid hS.below; replace hS := hS.ext hb_; have HO4 := Lib.hid ho_; clear ho_)
      go_ret2
      refine ⟨g4, c4, by rw [hCT.out]; rfl, ?_, hS.below⟩
      have := ownsRow_base (own_take HO4.out (n := n) hs2) (Below.size HB4.out)
      rw [← List.map_take, HRO.out] at this
      rw [hCT.out]
      exact this
/-- What may not be is refused. -/
theorem ctsEnc_nil (A : Option Addr) (n c : Nat) (w : World) : Calls Try.prog 8 #[.nilIface, .slice A n c] w fun e w' => e = .returned (.tuple #[.slice none 0 0, .int .i64 1]) ∧ Below w.heap.size w w' := by
  go_enter Try.func8, Try.ntmps8
  go_wp2_with (go_at_call 14; refine (right_nil A n c _).mono ?_; rintro e w_ ⟨rfl, rfl⟩)
  go_ret2
  exact ⟨rfl, Below.refl _ _⟩
theorem ctsEnc_no (t : TypeId) (u : Value) (A : Option Addr) (n c : Nat) (w : World) (h : n < 16 ∨ 256 < n) : Calls Try.prog 8 #[.iface t u, .slice A n c] w fun e w' => e = .returned (.tuple #[.slice none 0 0, .int .i64 2]) ∧ Below w.heap.size w w' := by
  go_enter Try.func8, Try.ntmps8
  go_wp2_with (go_at_call 14; refine (right_no t u A n c _ h).mono ?_; rintro e w_ ⟨rfl, rfl⟩)
  go_ret2
  exact ⟨rfl, Below.refl _ _⟩
end Go.Proofs.Ythmdnpaebdlefaa
