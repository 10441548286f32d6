/- The reference's hkdf. -/
import Derived.Test.YtfmfpckpldlahaaDoorHkA
namespace Go.Proofs.YtfmfpckpldlahaaDoor
open Go.RowKit Go.Proofs.YtfmfpckpldlahaaDoor.Pure

set_option maxRecDepth 8000 in
set_option maxHeartbeats 1600000 in
theorem refExtract_any (A B : Option Addr) (n c m c' : Nat) (salt mat : List UInt8) (w : World) (hn : salt.length = n) (hr : RdB w A salt) (hc : n ≤ c) (hm : mat.length = m) (hB : RdB w B mat) (hk : n ≤ 10000) (hm2 : m ≤ 10000) :
    Calls Tryd.prog 11 #[.slice A n c, .slice B m c'] w fun e w' => e = .returned (.string (str (extF salt mat))) ∧ Below w.heap.size w w' := by
  have hS := St.start w
  have HR := Lib.hid hr
  have HB := Lib.hid hB
  have HN := Lib.hid hn
  have HM := Lib.hid hm
  clear hr hB hn hm
  have HE := Lib.hid (show hmacF (saltF salt) mat = extF salt mat from rfl)
  by_cases h0 : n = 0
  · subst h0
    have HS := Lib.hid (show saltF salt = List.replicate 64 0 by unfold saltF; rw [if_pos HN.out])
    go_enter Tryd.func11, Tryd.ntmps11
    go_wp2_with (first | ((with_reducible show wpList _ _ _ (⟨some 8, Op.makeSlice _ _ _, _, _, _, _⟩ :: _) _ _); go_loud (refine S_make hS TB 64 rfl rfl rfl rfl ?_ ?_ rfl ?_ ?_ ?_; (first | rfl | omega); (first | rfl | omega); (first | decide | omega); (first | decide | (unfold maxLen; omega)); clear hS; intro b8 w_ hS)) | (go_at_call 9; refine (refH_any (some ⟨b8, 0, none⟩) B 64 64 m c' (saltF salt) mat _ (by rw [HS.out]; rfl) (by rw [HS.out]; exact hS.ownRd (A := some ⟨b8, 0, none⟩) (by focus ((repeat (first | exact .here | apply At.there)); done))) (by decide) HM.out (hS.rdp HB.out) (by decide) (by omega)).mono ?_; rw [HE.out]; rintro e w_ ⟨rfl, hb_⟩; replace hS := hS.ext hb_; clear hb_))
    go_ret
    exact ⟨rfl, hS.below⟩
  · have h1 : ((n : Int) == 0) = false := by rw [beq_eq_false_iff_ne]; omega
    have h2 : ¬ (n : Int) = 0 := by omega
    have HS := Lib.hid (show saltF salt = salt by unfold saltF; rw [if_neg (by rw [HN.out]; exact h0)])
    go_enter Tryd.func11, Tryd.ntmps11
    go_wp2_with (first | (go_at_call 9; refine (refH_any A B n c m c' (saltF salt) mat _ (by rw [HS.out]; exact HN.out) (by rw [HS.out]; exact hS.rdp HR.out) hc HM.out (hS.rdp HB.out) (by omega) (by omega)).mono ?_; rw [HE.out]; rintro e w_ ⟨rfl, hb_⟩; replace hS := hS.ext hb_; clear hb_))
    go_ret
    exact ⟨rfl, hS.below⟩

set_option maxRecDepth 8000 in
set_option maxHeartbeats 1600000 in
theorem refExpand_any (A : Option Addr) (n c : Nat) (key info : List UInt8) (m : Nat) (w : World) (hn : key.length = n) (hr : RdB w A key) (hc : n ≤ c) (hk : n ≤ 100000) (hi : info.length ≤ 90000) (hm : m ≤ 16320) :
    Calls Tryd.prog 12 #[.slice A n c, .string (str info), .int .i64 (m : Int)] w fun e w' => e = .returned (.string (str (expF key info m))) ∧ Below w.heap.size w w' := by
  have hb := Below.refl w.heap.size w
  have HR := Lib.hid hr
  have HN := Lib.hid hn
  clear hr hn
  go_enter Tryd.func12, Tryd.ntmps12
  go_wp2
  go_loopw [7, 8, 9] (fun vs vt vi wr => ∃ k : Nat, k ≤ 255 ∧ vs = .string (str (expA key info k)) ∧ vt = .string (str (tB key info k)) ∧ vi = .int .i64 ((k : Int) + 1) ∧ Hid (64 * k < m + 64) ∧ Below w.heap.size w wr) (fun _ _ vi _ => 400 - (intOf vi).toNat)
  case atStart => exact ⟨0, by omega, rfl, rfl, rfl, Lib.hid (by omega), hb⟩
  case round =>
    clear hb
    obtain ⟨k, hk5, rfl, rfl, rfl, HK, hb⟩ := hrel
    have HOL := Lib.hid (expA_len key info k)
    have hsz : (str (expA key info k)).size = 64 * k := by rw [str_size, HOL.out]
    by_cases hlt : 64 * k < m
    · have hk4 : k < 255 := by omega
      have hlt2 : ((64 * k : Nat) : Int) < (m : Int) := by omega
      have hE := Lib.hid (show expA key info (k + 1) = expA key info k ++ tB key info (k + 1) from rfl)
      have hTT := Lib.hid (show tB key info (k + 1) = hmacF key (tB key info k ++ info ++ [UInt8.ofNat (k + 1)]) from rfl)
      have hT4 := Lib.hid (tB_len key info (k + 1))
      have hTk := Lib.hid (tB_le key info k)
      have hT5 := Lib.hid (tB_len key info k)
      have hw8 : IntKind.u8.wrap ((k : Int) + 1) = ((UInt8.ofNat (k + 1)).toNat : Int) := by rw [← byte_i hk4]; simp [IntKind.wrap, IntKind.bits, IntKind.signed]
      have hw9 : ((k : Int) + 1) % 256 = ((UInt8.ofNat (k + 1)).toNat : Int) := by rw [← byte_i hk4]; omega
      generalize hub : UInt8.ofNat (k + 1) = ub at *
      clear hub
      obtain ⟨q, hq⟩ : ∃ q, (tB key info k ++ info ++ [ub]).length = q := ⟨_, rfl⟩
      have HQ := Lib.hid hq
      have hq9 : q ≤ 100000 := by have := hTk.out; rw [← hq, List.length_append, List.length_append, List.length_cons, List.length_nil]; omega
      clear hq
      have hS := St.start wr
      have HRr := Lib.hid (HR.out.keep hb)
      go_wp2_with (first | ((with_reducible show wpList _ _ _ (⟨some 19, Op.binOp BinOp.add _ _ _ _, _, _, _, _⟩ :: _) _ _); go_loud (apply S_cat; rfl; rfl; rfl; rfl; ((have := hTk.out; omega)))) | ((with_reducible show wpList _ _ _ (⟨some 22, Op.buildSlice _ _ _, _, _, _, _⟩ :: _) _ _); go_loud (apply S_bslice hS; rfl; (go_simp; first | with_reducible rfl | (refine ⟨?_, ?_⟩ <;> with_reducible rfl)); rfl; rfl; rfl; rfl; clear hS; intro b22 w_ hS)) | ((with_reducible show wpList _ _ _ (⟨some 23, Op.convert _ _ _, _, _, _, _⟩ :: _) _ _); go_loud (refine S_strc Tryd.underlying22 Tryd.underlying5 Tryd.underlying9 (hS.ownRd (A := some ⟨b22, 0, none⟩) (by focus ((repeat (first | exact .here | apply At.there)); done)) : RdB _ _ [ub]) rfl rfl rfl rfl ?_)) | ((with_reducible show wpList _ _ _ (⟨some 24, Op.binOp BinOp.add _ _ _ _, _, _, _, _⟩ :: _) _ _); go_loud (apply S_cat; rfl; rfl; rfl; rfl; ((have := hTk.out; rw [List.length_append, List.length_cons, List.length_nil]; omega)))) | ((with_reducible show wpList _ _ _ (⟨some 25, Op.convert _ _ _, _, _, _, _⟩ :: _) _ _); go_loud (apply S_byt hS; rfl; rfl; rfl; rfl; rfl; rfl; exact HQ.out; clear hS; intro b25 c25 C25 fr25 w_ HC25 hc25 hS)) | (go_at_call 9; refine (refH_any A (some ⟨b25, 0, none⟩) n c q c25 key (tB key info k ++ info ++ [ub]) _ HN.out (hS.rdp HRr.out) hc HQ.out (hS.objRd (b := b25) (by focus ((repeat (first | exact .here | apply At.there)); done)) HC25) hk hq9).mono ?_; rw [← hTT.out]; rintro e w_ ⟨rfl, hb_⟩; replace hS := hS.ext hb_; clear hb_) | ((with_reducible show wpList _ _ _ (⟨some 29, Op.binOp BinOp.add _ _ _ _, _, _, _, _⟩ :: _) _ _); go_loud (apply S_cat; rfl; rfl; rfl; rfl; ((rw [HOL.out, hT5.out]; omega)))))
      go_roundw
      case rel => exact ⟨k + 1, by omega, by rw [hE.out], rfl, by simp, Lib.hid (by omega), hb.trans (hS.below.mono hb.size)⟩
      case measure => simp [intOf]; omega
    · have hlt2 : ¬ ((64 * k : Nat) : Int) < (m : Int) := by omega
      have hq := Lib.hid (expF_eq key info (m := m) (k := k) (by omega) hk5)
      have hst := Lib.hid (str_take (expA key info k) m)
      go_wp2
      go_ret
      exact ⟨congrArg (fun b => Ending.returned (Value.string b)) (hst.out.trans (by rw [hq.out])), hb⟩

def lbl : List UInt8 := [116, 117, 114, 110, 107, 101, 121, 0]
def derF (mat : List UInt8) (cb : UInt8) (info : List UInt8) (k : Nat) : List UInt8 := expF (extF [] mat) (lbl ++ [cb] ++ info) k

set_option maxRecDepth 8000 in
set_option maxHeartbeats 1600000 in
theorem derive_any (A B : Option Addr) (n c m c' k : Nat) (mat info : List UInt8) (cb : UInt8) (w : World) (hn : mat.length = n) (hr : RdB w A mat) (hm : info.length = m) (hB : RdB w B info) (hn2 : n ≤ 10000) (hm2 : m ≤ 10000) (hk : k ≤ 16320) (hG : GK w) :
    Calls Tryd.prog 13 #[.slice A n c, .int .u8 (cb.toNat : Int), .slice B m c', .int .i64 (k : Int)] w (GivesRd k (derF mat cb info k) w) := by
  have hS := St.start w
  have HR := Lib.hid hr
  have HB := Lib.hid hB
  have HN := Lib.hid hn
  have HM := Lib.hid hm
  have HG := Lib.hid hG
  clear hr hB hn hm hG
  have HL := Lib.hid (show (extF [] mat).length = 64 from hmacF_len _ _)
  have HD := Lib.hid (show expF (extF [] mat) (lbl ++ [cb] ++ info) k = derF mat cb info k from rfl)
  have HDL := Lib.hid (show (derF mat cb info k).length = k from expF_len _ _ hk)
  have HLL := Lib.hid (show lbl.length = 8 from rfl)
  go_enter Tryd.func13, Tryd.ntmps13
  go_upto_region 2 with (first | (go_at_call 10; refine (extract_any none A 0 0 n c [] mat _ rfl (Rd.nil _ _) HN.out (hS.rdp HR.out) (by decide) (by omega) (HG.out.keep hS.below)).mono ?_; rintro e w_ ⟨rfl, hb_⟩; replace hS := hS.ext hb_; clear hb_) | ((with_reducible show wpList _ _ _ (⟨some 10, Op.alloc _, _, _, _, _⟩ :: _) _ _); go_loud (refine S_alloc (z := .agg (List.replicate 64 (.int .u8 0)).toArray) (L := (List.replicate 64 (.int .u8 0))) hS rfl rfl ?_ ?_ ?_; (show _ = _; kernel_rfl); (show _ = _; kernel_rfl); clear hS; intro b10 w_ hS)) | ((with_reducible show wpList _ _ _ (⟨_, Op.store _ _ _, _, _, _, _⟩ :: _) _ _); go_loud (apply S_stAll hS; rfl; rfl; rfl; rfl; (focus ((repeat (first | exact .here | apply At.there)); done)); (first | assumption | (rw [List.length_map, HL.out]; rfl) | (focus (simp [bV, wV, Value.oneCell']; done)) | (focus (simp [bV, Value.oneCell']; done))); (first | rfl | (rw [List.length_map, HL.out]; rfl)); (first | rfl | (rw [List.length_map, HL.out]; rfl)); clear hS; intro w_ hS)))
  refine E_start (hR := Ext.pre) #[false, false, false, false, false, false, false, false, false, false, false, false, false, false] (by kernel_rfl) rfl rfl (fun w_r1 hx_r1 he_r1 => ?_)
  clear he_r1
  replace hS := hS.ext hx_r1; clear hx_r1
  refine E_take (hR := Ext.pre) (i := 0) (N := (some 13)) (v := ?vr1_0) (a' := ?ar1_0) #[true, false, false, false, false, false, false, false, false, false, false, false, false, false] rfl rfl (by kernel_rfl) (fun _ _ _ h => h) (by rfl) ?hyr1_0 ?har1_0 ?_
  case hyr1_0 =>
    intro w' hx
    (first | (apply Eq.trans; (apply R_slice; rfl; rfl; (first | exact SB.no | exact SB.so); (first | exact SB.no | exact SB.so); rfl; rfl; (first | assumption | omega); (first | assumption | omega)); with_reducible rfl) | (go_simp; with_reducible rfl))
  case har1_0 => (simp only [Act.put, List.setIfInBounds_toArray, List.set_cons_zero, List.set_cons_succ]; rfl)
  refine E_take (hR := Ext.pre) (i := 1) (N := (some 14)) (v := ?vr1_1) (a' := ?ar1_1) #[true, true, false, false, false, false, false, false, false, false, false, false, false, false] rfl rfl (by kernel_rfl) (fun _ _ _ h => h) (by rfl) ?hyr1_1 ?har1_1 ?_
  case hyr1_1 =>
    intro w' hx
    go_simp
    with_reducible rfl
  case har1_1 => (simp only [Act.put, List.setIfInBounds_toArray, List.set_cons_zero, List.set_cons_succ]; rfl)
  refine E_take (hR := Ext.pre) (i := 5) (N := (some 18)) (v := ?vr1_5) (a' := ?ar1_5) #[true, true, false, false, false, true, false, false, false, false, false, false, false, false] rfl rfl (by kernel_rfl) (fun _ _ _ h => h) (by rfl) ?hyr1_5 ?har1_5 ?_
  case hyr1_5 =>
    intro w' hx
    go_simp
    with_reducible rfl
  case har1_5 => (simp only [Act.put, List.setIfInBounds_toArray, List.set_cons_zero, List.set_cons_succ]; rfl)
  refine E_take (hR := Ext.pre) (i := 6) (N := (some 19)) (v := ?vr1_6) (a' := ?ar1_6) #[true, true, false, false, false, true, true, false, false, false, false, false, false, false] rfl rfl (by kernel_rfl) (fun _ _ _ h => h) (by rfl) ?hyr1_6 ?har1_6 ?_
  case hyr1_6 =>
    intro w' hx
    (apply Eq.trans; (apply R_strc Tryd.underlying22 Tryd.underlying5 Tryd.underlying9 ((hS.ext hx).rdp HB.out : RdB _ _ info) HM.out; rfl; rfl); with_reducible rfl)
  case har1_6 => (simp only [Act.put, List.setIfInBounds_toArray, List.set_cons_zero, List.set_cons_succ]; rfl)
  refine E_take (hR := Ext.pre) (i := 8) (N := (some 21)) (v := ?vr1_8) (a' := ?ar1_8) #[true, true, false, false, false, true, true, false, true, false, false, false, false, false] rfl rfl (by kernel_rfl) (fun _ _ _ h => h) (by rfl) ?hyr1_8 ?har1_8 ?_
  case hyr1_8 =>
    intro w' hx
    go_simp
    with_reducible rfl
  case har1_8 => (simp only [Act.put, List.setIfInBounds_toArray, List.set_cons_zero, List.set_cons_succ]; rfl)
  apply E_new (i := 2) (N := (some 15)) hS (hR := Ext.alloc _) #[true, true, true, false, false, true, true, false, true, false, false, false, false, false]
  rfl
  rfl
  kernel_rfl
  rfl
  (go_simp; first | with_reducible rfl | (refine ⟨?_, ?_⟩ <;> with_reducible rfl))
  rfl
  rfl
  rfl
  clear hS
  intro b15 w_ hS
  rintro _ rfl
  simp only [Act.put, List.setIfInBounds_toArray, List.set_cons_zero, List.set_cons_succ]
  refine E_take (hR := Ext.pre) (i := 3) (N := (some 16)) (v := ?vr1_3) (a' := ?ar1_3) #[true, true, true, true, false, true, true, false, true, false, false, false, false, false] rfl rfl (by kernel_rfl) (fun _ _ _ h => h) (by rfl) ?hyr1_3 ?har1_3 ?_
  case hyr1_3 =>
    intro w' hx
    (apply Eq.trans; (apply R_strc Tryd.underlying22 Tryd.underlying5 Tryd.underlying9 ((hS.ext hx).ownRd (A := some ⟨b15, 0, none⟩) (by focus ((repeat (first | exact .here | apply At.there)); done)) : RdB _ _ [cb]) rfl; rfl; rfl); with_reducible rfl)
  case har1_3 => (simp only [Act.put, List.setIfInBounds_toArray, List.set_cons_zero, List.set_cons_succ]; rfl)
  refine E_take (hR := Ext.pre) (i := 4) (N := (some 17)) (v := ?vr1_4) (a' := ?ar1_4) #[true, true, true, true, true, true, true, false, true, false, false, false, false, false] rfl rfl (by kernel_rfl) (fun _ _ _ h => h) (by rfl) ?hyr1_4 ?har1_4 ?_
  case hyr1_4 =>
    intro w' hx
    (apply Eq.trans; (apply R_cat (p := lbl); rfl; rfl; rfl; (rw [HLL.out, List.length_cons, List.length_nil]; decide)); with_reducible rfl)
  case har1_4 => (simp only [Act.put, List.setIfInBounds_toArray, List.set_cons_zero, List.set_cons_succ]; rfl)
  refine E_take (hR := Ext.pre) (i := 7) (N := (some 20)) (v := ?vr1_7) (a' := ?ar1_7) #[true, true, true, true, true, true, true, true, true, false, false, false, false, false] rfl rfl (by kernel_rfl) (fun _ _ _ h => h) (by rfl) ?hyr1_7 ?har1_7 ?_
  case hyr1_7 =>
    intro w' hx
    (apply Eq.trans; (apply R_cat; rfl; rfl; rfl; (rw [List.length_append, HLL.out, List.length_cons, List.length_nil, HM.out]; omega)); with_reducible rfl)
  case har1_7 => (simp only [Act.put, List.setIfInBounds_toArray, List.set_cons_zero, List.set_cons_succ]; rfl)
  refine E_call (i := 9) (N := (some 22)) (args := ?gr1_9) #[true, true, true, true, true, true, true, true, true, true, false, false, false, false] rfl rfl (by kernel_rfl) (by rfl) Tryd.func8 (by kernel_rfl) rfl rfl ?hgr1_9 ?_
  case hgr1_9 => (simp only [List.map_toArray, List.map_cons, List.map_nil]; go_simp; with_reducible rfl)
  refine (expand_any (some ⟨b10, 0, none⟩) 64 64 (extF [] mat) (lbl ++ [cb] ++ info) k _ HL.out (hS.blkRd (b := b10) (by focus ((repeat (first | exact .here | apply At.there)); done))) (by decide) (by rw [List.length_append, List.length_append, HLL.out, List.length_cons, List.length_nil, HM.out]; omega) hk (HG.out.keep hS.below)).mono ?_
  rw [HD.out]
  rintro e w_ ⟨Ao, rfl, hro, hb_⟩
  have HRO := Lib.hid hro
  clear hro
  refine ⟨_, rfl, hb_, ?_⟩
  have HB0 := Lib.hid (hS.ext hb_).below
  clear hb_ hS
  have hS := St.start w_
  rintro _ rfl
  simp only [Act.put, List.setIfInBounds_toArray, List.set_cons_zero, List.set_cons_succ]
  refine E_take (hR := Ext.pre) (i := 10) (N := (some 23)) (v := ?vr1_10) (a' := ?ar1_10) #[true, true, true, true, true, true, true, true, true, true, true, false, false, false] rfl rfl (by kernel_rfl) (fun _ _ _ h => h) (by rfl) ?hyr1_10 ?har1_10 ?_
  case hyr1_10 =>
    intro w' hx
    go_simp
    with_reducible rfl
  case har1_10 => (simp only [Act.put, List.setIfInBounds_toArray, List.set_cons_zero, List.set_cons_succ]; rfl)
  refine E_take (hR := Ext.pre) (i := 11) (N := (some 24)) (v := ?vr1_11) (a' := ?ar1_11) #[true, true, true, true, true, true, true, true, true, true, true, true, false, false] rfl rfl (by kernel_rfl) (fun _ _ _ h => h) (by rfl) ?hyr1_11 ?har1_11 ?_
  case hyr1_11 =>
    intro w' hx
    go_simp
    with_reducible rfl
  case har1_11 => (simp only [Act.put, List.setIfInBounds_toArray, List.set_cons_zero, List.set_cons_succ]; rfl)
  refine E_take (hR := Ext.pre) (i := 12) (N := (some 8)) (v := ?vr1_12) (a' := ?ar1_12) #[true, true, true, true, true, true, true, true, true, true, true, true, true, false] rfl rfl (by kernel_rfl) (fun _ _ _ h => h) (by rfl) ?hyr1_12 ?har1_12 ?_
  case hyr1_12 =>
    intro w' hx
    go_simp
    with_reducible rfl
  case har1_12 => (simp only [Act.put, List.setIfInBounds_toArray, List.set_cons_zero, List.set_cons_succ]; rfl)
  refine E_take (hR := Ext.pre) (i := 13) (N := (some 9)) (v := ?vr1_13) (a' := ?ar1_13) #[true, true, true, true, true, true, true, true, true, true, true, true, true, true] rfl rfl (by kernel_rfl) (fun _ _ _ h => h) (by rfl) ?hyr1_13 ?har1_13 ?_
  case hyr1_13 =>
    intro w' hx
    go_simp
    with_reducible rfl
  case har1_13 => (simp only [Act.put, List.setIfInBounds_toArray, List.set_cons_zero, List.set_cons_succ]; rfl)
  refine E_done (by kernel_rfl) ?_
  go_wp2
  go_ret2
  exact ⟨Ao, rfl, hS.rdp HRO.out, HB0.out.trans (hS.below.mono HB0.out.size)⟩
set_option maxRecDepth 8000 in
set_option maxHeartbeats 1600000 in
theorem refDerive_any (A B : Option Addr) (n c m c' k : Nat) (mat info : List UInt8) (cb : UInt8) (w : World) (hn : mat.length = n) (hr : RdB w A mat) (hm : info.length = m) (hB : RdB w B info) (hn2 : n ≤ 10000) (hm2 : m ≤ 10000) (hk : k ≤ 16320) :
    Calls Tryd.prog 14 #[.slice A n c, .int .u8 (cb.toNat : Int), .slice B m c', .int .i64 (k : Int)] w fun e w' => e = .returned (.string (str (derF mat cb info k))) ∧ Below w.heap.size w w' := by
  have hS := St.start w
  have HR := Lib.hid hr
  have HB := Lib.hid hB
  have HN := Lib.hid hn
  have HM := Lib.hid hm
  clear hr hB hn hm
  have HL := Lib.hid (show (extF [] mat).length = 64 from hmacF_len _ _)
  have HD := Lib.hid (show expF (extF [] mat) (lbl ++ [cb] ++ info) k = derF mat cb info k from rfl)
  have HLL := Lib.hid (show lbl.length = 8 from rfl)
  go_enter Tryd.func14, Tryd.ntmps14
  go_upto_region 1 with (fail)
  refine E_start (hR := Ext.pre) #[false, false, false, false, false, false, false, false, false, false, false, false, false] (by kernel_rfl) rfl rfl (fun w_r2 hx_r2 he_r2 => ?_)
  clear he_r2
  replace hS := hS.ext hx_r2; clear hx_r2
  refine E_take (hR := Ext.pre) (i := 0) (N := (some 9)) (v := ?vr2_0) (a' := ?ar2_0) #[true, false, false, false, false, false, false, false, false, false, false, false, false] rfl rfl (by kernel_rfl) (fun _ _ _ h => h) (by rfl) ?hyr2_0 ?har2_0 ?_
  case hyr2_0 =>
    intro w' hx
    go_simp
    with_reducible rfl
  case har2_0 => (simp only [Act.put, List.setIfInBounds_toArray, List.set_cons_zero, List.set_cons_succ]; rfl)
  refine E_take (hR := Ext.pre) (i := 3) (N := (some 12)) (v := ?vr2_3) (a' := ?ar2_3) #[true, false, false, true, false, false, false, false, false, false, false, false, false] rfl rfl (by kernel_rfl) (fun _ _ _ h => h) (by rfl) ?hyr2_3 ?har2_3 ?_
  case hyr2_3 =>
    intro w' hx
    go_simp
    with_reducible rfl
  case har2_3 => (simp only [Act.put, List.setIfInBounds_toArray, List.set_cons_zero, List.set_cons_succ]; rfl)
  refine E_take (hR := Ext.pre) (i := 7) (N := (some 16)) (v := ?vr2_7) (a' := ?ar2_7) #[true, false, false, true, false, false, false, true, false, false, false, false, false] rfl rfl (by kernel_rfl) (fun _ _ _ h => h) (by rfl) ?hyr2_7 ?har2_7 ?_
  case hyr2_7 =>
    intro w' hx
    go_simp
    with_reducible rfl
  case har2_7 => (simp only [Act.put, List.setIfInBounds_toArray, List.set_cons_zero, List.set_cons_succ]; rfl)
  refine E_take (hR := Ext.pre) (i := 8) (N := (some 17)) (v := ?vr2_8) (a' := ?ar2_8) #[true, false, false, true, false, false, false, true, true, false, false, false, false] rfl rfl (by kernel_rfl) (fun _ _ _ h => h) (by rfl) ?hyr2_8 ?har2_8 ?_
  case hyr2_8 =>
    intro w' hx
    (apply Eq.trans; (apply R_strc Tryd.underlying22 Tryd.underlying5 Tryd.underlying9 ((hS.ext hx).rdp HB.out : RdB _ _ info) HM.out; rfl; rfl); with_reducible rfl)
  case har2_8 => (simp only [Act.put, List.setIfInBounds_toArray, List.set_cons_zero, List.set_cons_succ]; rfl)
  refine E_take (hR := Ext.pre) (i := 10) (N := (some 19)) (v := ?vr2_10) (a' := ?ar2_10) #[true, false, false, true, false, false, false, true, true, false, true, false, false] rfl rfl (by kernel_rfl) (fun _ _ _ h => h) (by rfl) ?hyr2_10 ?har2_10 ?_
  case hyr2_10 =>
    intro w' hx
    go_simp
    with_reducible rfl
  case har2_10 => (simp only [Act.put, List.setIfInBounds_toArray, List.set_cons_zero, List.set_cons_succ]; rfl)
  refine E_split [1, 4] (by kernel_rfl) (by simp) (fun i_ hi_ => ?_)
  simp only [List.mem_cons, List.not_mem_nil, or_false] at hi_
  rcases hi_ with rfl | rfl
  · refine E_call1 (i := 1) (N := (some 10)) (args := ?gr2a_1) #[true, true, false, true, false, false, false, true, true, false, true, false, false] rfl rfl (by kernel_rfl) (by rfl) Tryd.func11 (by kernel_rfl) rfl rfl ?hgr2a_1 ?_
    case hgr2a_1 => (simp only [List.map_toArray, List.map_cons, List.map_nil]; go_simp; with_reducible rfl)
    refine (refExtract_any none A 0 0 n c [] mat _ rfl (Rd.nil _ _) (Nat.le_refl _) HN.out (hS.rdp HR.out) (by decide) (by omega)).mono ?_
    rintro e w_ ⟨rfl, hb_⟩
    refine ⟨_, rfl, hb_, ?_⟩
    replace hS := hS.ext hb_
    clear hb_
    rintro _ rfl
    simp only [Act.put, List.setIfInBounds_toArray, List.set_cons_zero, List.set_cons_succ]
    refine E_split [2, 4] (by kernel_rfl) (by simp) (fun i_ hi_ => ?_)
    simp only [List.mem_cons, List.not_mem_nil, or_false] at hi_
    rcases hi_ with rfl | rfl
    · apply E_byt1 (R := Ext) (i := 2) (N := (some 11)) hS (hR := fun _ _ => Joins.below_bytesWorld _ _ _ _ (Nat.le_refl _)) #[true, true, true, true, false, false, false, true, true, false, true, false, false]
      rfl
      rfl
      kernel_rfl
      rfl
      rfl
      rfl
      rfl
      rfl
      rfl
      exact HL.out
      clear hS
      intro b11 cb11 Cb11 frb11 w_ Hb11 hcb11 hS
      rintro _ rfl
      simp only [Act.put, List.setIfInBounds_toArray, List.set_cons_zero, List.set_cons_succ]
      apply E_new (i := 4) (N := (some 13)) hS (hR := Ext.alloc _) #[true, true, true, true, true, false, false, true, true, false, true, false, false]
      rfl
      rfl
      kernel_rfl
      rfl
      (go_simp; first | with_reducible rfl | (refine ⟨?_, ?_⟩ <;> with_reducible rfl))
      rfl
      rfl
      rfl
      clear hS
      intro b13 w_ hS
      rintro _ rfl
      simp only [Act.put, List.setIfInBounds_toArray, List.set_cons_zero, List.set_cons_succ]
      refine E_take (hR := Ext.pre) (i := 5) (N := (some 14)) (v := ?vr2aa_5) (a' := ?ar2aa_5) #[true, true, true, true, true, true, false, true, true, false, true, false, false] rfl rfl (by kernel_rfl) (fun _ _ _ h => h) (by rfl) ?hyr2aa_5 ?har2aa_5 ?_
      case hyr2aa_5 =>
        intro w' hx
        (apply Eq.trans; (apply R_strc Tryd.underlying22 Tryd.underlying5 Tryd.underlying9 ((hS.ext hx).ownRd (A := some ⟨b13, 0, none⟩) (by focus ((repeat (first | exact .here | apply At.there)); done)) : RdB _ _ [cb]) rfl; rfl; rfl); with_reducible rfl)
      case har2aa_5 => (simp only [Act.put, List.setIfInBounds_toArray, List.set_cons_zero, List.set_cons_succ]; rfl)
      refine E_take (hR := Ext.pre) (i := 6) (N := (some 15)) (v := ?vr2aa_6) (a' := ?ar2aa_6) #[true, true, true, true, true, true, true, true, true, false, true, false, false] rfl rfl (by kernel_rfl) (fun _ _ _ h => h) (by rfl) ?hyr2aa_6 ?har2aa_6 ?_
      case hyr2aa_6 =>
        intro w' hx
        (apply Eq.trans; (apply R_cat (p := lbl); rfl; rfl; rfl; (rw [HLL.out, List.length_cons, List.length_nil]; decide)); with_reducible rfl)
      case har2aa_6 => (simp only [Act.put, List.setIfInBounds_toArray, List.set_cons_zero, List.set_cons_succ]; rfl)
      refine E_take (hR := Ext.pre) (i := 9) (N := (some 18)) (v := ?vr2aa_9) (a' := ?ar2aa_9) #[true, true, true, true, true, true, true, true, true, true, true, false, false] rfl rfl (by kernel_rfl) (fun _ _ _ h => h) (by rfl) ?hyr2aa_9 ?har2aa_9 ?_
      case hyr2aa_9 =>
        intro w' hx
        (apply Eq.trans; (apply R_cat; rfl; rfl; rfl; (rw [List.length_append, HLL.out, List.length_cons, List.length_nil, HM.out]; omega)); with_reducible rfl)
      case har2aa_9 => (simp only [Act.put, List.setIfInBounds_toArray, List.set_cons_zero, List.set_cons_succ]; rfl)
      refine E_call (i := 11) (N := (some 20)) (args := ?gr2aa_11) #[true, true, true, true, true, true, true, true, true, true, true, true, false] rfl rfl (by kernel_rfl) (by rfl) Tryd.func12 (by kernel_rfl) rfl rfl ?hgr2aa_11 ?_
      case hgr2aa_11 => (simp only [List.map_toArray, List.map_cons, List.map_nil]; go_simp; with_reducible rfl)
      refine (refExpand_any (some ⟨b11, 0, none⟩) 64 _ (extF [] mat) (lbl ++ [cb] ++ info) k _ HL.out (hS.objRd (b := b11) (by focus ((repeat (first | exact .here | apply At.there)); done)) Hb11) hcb11 (by decide) (by rw [List.length_append, List.length_append, HLL.out, List.length_cons, List.length_nil, HM.out]; omega) hk).mono ?_
      rw [HD.out]
      rintro e w_ ⟨rfl, hb_⟩
      refine ⟨_, rfl, hb_, ?_⟩
      replace hS := hS.ext hb_
      clear hb_
      rintro _ rfl
      simp only [Act.put, List.setIfInBounds_toArray, List.set_cons_zero, List.set_cons_succ]
      refine E_take (hR := Ext.pre) (i := 12) (N := (some 8)) (v := ?vr2aa_12) (a' := ?ar2aa_12) #[true, true, true, true, true, true, true, true, true, true, true, true, true] rfl rfl (by kernel_rfl) (fun _ _ _ h => h) (by rfl) ?hyr2aa_12 ?har2aa_12 ?_
      case hyr2aa_12 =>
        intro w' hx
        go_simp
        with_reducible rfl
      case har2aa_12 => (simp only [Act.put, List.setIfInBounds_toArray, List.set_cons_zero, List.set_cons_succ]; rfl)
      refine E_done (by kernel_rfl) ?_
      go_wp2
      go_ret
      exact ⟨rfl, hS.below⟩
    · apply E_new1 (i := 4) (N := (some 13)) hS (hR := Ext.alloc _) #[true, true, false, true, true, false, false, true, true, false, true, false, false]
      rfl
      rfl
      kernel_rfl
      rfl
      (go_simp; first | with_reducible rfl | (refine ⟨?_, ?_⟩ <;> with_reducible rfl))
      rfl
      rfl
      rfl
      clear hS
      intro b13 w_ hS
      rintro _ rfl
      simp only [Act.put, List.setIfInBounds_toArray, List.set_cons_zero, List.set_cons_succ]
      refine E_take (hR := Ext.pre) (i := 5) (N := (some 14)) (v := ?vr2ab_5) (a' := ?ar2ab_5) #[true, true, false, true, true, true, false, true, true, false, true, false, false] rfl rfl (by kernel_rfl) (fun _ _ _ h => h) (by rfl) ?hyr2ab_5 ?har2ab_5 ?_
      case hyr2ab_5 =>
        intro w' hx
        (apply Eq.trans; (apply R_strc Tryd.underlying22 Tryd.underlying5 Tryd.underlying9 ((hS.ext hx).ownRd (A := some ⟨b13, 0, none⟩) (by focus ((repeat (first | exact .here | apply At.there)); done)) : RdB _ _ [cb]) rfl; rfl; rfl); with_reducible rfl)
      case har2ab_5 => (simp only [Act.put, List.setIfInBounds_toArray, List.set_cons_zero, List.set_cons_succ]; rfl)
      refine E_take (hR := Ext.pre) (i := 6) (N := (some 15)) (v := ?vr2ab_6) (a' := ?ar2ab_6) #[true, true, false, true, true, true, true, true, true, false, true, false, false] rfl rfl (by kernel_rfl) (fun _ _ _ h => h) (by rfl) ?hyr2ab_6 ?har2ab_6 ?_
      case hyr2ab_6 =>
        intro w' hx
        (apply Eq.trans; (apply R_cat (p := lbl); rfl; rfl; rfl; (rw [HLL.out, List.length_cons, List.length_nil]; decide)); with_reducible rfl)
      case har2ab_6 => (simp only [Act.put, List.setIfInBounds_toArray, List.set_cons_zero, List.set_cons_succ]; rfl)
      refine E_take (hR := Ext.pre) (i := 9) (N := (some 18)) (v := ?vr2ab_9) (a' := ?ar2ab_9) #[true, true, false, true, true, true, true, true, true, true, true, false, false] rfl rfl (by kernel_rfl) (fun _ _ _ h => h) (by rfl) ?hyr2ab_9 ?har2ab_9 ?_
      case hyr2ab_9 =>
        intro w' hx
        (apply Eq.trans; (apply R_cat; rfl; rfl; rfl; (rw [List.length_append, HLL.out, List.length_cons, List.length_nil, HM.out]; omega)); with_reducible rfl)
      case har2ab_9 => (simp only [Act.put, List.setIfInBounds_toArray, List.set_cons_zero, List.set_cons_succ]; rfl)
      apply E_byt (R := Ext) (i := 2) (N := (some 11)) hS (hR := fun _ _ => Joins.below_bytesWorld _ _ _ _ (Nat.le_refl _)) #[true, true, true, true, true, true, true, true, true, true, true, false, false]
      rfl
      rfl
      kernel_rfl
      rfl
      rfl
      rfl
      rfl
      rfl
      rfl
      exact HL.out
      clear hS
      intro b11 cb11 Cb11 frb11 w_ Hb11 hcb11 hS
      rintro _ rfl
      simp only [Act.put, List.setIfInBounds_toArray, List.set_cons_zero, List.set_cons_succ]
      refine E_call (i := 11) (N := (some 20)) (args := ?gr2ab_11) #[true, true, true, true, true, true, true, true, true, true, true, true, false] rfl rfl (by kernel_rfl) (by rfl) Tryd.func12 (by kernel_rfl) rfl rfl ?hgr2ab_11 ?_
      case hgr2ab_11 => (simp only [List.map_toArray, List.map_cons, List.map_nil]; go_simp; with_reducible rfl)
      refine (refExpand_any (some ⟨b11, 0, none⟩) 64 _ (extF [] mat) (lbl ++ [cb] ++ info) k _ HL.out (hS.objRd (b := b11) (by focus ((repeat (first | exact .here | apply At.there)); done)) Hb11) hcb11 (by decide) (by rw [List.length_append, List.length_append, HLL.out, List.length_cons, List.length_nil, HM.out]; omega) hk).mono ?_
      rw [HD.out]
      rintro e w_ ⟨rfl, hb_⟩
      refine ⟨_, rfl, hb_, ?_⟩
      replace hS := hS.ext hb_
      clear hb_
      rintro _ rfl
      simp only [Act.put, List.setIfInBounds_toArray, List.set_cons_zero, List.set_cons_succ]
      refine E_take (hR := Ext.pre) (i := 12) (N := (some 8)) (v := ?vr2ab_12) (a' := ?ar2ab_12) #[true, true, true, true, true, true, true, true, true, true, true, true, true] rfl rfl (by kernel_rfl) (fun _ _ _ h => h) (by rfl) ?hyr2ab_12 ?har2ab_12 ?_
      case hyr2ab_12 =>
        intro w' hx
        go_simp
        with_reducible rfl
      case har2ab_12 => (simp only [Act.put, List.setIfInBounds_toArray, List.set_cons_zero, List.set_cons_succ]; rfl)
      refine E_done (by kernel_rfl) ?_
      go_wp2
      go_ret
      exact ⟨rfl, hS.below⟩
  · apply E_new1 (i := 4) (N := (some 13)) hS (hR := Ext.alloc _) #[true, false, false, true, true, false, false, true, true, false, true, false, false]
    rfl
    rfl
    kernel_rfl
    rfl
    (go_simp; first | with_reducible rfl | (refine ⟨?_, ?_⟩ <;> with_reducible rfl))
    rfl
    rfl
    rfl
    clear hS
    intro b13 w_ hS
    rintro _ rfl
    simp only [Act.put, List.setIfInBounds_toArray, List.set_cons_zero, List.set_cons_succ]
    refine E_take (hR := Ext.pre) (i := 5) (N := (some 14)) (v := ?vr2b_5) (a' := ?ar2b_5) #[true, false, false, true, true, true, false, true, true, false, true, false, false] rfl rfl (by kernel_rfl) (fun _ _ _ h => h) (by rfl) ?hyr2b_5 ?har2b_5 ?_
    case hyr2b_5 =>
      intro w' hx
      (apply Eq.trans; (apply R_strc Tryd.underlying22 Tryd.underlying5 Tryd.underlying9 ((hS.ext hx).ownRd (A := some ⟨b13, 0, none⟩) (by focus ((repeat (first | exact .here | apply At.there)); done)) : RdB _ _ [cb]) rfl; rfl; rfl); with_reducible rfl)
    case har2b_5 => (simp only [Act.put, List.setIfInBounds_toArray, List.set_cons_zero, List.set_cons_succ]; rfl)
    refine E_take (hR := Ext.pre) (i := 6) (N := (some 15)) (v := ?vr2b_6) (a' := ?ar2b_6) #[true, false, false, true, true, true, true, true, true, false, true, false, false] rfl rfl (by kernel_rfl) (fun _ _ _ h => h) (by rfl) ?hyr2b_6 ?har2b_6 ?_
    case hyr2b_6 =>
      intro w' hx
      (apply Eq.trans; (apply R_cat (p := lbl); rfl; rfl; rfl; (rw [HLL.out, List.length_cons, List.length_nil]; decide)); with_reducible rfl)
    case har2b_6 => (simp only [Act.put, List.setIfInBounds_toArray, List.set_cons_zero, List.set_cons_succ]; rfl)
    refine E_take (hR := Ext.pre) (i := 9) (N := (some 18)) (v := ?vr2b_9) (a' := ?ar2b_9) #[true, false, false, true, true, true, true, true, true, true, true, false, false] rfl rfl (by kernel_rfl) (fun _ _ _ h => h) (by rfl) ?hyr2b_9 ?har2b_9 ?_
    case hyr2b_9 =>
      intro w' hx
      (apply Eq.trans; (apply R_cat; rfl; rfl; rfl; (rw [List.length_append, HLL.out, List.length_cons, List.length_nil, HM.out]; omega)); with_reducible rfl)
    case har2b_9 => (simp only [Act.put, List.setIfInBounds_toArray, List.set_cons_zero, List.set_cons_succ]; rfl)
    refine E_call (i := 1) (N := (some 10)) (args := ?gr2b_1) #[true, true, false, true, true, true, true, true, true, true, true, false, false] rfl rfl (by kernel_rfl) (by rfl) Tryd.func11 (by kernel_rfl) rfl rfl ?hgr2b_1 ?_
    case hgr2b_1 => (simp only [List.map_toArray, List.map_cons, List.map_nil]; go_simp; with_reducible rfl)
    refine (refExtract_any none A 0 0 n c [] mat _ rfl (Rd.nil _ _) (Nat.le_refl _) HN.out (hS.rdp HR.out) (by decide) (by omega)).mono ?_
    rintro e w_ ⟨rfl, hb_⟩
    refine ⟨_, rfl, hb_, ?_⟩
    replace hS := hS.ext hb_
    clear hb_
    rintro _ rfl
    simp only [Act.put, List.setIfInBounds_toArray, List.set_cons_zero, List.set_cons_succ]
    apply E_byt (R := Ext) (i := 2) (N := (some 11)) hS (hR := fun _ _ => Joins.below_bytesWorld _ _ _ _ (Nat.le_refl _)) #[true, true, true, true, true, true, true, true, true, true, true, false, false]
    rfl
    rfl
    kernel_rfl
    rfl
    rfl
    rfl
    rfl
    rfl
    rfl
    exact HL.out
    clear hS
    intro b11 cb11 Cb11 frb11 w_ Hb11 hcb11 hS
    rintro _ rfl
    simp only [Act.put, List.setIfInBounds_toArray, List.set_cons_zero, List.set_cons_succ]
    refine E_call (i := 11) (N := (some 20)) (args := ?gr2b_11) #[true, true, true, true, true, true, true, true, true, true, true, true, false] rfl rfl (by kernel_rfl) (by rfl) Tryd.func12 (by kernel_rfl) rfl rfl ?hgr2b_11 ?_
    case hgr2b_11 => (simp only [List.map_toArray, List.map_cons, List.map_nil]; go_simp; with_reducible rfl)
    refine (refExpand_any (some ⟨b11, 0, none⟩) 64 _ (extF [] mat) (lbl ++ [cb] ++ info) k _ HL.out (hS.objRd (b := b11) (by focus ((repeat (first | exact .here | apply At.there)); done)) Hb11) hcb11 (by decide) (by rw [List.length_append, List.length_append, HLL.out, List.length_cons, List.length_nil, HM.out]; omega) hk).mono ?_
    rw [HD.out]
    rintro e w_ ⟨rfl, hb_⟩
    refine ⟨_, rfl, hb_, ?_⟩
    replace hS := hS.ext hb_
    clear hb_
    rintro _ rfl
    simp only [Act.put, List.setIfInBounds_toArray, List.set_cons_zero, List.set_cons_succ]
    refine E_take (hR := Ext.pre) (i := 12) (N := (some 8)) (v := ?vr2b_12) (a' := ?ar2b_12) #[true, true, true, true, true, true, true, true, true, true, true, true, true] rfl rfl (by kernel_rfl) (fun _ _ _ h => h) (by rfl) ?hyr2b_12 ?har2b_12 ?_
    case hyr2b_12 =>
      intro w' hx
      go_simp
      with_reducible rfl
    case har2b_12 => (simp only [Act.put, List.setIfInBounds_toArray, List.set_cons_zero, List.set_cons_succ]; rfl)
    refine E_done (by kernel_rfl) ?_
    go_wp2
    go_ret
    exact ⟨rfl, hS.below⟩
end Go.Proofs.YtfmfpckpldlahaaDoor
