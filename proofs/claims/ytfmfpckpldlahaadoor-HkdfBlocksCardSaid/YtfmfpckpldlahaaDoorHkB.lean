/- The walk of HkdfBlocks. -/
import Derived.Test.YtfmfpckpldlahaaDoorHkL
namespace Go.Proofs.YtfmfpckpldlahaaDoor
open Go.RowKit Go.Proofs.YtfmfpckpldlahaaDoor.Pure

set_option maxRecDepth 8000 in
set_option maxHeartbeats 3200000 in
theorem blocks_walk (A0 : Option Addr) (n0 c0 : Nat) (key info : List UInt8) (w : World) (hn0 : key.length = n0) (hr0 : RdB w A0 key) (hc0 : n0 ≤ c0) (hG : GK w) :
    Calls Tryd.prog 4 #[.slice A0 n0 c0, .string (str info)] w fun e w' => e = .returned (.bool true) ∧ Below w.heap.size w w' := by
  have hS := St.start w
  have HG := Lib.hid hG
  have HR0 := Lib.hid hr0
  have HN0 := Lib.hid hn0
  clear hG hr0 hn0
  have hsz := str_size info
  by_cases h1 : 200 < n0
  · go_enter Tryd.func4, Tryd.ntmps4
    go_upto_region 3 with (first | (go_at_call 7; refine (awake_any _ (HG.out.keep hS.below)).mono ?_; rintro e w_ ⟨rfl, hb_⟩; replace hS := hS.ext hb_; clear hb_))
    all_goals (go_ret; exact ⟨rfl, hS.below⟩)
  by_cases h2 : 200 < info.length
  · go_enter Tryd.func4, Tryd.ntmps4
    go_upto_region 3 with (first | (go_at_call 7; refine (awake_any _ (HG.out.keep hS.below)).mono ?_; rintro e w_ ⟨rfl, hb_⟩; replace hS := hS.ext hb_; clear hb_))
    all_goals (go_ret; exact ⟨rfl, hS.below⟩)
  have i1 : ¬ (200 : Int) < (n0 : Int) := by omega
  have i2 : ¬ (200 : Int) < (info.length : Int) := by omega
  obtain ⟨dv, hdv, hdl, hbk⟩ : ∃ dv, expF key info 192 = dv ∧ dv.length = 192 ∧ ∀ i, i < 3 → (dv.take (64 * i + 64)).drop (64 * i) = tB key info (i + 1) := ⟨_, rfl, expF_len key info (m := 192) (by decide), fun i hi => expF_blk key info hi⟩
  have HDV := Lib.hid (show True → expF key info 192 = dv from fun _ => hdv)
  have HDL := Lib.hid hdl
  have HBK := Lib.hid hbk
  clear hdv hdl hbk
  go_enter Tryd.func4, Tryd.ntmps4
  go_upto_region 7 with (first | (go_at_call 7; refine (awake_any _ (HG.out.keep hS.below)).mono ?_; rintro e w_ ⟨rfl, hb_⟩; replace hS := hS.ext hb_; clear hb_) | (go_at_call 8; refine (expand_any A0 n0 c0 key info 192 _ HN0.out (hS.rdp HR0.out) (by omega) (by omega) (by decide) (HG.out.keep hS.below)).mono ?_; rw [HDV.out trivial]; rintro e w5 ⟨Ao, rfl, hro, hb_⟩; have HRO := Lib.hid hro; have HB0 := Lib.hid (hS.ext hb_).below; have HR5 := Lib.hid ((hS.ext hb_).rdp HR0.out); clear hro hb_ hS))
  clear HDV HG HR0
  have hb := Below.refl w5.heap.size w5
  go_wp2
  go_loopw [7, 8] (fun vl vi wr => ∃ k : Nat, k ≤ 3 ∧ vl = .string (str (tB key info k)) ∧ vi = .int .i64 (k : Int) ∧ Below w5.heap.size w5 wr) (fun _ vi _ => 3 - (intOf vi).toNat)
  case atStart => exact ⟨0, by omega, rfl, rfl, hb⟩
  case round =>
    clear hb
    obtain ⟨k, hk3, rfl, rfl, hb⟩ := hrel
    match k, hk3 with
    | 0, _ =>
      have hTT := Lib.hid (show tB key info 1 = hmacF key (tB key info 0 ++ info ++ [1]) from rfl)
      have hbk := Lib.hid (HBK.out 0 (by decide))
      have hTk := Lib.hid (tB_le key info 0)
      have hTn := Lib.hid (show (tB key info 1).length = 64 from tB_len key info 0)
      obtain ⟨q, hq⟩ : ∃ q, (tB key info 0 ++ info ++ [(1 : UInt8)]).length = q := ⟨_, rfl⟩
      have HQ := Lib.hid hq
      have hq9 : q ≤ 100000 := by have := hTk.out; rw [← hq, List.length_append, List.length_append, List.length_cons, List.length_nil]; omega
      clear hq
      have hS := St.start wr
      have HRr := Lib.hid (HR5.out.keep hb)
      have HROr := Lib.hid (HRO.out.keep hb)
      go_wp2_with (first | ((with_reducible show wpList _ _ _ (⟨some 42, Op.binOp BinOp.add _ _ _ _, _, _, _, _⟩ :: _) _ _); go_loud (apply S_cat; rfl; rfl; rfl; rfl; ((have := hTk.out; omega)))) | ((with_reducible show wpList _ _ _ (⟨some 46, Op.buildSlice _ _ _, _, _, _, _⟩ :: _) _ _); go_loud (apply S_bslice hS; rfl; (go_simp; first | with_reducible rfl | (refine ⟨?_, ?_⟩ <;> with_reducible rfl)); rfl; rfl; rfl; rfl; clear hS; intro b46 w_ hS)) | ((with_reducible show wpList _ _ _ (⟨some 47, Op.convert _ _ _, _, _, _, _⟩ :: _) _ _); go_loud (refine S_strc Tryd.underlying22 Tryd.underlying5 Tryd.underlying9 (hS.ownRd (A := some ⟨b46, 0, none⟩) (by focus ((repeat (first | exact .here | apply At.there)); done)) : RdB _ _ [(1 : UInt8)]) rfl rfl rfl rfl ?_)) | ((with_reducible show wpList _ _ _ (⟨some 48, Op.binOp BinOp.add _ _ _ _, _, _, _, _⟩ :: _) _ _); go_loud (apply S_cat; rfl; rfl; rfl; rfl; ((have := hTk.out; rw [List.length_append, List.length_cons, List.length_nil]; omega)))) | ((with_reducible show wpList _ _ _ (⟨some 49, Op.convert _ _ _, _, _, _, _⟩ :: _) _ _); go_loud (apply S_byt hS; rfl; rfl; rfl; rfl; rfl; rfl; exact HQ.out; clear hS; intro b49 c49 C49 fr49 w_ HC49 hc49 hS)) | (go_at_call 9; refine (refH_any A0 (some ⟨b49, 0, none⟩) n0 c0 q c49 key (tB key info 0 ++ info ++ [1]) _ HN0.out (hS.rdp HRr.out) hc0 HQ.out (hS.objRd (b := b49) (by focus ((repeat (first | exact .here | apply At.there)); done)) HC49) (by omega) hq9).mono ?_; rw [← hTT.out]; rintro e w_ ⟨rfl, hb_⟩; replace hS := hS.ext hb_; clear hb_) | ((with_reducible show wpList _ _ _ (⟨some 57, Op.slice _ _ _ _ _, _, _, _, _⟩ :: _) _ _); go_loud (apply S_slice; rfl; rfl; rfl; (first | exact SB.no | exact SB.so | exact SB.lit (by decide)); (first | exact SB.no | exact SB.so | exact SB.lit (by decide)); rfl; rfl; (first | assumption | (focus (simp; done)) | (focus (simp; omega)) | omega); (first | assumption | (focus (simp; done)) | (focus (simp; omega)) | omega))) | ((with_reducible show wpList _ _ _ (⟨some 58, Op.convert _ _ _, _, _, _, _⟩ :: _) _ _); go_loud (refine S_strc Tryd.underlying22 Tryd.underlying5 Tryd.underlying9 (show RdB _ (cutA Ao 192 (64 * 0)) (tB key info 1) by rw [← hbk.out]; exact RdB.sub (hS.rdp HROr.out) (by rw [HDL.out]; decide)) hTn.out rfl rfl rfl ?_)))
      go_roundw
      case rel => exact ⟨1, by decide, rfl, by go_num, hb.trans (hS.below.mono hb.size)⟩
      case measure => simp [intOf]
    | 1, _ =>
      have hTT := Lib.hid (show tB key info 2 = hmacF key (tB key info 1 ++ info ++ [2]) from rfl)
      have hbk := Lib.hid (HBK.out 1 (by decide))
      have hTk := Lib.hid (tB_le key info 1)
      have hTn := Lib.hid (show (tB key info 2).length = 64 from tB_len key info 1)
      obtain ⟨q, hq⟩ : ∃ q, (tB key info 1 ++ info ++ [(2 : UInt8)]).length = q := ⟨_, rfl⟩
      have HQ := Lib.hid hq
      have hq9 : q ≤ 100000 := by have := hTk.out; rw [← hq, List.length_append, List.length_append, List.length_cons, List.length_nil]; omega
      clear hq
      have hS := St.start wr
      have HRr := Lib.hid (HR5.out.keep hb)
      have HROr := Lib.hid (HRO.out.keep hb)
      go_wp2_with (first | ((with_reducible show wpList _ _ _ (⟨some 42, Op.binOp BinOp.add _ _ _ _, _, _, _, _⟩ :: _) _ _); go_loud (apply S_cat; rfl; rfl; rfl; rfl; ((have := hTk.out; omega)))) | ((with_reducible show wpList _ _ _ (⟨some 46, Op.buildSlice _ _ _, _, _, _, _⟩ :: _) _ _); go_loud (apply S_bslice hS; rfl; (go_simp; first | with_reducible rfl | (refine ⟨?_, ?_⟩ <;> with_reducible rfl)); rfl; rfl; rfl; rfl; clear hS; intro b46 w_ hS)) | ((with_reducible show wpList _ _ _ (⟨some 47, Op.convert _ _ _, _, _, _, _⟩ :: _) _ _); go_loud (refine S_strc Tryd.underlying22 Tryd.underlying5 Tryd.underlying9 (hS.ownRd (A := some ⟨b46, 0, none⟩) (by focus ((repeat (first | exact .here | apply At.there)); done)) : RdB _ _ [(2 : UInt8)]) rfl rfl rfl rfl ?_)) | ((with_reducible show wpList _ _ _ (⟨some 48, Op.binOp BinOp.add _ _ _ _, _, _, _, _⟩ :: _) _ _); go_loud (apply S_cat; rfl; rfl; rfl; rfl; ((have := hTk.out; rw [List.length_append, List.length_cons, List.length_nil]; omega)))) | ((with_reducible show wpList _ _ _ (⟨some 49, Op.convert _ _ _, _, _, _, _⟩ :: _) _ _); go_loud (apply S_byt hS; rfl; rfl; rfl; rfl; rfl; rfl; exact HQ.out; clear hS; intro b49 c49 C49 fr49 w_ HC49 hc49 hS)) | (go_at_call 9; refine (refH_any A0 (some ⟨b49, 0, none⟩) n0 c0 q c49 key (tB key info 1 ++ info ++ [2]) _ HN0.out (hS.rdp HRr.out) hc0 HQ.out (hS.objRd (b := b49) (by focus ((repeat (first | exact .here | apply At.there)); done)) HC49) (by omega) hq9).mono ?_; rw [← hTT.out]; rintro e w_ ⟨rfl, hb_⟩; replace hS := hS.ext hb_; clear hb_) | ((with_reducible show wpList _ _ _ (⟨some 57, Op.slice _ _ _ _ _, _, _, _, _⟩ :: _) _ _); go_loud (apply S_slice; rfl; rfl; rfl; (first | exact SB.no | exact SB.so | exact SB.lit (by decide)); (first | exact SB.no | exact SB.so | exact SB.lit (by decide)); rfl; rfl; (first | assumption | (focus (simp; done)) | (focus (simp; omega)) | omega); (first | assumption | (focus (simp; done)) | (focus (simp; omega)) | omega))) | ((with_reducible show wpList _ _ _ (⟨some 58, Op.convert _ _ _, _, _, _, _⟩ :: _) _ _); go_loud (refine S_strc Tryd.underlying22 Tryd.underlying5 Tryd.underlying9 (show RdB _ (cutA Ao 192 (64 * 1)) (tB key info 2) by rw [← hbk.out]; exact RdB.sub (hS.rdp HROr.out) (by rw [HDL.out]; decide)) hTn.out rfl rfl rfl ?_)))
      go_roundw
      case rel => exact ⟨2, by decide, rfl, by go_num, hb.trans (hS.below.mono hb.size)⟩
      case measure => simp [intOf]
    | 2, _ =>
      have hTT := Lib.hid (show tB key info 3 = hmacF key (tB key info 2 ++ info ++ [3]) from rfl)
      have hbk := Lib.hid (HBK.out 2 (by decide))
      have hTk := Lib.hid (tB_le key info 2)
      have hTn := Lib.hid (show (tB key info 3).length = 64 from tB_len key info 2)
      obtain ⟨q, hq⟩ : ∃ q, (tB key info 2 ++ info ++ [(3 : UInt8)]).length = q := ⟨_, rfl⟩
      have HQ := Lib.hid hq
      have hq9 : q ≤ 100000 := by have := hTk.out; rw [← hq, List.length_append, List.length_append, List.length_cons, List.length_nil]; omega
      clear hq
      have hS := St.start wr
      have HRr := Lib.hid (HR5.out.keep hb)
      have HROr := Lib.hid (HRO.out.keep hb)
      go_wp2_with (first | ((with_reducible show wpList _ _ _ (⟨some 42, Op.binOp BinOp.add _ _ _ _, _, _, _, _⟩ :: _) _ _); go_loud (apply S_cat; rfl; rfl; rfl; rfl; ((have := hTk.out; omega)))) | ((with_reducible show wpList _ _ _ (⟨some 46, Op.buildSlice _ _ _, _, _, _, _⟩ :: _) _ _); go_loud (apply S_bslice hS; rfl; (go_simp; first | with_reducible rfl | (refine ⟨?_, ?_⟩ <;> with_reducible rfl)); rfl; rfl; rfl; rfl; clear hS; intro b46 w_ hS)) | ((with_reducible show wpList _ _ _ (⟨some 47, Op.convert _ _ _, _, _, _, _⟩ :: _) _ _); go_loud (refine S_strc Tryd.underlying22 Tryd.underlying5 Tryd.underlying9 (hS.ownRd (A := some ⟨b46, 0, none⟩) (by focus ((repeat (first | exact .here | apply At.there)); done)) : RdB _ _ [(3 : UInt8)]) rfl rfl rfl rfl ?_)) | ((with_reducible show wpList _ _ _ (⟨some 48, Op.binOp BinOp.add _ _ _ _, _, _, _, _⟩ :: _) _ _); go_loud (apply S_cat; rfl; rfl; rfl; rfl; ((have := hTk.out; rw [List.length_append, List.length_cons, List.length_nil]; omega)))) | ((with_reducible show wpList _ _ _ (⟨some 49, Op.convert _ _ _, _, _, _, _⟩ :: _) _ _); go_loud (apply S_byt hS; rfl; rfl; rfl; rfl; rfl; rfl; exact HQ.out; clear hS; intro b49 c49 C49 fr49 w_ HC49 hc49 hS)) | (go_at_call 9; refine (refH_any A0 (some ⟨b49, 0, none⟩) n0 c0 q c49 key (tB key info 2 ++ info ++ [3]) _ HN0.out (hS.rdp HRr.out) hc0 HQ.out (hS.objRd (b := b49) (by focus ((repeat (first | exact .here | apply At.there)); done)) HC49) (by omega) hq9).mono ?_; rw [← hTT.out]; rintro e w_ ⟨rfl, hb_⟩; replace hS := hS.ext hb_; clear hb_) | ((with_reducible show wpList _ _ _ (⟨some 57, Op.slice _ _ _ _ _, _, _, _, _⟩ :: _) _ _); go_loud (apply S_slice; rfl; rfl; rfl; (first | exact SB.no | exact SB.so | exact SB.lit (by decide)); (first | exact SB.no | exact SB.so | exact SB.lit (by decide)); rfl; rfl; (first | assumption | (focus (simp; done)) | (focus (simp; omega)) | omega); (first | assumption | (focus (simp; done)) | (focus (simp; omega)) | omega))) | ((with_reducible show wpList _ _ _ (⟨some 58, Op.convert _ _ _, _, _, _, _⟩ :: _) _ _); go_loud (refine S_strc Tryd.underlying22 Tryd.underlying5 Tryd.underlying9 (show RdB _ (cutA Ao 192 (64 * 2)) (tB key info 3) by rw [← hbk.out]; exact RdB.sub (hS.rdp HROr.out) (by rw [HDL.out]; decide)) hTn.out rfl rfl rfl ?_)))
      go_roundw
      case rel => exact ⟨3, by decide, rfl, by go_num, hb.trans (hS.below.mono hb.size)⟩
      case measure => simp [intOf]
    | 3, _ =>
      go_wp2
      go_ret
      exact ⟨rfl, HB0.out.trans (hb.mono HB0.out.size)⟩
theorem blocks_row (A0 : Option Addr) (n0 c0 : Nat) (key : List UInt8) (s : ByteArray) (w : World) (hn0 : key.length = n0) (hr0 : RdB w A0 key) (hc0 : n0 ≤ c0) (hG : GK w) :
    Calls Tryd.prog 4 #[.slice A0 n0 c0, .string s] w fun e w' => e = .returned (.bool true) ∧ Below w.heap.size w w' := by
  rw [← str_of s]
  exact blocks_walk A0 n0 c0 key _ w hn0 hr0 hc0 hG
end Go.Proofs.YtfmfpckpldlahaaDoor
