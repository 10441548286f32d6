/- The walk of HkdfDerives. -/
import Derived.Test.YtfmfpckpldlahaaDoorHkL
namespace Go.Proofs.YtfmfpckpldlahaaDoor
open Go.RowKit Go.Proofs.YtfmfpckpldlahaaDoor.Pure

set_option maxRecDepth 8000 in
set_option maxHeartbeats 1600000 in
theorem derives_walk (A0 A1 : Option Addr) (n0 c0 n1 c1 : Nat) (mat info : List UInt8) (cb : UInt8) (w : World) (hn0 : mat.length = n0) (hn1 : info.length = n1) (hr0 : RdB w A0 mat) (hr1 : RdB w A1 info) (hG : GK w) :
    Calls Tryd.prog 6 #[.slice A0 n0 c0, .slice A1 n1 c1, .int .u8 (cb.toNat : Int)] w fun e w' => e = .returned (.bool true) ∧ Below w.heap.size w w' := by
  have hS := St.start w
  have HG := Lib.hid hG
  have HR0 := Lib.hid hr0
  have HR1 := Lib.hid hr1
  have HN0 := Lib.hid hn0
  have HN1 := Lib.hid hn1
  clear hG hr0 hr1 hn0 hn1
  by_cases h1 : 200 < n0
  · go_enter Tryd.func6, Tryd.ntmps6
    go_upto_region 3 with (go_at_call 7; refine (awake_any _ (HG.out.keep hS.below)).mono ?_; rintro e w_ ⟨rfl, hb_⟩; replace hS := hS.ext hb_; clear hb_)
    all_goals (go_ret; exact ⟨rfl, hS.below⟩)
  by_cases h2 : 200 < n1
  · go_enter Tryd.func6, Tryd.ntmps6
    go_upto_region 3 with (go_at_call 7; refine (awake_any _ (HG.out.keep hS.below)).mono ?_; rintro e w_ ⟨rfl, hb_⟩; replace hS := hS.ext hb_; clear hb_)
    all_goals (go_ret; exact ⟨rfl, hS.below⟩)
  have i1 : ¬ (200 : Int) < (n0 : Int) := by omega
  have i2 : ¬ (200 : Int) < (n1 : Int) := by omega
  obtain ⟨dv, hdv, hdl⟩ : ∃ dv, derF mat cb info 64 = dv ∧ dv.length = 64 := ⟨_, rfl, der_len mat cb info (k := 64) (by decide)⟩
  have HDV := Lib.hid (show True → derF mat cb info 64 = dv from fun _ => hdv)
  have HXL := Lib.hid hdl
  clear hdv hdl
  go_enter Tryd.func6, Tryd.ntmps6
  go_upto_region 4 with (first | (go_at_call 7; refine (awake_any _ (HG.out.keep hS.below)).mono ?_; rintro e w_ ⟨rfl, hb_⟩; replace hS := hS.ext hb_; clear hb_) | (go_at_call 13; refine (derive_any A0 A1 n0 c0 n1 c1 64 mat info cb _ HN0.out (hS.rdp HR0.out) HN1.out (hS.rdp HR1.out) (by omega) (by omega) (by decide) (HG.out.keep hS.below)).mono ?_; rw [HDV.out trivial]; rintro e w5 ⟨Ao, rfl, hro, hb_⟩; have HRO := Lib.hid hro; have HB0 := Lib.hid (hS.ext hb_).below; have HR05 := Lib.hid ((hS.ext hb_).rdp HR0.out); have HR15 := Lib.hid ((hS.ext hb_).rdp HR1.out); clear hro hb_ hS; have hS := St.start w5))
  refine E_start (hR := Ext.pre) #[false, false, false, false, false, false, false, false, false, false, false] (by kernel_rfl) rfl rfl (fun w_x1 hx_x1 he_x1 => ?_)
  clear he_x1
  replace hS := hS.ext hx_x1; clear hx_x1
  refine E_take (hR := Ext.pre) (i := 0) (N := (some 29)) (v := ?vx1_0) (a' := ?ax1_0) #[true, false, false, false, false, false, false, false, false, false, false] rfl rfl (by kernel_rfl) (fun _ _ _ h => h) (by rfl) ?hyx1_0 ?hax1_0 ?_
  case hyx1_0 =>
    intro w' hx
    go_simp
    with_reducible rfl
  case hax1_0 => (simp only [Act.put, List.setIfInBounds_toArray, List.set_cons_zero, List.set_cons_succ]; rfl)
  refine E_take (hR := Ext.pre) (i := 1) (N := (some 30)) (v := ?vx1_1) (a' := ?ax1_1) #[true, true, false, false, false, false, false, false, false, false, false] rfl rfl (by kernel_rfl) (fun _ _ _ h => h) (by rfl) ?hyx1_1 ?hax1_1 ?_
  case hyx1_1 =>
    intro w' hx
    go_simp
    with_reducible rfl
  case hax1_1 => (simp only [Act.put, List.setIfInBounds_toArray, List.set_cons_zero, List.set_cons_succ]; rfl)
  refine E_take (hR := Ext.pre) (i := 2) (N := (some 31)) (v := ?vx1_2) (a' := ?ax1_2) #[true, true, true, false, false, false, false, false, false, false, false] rfl rfl (by kernel_rfl) (fun _ _ _ h => h) (by rfl) ?hyx1_2 ?hax1_2 ?_
  case hyx1_2 =>
    intro w' hx
    go_simp
    with_reducible rfl
  case hax1_2 => (simp only [Act.put, List.setIfInBounds_toArray, List.set_cons_zero, List.set_cons_succ]; rfl)
  refine E_take (hR := Ext.pre) (i := 3) (N := (some 32)) (v := ?vx1_3) (a' := ?ax1_3) #[true, true, true, true, false, false, false, false, false, false, false] rfl rfl (by kernel_rfl) (fun _ _ _ h => h) (by rfl) ?hyx1_3 ?hax1_3 ?_
  case hyx1_3 =>
    intro w' hx
    (apply Eq.trans; (apply R_strc Tryd.underlying22 Tryd.underlying5 Tryd.underlying9 ((hS.ext hx).rdp HRO.out : RdB _ _ dv) HXL.out; rfl; rfl); with_reducible rfl)
  case hax1_3 => (simp only [Act.put, List.setIfInBounds_toArray, List.set_cons_zero, List.set_cons_succ]; rfl)
  refine E_take (hR := Ext.pre) (i := 4) (N := (some 33)) (v := ?vx1_4) (a' := ?ax1_4) #[true, true, true, true, true, false, false, false, false, false, false] rfl rfl (by kernel_rfl) (fun _ _ _ h => h) (by rfl) ?hyx1_4 ?hax1_4 ?_
  case hyx1_4 =>
    intro w' hx
    go_simp
    with_reducible rfl
  case hax1_4 => (simp only [Act.put, List.setIfInBounds_toArray, List.set_cons_zero, List.set_cons_succ]; rfl)
  refine E_take (hR := Ext.pre) (i := 5) (N := (some 34)) (v := ?vx1_5) (a' := ?ax1_5) #[true, true, true, true, true, true, false, false, false, false, false] rfl rfl (by kernel_rfl) (fun _ _ _ h => h) (by rfl) ?hyx1_5 ?hax1_5 ?_
  case hyx1_5 =>
    intro w' hx
    go_simp
    with_reducible rfl
  case hax1_5 => (simp only [Act.put, List.setIfInBounds_toArray, List.set_cons_zero, List.set_cons_succ]; rfl)
  refine E_take (hR := Ext.pre) (i := 6) (N := (some 35)) (v := ?vx1_6) (a' := ?ax1_6) #[true, true, true, true, true, true, true, false, false, false, false] rfl rfl (by kernel_rfl) (fun _ _ _ h => h) (by rfl) ?hyx1_6 ?hax1_6 ?_
  case hyx1_6 =>
    intro w' hx
    go_simp
    with_reducible rfl
  case hax1_6 => (simp only [Act.put, List.setIfInBounds_toArray, List.set_cons_zero, List.set_cons_succ]; rfl)
  refine E_call (i := 7) (N := (some 36)) (args := ?gx1_7) #[true, true, true, true, true, true, true, true, false, false, false] rfl rfl (by kernel_rfl) (by rfl) Tryd.func14 (by kernel_rfl) rfl rfl ?hgx1_7 ?_
  case hgx1_7 => (simp only [List.map_toArray, List.map_cons, List.map_nil]; go_simp; with_reducible rfl)
  refine (refDerive_any A0 A1 n0 c0 n1 c1 64 mat info cb _ HN0.out (hS.rdp HR05.out) HN1.out (hS.rdp HR15.out) (by omega) (by omega) (by decide)).mono ?_
  rw [HDV.out trivial]
  rintro e w_ ⟨rfl, hb_⟩
  refine ⟨_, rfl, hb_, ?_⟩
  replace hS := hS.ext hb_
  clear hb_
  rintro _ rfl
  simp only [Act.put, List.setIfInBounds_toArray, List.set_cons_zero, List.set_cons_succ]
  refine E_take (hR := Ext.pre) (i := 8) (N := (some 37)) (v := ?vx1_8) (a' := ?ax1_8) #[true, true, true, true, true, true, true, true, true, false, false] rfl rfl (by kernel_rfl) (fun _ _ _ h => h) (by rfl) ?hyx1_8 ?hax1_8 ?_
  case hyx1_8 =>
    intro w' hx
    go_simp
    with_reducible rfl
  case hax1_8 => (simp only [Act.put, List.setIfInBounds_toArray, List.set_cons_zero, List.set_cons_succ]; rfl)
  refine E_take (hR := Ext.pre) (i := 9) (N := (some 38)) (v := ?vx1_9) (a' := ?ax1_9) #[true, true, true, true, true, true, true, true, true, true, false] rfl rfl (by kernel_rfl) (fun _ _ _ h => h) (by rfl) ?hyx1_9 ?hax1_9 ?_
  case hyx1_9 =>
    intro w' hx
    go_simp
    with_reducible rfl
  case hax1_9 => (simp only [Act.put, List.setIfInBounds_toArray, List.set_cons_zero, List.set_cons_succ]; rfl)
  refine E_take (hR := Ext.pre) (i := 10) (N := (some 6)) (v := ?vx1_10) (a' := ?ax1_10) #[true, true, true, true, true, true, true, true, true, true, true] rfl rfl (by kernel_rfl) (fun _ _ _ h => h) (by rfl) ?hyx1_10 ?hax1_10 ?_
  case hyx1_10 =>
    intro w' hx
    go_simp
    with_reducible rfl
  case hax1_10 => (simp only [Act.put, List.setIfInBounds_toArray, List.set_cons_zero, List.set_cons_succ]; rfl)
  refine E_done (by kernel_rfl) ?_
  go_wp2
  go_ret
  exact ⟨rfl, HB0.out.trans (hS.below.mono HB0.out.size)⟩
theorem derives_row (A0 A1 : Option Addr) (n0 c0 n1 c1 : Nat) (mat info : List UInt8) (z : Int) (w : World) (hn0 : mat.length = n0) (hn1 : info.length = n1) (hr0 : RdB w A0 mat) (hr1 : RdB w A1 info) (wz : (Lit.int .u8 z).wf = true) (hG : GK w) :
    Calls Tryd.prog 6 #[.slice A0 n0 c0, .slice A1 n1 c1, .int .u8 z] w fun e w' => e = .returned (.bool true) ∧ Below w.heap.size w w' := by
  have hy : 0 ≤ z ∧ z ≤ 255 := by simpa [Lit.wf, IntKind.min, IntKind.max, IntKind.signed, IntKind.bits] using wz
  have hz : z = ((UInt8.ofNat z.toNat).toNat : Int) := by
    rw [UInt8.toNat_ofNat_of_lt' (show z.toNat < 256 by omega)]; omega
  rw [hz]
  exact derives_walk A0 A1 n0 c0 n1 c1 mat info _ w hn0 hn1 hr0 hr1 hG
end Go.Proofs.YtfmfpckpldlahaaDoor
