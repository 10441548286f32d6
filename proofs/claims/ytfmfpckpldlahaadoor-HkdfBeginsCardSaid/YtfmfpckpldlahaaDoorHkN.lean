/- The walks of HkdfBegins and HkdfBlocks. -/
import Derived.Test.YtfmfpckpldlahaaDoorHkL
import Derived.Test.YtfmfpckpldlahaaDoorArr
import Derived.Test.YtfmfpckpldlahaaDoorTmd
namespace Go.Proofs.YtfmfpckpldlahaaDoor
open Go.RowKit Go.Proofs.YtfmfpckpldlahaaDoor.Pure

set_option maxRecDepth 8000 in
set_option maxHeartbeats 1600000 in
theorem begins_walk (A0 : Option Addr) (n0 c0 : Nat) (key info : List UInt8) (z0 z1 : Int) (w : World) (hn0 : key.length = n0) (hr0 : RdB w A0 key) (b0 : -9223372036854775808 ≤ z0 ∧ z0 ≤ 9223372036854775807) (b1 : -9223372036854775808 ≤ z1 ∧ z1 ≤ 9223372036854775807) (hG : GK w) :
    Calls Tryd.prog 3 #[.slice A0 n0 c0, .string (str info), .agg #[.int .i64 z0, .int .i64 z1]] w fun e w' => e = .returned (.bool true) ∧ Below w.heap.size w w' := by
  have hS := St.start w
  have HG := Lib.hid hG
  have HR0 := Lib.hid hr0
  have HN0 := Lib.hid hn0
  clear hG hr0 hn0
  have hsz := str_size info
  by_cases h1 : 200 < n0
  · go_enter Tryd.func3, Tryd.ntmps3
    go_upto_region 3 with (first | ((with_reducible show wpList _ _ _ (⟨some 5, Op.box _ _, _, _, _, _⟩ :: _) _ _); go_loud (apply S_box hS; rfl; rfl; (focus ((conv => lhs; whnf) <;> rfl)); rfl; clear hS; intro b5 w_ hS)) | (go_at_call 7; refine (awake_any _ (HG.out.keep hS.below)).mono ?_; rintro e w_ ⟨rfl, hb_⟩; replace hS := hS.ext hb_; clear hb_))
    all_goals (go_ret; exact ⟨rfl, hS.below⟩)
  by_cases h2 : 200 < info.length
  · go_enter Tryd.func3, Tryd.ntmps3
    go_upto_region 3 with (first | ((with_reducible show wpList _ _ _ (⟨some 5, Op.box _ _, _, _, _, _⟩ :: _) _ _); go_loud (apply S_box hS; rfl; rfl; (focus ((conv => lhs; whnf) <;> rfl)); rfl; clear hS; intro b5 w_ hS)) | (go_at_call 7; refine (awake_any _ (HG.out.keep hS.below)).mono ?_; rintro e w_ ⟨rfl, hb_⟩; replace hS := hS.ext hb_; clear hb_))
    all_goals (go_ret; exact ⟨rfl, hS.below⟩)
  have i1 : ¬ (200 : Int) < (n0 : Int) := by omega
  have i2 : ¬ (200 : Int) < (info.length : Int) := by omega
  go_enter Tryd.func3, Tryd.ntmps3
  go_upto_region 3 with (first | ((with_reducible show wpList _ _ _ (⟨some 5, Op.box _ _, _, _, _, _⟩ :: _) _ _); go_loud (apply S_box hS; rfl; rfl; (focus ((conv => lhs; whnf) <;> rfl)); rfl; clear hS; intro b5 w_ hS)) | (go_at_call 7; refine (awake_any _ (HG.out.keep hS.below)).mono ?_; rintro e w_ ⟨rfl, hb_⟩; replace hS := hS.ext hb_; clear hb_))
  have t0 := tmod_bound z0 (k := 300) (by decide)
  have t1 := tmod_bound z1 (k := 300) (by decide)
  obtain ⟨p, hp, hpk⟩ := tmod_cut z0 (k := 300) (by decide)
  obtain ⟨q, hq, hqk⟩ := tmod_cut z1 (k := 300) (by decide)
  refine E_start (hR := Ext.pre) #[false, false, false, false, false, false, false, false, false, false, false, false] (by kernel_rfl) rfl rfl (fun w_m1 hx_m1 he_m1 => ?_)
  clear he_m1
  replace hS := hS.ext hx_m1; clear hx_m1
  refine E_take (hR := Ext.pre) (i := 0) (N := (some 26)) (v := ?vm1_0) (a' := ?am1_0) #[true, false, false, false, false, false, false, false, false, false, false, false] rfl rfl (by kernel_rfl) (fun _ _ _ h => h) (by rfl) ?hym1_0 ?ham1_0 ?_
  case hym1_0 =>
    intro w' hx
    go_simp
    with_reducible rfl
  case ham1_0 => (simp only [Act.put, List.setIfInBounds_toArray, List.set_cons_zero, List.set_cons_succ]; rfl)
  refine E_take (hR := Ext.pre) (i := 1) (N := (some 27)) (v := ?vm1_1) (a' := ?am1_1) #[true, true, false, false, false, false, false, false, false, false, false, false] rfl rfl (by kernel_rfl) (fun _ _ _ h => h) (by rfl) ?hym1_1 ?ham1_1 ?_
  case hym1_1 =>
    intro w' hx
    (first | (apply Eq.trans; (first | (apply R_ld (hS.ext hx); rfl; rfl; (focus ((repeat (first | exact .here | apply At.there)); done)); rfl; (first | assumption | rfl | exact mapGetB (by first | assumption | omega) | exact mapGet _ (by first | assumption | omega))) | (apply R_ldAll (hS.ext hx); rfl; rfl; (focus ((repeat (first | exact .here | apply At.there)); done)); rfl; (first | rfl | (simp only [List.length_map, sumF_length]; rfl))) | (apply R_ldOwn (hS.ext hx); rfl; rfl; (focus ((repeat (first | exact .here | apply At.there)); done)); rfl; (first | rfl | exact mapGetB (by first | assumption | omega) | exact mapGet _ (by first | assumption | omega)))); with_reducible rfl) | (go_simp; with_reducible rfl))
  case ham1_1 => (simp only [Act.put, List.setIfInBounds_toArray, List.set_cons_zero, List.set_cons_succ]; rfl)
  refine E_take (hR := Ext.pre) (i := 2) (N := (some 28)) (v := ?vm1_2) (a' := ?am1_2) #[true, true, true, false, false, false, false, false, false, false, false, false] rfl rfl (by kernel_rfl) (fun _ _ _ h => h) (by rfl) ?hym1_2 ?ham1_2 ?_
  case hym1_2 =>
    intro w' hx
    go_simp
    with_reducible rfl
  case ham1_2 => (simp only [Act.put, List.setIfInBounds_toArray, List.set_cons_zero, List.set_cons_succ]; rfl)
  refine E_take (hR := Ext.pre) (i := 3) (N := (some 29)) (v := ?vm1_3) (a' := ?am1_3) #[true, true, true, true, false, false, false, false, false, false, false, false] rfl rfl (by kernel_rfl) (fun _ _ _ h => h) (by rfl) ?hym1_3 ?ham1_3 ?_
  case hym1_3 =>
    intro w' hx
    go_simp
    with_reducible rfl
  case ham1_3 => (simp only [Act.put, List.setIfInBounds_toArray, List.set_cons_zero, List.set_cons_succ]; rfl)
  refine E_take (hR := Ext.pre) (i := 4) (N := (some 30)) (v := ?vm1_4) (a' := ?am1_4) #[true, true, true, true, true, false, false, false, false, false, false, false] rfl rfl (by kernel_rfl) (fun _ _ _ h => h) (by rfl) ?hym1_4 ?ham1_4 ?_
  case hym1_4 =>
    intro w' hx
    go_simp
    with_reducible rfl
  case ham1_4 => (simp only [Act.put, List.setIfInBounds_toArray, List.set_cons_zero, List.set_cons_succ]; rfl)
  refine E_take (hR := Ext.pre) (i := 5) (N := (some 31)) (v := ?vm1_5) (a' := ?am1_5) #[true, true, true, true, true, true, false, false, false, false, false, false] rfl rfl (by kernel_rfl) (fun _ _ _ h => h) (by rfl) ?hym1_5 ?ham1_5 ?_
  case hym1_5 =>
    intro w' hx
    go_simp
    with_reducible rfl
  case ham1_5 => (simp only [Act.put, List.setIfInBounds_toArray, List.set_cons_zero, List.set_cons_succ]; rfl)
  refine E_take (hR := Ext.pre) (i := 6) (N := (some 32)) (v := ?vm1_6) (a' := ?am1_6) #[true, true, true, true, true, true, true, false, false, false, false, false] rfl rfl (by kernel_rfl) (fun _ _ _ h => h) (by rfl) ?hym1_6 ?ham1_6 ?_
  case hym1_6 =>
    intro w' hx
    (first | (apply Eq.trans; (first | (apply R_ld (hS.ext hx); rfl; rfl; (focus ((repeat (first | exact .here | apply At.there)); done)); rfl; (first | assumption | rfl | exact mapGetB (by first | assumption | omega) | exact mapGet _ (by first | assumption | omega))) | (apply R_ldAll (hS.ext hx); rfl; rfl; (focus ((repeat (first | exact .here | apply At.there)); done)); rfl; (first | rfl | (simp only [List.length_map, sumF_length]; rfl))) | (apply R_ldOwn (hS.ext hx); rfl; rfl; (focus ((repeat (first | exact .here | apply At.there)); done)); rfl; (first | rfl | exact mapGetB (by first | assumption | omega) | exact mapGet _ (by first | assumption | omega)))); with_reducible rfl) | (go_simp; with_reducible rfl))
  case ham1_6 => (simp only [Act.put, List.setIfInBounds_toArray, List.set_cons_zero, List.set_cons_succ]; rfl)
  refine E_take (hR := Ext.pre) (i := 7) (N := (some 33)) (v := ?vm1_7) (a' := ?am1_7) #[true, true, true, true, true, true, true, true, false, false, false, false] rfl rfl (by kernel_rfl) (fun _ _ _ h => h) (by rfl) ?hym1_7 ?ham1_7 ?_
  case hym1_7 =>
    intro w' hx
    go_simp
    with_reducible rfl
  case ham1_7 => (simp only [Act.put, List.setIfInBounds_toArray, List.set_cons_zero, List.set_cons_succ]; rfl)
  refine E_take (hR := Ext.pre) (i := 8) (N := (some 34)) (v := ?vm1_8) (a' := ?am1_8) #[true, true, true, true, true, true, true, true, true, false, false, false] rfl rfl (by kernel_rfl) (fun _ _ _ h => h) (by rfl) ?hym1_8 ?ham1_8 ?_
  case hym1_8 =>
    intro w' hx
    go_simp
    with_reducible rfl
  case ham1_8 => (simp only [Act.put, List.setIfInBounds_toArray, List.set_cons_zero, List.set_cons_succ]; rfl)
  refine E_take (hR := Ext.pre) (i := 9) (N := (some 35)) (v := ?vm1_9) (a' := ?am1_9) #[true, true, true, true, true, true, true, true, true, true, false, false] rfl rfl (by kernel_rfl) (fun _ _ _ h => h) (by rfl) ?hym1_9 ?ham1_9 ?_
  case hym1_9 =>
    intro w' hx
    go_simp
    with_reducible rfl
  case ham1_9 => (simp only [Act.put, List.setIfInBounds_toArray, List.set_cons_zero, List.set_cons_succ]; rfl)
  refine E_take (hR := Ext.pre) (i := 10) (N := (some 7)) (v := ?vm1_10) (a' := ?am1_10) #[true, true, true, true, true, true, true, true, true, true, true, false] rfl rfl (by kernel_rfl) (fun _ _ _ h => h) (by rfl) ?hym1_10 ?ham1_10 ?_
  case hym1_10 =>
    intro w' hx
    go_simp
    with_reducible rfl
  case ham1_10 => (simp only [Act.put, List.setIfInBounds_toArray, List.set_cons_zero, List.set_cons_succ]; rfl)
  refine E_take (hR := Ext.pre) (i := 11) (N := (some 8)) (v := ?vm1_11) (a' := ?am1_11) #[true, true, true, true, true, true, true, true, true, true, true, true] rfl rfl (by kernel_rfl) (fun _ _ _ h => h) (by rfl) ?hym1_11 ?ham1_11 ?_
  case hym1_11 =>
    intro w' hx
    go_simp
    with_reducible rfl
  case ham1_11 => (simp only [Act.put, List.setIfInBounds_toArray, List.set_cons_zero, List.set_cons_succ]; rfl)
  refine E_done (by kernel_rfl) ?_
  have w0 : IntKind.i64.wrap (z0.tmod 300 + 300) = z0.tmod 300 + 300 := by rw [IntKind.wrap_i64]; omega
  have w1 : IntKind.i64.wrap (z1.tmod 300 + 300) = z1.tmod 300 + 300 := by rw [IntKind.wrap_i64]; omega
  simp only [w0, w1, hp, hq]
  clear w0 w1 hp hq t0 t1
  have hp3 : p < 300 := by omega
  have hq3 : q < 300 := by omega
  clear hpk hqk
  by_cases hpq : q < p
  · have hpq2 : (q : Int) < (p : Int) := by omega
    have LA := Lib.hid (expF_len key info (m := q) (by omega))
    have LB := Lib.hid (expF_len key info (m := p) (by omega))
    have LT := Lib.hid (expF_take key info (a := q) (b := p) (by omega))
    go_upto_region 8 with (first | ((with_reducible show Calls _ 8 #[_, _, .int .i64 (q : Nat)] _ _); refine (expand_any A0 n0 c0 key info q _ HN0.out (hS.rdp HR0.out) (by omega) (by omega) (by omega) (HG.out.keep hS.below)).mono ?_; rintro e w5 ⟨Aa, rfl, hro, hb_⟩; have HRA := Lib.hid hro; have HB0 := Lib.hid (hS.ext hb_).below; have HR05 := Lib.hid ((hS.ext hb_).rdp HR0.out); have HG5 := Lib.hid (HG.out.keep (hS.ext hb_).below); clear hro hb_ hS; have hS := St.start w5) | ((with_reducible show Calls _ 8 #[_, _, .int .i64 (p : Nat)] _ _); refine (expand_any A0 n0 c0 key info p _ HN0.out (hS.rdp HR05.out) (by omega) (by omega) (by omega) (HG5.out.keep hS.below)).mono ?_; rintro e w6 ⟨Ab, rfl, hro, hb_⟩; have HRB := Lib.hid hro; have HB1 := Lib.hid (hS.ext hb_).below; have HRA6 := Lib.hid ((hS.ext hb_).rdp HRA.out); clear hro hb_ hS; have hS := St.start w6))
    refine E_start (hR := Ext.pre) #[false, false, false, false, false, false, false, false, false, false, false, false, false, false, false, false, false, false, false, false] (by kernel_rfl) rfl rfl (fun w_x2 hx_x2 he_x2 => ?_)
    clear he_x2
    replace hS := hS.ext hx_x2; clear hx_x2
    refine E_take (hR := Ext.pre) (i := 0) (N := (some 55)) (v := ?vx2_0) (a' := ?ax2_0) #[true, false, false, false, false, false, false, false, false, false, false, false, false, false, false, false, false, false, false, false] rfl rfl (by kernel_rfl) (fun _ _ _ h => h) (by rfl) ?hyx2_0 ?hax2_0 ?_
    case hyx2_0 =>
      intro w' hx
      go_simp
      with_reducible rfl
    case hax2_0 => (simp only [Act.put, List.setIfInBounds_toArray, List.set_cons_zero, List.set_cons_succ]; rfl)
    refine E_take (hR := Ext.pre) (i := 1) (N := (some 56)) (v := ?vx2_1) (a' := ?ax2_1) #[true, true, false, false, false, false, false, false, false, false, false, false, false, false, false, false, false, false, false, false] rfl rfl (by kernel_rfl) (fun _ _ _ h => h) (by rfl) ?hyx2_1 ?hax2_1 ?_
    case hyx2_1 =>
      intro w' hx
      go_simp
      with_reducible rfl
    case hax2_1 => (simp only [Act.put, List.setIfInBounds_toArray, List.set_cons_zero, List.set_cons_succ]; rfl)
    refine E_take (hR := Ext.pre) (i := 2) (N := (some 57)) (v := ?vx2_2) (a' := ?ax2_2) #[true, true, true, false, false, false, false, false, false, false, false, false, false, false, false, false, false, false, false, false] rfl rfl (by kernel_rfl) (fun _ _ _ h => h) (by rfl) ?hyx2_2 ?hax2_2 ?_
    case hyx2_2 =>
      intro w' hx
      go_simp
      with_reducible rfl
    case hax2_2 => (simp only [Act.put, List.setIfInBounds_toArray, List.set_cons_zero, List.set_cons_succ]; rfl)
    refine E_take (hR := Ext.pre) (i := 3) (N := (some 58)) (v := ?vx2_3) (a' := ?ax2_3) #[true, true, true, true, false, false, false, false, false, false, false, false, false, false, false, false, false, false, false, false] rfl rfl (by kernel_rfl) (fun _ _ _ h => h) (by rfl) ?hyx2_3 ?hax2_3 ?_
    case hyx2_3 =>
      intro w' hx
      go_simp
      with_reducible rfl
    case hax2_3 => (simp only [Act.put, List.setIfInBounds_toArray, List.set_cons_zero, List.set_cons_succ]; rfl)
    refine E_take (hR := Ext.pre) (i := 4) (N := (some 59)) (v := ?vx2_4) (a' := ?ax2_4) #[true, true, true, true, true, false, false, false, false, false, false, false, false, false, false, false, false, false, false, false] rfl rfl (by kernel_rfl) (fun _ _ _ h => h) (by rfl) ?hyx2_4 ?hax2_4 ?_
    case hyx2_4 =>
      intro w' hx
      go_simp
      with_reducible rfl
    case hax2_4 => (simp only [Act.put, List.setIfInBounds_toArray, List.set_cons_zero, List.set_cons_succ]; rfl)
    refine E_take (hR := Ext.pre) (i := 5) (N := (some 60)) (v := ?vx2_5) (a' := ?ax2_5) #[true, true, true, true, true, true, false, false, false, false, false, false, false, false, false, false, false, false, false, false] rfl rfl (by kernel_rfl) (fun _ _ _ h => h) (by rfl) ?hyx2_5 ?hax2_5 ?_
    case hyx2_5 =>
      intro w' hx
      go_simp
      with_reducible rfl
    case hax2_5 => (simp only [Act.put, List.setIfInBounds_toArray, List.set_cons_zero, List.set_cons_succ]; rfl)
    refine E_take (hR := Ext.pre) (i := 6) (N := (some 61)) (v := ?vx2_6) (a' := ?ax2_6) #[true, true, true, true, true, true, true, false, false, false, false, false, false, false, false, false, false, false, false, false] rfl rfl (by kernel_rfl) (fun _ _ _ h => h) (by rfl) ?hyx2_6 ?hax2_6 ?_
    case hyx2_6 =>
      intro w' hx
      go_simp
      with_reducible rfl
    case hax2_6 => (simp only [Act.put, List.setIfInBounds_toArray, List.set_cons_zero, List.set_cons_succ]; rfl)
    refine E_take (hR := Ext.pre) (i := 7) (N := (some 62)) (v := ?vx2_7) (a' := ?ax2_7) #[true, true, true, true, true, true, true, true, false, false, false, false, false, false, false, false, false, false, false, false] rfl rfl (by kernel_rfl) (fun _ _ _ h => h) (by rfl) ?hyx2_7 ?hax2_7 ?_
    case hyx2_7 =>
      intro w' hx
      go_simp
      with_reducible rfl
    case hax2_7 => (simp only [Act.put, List.setIfInBounds_toArray, List.set_cons_zero, List.set_cons_succ]; rfl)
    refine E_take (hR := Ext.pre) (i := 8) (N := (some 63)) (v := ?vx2_8) (a' := ?ax2_8) #[true, true, true, true, true, true, true, true, true, false, false, false, false, false, false, false, false, false, false, false] rfl rfl (by kernel_rfl) (fun _ _ _ h => h) (by rfl) ?hyx2_8 ?hax2_8 ?_
    case hyx2_8 =>
      intro w' hx
      go_simp
      with_reducible rfl
    case hax2_8 => (simp only [Act.put, List.setIfInBounds_toArray, List.set_cons_zero, List.set_cons_succ]; rfl)
    refine E_take (hR := Ext.pre) (i := 9) (N := (some 64)) (v := ?vx2_9) (a' := ?ax2_9) #[true, true, true, true, true, true, true, true, true, true, false, false, false, false, false, false, false, false, false, false] rfl rfl (by kernel_rfl) (fun _ _ _ h => h) (by rfl) ?hyx2_9 ?hax2_9 ?_
    case hyx2_9 =>
      intro w' hx
      go_simp
      with_reducible rfl
    case hax2_9 => (simp only [Act.put, List.setIfInBounds_toArray, List.set_cons_zero, List.set_cons_succ]; rfl)
    refine E_take (hR := Ext.pre) (i := 10) (N := (some 65)) (v := ?vx2_10) (a' := ?ax2_10) #[true, true, true, true, true, true, true, true, true, true, true, false, false, false, false, false, false, false, false, false] rfl rfl (by kernel_rfl) (fun _ _ _ h => h) (by rfl) ?hyx2_10 ?hax2_10 ?_
    case hyx2_10 =>
      intro w' hx
      go_simp
      with_reducible rfl
    case hax2_10 => (simp only [Act.put, List.setIfInBounds_toArray, List.set_cons_zero, List.set_cons_succ]; rfl)
    refine E_take (hR := Ext.pre) (i := 11) (N := (some 66)) (v := ?vx2_11) (a' := ?ax2_11) #[true, true, true, true, true, true, true, true, true, true, true, true, false, false, false, false, false, false, false, false] rfl rfl (by kernel_rfl) (fun _ _ _ h => h) (by rfl) ?hyx2_11 ?hax2_11 ?_
    case hyx2_11 =>
      intro w' hx
      go_simp
      with_reducible rfl
    case hax2_11 => (simp only [Act.put, List.setIfInBounds_toArray, List.set_cons_zero, List.set_cons_succ]; rfl)
    refine E_take (hR := Ext.pre) (i := 12) (N := (some 67)) (v := ?vx2_12) (a' := ?ax2_12) #[true, true, true, true, true, true, true, true, true, true, true, true, true, false, false, false, false, false, false, false] rfl rfl (by kernel_rfl) (fun _ _ _ h => h) (by rfl) ?hyx2_12 ?hax2_12 ?_
    case hyx2_12 =>
      intro w' hx
      (apply Eq.trans; (apply R_strc Tryd.underlying22 Tryd.underlying5 Tryd.underlying9 ((hS.ext hx).rdp HRA6.out : RdB _ _ (expF key info q)) LA.out; rfl; rfl); with_reducible rfl)
    case hax2_12 => (simp only [Act.put, List.setIfInBounds_toArray, List.set_cons_zero, List.set_cons_succ]; rfl)
    refine E_take (hR := Ext.pre) (i := 13) (N := (some 68)) (v := ?vx2_13) (a' := ?ax2_13) #[true, true, true, true, true, true, true, true, true, true, true, true, true, true, false, false, false, false, false, false] rfl rfl (by kernel_rfl) (fun _ _ _ h => h) (by rfl) ?hyx2_13 ?hax2_13 ?_
    case hyx2_13 =>
      intro w' hx
      go_simp
      with_reducible rfl
    case hax2_13 => (simp only [Act.put, List.setIfInBounds_toArray, List.set_cons_zero, List.set_cons_succ]; rfl)
    refine E_take (hR := Ext.pre) (i := 14) (N := (some 69)) (v := ?vx2_14) (a' := ?ax2_14) #[true, true, true, true, true, true, true, true, true, true, true, true, true, true, true, false, false, false, false, false] rfl rfl (by kernel_rfl) (fun _ _ _ h => h) (by rfl) ?hyx2_14 ?hax2_14 ?_
    case hyx2_14 =>
      intro w' hx
      go_simp
      with_reducible rfl
    case hax2_14 => (simp only [Act.put, List.setIfInBounds_toArray, List.set_cons_zero, List.set_cons_succ]; rfl)
    refine E_take (hR := Ext.pre) (i := 15) (N := (some 70)) (v := ?vx2_15) (a' := ?ax2_15) #[true, true, true, true, true, true, true, true, true, true, true, true, true, true, true, true, false, false, false, false] rfl rfl (by kernel_rfl) (fun _ _ _ h => h) (by rfl) ?hyx2_15 ?hax2_15 ?_
    case hyx2_15 =>
      intro w' hx
      (apply Eq.trans; (apply R_slice; rfl; rfl; exact SB.no; exact SB.so; rfl; rfl; omega; omega); rw [cutA_zero, Nat.sub_zero, Nat.sub_zero])
    case hax2_15 => (simp only [Act.put, List.setIfInBounds_toArray, List.set_cons_zero, List.set_cons_succ]; rfl)
    refine E_take (hR := Ext.pre) (i := 16) (N := (some 71)) (v := ?vx2_16) (a' := ?ax2_16) #[true, true, true, true, true, true, true, true, true, true, true, true, true, true, true, true, true, false, false, false] rfl rfl (by kernel_rfl) (fun _ _ _ h => h) (by rfl) ?hyx2_16 ?hax2_16 ?_
    case hyx2_16 =>
      intro w' hx
      (apply Eq.trans; (apply R_strc Tryd.underlying22 Tryd.underlying5 Tryd.underlying9 (show RdB _ Ab (expF key info q) by rw [← LT.out]; exact RdB.take ((hS.ext hx).rdp HRB.out) q) LA.out; rfl; rfl); with_reducible rfl)
    case hax2_16 => (simp only [Act.put, List.setIfInBounds_toArray, List.set_cons_zero, List.set_cons_succ]; rfl)
    refine E_take (hR := Ext.pre) (i := 17) (N := (some 72)) (v := ?vx2_17) (a' := ?ax2_17) #[true, true, true, true, true, true, true, true, true, true, true, true, true, true, true, true, true, true, false, false] rfl rfl (by kernel_rfl) (fun _ _ _ h => h) (by rfl) ?hyx2_17 ?hax2_17 ?_
    case hyx2_17 =>
      intro w' hx
      go_simp
      with_reducible rfl
    case hax2_17 => (simp only [Act.put, List.setIfInBounds_toArray, List.set_cons_zero, List.set_cons_succ]; rfl)
    refine E_take (hR := Ext.pre) (i := 18) (N := (some 73)) (v := ?vx2_18) (a' := ?ax2_18) #[true, true, true, true, true, true, true, true, true, true, true, true, true, true, true, true, true, true, true, false] rfl rfl (by kernel_rfl) (fun _ _ _ h => h) (by rfl) ?hyx2_18 ?hax2_18 ?_
    case hyx2_18 =>
      intro w' hx
      go_simp
      with_reducible rfl
    case hax2_18 => (simp only [Act.put, List.setIfInBounds_toArray, List.set_cons_zero, List.set_cons_succ]; rfl)
    refine E_take (hR := Ext.pre) (i := 19) (N := (some 6)) (v := ?vx2_19) (a' := ?ax2_19) #[true, true, true, true, true, true, true, true, true, true, true, true, true, true, true, true, true, true, true, true] rfl rfl (by kernel_rfl) (fun _ _ _ h => h) (by rfl) ?hyx2_19 ?hax2_19 ?_
    case hyx2_19 =>
      intro w' hx
      go_simp
      with_reducible rfl
    case hax2_19 => (simp only [Act.put, List.setIfInBounds_toArray, List.set_cons_zero, List.set_cons_succ]; rfl)
    refine E_done (by kernel_rfl) ?_
    go_wp2
    go_ret
    exact ⟨rfl, HB0.out.trans ((HB1.out.trans (hS.below.mono HB1.out.size)).mono HB0.out.size)⟩
  · have hpq2 : ¬ (q : Int) < (p : Int) := by omega
    have LA := Lib.hid (expF_len key info (m := p) (by omega))
    have LB := Lib.hid (expF_len key info (m := q) (by omega))
    have LT := Lib.hid (expF_take key info (a := p) (b := q) (by omega))
    go_upto_region 8 with (first | ((with_reducible show Calls _ 8 #[_, _, .int .i64 (p : Nat)] _ _); refine (expand_any A0 n0 c0 key info p _ HN0.out (hS.rdp HR0.out) (by omega) (by omega) (by omega) (HG.out.keep hS.below)).mono ?_; rintro e w5 ⟨Aa, rfl, hro, hb_⟩; have HRA := Lib.hid hro; have HB0 := Lib.hid (hS.ext hb_).below; have HR05 := Lib.hid ((hS.ext hb_).rdp HR0.out); have HG5 := Lib.hid (HG.out.keep (hS.ext hb_).below); clear hro hb_ hS; have hS := St.start w5) | ((with_reducible show Calls _ 8 #[_, _, .int .i64 (q : Nat)] _ _); refine (expand_any A0 n0 c0 key info q _ HN0.out (hS.rdp HR05.out) (by omega) (by omega) (by omega) (HG5.out.keep hS.below)).mono ?_; rintro e w6 ⟨Ab, rfl, hro, hb_⟩; have HRB := Lib.hid hro; have HB1 := Lib.hid (hS.ext hb_).below; have HRA6 := Lib.hid ((hS.ext hb_).rdp HRA.out); clear hro hb_ hS; have hS := St.start w6))
    refine E_start (hR := Ext.pre) #[false, false, false, false, false, false, false, false, false, false, false, false, false, false, false, false, false, false, false, false] (by kernel_rfl) rfl rfl (fun w_x3 hx_x3 he_x3 => ?_)
    clear he_x3
    replace hS := hS.ext hx_x3; clear hx_x3
    refine E_take (hR := Ext.pre) (i := 0) (N := (some 55)) (v := ?vx3_0) (a' := ?ax3_0) #[true, false, false, false, false, false, false, false, false, false, false, false, false, false, false, false, false, false, false, false] rfl rfl (by kernel_rfl) (fun _ _ _ h => h) (by rfl) ?hyx3_0 ?hax3_0 ?_
    case hyx3_0 =>
      intro w' hx
      go_simp
      with_reducible rfl
    case hax3_0 => (simp only [Act.put, List.setIfInBounds_toArray, List.set_cons_zero, List.set_cons_succ]; rfl)
    refine E_take (hR := Ext.pre) (i := 1) (N := (some 56)) (v := ?vx3_1) (a' := ?ax3_1) #[true, true, false, false, false, false, false, false, false, false, false, false, false, false, false, false, false, false, false, false] rfl rfl (by kernel_rfl) (fun _ _ _ h => h) (by rfl) ?hyx3_1 ?hax3_1 ?_
    case hyx3_1 =>
      intro w' hx
      go_simp
      with_reducible rfl
    case hax3_1 => (simp only [Act.put, List.setIfInBounds_toArray, List.set_cons_zero, List.set_cons_succ]; rfl)
    refine E_take (hR := Ext.pre) (i := 2) (N := (some 57)) (v := ?vx3_2) (a' := ?ax3_2) #[true, true, true, false, false, false, false, false, false, false, false, false, false, false, false, false, false, false, false, false] rfl rfl (by kernel_rfl) (fun _ _ _ h => h) (by rfl) ?hyx3_2 ?hax3_2 ?_
    case hyx3_2 =>
      intro w' hx
      go_simp
      with_reducible rfl
    case hax3_2 => (simp only [Act.put, List.setIfInBounds_toArray, List.set_cons_zero, List.set_cons_succ]; rfl)
    refine E_take (hR := Ext.pre) (i := 3) (N := (some 58)) (v := ?vx3_3) (a' := ?ax3_3) #[true, true, true, true, false, false, false, false, false, false, false, false, false, false, false, false, false, false, false, false] rfl rfl (by kernel_rfl) (fun _ _ _ h => h) (by rfl) ?hyx3_3 ?hax3_3 ?_
    case hyx3_3 =>
      intro w' hx
      go_simp
      with_reducible rfl
    case hax3_3 => (simp only [Act.put, List.setIfInBounds_toArray, List.set_cons_zero, List.set_cons_succ]; rfl)
    refine E_take (hR := Ext.pre) (i := 4) (N := (some 59)) (v := ?vx3_4) (a' := ?ax3_4) #[true, true, true, true, true, false, false, false, false, false, false, false, false, false, false, false, false, false, false, false] rfl rfl (by kernel_rfl) (fun _ _ _ h => h) (by rfl) ?hyx3_4 ?hax3_4 ?_
    case hyx3_4 =>
      intro w' hx
      go_simp
      with_reducible rfl
    case hax3_4 => (simp only [Act.put, List.setIfInBounds_toArray, List.set_cons_zero, List.set_cons_succ]; rfl)
    refine E_take (hR := Ext.pre) (i := 5) (N := (some 60)) (v := ?vx3_5) (a' := ?ax3_5) #[true, true, true, true, true, true, false, false, false, false, false, false, false, false, false, false, false, false, false, false] rfl rfl (by kernel_rfl) (fun _ _ _ h => h) (by rfl) ?hyx3_5 ?hax3_5 ?_
    case hyx3_5 =>
      intro w' hx
      go_simp
      with_reducible rfl
    case hax3_5 => (simp only [Act.put, List.setIfInBounds_toArray, List.set_cons_zero, List.set_cons_succ]; rfl)
    refine E_take (hR := Ext.pre) (i := 6) (N := (some 61)) (v := ?vx3_6) (a' := ?ax3_6) #[true, true, true, true, true, true, true, false, false, false, false, false, false, false, false, false, false, false, false, false] rfl rfl (by kernel_rfl) (fun _ _ _ h => h) (by rfl) ?hyx3_6 ?hax3_6 ?_
    case hyx3_6 =>
      intro w' hx
      go_simp
      with_reducible rfl
    case hax3_6 => (simp only [Act.put, List.setIfInBounds_toArray, List.set_cons_zero, List.set_cons_succ]; rfl)
    refine E_take (hR := Ext.pre) (i := 7) (N := (some 62)) (v := ?vx3_7) (a' := ?ax3_7) #[true, true, true, true, true, true, true, true, false, false, false, false, false, false, false, false, false, false, false, false] rfl rfl (by kernel_rfl) (fun _ _ _ h => h) (by rfl) ?hyx3_7 ?hax3_7 ?_
    case hyx3_7 =>
      intro w' hx
      go_simp
      with_reducible rfl
    case hax3_7 => (simp only [Act.put, List.setIfInBounds_toArray, List.set_cons_zero, List.set_cons_succ]; rfl)
    refine E_take (hR := Ext.pre) (i := 8) (N := (some 63)) (v := ?vx3_8) (a' := ?ax3_8) #[true, true, true, true, true, true, true, true, true, false, false, false, false, false, false, false, false, false, false, false] rfl rfl (by kernel_rfl) (fun _ _ _ h => h) (by rfl) ?hyx3_8 ?hax3_8 ?_
    case hyx3_8 =>
      intro w' hx
      go_simp
      with_reducible rfl
    case hax3_8 => (simp only [Act.put, List.setIfInBounds_toArray, List.set_cons_zero, List.set_cons_succ]; rfl)
    refine E_take (hR := Ext.pre) (i := 9) (N := (some 64)) (v := ?vx3_9) (a' := ?ax3_9) #[true, true, true, true, true, true, true, true, true, true, false, false, false, false, false, false, false, false, false, false] rfl rfl (by kernel_rfl) (fun _ _ _ h => h) (by rfl) ?hyx3_9 ?hax3_9 ?_
    case hyx3_9 =>
      intro w' hx
      go_simp
      with_reducible rfl
    case hax3_9 => (simp only [Act.put, List.setIfInBounds_toArray, List.set_cons_zero, List.set_cons_succ]; rfl)
    refine E_take (hR := Ext.pre) (i := 10) (N := (some 65)) (v := ?vx3_10) (a' := ?ax3_10) #[true, true, true, true, true, true, true, true, true, true, true, false, false, false, false, false, false, false, false, false] rfl rfl (by kernel_rfl) (fun _ _ _ h => h) (by rfl) ?hyx3_10 ?hax3_10 ?_
    case hyx3_10 =>
      intro w' hx
      go_simp
      with_reducible rfl
    case hax3_10 => (simp only [Act.put, List.setIfInBounds_toArray, List.set_cons_zero, List.set_cons_succ]; rfl)
    refine E_take (hR := Ext.pre) (i := 11) (N := (some 66)) (v := ?vx3_11) (a' := ?ax3_11) #[true, true, true, true, true, true, true, true, true, true, true, true, false, false, false, false, false, false, false, false] rfl rfl (by kernel_rfl) (fun _ _ _ h => h) (by rfl) ?hyx3_11 ?hax3_11 ?_
    case hyx3_11 =>
      intro w' hx
      go_simp
      with_reducible rfl
    case hax3_11 => (simp only [Act.put, List.setIfInBounds_toArray, List.set_cons_zero, List.set_cons_succ]; rfl)
    refine E_take (hR := Ext.pre) (i := 12) (N := (some 67)) (v := ?vx3_12) (a' := ?ax3_12) #[true, true, true, true, true, true, true, true, true, true, true, true, true, false, false, false, false, false, false, false] rfl rfl (by kernel_rfl) (fun _ _ _ h => h) (by rfl) ?hyx3_12 ?hax3_12 ?_
    case hyx3_12 =>
      intro w' hx
      (apply Eq.trans; (apply R_strc Tryd.underlying22 Tryd.underlying5 Tryd.underlying9 ((hS.ext hx).rdp HRA6.out : RdB _ _ (expF key info p)) LA.out; rfl; rfl); with_reducible rfl)
    case hax3_12 => (simp only [Act.put, List.setIfInBounds_toArray, List.set_cons_zero, List.set_cons_succ]; rfl)
    refine E_take (hR := Ext.pre) (i := 13) (N := (some 68)) (v := ?vx3_13) (a' := ?ax3_13) #[true, true, true, true, true, true, true, true, true, true, true, true, true, true, false, false, false, false, false, false] rfl rfl (by kernel_rfl) (fun _ _ _ h => h) (by rfl) ?hyx3_13 ?hax3_13 ?_
    case hyx3_13 =>
      intro w' hx
      go_simp
      with_reducible rfl
    case hax3_13 => (simp only [Act.put, List.setIfInBounds_toArray, List.set_cons_zero, List.set_cons_succ]; rfl)
    refine E_take (hR := Ext.pre) (i := 14) (N := (some 69)) (v := ?vx3_14) (a' := ?ax3_14) #[true, true, true, true, true, true, true, true, true, true, true, true, true, true, true, false, false, false, false, false] rfl rfl (by kernel_rfl) (fun _ _ _ h => h) (by rfl) ?hyx3_14 ?hax3_14 ?_
    case hyx3_14 =>
      intro w' hx
      go_simp
      with_reducible rfl
    case hax3_14 => (simp only [Act.put, List.setIfInBounds_toArray, List.set_cons_zero, List.set_cons_succ]; rfl)
    refine E_take (hR := Ext.pre) (i := 15) (N := (some 70)) (v := ?vx3_15) (a' := ?ax3_15) #[true, true, true, true, true, true, true, true, true, true, true, true, true, true, true, true, false, false, false, false] rfl rfl (by kernel_rfl) (fun _ _ _ h => h) (by rfl) ?hyx3_15 ?hax3_15 ?_
    case hyx3_15 =>
      intro w' hx
      (apply Eq.trans; (apply R_slice; rfl; rfl; exact SB.no; exact SB.so; rfl; rfl; omega; omega); rw [cutA_zero, Nat.sub_zero, Nat.sub_zero])
    case hax3_15 => (simp only [Act.put, List.setIfInBounds_toArray, List.set_cons_zero, List.set_cons_succ]; rfl)
    refine E_take (hR := Ext.pre) (i := 16) (N := (some 71)) (v := ?vx3_16) (a' := ?ax3_16) #[true, true, true, true, true, true, true, true, true, true, true, true, true, true, true, true, true, false, false, false] rfl rfl (by kernel_rfl) (fun _ _ _ h => h) (by rfl) ?hyx3_16 ?hax3_16 ?_
    case hyx3_16 =>
      intro w' hx
      (apply Eq.trans; (apply R_strc Tryd.underlying22 Tryd.underlying5 Tryd.underlying9 (show RdB _ Ab (expF key info p) by rw [← LT.out]; exact RdB.take ((hS.ext hx).rdp HRB.out) p) LA.out; rfl; rfl); with_reducible rfl)
    case hax3_16 => (simp only [Act.put, List.setIfInBounds_toArray, List.set_cons_zero, List.set_cons_succ]; rfl)
    refine E_take (hR := Ext.pre) (i := 17) (N := (some 72)) (v := ?vx3_17) (a' := ?ax3_17) #[true, true, true, true, true, true, true, true, true, true, true, true, true, true, true, true, true, true, false, false] rfl rfl (by kernel_rfl) (fun _ _ _ h => h) (by rfl) ?hyx3_17 ?hax3_17 ?_
    case hyx3_17 =>
      intro w' hx
      go_simp
      with_reducible rfl
    case hax3_17 => (simp only [Act.put, List.setIfInBounds_toArray, List.set_cons_zero, List.set_cons_succ]; rfl)
    refine E_take (hR := Ext.pre) (i := 18) (N := (some 73)) (v := ?vx3_18) (a' := ?ax3_18) #[true, true, true, true, true, true, true, true, true, true, true, true, true, true, true, true, true, true, true, false] rfl rfl (by kernel_rfl) (fun _ _ _ h => h) (by rfl) ?hyx3_18 ?hax3_18 ?_
    case hyx3_18 =>
      intro w' hx
      go_simp
      with_reducible rfl
    case hax3_18 => (simp only [Act.put, List.setIfInBounds_toArray, List.set_cons_zero, List.set_cons_succ]; rfl)
    refine E_take (hR := Ext.pre) (i := 19) (N := (some 6)) (v := ?vx3_19) (a' := ?ax3_19) #[true, true, true, true, true, true, true, true, true, true, true, true, true, true, true, true, true, true, true, true] rfl rfl (by kernel_rfl) (fun _ _ _ h => h) (by rfl) ?hyx3_19 ?hax3_19 ?_
    case hyx3_19 =>
      intro w' hx
      go_simp
      with_reducible rfl
    case hax3_19 => (simp only [Act.put, List.setIfInBounds_toArray, List.set_cons_zero, List.set_cons_succ]; rfl)
    refine E_done (by kernel_rfl) ?_
    go_wp2
    go_ret
    exact ⟨rfl, HB0.out.trans ((HB1.out.trans (hS.below.mono HB1.out.size)).mono HB0.out.size)⟩
theorem begins_row (A0 : Option Addr) (n0 c0 : Nat) (key : List UInt8) (s : ByteArray) (w : World) (hn0 : key.length = n0) (hr0 : RdB w A0 key) (z : List Int) (hz : z.length = 2) (wz : ∀ y ∈ z, (Lit.int .i64 y).wf = true) (hG : GK w) :
    Calls Tryd.prog 3 #[.slice A0 n0 c0, .string s, .agg (z.map (Value.int .i64)).toArray] w fun e w' => e = .returned (.bool true) ∧ Below w.heap.size w w' := by
  match z, hz with
  | [a, b], _ =>
    have key2 : ∀ y : Int, (Lit.int .i64 y).wf = true → -9223372036854775808 ≤ y ∧ y ≤ 9223372036854775807 := fun y hy => by
      simpa [Lit.wf, IntKind.min, IntKind.max, IntKind.signed, IntKind.bits] using hy
    rw [← str_of s]
    exact begins_walk A0 n0 c0 key _ a b w hn0 hr0 (key2 a (wz a (by simp))) (key2 b (wz b (by simp))) hG
end Go.Proofs.YtfmfpckpldlahaaDoor
