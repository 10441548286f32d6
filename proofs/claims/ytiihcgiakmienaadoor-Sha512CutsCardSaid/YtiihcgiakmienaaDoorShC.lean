/- The walk of Cuts. -/
import Derived.Test.YtiihcgiakmienaaDoorShL
import Derived.Test.YtiihcgiakmienaaDoorArr
namespace Go.Proofs.YtiihcgiakmienaaDoor
open Go.RowKit Go.Proofs.YtiihcgiakmienaaDoor.Pure Go.Proofs.YtiihcgiakmienaaDoor.PB Go.Proofs.YtiihcgiakmienaaDoorW.PrintWords

theorem tmod_bound (x : Int) {k : Int} (hk : 0 < k) : -k < Int.tmod x k ∧ Int.tmod x k < k := by
  refine ⟨?_, Int.tmod_lt_of_pos x hk⟩
  have h := Int.tmod_lt_of_pos (-x) hk
  rw [Int.neg_tmod] at h
  omega
theorem tmod_cut (x : Int) {k : Int} (hk : 0 < k) : ∃ p : Nat, Int.tmod (Int.tmod x k + k) k = (p : Int) ∧ (p : Int) < k := by
  have h1 := tmod_bound x hk
  have h2 := Int.tmod_nonneg (a := Int.tmod x k + k) k (by omega)
  have h3 := Int.tmod_lt_of_pos (Int.tmod x k + k) hk
  exact ⟨(Int.tmod (Int.tmod x k + k) k).toNat, by omega, by omega⟩

set_option maxRecDepth 100000 in
set_option maxHeartbeats 1600000 in
theorem cuts_walk (A0 : Option Addr) (n c : Nat) (x : List UInt8) (z0 z1 : Int) (w : World) (hn : x.length = n) (hr : RdB w A0 x) (hc : n ≤ c) (b0 : -9223372036854775808 ≤ z0 ∧ z0 ≤ 9223372036854775807) (b1 : -9223372036854775808 ≤ z1 ∧ z1 ≤ 9223372036854775807) (hG : GK w) :
    Calls Tryd.prog 4 #[.slice A0 n c, .agg #[.int .i64 z0, .int .i64 z1]] w fun e w' => e = .returned (.bool true) ∧ Below w.heap.size w w' := by
  have hS := St.start w
  have HG := Lib.hid hG
  have HR := Lib.hid hr
  have HN := Lib.hid hn
  clear hG hr hn
  by_cases h600 : 600 < n
  · go_enter Tryd.func4, Tryd.ntmps4
    go_wp2_with (first | (go_at_call 5; refine (awake_any _ (HG.out.keep hS.below)).mono ?_; rintro e w_ ⟨rfl, hb_⟩; replace hS := hS.ext hb_; clear hb_) | ((with_reducible show wpList _ _ _ (⟨some 3, Op.box _ _, _, _, _, _⟩ :: _) _ _); go_loud (apply S_box hS; rfl; rfl; rfl; rfl; clear hS; intro bc w_ hS)))
    go_ret
    exact ⟨rfl, hS.below⟩
  go_enter Tryd.func4, Tryd.ntmps4
  go_upto_region 4 with (first | (go_at_call 5; refine (awake_any _ (HG.out.keep hS.below)).mono ?_; rintro e w_ ⟨rfl, hb_⟩; replace hS := hS.ext hb_; clear hb_) | ((with_reducible show wpList _ _ _ (⟨some 3, Op.box _ _, _, _, _, _⟩ :: _) _ _); go_loud (apply S_box hS; rfl; rfl; rfl; rfl; clear hS; intro bc w_ hS)))
  have hk : (0 : Int) < (n : Int) + 1 := by omega
  have hk0 : ¬ ((n : Int) + 1 = 0) := by omega
  have t0 := tmod_bound z0 hk
  have t1 := tmod_bound z1 hk
  obtain ⟨p, hp, hpk⟩ := tmod_cut z0 hk
  obtain ⟨q, hq, hqk⟩ := tmod_cut z1 hk
  refine E_start (hR := Ext.pre) #[false, false, false, false, false, false, false, false, false, false, false, false, false, false, false, false, false, false] (by kernel_rfl) rfl rfl (fun w_m1 hx_m1 he_m1 => ?_)
  clear he_m1
  replace hS := hS.ext hx_m1; clear hx_m1
  refine E_take (hR := Ext.pre) (i := 0) (N := (some 20)) (v := ?vm1_0) (a' := ?am1_0) #[true, false, false, false, false, false, false, false, false, false, false, false, false, false, false, false, false, false] rfl rfl (by kernel_rfl) (fun _ _ _ h => h) (by rfl) ?hym1_0 ?ham1_0 ?_
  case hym1_0 =>
    intro w' hx
    go_simp
    with_reducible rfl
  case ham1_0 => (simp only [Act.put, List.setIfInBounds_toArray, List.set_cons_zero, List.set_cons_succ]; rfl)
  refine E_take (hR := Ext.pre) (i := 1) (N := (some 21)) (v := ?vm1_1) (a' := ?am1_1) #[true, true, false, false, false, false, false, false, false, false, false, false, false, false, false, false, false, false] rfl rfl (by kernel_rfl) (fun _ _ _ h => h) (by rfl) ?hym1_1 ?ham1_1 ?_
  case hym1_1 =>
    intro w' hx
    (first | (apply Eq.trans; (first | (apply R_ld (hS.ext hx); rfl; rfl; (first | exact .here | exact .there .here | exact .there (.there .here) | exact .there (.there (.there .here)) | exact .there (.there (.there (.there .here))) | exact .there (.there (.there (.there (.there .here)))) | exact .there (.there (.there (.there (.there (.there .here))))) | exact .there (.there (.there (.there (.there (.there (.there .here)))))) | exact .there (.there (.there (.there (.there (.there (.there (.there .here)))))))); rfl; (first | rfl | exact mapGet _ (by first | assumption | omega))) | (apply R_ldAll (hS.ext hx); rfl; rfl; (first | exact .here | exact .there .here | exact .there (.there .here) | exact .there (.there (.there .here)) | exact .there (.there (.there (.there .here))) | exact .there (.there (.there (.there (.there .here)))) | exact .there (.there (.there (.there (.there (.there .here))))) | exact .there (.there (.there (.there (.there (.there (.there .here)))))) | exact .there (.there (.there (.there (.there (.there (.there (.there .here)))))))); rfl; (first | rfl | (simp only [List.length_map, sumF_length]; rfl))) | (apply R_ldOwn (hS.ext hx); rfl; rfl; (first | exact .here | exact .there .here | exact .there (.there .here) | exact .there (.there (.there .here)) | exact .there (.there (.there (.there .here))) | exact .there (.there (.there (.there (.there .here)))) | exact .there (.there (.there (.there (.there (.there .here))))) | exact .there (.there (.there (.there (.there (.there (.there .here)))))) | exact .there (.there (.there (.there (.there (.there (.there (.there .here)))))))); rfl; (first | rfl | exact mapGet _ (by first | assumption | omega)))); with_reducible rfl) | (go_simp; with_reducible rfl))
  case ham1_1 => (simp only [Act.put, List.setIfInBounds_toArray, List.set_cons_zero, List.set_cons_succ]; rfl)
  refine E_take (hR := Ext.pre) (i := 2) (N := (some 22)) (v := ?vm1_2) (a' := ?am1_2) #[true, true, true, false, false, false, false, false, false, false, false, false, false, false, false, false, false, false] rfl rfl (by kernel_rfl) (fun _ _ _ h => h) (by rfl) ?hym1_2 ?ham1_2 ?_
  case hym1_2 =>
    intro w' hx
    go_simp
    with_reducible rfl
  case ham1_2 => (simp only [Act.put, List.setIfInBounds_toArray, List.set_cons_zero, List.set_cons_succ]; rfl)
  refine E_take (hR := Ext.pre) (i := 3) (N := (some 23)) (v := ?vm1_3) (a' := ?am1_3) #[true, true, true, true, false, false, false, false, false, false, false, false, false, false, false, false, false, false] rfl rfl (by kernel_rfl) (fun _ _ _ h => h) (by rfl) ?hym1_3 ?ham1_3 ?_
  case hym1_3 =>
    intro w' hx
    go_simp
    with_reducible rfl
  case ham1_3 => (simp only [Act.put, List.setIfInBounds_toArray, List.set_cons_zero, List.set_cons_succ]; rfl)
  refine E_take (hR := Ext.pre) (i := 4) (N := (some 24)) (v := ?vm1_4) (a' := ?am1_4) #[true, true, true, true, true, false, false, false, false, false, false, false, false, false, false, false, false, false] rfl rfl (by kernel_rfl) (fun _ _ _ h => h) (by rfl) ?hym1_4 ?ham1_4 ?_
  case hym1_4 =>
    intro w' hx
    go_simp
    with_reducible rfl
  case ham1_4 => (simp only [Act.put, List.setIfInBounds_toArray, List.set_cons_zero, List.set_cons_succ]; rfl)
  refine E_take (hR := Ext.pre) (i := 5) (N := (some 25)) (v := ?vm1_5) (a' := ?am1_5) #[true, true, true, true, true, true, false, false, false, false, false, false, false, false, false, false, false, false] rfl rfl (by kernel_rfl) (fun _ _ _ h => h) (by rfl) ?hym1_5 ?ham1_5 ?_
  case hym1_5 =>
    intro w' hx
    go_simp
    with_reducible rfl
  case ham1_5 => (simp only [Act.put, List.setIfInBounds_toArray, List.set_cons_zero, List.set_cons_succ]; rfl)
  refine E_take (hR := Ext.pre) (i := 6) (N := (some 26)) (v := ?vm1_6) (a' := ?am1_6) #[true, true, true, true, true, true, true, false, false, false, false, false, false, false, false, false, false, false] rfl rfl (by kernel_rfl) (fun _ _ _ h => h) (by rfl) ?hym1_6 ?ham1_6 ?_
  case hym1_6 =>
    intro w' hx
    go_simp
    with_reducible rfl
  case ham1_6 => (simp only [Act.put, List.setIfInBounds_toArray, List.set_cons_zero, List.set_cons_succ]; rfl)
  refine E_take (hR := Ext.pre) (i := 7) (N := (some 27)) (v := ?vm1_7) (a' := ?am1_7) #[true, true, true, true, true, true, true, true, false, false, false, false, false, false, false, false, false, false] rfl rfl (by kernel_rfl) (fun _ _ _ h => h) (by rfl) ?hym1_7 ?ham1_7 ?_
  case hym1_7 =>
    intro w' hx
    go_simp
    with_reducible rfl
  case ham1_7 => (simp only [Act.put, List.setIfInBounds_toArray, List.set_cons_zero, List.set_cons_succ]; rfl)
  refine E_take (hR := Ext.pre) (i := 8) (N := (some 28)) (v := ?vm1_8) (a' := ?am1_8) #[true, true, true, true, true, true, true, true, true, false, false, false, false, false, false, false, false, false] rfl rfl (by kernel_rfl) (fun _ _ _ h => h) (by rfl) ?hym1_8 ?ham1_8 ?_
  case hym1_8 =>
    intro w' hx
    go_simp
    with_reducible rfl
  case ham1_8 => (simp only [Act.put, List.setIfInBounds_toArray, List.set_cons_zero, List.set_cons_succ]; rfl)
  refine E_take (hR := Ext.pre) (i := 9) (N := (some 29)) (v := ?vm1_9) (a' := ?am1_9) #[true, true, true, true, true, true, true, true, true, true, false, false, false, false, false, false, false, false] rfl rfl (by kernel_rfl) (fun _ _ _ h => h) (by rfl) ?hym1_9 ?ham1_9 ?_
  case hym1_9 =>
    intro w' hx
    (first | (apply Eq.trans; (first | (apply R_ld (hS.ext hx); rfl; rfl; (first | exact .here | exact .there .here | exact .there (.there .here) | exact .there (.there (.there .here)) | exact .there (.there (.there (.there .here))) | exact .there (.there (.there (.there (.there .here)))) | exact .there (.there (.there (.there (.there (.there .here))))) | exact .there (.there (.there (.there (.there (.there (.there .here)))))) | exact .there (.there (.there (.there (.there (.there (.there (.there .here)))))))); rfl; (first | rfl | exact mapGet _ (by first | assumption | omega))) | (apply R_ldAll (hS.ext hx); rfl; rfl; (first | exact .here | exact .there .here | exact .there (.there .here) | exact .there (.there (.there .here)) | exact .there (.there (.there (.there .here))) | exact .there (.there (.there (.there (.there .here)))) | exact .there (.there (.there (.there (.there (.there .here))))) | exact .there (.there (.there (.there (.there (.there (.there .here)))))) | exact .there (.there (.there (.there (.there (.there (.there (.there .here)))))))); rfl; (first | rfl | (simp only [List.length_map, sumF_length]; rfl))) | (apply R_ldOwn (hS.ext hx); rfl; rfl; (first | exact .here | exact .there .here | exact .there (.there .here) | exact .there (.there (.there .here)) | exact .there (.there (.there (.there .here))) | exact .there (.there (.there (.there (.there .here)))) | exact .there (.there (.there (.there (.there (.there .here))))) | exact .there (.there (.there (.there (.there (.there (.there .here)))))) | exact .there (.there (.there (.there (.there (.there (.there (.there .here)))))))); rfl; (first | rfl | exact mapGet _ (by first | assumption | omega)))); with_reducible rfl) | (go_simp; with_reducible rfl))
  case ham1_9 => (simp only [Act.put, List.setIfInBounds_toArray, List.set_cons_zero, List.set_cons_succ]; rfl)
  refine E_take (hR := Ext.pre) (i := 10) (N := (some 30)) (v := ?vm1_10) (a' := ?am1_10) #[true, true, true, true, true, true, true, true, true, true, true, false, false, false, false, false, false, false] rfl rfl (by kernel_rfl) (fun _ _ _ h => h) (by rfl) ?hym1_10 ?ham1_10 ?_
  case hym1_10 =>
    intro w' hx
    go_simp
    with_reducible rfl
  case ham1_10 => (simp only [Act.put, List.setIfInBounds_toArray, List.set_cons_zero, List.set_cons_succ]; rfl)
  refine E_take (hR := Ext.pre) (i := 11) (N := (some 31)) (v := ?vm1_11) (a' := ?am1_11) #[true, true, true, true, true, true, true, true, true, true, true, true, false, false, false, false, false, false] rfl rfl (by kernel_rfl) (fun _ _ _ h => h) (by rfl) ?hym1_11 ?ham1_11 ?_
  case hym1_11 =>
    intro w' hx
    go_simp
    with_reducible rfl
  case ham1_11 => (simp only [Act.put, List.setIfInBounds_toArray, List.set_cons_zero, List.set_cons_succ]; rfl)
  refine E_take (hR := Ext.pre) (i := 12) (N := (some 32)) (v := ?vm1_12) (a' := ?am1_12) #[true, true, true, true, true, true, true, true, true, true, true, true, true, false, false, false, false, false] rfl rfl (by kernel_rfl) (fun _ _ _ h => h) (by rfl) ?hym1_12 ?ham1_12 ?_
  case hym1_12 =>
    intro w' hx
    go_simp
    with_reducible rfl
  case ham1_12 => (simp only [Act.put, List.setIfInBounds_toArray, List.set_cons_zero, List.set_cons_succ]; rfl)
  refine E_take (hR := Ext.pre) (i := 13) (N := (some 33)) (v := ?vm1_13) (a' := ?am1_13) #[true, true, true, true, true, true, true, true, true, true, true, true, true, true, false, false, false, false] rfl rfl (by kernel_rfl) (fun _ _ _ h => h) (by rfl) ?hym1_13 ?ham1_13 ?_
  case hym1_13 =>
    intro w' hx
    go_simp
    with_reducible rfl
  case ham1_13 => (simp only [Act.put, List.setIfInBounds_toArray, List.set_cons_zero, List.set_cons_succ]; rfl)
  refine E_take (hR := Ext.pre) (i := 14) (N := (some 34)) (v := ?vm1_14) (a' := ?am1_14) #[true, true, true, true, true, true, true, true, true, true, true, true, true, true, true, false, false, false] rfl rfl (by kernel_rfl) (fun _ _ _ h => h) (by rfl) ?hym1_14 ?ham1_14 ?_
  case hym1_14 =>
    intro w' hx
    go_simp
    with_reducible rfl
  case ham1_14 => (simp only [Act.put, List.setIfInBounds_toArray, List.set_cons_zero, List.set_cons_succ]; rfl)
  refine E_take (hR := Ext.pre) (i := 15) (N := (some 35)) (v := ?vm1_15) (a' := ?am1_15) #[true, true, true, true, true, true, true, true, true, true, true, true, true, true, true, true, false, false] rfl rfl (by kernel_rfl) (fun _ _ _ h => h) (by rfl) ?hym1_15 ?ham1_15 ?_
  case hym1_15 =>
    intro w' hx
    go_simp
    with_reducible rfl
  case ham1_15 => (simp only [Act.put, List.setIfInBounds_toArray, List.set_cons_zero, List.set_cons_succ]; rfl)
  refine E_take (hR := Ext.pre) (i := 16) (N := (some 6)) (v := ?vm1_16) (a' := ?am1_16) #[true, true, true, true, true, true, true, true, true, true, true, true, true, true, true, true, true, false] rfl rfl (by kernel_rfl) (fun _ _ _ h => h) (by rfl) ?hym1_16 ?ham1_16 ?_
  case hym1_16 =>
    intro w' hx
    go_simp
    with_reducible rfl
  case ham1_16 => (simp only [Act.put, List.setIfInBounds_toArray, List.set_cons_zero, List.set_cons_succ]; rfl)
  refine E_take (hR := Ext.pre) (i := 17) (N := (some 7)) (v := ?vm1_17) (a' := ?am1_17) #[true, true, true, true, true, true, true, true, true, true, true, true, true, true, true, true, true, true] rfl rfl (by kernel_rfl) (fun _ _ _ h => h) (by rfl) ?hym1_17 ?ham1_17 ?_
  case hym1_17 =>
    intro w' hx
    go_simp
    with_reducible rfl
  case ham1_17 => (simp only [Act.put, List.setIfInBounds_toArray, List.set_cons_zero, List.set_cons_succ]; rfl)
  refine E_done (by kernel_rfl) ?_
  have w0 : IntKind.i64.wrap (z0.tmod ((n : Int) + 1) + ((n : Int) + 1)) = z0.tmod ((n : Int) + 1) + ((n : Int) + 1) := by rw [IntKind.wrap_i64]; omega
  have w1 : IntKind.i64.wrap (z1.tmod ((n : Int) + 1) + ((n : Int) + 1)) = z1.tmod ((n : Int) + 1) + ((n : Int) + 1) := by rw [IntKind.wrap_i64]; omega
  simp only [w0, w1, hp, hq]
  clear w0 w1 hp hq t0 t1 hk hk0
  have hpn : p ≤ n := by omega
  have hqn : q ≤ n := by omega
  clear hpk hqk
  by_cases hpq : (q : Int) < p
  · skip
    go_upto_region 8 with (first | ((with_reducible show wpList _ _ _ (⟨some 41, Op.buildSlice _ _ _, _, _, _, _⟩ :: _) _ _); go_loud (apply S_bslice hS; rfl; (go_simp; first | with_reducible rfl | (refine ⟨?_, ?_⟩ <;> with_reducible rfl)); rfl; rfl; rfl; rfl; clear hS; intro b41 w_ hS)) | ((with_reducible show wpList _ _ _ (⟨some 43, Op.call _, _, _, _, _⟩ :: _) _ _); go_loud (apply S_app TB hS; rfl; rfl; rfl; (first | exact .here | exact .there .here | exact .there (.there .here) | exact .there (.there (.there .here)) | exact .there (.there (.there (.there .here))) | exact .there (.there (.there (.there (.there .here)))) | exact .there (.there (.there (.there (.there (.there .here))))) | exact .there (.there (.there (.there (.there (.there (.there .here)))))) | exact .there (.there (.there (.there (.there (.there (.there (.there .here)))))))); rfl; exact (RdB.src (c := c) Tryd.underlying24 (hS.rdp HR.out) HN.out); (unfold maxLen; omega); omega; clear hS; intro Ai ci w_ hS; (try simp only [Nat.zero_add, List.nil_append] at hS ⊢))))
    have hci := hS.ownCap (by first | exact .here | exact .there .here | exact .there (.there .here) | exact .there (.there (.there .here)) | exact .there (.there (.there (.there .here))) | exact .there (.there (.there (.there (.there .here)))) | exact .there (.there (.there (.there (.there (.there .here))))) | exact .there (.there (.there (.there (.there (.there (.there .here)))))) | exact .there (.there (.there (.there (.there (.there (.there (.there .here))))))))
    have HFL := Lib.hid (cut3 x (p := q) (q := p) (n := n) (by omega) HN.out)
    have HX := Lib.hid (show [x].flatten = x by simp)
    have HSL := Lib.hid (sumF_length x)
    have QE := fun wx => run_eql_arrA (sumF x) wx
    have HF := Lib.hid (show (fillS 0).length = 128 by decide)
    have l1 : ((p : Nat) : Int) ≤ n := by omega
    have l2 : q ≤ p := by omega
    have l3 : q ≤ ci := by omega
    have l4 : p ≤ ci := by omega
    refine E_start (hR := Ext.pre) #[false, false, false, false, false, false, false, false, false, false, false, false, false, false, false, false, false, false, false, false, false, false, false, false, false, false, false, false, false] (by kernel_rfl) rfl rfl (fun w_r2 hx_r2 he_r2 => ?_)
    clear he_r2
    replace hS := hS.ext hx_r2; clear hx_r2
    refine E_take (hR := Ext.pre) (i := 0) (N := (some 44)) (v := ?vr2_0) (a' := ?ar2_0) #[true, false, false, false, false, false, false, false, false, false, false, false, false, false, false, false, false, false, false, false, false, false, false, false, false, false, false, false, false] rfl rfl (by kernel_rfl) (fun _ _ _ h => h) (by rfl) ?hyr2_0 ?har2_0 ?_
    case hyr2_0 =>
      intro w' hx
      go_simp
      with_reducible rfl
    case har2_0 => (simp only [Act.put, List.setIfInBounds_toArray, List.set_cons_zero, List.set_cons_succ]; rfl)
    refine E_take (hR := Ext.pre) (i := 1) (N := (some 45)) (v := ?vr2_1) (a' := ?ar2_1) #[true, true, false, false, false, false, false, false, false, false, false, false, false, false, false, false, false, false, false, false, false, false, false, false, false, false, false, false, false] rfl rfl (by kernel_rfl) (fun _ _ _ h => h) (by rfl) ?hyr2_1 ?har2_1 ?_
    case hyr2_1 =>
      intro w' hx
      go_simp
      with_reducible rfl
    case har2_1 => (simp only [Act.put, List.setIfInBounds_toArray, List.set_cons_zero, List.set_cons_succ]; rfl)
    refine E_take (hR := Ext.pre) (i := 2) (N := (some 46)) (v := ?vr2_2) (a' := ?ar2_2) #[true, true, true, false, false, false, false, false, false, false, false, false, false, false, false, false, false, false, false, false, false, false, false, false, false, false, false, false, false] rfl rfl (by kernel_rfl) (fun _ _ _ h => h) (by rfl) ?hyr2_2 ?har2_2 ?_
    case hyr2_2 =>
      intro w' hx
      (first | (apply Eq.trans; (apply R_slice; rfl; rfl; (first | exact SB.no | exact SB.so); (first | exact SB.no | exact SB.so); rfl; rfl; (first | assumption | omega); (first | assumption | omega)); with_reducible rfl) | (go_simp; with_reducible rfl))
    case har2_2 => (simp only [Act.put, List.setIfInBounds_toArray, List.set_cons_zero, List.set_cons_succ]; rfl)
    refine E_take (hR := Ext.pre) (i := 3) (N := (some 47)) (v := ?vr2_3) (a' := ?ar2_3) #[true, true, true, true, false, false, false, false, false, false, false, false, false, false, false, false, false, false, false, false, false, false, false, false, false, false, false, false, false] rfl rfl (by kernel_rfl) (fun _ _ _ h => h) (by rfl) ?hyr2_3 ?har2_3 ?_
    case hyr2_3 =>
      intro w' hx
      go_simp
      with_reducible rfl
    case har2_3 => (simp only [Act.put, List.setIfInBounds_toArray, List.set_cons_zero, List.set_cons_succ]; rfl)
    refine E_take (hR := Ext.pre) (i := 4) (N := (some 48)) (v := ?vr2_4) (a' := ?ar2_4) #[true, true, true, true, true, false, false, false, false, false, false, false, false, false, false, false, false, false, false, false, false, false, false, false, false, false, false, false, false] rfl rfl (by kernel_rfl) (fun _ _ _ h => h) (by rfl) ?hyr2_4 ?har2_4 ?_
    case hyr2_4 =>
      intro w' hx
      go_simp
      with_reducible rfl
    case har2_4 => (simp only [Act.put, List.setIfInBounds_toArray, List.set_cons_zero, List.set_cons_succ]; rfl)
    refine E_take (hR := Ext.pre) (i := 5) (N := (some 49)) (v := ?vr2_5) (a' := ?ar2_5) #[true, true, true, true, true, true, false, false, false, false, false, false, false, false, false, false, false, false, false, false, false, false, false, false, false, false, false, false, false] rfl rfl (by kernel_rfl) (fun _ _ _ h => h) (by rfl) ?hyr2_5 ?har2_5 ?_
    case hyr2_5 =>
      intro w' hx
      go_simp
      with_reducible rfl
    case har2_5 => (simp only [Act.put, List.setIfInBounds_toArray, List.set_cons_zero, List.set_cons_succ]; rfl)
    refine E_take (hR := Ext.pre) (i := 6) (N := (some 50)) (v := ?vr2_6) (a' := ?ar2_6) #[true, true, true, true, true, true, true, false, false, false, false, false, false, false, false, false, false, false, false, false, false, false, false, false, false, false, false, false, false] rfl rfl (by kernel_rfl) (fun _ _ _ h => h) (by rfl) ?hyr2_6 ?har2_6 ?_
    case hyr2_6 =>
      intro w' hx
      (first | (apply Eq.trans; (apply R_slice; rfl; rfl; (first | exact SB.no | exact SB.so); (first | exact SB.no | exact SB.so); rfl; rfl; (first | assumption | omega); (first | assumption | omega)); with_reducible rfl) | (go_simp; with_reducible rfl))
    case har2_6 => (simp only [Act.put, List.setIfInBounds_toArray, List.set_cons_zero, List.set_cons_succ]; rfl)
    refine E_take (hR := Ext.pre) (i := 7) (N := (some 51)) (v := ?vr2_7) (a' := ?ar2_7) #[true, true, true, true, true, true, true, true, false, false, false, false, false, false, false, false, false, false, false, false, false, false, false, false, false, false, false, false, false] rfl rfl (by kernel_rfl) (fun _ _ _ h => h) (by rfl) ?hyr2_7 ?har2_7 ?_
    case hyr2_7 =>
      intro w' hx
      go_simp
      with_reducible rfl
    case har2_7 => (simp only [Act.put, List.setIfInBounds_toArray, List.set_cons_zero, List.set_cons_succ]; rfl)
    refine E_take (hR := Ext.pre) (i := 8) (N := (some 52)) (v := ?vr2_8) (a' := ?ar2_8) #[true, true, true, true, true, true, true, true, true, false, false, false, false, false, false, false, false, false, false, false, false, false, false, false, false, false, false, false, false] rfl rfl (by kernel_rfl) (fun _ _ _ h => h) (by rfl) ?hyr2_8 ?har2_8 ?_
    case hyr2_8 =>
      intro w' hx
      go_simp
      with_reducible rfl
    case har2_8 => (simp only [Act.put, List.setIfInBounds_toArray, List.set_cons_zero, List.set_cons_succ]; rfl)
    refine E_take (hR := Ext.pre) (i := 9) (N := (some 53)) (v := ?vr2_9) (a' := ?ar2_9) #[true, true, true, true, true, true, true, true, true, true, false, false, false, false, false, false, false, false, false, false, false, false, false, false, false, false, false, false, false] rfl rfl (by kernel_rfl) (fun _ _ _ h => h) (by rfl) ?hyr2_9 ?har2_9 ?_
    case hyr2_9 =>
      intro w' hx
      (first | (apply Eq.trans; (apply R_slice; rfl; rfl; (first | exact SB.no | exact SB.so); (first | exact SB.no | exact SB.so); rfl; rfl; (first | assumption | omega); (first | assumption | omega)); with_reducible rfl) | (go_simp; with_reducible rfl))
    case har2_9 => (simp only [Act.put, List.setIfInBounds_toArray, List.set_cons_zero, List.set_cons_succ]; rfl)
    refine E_take (hR := Ext.pre) (i := 12) (N := (some 56)) (v := ?vr2_12) (a' := ?ar2_12) #[true, true, true, true, true, true, true, true, true, true, false, false, true, false, false, false, false, false, false, false, false, false, false, false, false, false, false, false, false] rfl rfl (by kernel_rfl) (fun _ _ _ h => h) (by rfl) ?hyr2_12 ?har2_12 ?_
    case hyr2_12 =>
      intro w' hx
      go_simp
      with_reducible rfl
    case har2_12 => (simp only [Act.put, List.setIfInBounds_toArray, List.set_cons_zero, List.set_cons_succ]; rfl)
    refine E_split [10, 13] (by kernel_rfl) (by simp) (fun i_ hi_ => ?_)
    simp only [List.mem_cons, List.not_mem_nil, or_false] at hi_
    rcases hi_ with rfl | rfl
    · apply E_new1 (i := 10) (N := (some 54)) hS (hR := Ext.alloc _) #[true, true, true, true, true, true, true, true, true, true, true, false, true, false, false, false, false, false, false, false, false, false, false, false, false, false, false, false, false]
      rfl
      rfl
      kernel_rfl
      rfl
      (go_simp; first | with_reducible rfl | (refine ⟨?_, ?_⟩ <;> with_reducible rfl))
      rfl
      rfl
      rfl
      clear hS
      intro b_10 w_ hS
      rintro _ rfl
      simp only [Act.put, List.setIfInBounds_toArray, List.set_cons_zero, List.set_cons_succ]
      refine E_split [11, 13] (by kernel_rfl) (by simp) (fun i_ hi_ => ?_)
      simp only [List.mem_cons, List.not_mem_nil, or_false] at hi_
      rcases hi_ with rfl | rfl
      · refine E_call1 (i := 11) (N := (some 55)) (args := ?gr2aa_11) #[true, true, true, true, true, true, true, true, true, true, true, true, true, false, false, false, false, false, false, false, false, false, false, false, false, false, false, false, false] rfl rfl (by kernel_rfl) (by rfl) Tryd.func7 (by kernel_rfl) rfl rfl ?hgr2aa_11 ?_
        case hgr2aa_11 => (simp only [List.map_toArray, List.map_cons, List.map_nil]; go_simp; with_reducible rfl)
        refine (sum_any _ 3 3 _ [(x.take q).drop 0, (x.take p).drop q, (x.take n).drop p] _ rfl (RdBB.of (hS.ownRd (by first | exact .here | exact .there .here | exact .there (.there .here) | exact .there (.there (.there .here)) | exact .there (.there (.there (.there .here))) | exact .there (.there (.there (.there (.there .here)))) | exact .there (.there (.there (.there (.there (.there .here))))) | exact .there (.there (.there (.there (.there (.there (.there .here)))))) | exact .there (.there (.there (.there (.there (.there (.there (.there .here))))))))) (Slcs.cons (Slcs.cons (Slcs.cons (Slcs.nil _) (RdB.sub (hS.ownRd (by first | exact .here | exact .there .here | exact .there (.there .here) | exact .there (.there (.there .here)) | exact .there (.there (.there (.there .here))) | exact .there (.there (.there (.there (.there .here)))) | exact .there (.there (.there (.there (.there (.there .here))))) | exact .there (.there (.there (.there (.there (.there (.there .here)))))) | exact .there (.there (.there (.there (.there (.there (.there (.there .here))))))))) (by rw [HN.out]; exact hci)) (by have := HN.out; simp; omega)) (RdB.sub (hS.ownRd (by first | exact .here | exact .there .here | exact .there (.there .here) | exact .there (.there (.there .here)) | exact .there (.there (.there (.there .here))) | exact .there (.there (.there (.there (.there .here)))) | exact .there (.there (.there (.there (.there (.there .here))))) | exact .there (.there (.there (.there (.there (.there (.there .here)))))) | exact .there (.there (.there (.there (.there (.there (.there (.there .here))))))))) (by rw [HN.out]; exact hci)) (by have := HN.out; simp; omega)) (RdB.sub (hS.ownRd (by first | exact .here | exact .there .here | exact .there (.there .here) | exact .there (.there (.there .here)) | exact .there (.there (.there (.there .here))) | exact .there (.there (.there (.there (.there .here)))) | exact .there (.there (.there (.there (.there (.there .here))))) | exact .there (.there (.there (.there (.there (.there (.there .here)))))) | exact .there (.there (.there (.there (.there (.there (.there (.there .here))))))))) (by rw [HN.out]; exact hci)) (by have := HN.out; simp; omega))) (HG.out.keep hS.below) (by have := HN.out; rw [HFL.out]; omega) (by decide)).mono ?_
        rintro e w_ ⟨rfl, hb_⟩
        rw [HFL.out]
        refine ⟨_, rfl, hb_, ?_⟩
        replace hS := hS.ext hb_
        clear hb_
        rintro _ rfl
        simp only [Act.put, List.setIfInBounds_toArray, List.set_cons_zero, List.set_cons_succ]
        apply E_new (i := 13) (N := (some 57)) hS (hR := Ext.alloc _) #[true, true, true, true, true, true, true, true, true, true, true, true, true, true, false, false, false, false, false, false, false, false, false, false, false, false, false, false, false]
        rfl
        rfl
        kernel_rfl
        rfl
        (go_simp; first | with_reducible rfl | (refine ⟨?_, ?_⟩ <;> with_reducible rfl))
        rfl
        rfl
        rfl
        clear hS
        intro b_13 w_ hS
        rintro _ rfl
        simp only [Act.put, List.setIfInBounds_toArray, List.set_cons_zero, List.set_cons_succ]
        refine E_call (i := 14) (N := (some 58)) (args := ?gr2aa_14) #[true, true, true, true, true, true, true, true, true, true, true, true, true, true, true, false, false, false, false, false, false, false, false, false, false, false, false, false, false] rfl rfl (by kernel_rfl) (by rfl) Tryd.func7 (by kernel_rfl) rfl rfl ?hgr2aa_14 ?_
        case hgr2aa_14 => (simp only [List.map_toArray, List.map_cons, List.map_nil]; go_simp; with_reducible rfl)
        refine (sum_any _ 1 1 _ [x] _ rfl (RdBB.of (hS.ownRd (by first | exact .here | exact .there .here | exact .there (.there .here) | exact .there (.there (.there .here)) | exact .there (.there (.there (.there .here))) | exact .there (.there (.there (.there (.there .here)))) | exact .there (.there (.there (.there (.there (.there .here))))) | exact .there (.there (.there (.there (.there (.there (.there .here)))))) | exact .there (.there (.there (.there (.there (.there (.there (.there .here))))))))) (Slcs.cons (Slcs.nil _) (hS.rdp HR.out) HN.out)) (HG.out.keep hS.below) (by have := HN.out; rw [HX.out]; omega) (by decide)).mono ?_
        rintro e w_ ⟨rfl, hb_⟩
        rw [HX.out]
        refine ⟨_, rfl, hb_, ?_⟩
        replace hS := hS.ext hb_
        clear hb_
        rintro _ rfl
        simp only [Act.put, List.setIfInBounds_toArray, List.set_cons_zero, List.set_cons_succ]
        refine E_take (hR := Ext.pre) (i := 15) (N := (some 59)) (v := ?vr2aa_15) (a' := ?ar2aa_15) #[true, true, true, true, true, true, true, true, true, true, true, true, true, true, true, true, false, false, false, false, false, false, false, false, false, false, false, false, false] rfl rfl (by kernel_rfl) (fun _ _ _ h => h) (by rfl) ?hyr2aa_15 ?har2aa_15 ?_
        case hyr2aa_15 =>
          intro w' hx
          go_simp
          with_reducible rfl
        case har2aa_15 => (simp only [Act.put, List.setIfInBounds_toArray, List.set_cons_zero, List.set_cons_succ]; rfl)
        refine E_take (hR := Ext.pre) (i := 16) (N := (some 60)) (v := ?vr2aa_16) (a' := ?ar2aa_16) #[true, true, true, true, true, true, true, true, true, true, true, true, true, true, true, true, true, false, false, false, false, false, false, false, false, false, false, false, false] rfl rfl (by kernel_rfl) (fun _ _ _ h => h) (by rfl) ?hyr2aa_16 ?har2aa_16 ?_
        case hyr2aa_16 =>
          intro w' hx
          go_simp
          with_reducible rfl
        case har2aa_16 => (simp only [Act.put, List.setIfInBounds_toArray, List.set_cons_zero, List.set_cons_succ]; rfl)
        refine E_take (hR := Ext.pre) (i := 17) (N := (some 61)) (v := ?vr2aa_17) (a' := ?ar2aa_17) #[true, true, true, true, true, true, true, true, true, true, true, true, true, true, true, true, true, true, false, false, false, false, false, false, false, false, false, false, false] rfl rfl (by kernel_rfl) (fun _ _ _ h => h) (by rfl) ?hyr2aa_17 ?har2aa_17 ?_
        case hyr2aa_17 =>
          intro w' hx
          go_simp
          with_reducible rfl
        case har2aa_17 => (simp only [Act.put, List.setIfInBounds_toArray, List.set_cons_zero, List.set_cons_succ]; rfl)
        refine E_take (hR := Ext.pre) (i := 18) (N := (some 62)) (v := ?vr2aa_18) (a' := ?ar2aa_18) #[true, true, true, true, true, true, true, true, true, true, true, true, true, true, true, true, true, true, true, false, false, false, false, false, false, false, false, false, false] rfl rfl (by kernel_rfl) (fun _ _ _ h => h) (by rfl) ?hyr2aa_18 ?har2aa_18 ?_
        case hyr2aa_18 =>
          intro w' hx
          have hst := run_str w' (P := Tryd.prog) (A := Ai) (n := n) (c := ci) Tryd.underlying24 Tryd.underlying5 (xs := x) ((hS.ext hx).ownRd (by first | exact .here | exact .there .here | exact .there (.there .here) | exact .there (.there (.there .here)) | exact .there (.there (.there (.there .here))) | exact .there (.there (.there (.there (.there .here)))) | exact .there (.there (.there (.there (.there (.there .here))))) | exact .there (.there (.there (.there (.there (.there (.there .here)))))) | exact .there (.there (.there (.there (.there (.there (.there (.there .here))))))))) HN.out Tryd.underlying9
          go_simp
          with_reducible rfl
        case har2aa_18 => (simp only [Act.put, List.setIfInBounds_toArray, List.set_cons_zero, List.set_cons_succ]; rfl)
        refine E_take (hR := Ext.pre) (i := 19) (N := (some 63)) (v := ?vr2aa_19) (a' := ?ar2aa_19) #[true, true, true, true, true, true, true, true, true, true, true, true, true, true, true, true, true, true, true, true, false, false, false, false, false, false, false, false, false] rfl rfl (by kernel_rfl) (fun _ _ _ h => h) (by rfl) ?hyr2aa_19 ?har2aa_19 ?_
        case hyr2aa_19 =>
          intro w' hx
          go_simp
          with_reducible rfl
        case har2aa_19 => (simp only [Act.put, List.setIfInBounds_toArray, List.set_cons_zero, List.set_cons_succ]; rfl)
        refine E_take (hR := Ext.pre) (i := 20) (N := (some 64)) (v := ?vr2aa_20) (a' := ?ar2aa_20) #[true, true, true, true, true, true, true, true, true, true, true, true, true, true, true, true, true, true, true, true, true, false, false, false, false, false, false, false, false] rfl rfl (by kernel_rfl) (fun _ _ _ h => h) (by rfl) ?hyr2aa_20 ?har2aa_20 ?_
        case hyr2aa_20 =>
          intro w' hx
          have hst := run_str w' (P := Tryd.prog) (A := A0) (n := n) (c := c) Tryd.underlying24 Tryd.underlying5 (xs := x) ((hS.ext hx).rdp HR.out) HN.out Tryd.underlying9
          go_simp
          with_reducible rfl
        case har2aa_20 => (simp only [Act.put, List.setIfInBounds_toArray, List.set_cons_zero, List.set_cons_succ]; rfl)
        refine E_take (hR := Ext.pre) (i := 21) (N := (some 65)) (v := ?vr2aa_21) (a' := ?ar2aa_21) #[true, true, true, true, true, true, true, true, true, true, true, true, true, true, true, true, true, true, true, true, true, true, false, false, false, false, false, false, false] rfl rfl (by kernel_rfl) (fun _ _ _ h => h) (by rfl) ?hyr2aa_21 ?har2aa_21 ?_
        case hyr2aa_21 =>
          intro w' hx
          go_simp
          with_reducible rfl
        case har2aa_21 => (simp only [Act.put, List.setIfInBounds_toArray, List.set_cons_zero, List.set_cons_succ]; rfl)
        refine E_take (hR := Ext.pre) (i := 22) (N := (some 66)) (v := ?vr2aa_22) (a' := ?ar2aa_22) #[true, true, true, true, true, true, true, true, true, true, true, true, true, true, true, true, true, true, true, true, true, true, true, false, false, false, false, false, false] rfl rfl (by kernel_rfl) (fun _ _ _ h => h) (by rfl) ?hyr2aa_22 ?har2aa_22 ?_
        case hyr2aa_22 =>
          intro w' hx
          go_simp
          with_reducible rfl
        case har2aa_22 => (simp only [Act.put, List.setIfInBounds_toArray, List.set_cons_zero, List.set_cons_succ]; rfl)
        refine E_take (hR := Ext.pre) (i := 23) (N := (some 67)) (v := ?vr2aa_23) (a' := ?ar2aa_23) #[true, true, true, true, true, true, true, true, true, true, true, true, true, true, true, true, true, true, true, true, true, true, true, true, false, false, false, false, false] rfl rfl (by kernel_rfl) (fun _ _ _ h => h) (by rfl) ?hyr2aa_23 ?har2aa_23 ?_
        case hyr2aa_23 =>
          intro w' hx
          go_simp
          with_reducible rfl
        case har2aa_23 => (simp only [Act.put, List.setIfInBounds_toArray, List.set_cons_zero, List.set_cons_succ]; rfl)
        refine E_call (i := 24) (N := (some 68)) (args := ?gr2aa_24) #[true, true, true, true, true, true, true, true, true, true, true, true, true, true, true, true, true, true, true, true, true, true, true, true, true, false, false, false, false] rfl rfl (by kernel_rfl) (by rfl) Tryd.func9 (by kernel_rfl) rfl rfl ?hgr2aa_24 ?_
        case hgr2aa_24 => (simp only [List.map_toArray, List.map_cons, List.map_nil]; go_simp; with_reducible rfl)
        refine (fill_any 0 (by decide) _).mono ?_
        rintro e w_ ⟨v_, rfl, hown_, hb_⟩
        rw [HF.out] at hown_
        obtain ⟨Af, cf, rfl, -⟩ := own_rd hown_
        refine ⟨_, rfl, hb_, ?_⟩
        replace hS := hS.got hb_ hown_
        clear hb_ hown_
        rintro _ rfl
        simp only [Act.put, List.setIfInBounds_toArray, List.set_cons_zero, List.set_cons_succ]
        refine E_take (hR := Ext.pre) (i := 25) (N := (some 69)) (v := ?vr2aa_25) (a' := ?ar2aa_25) #[true, true, true, true, true, true, true, true, true, true, true, true, true, true, true, true, true, true, true, true, true, true, true, true, true, true, false, false, false] rfl rfl (by kernel_rfl) (fun _ _ _ h => h) (by rfl) ?hyr2aa_25 ?har2aa_25 ?_
        case hyr2aa_25 =>
          intro w' hx
          go_simp
          with_reducible rfl
        case har2aa_25 => (simp only [Act.put, List.setIfInBounds_toArray, List.set_cons_zero, List.set_cons_succ]; rfl)
        refine E_take (hR := Ext.pre) (i := 26) (N := (some 70)) (v := ?vr2aa_26) (a' := ?ar2aa_26) #[true, true, true, true, true, true, true, true, true, true, true, true, true, true, true, true, true, true, true, true, true, true, true, true, true, true, true, false, false] rfl rfl (by kernel_rfl) (fun _ _ _ h => h) (by rfl) ?hyr2aa_26 ?har2aa_26 ?_
        case hyr2aa_26 =>
          intro w' hx
          go_simp
          with_reducible rfl
        case har2aa_26 => (simp only [Act.put, List.setIfInBounds_toArray, List.set_cons_zero, List.set_cons_succ]; rfl)
        refine E_take (hR := Ext.pre) (i := 27) (N := (some 71)) (v := ?vr2aa_27) (a' := ?ar2aa_27) #[true, true, true, true, true, true, true, true, true, true, true, true, true, true, true, true, true, true, true, true, true, true, true, true, true, true, true, true, false] rfl rfl (by kernel_rfl) (fun _ _ _ h => h) (by rfl) ?hyr2aa_27 ?har2aa_27 ?_
        case hyr2aa_27 =>
          intro w' hx
          go_simp
          with_reducible rfl
        case har2aa_27 => (simp only [Act.put, List.setIfInBounds_toArray, List.set_cons_zero, List.set_cons_succ]; rfl)
        refine E_take (hR := Ext.pre) (i := 28) (N := (some 4)) (v := ?vr2aa_28) (a' := ?ar2aa_28) #[true, true, true, true, true, true, true, true, true, true, true, true, true, true, true, true, true, true, true, true, true, true, true, true, true, true, true, true, true] rfl rfl (by kernel_rfl) (fun _ _ _ h => h) (by rfl) ?hyr2aa_28 ?har2aa_28 ?_
        case hyr2aa_28 =>
          intro w' hx
          go_simp
          with_reducible rfl
        case har2aa_28 => (simp only [Act.put, List.setIfInBounds_toArray, List.set_cons_zero, List.set_cons_succ]; rfl)
        refine E_done (by kernel_rfl) ?_
        go_wp2
        go_ret
        exact ⟨rfl, hS.below⟩
      · apply E_new1 (i := 13) (N := (some 57)) hS (hR := Ext.alloc _) #[true, true, true, true, true, true, true, true, true, true, true, false, true, true, false, false, false, false, false, false, false, false, false, false, false, false, false, false, false]
        rfl
        rfl
        kernel_rfl
        rfl
        (go_simp; first | with_reducible rfl | (refine ⟨?_, ?_⟩ <;> with_reducible rfl))
        rfl
        rfl
        rfl
        clear hS
        intro b_13 w_ hS
        rintro _ rfl
        simp only [Act.put, List.setIfInBounds_toArray, List.set_cons_zero, List.set_cons_succ]
        refine E_call (i := 11) (N := (some 55)) (args := ?gr2ab_11) #[true, true, true, true, true, true, true, true, true, true, true, true, true, true, false, false, false, false, false, false, false, false, false, false, false, false, false, false, false] rfl rfl (by kernel_rfl) (by rfl) Tryd.func7 (by kernel_rfl) rfl rfl ?hgr2ab_11 ?_
        case hgr2ab_11 => (simp only [List.map_toArray, List.map_cons, List.map_nil]; go_simp; with_reducible rfl)
        refine (sum_any _ 3 3 _ [(x.take q).drop 0, (x.take p).drop q, (x.take n).drop p] _ rfl (RdBB.of (hS.ownRd (by first | exact .here | exact .there .here | exact .there (.there .here) | exact .there (.there (.there .here)) | exact .there (.there (.there (.there .here))) | exact .there (.there (.there (.there (.there .here)))) | exact .there (.there (.there (.there (.there (.there .here))))) | exact .there (.there (.there (.there (.there (.there (.there .here)))))) | exact .there (.there (.there (.there (.there (.there (.there (.there .here))))))))) (Slcs.cons (Slcs.cons (Slcs.cons (Slcs.nil _) (RdB.sub (hS.ownRd (by first | exact .here | exact .there .here | exact .there (.there .here) | exact .there (.there (.there .here)) | exact .there (.there (.there (.there .here))) | exact .there (.there (.there (.there (.there .here)))) | exact .there (.there (.there (.there (.there (.there .here))))) | exact .there (.there (.there (.there (.there (.there (.there .here)))))) | exact .there (.there (.there (.there (.there (.there (.there (.there .here))))))))) (by rw [HN.out]; exact hci)) (by have := HN.out; simp; omega)) (RdB.sub (hS.ownRd (by first | exact .here | exact .there .here | exact .there (.there .here) | exact .there (.there (.there .here)) | exact .there (.there (.there (.there .here))) | exact .there (.there (.there (.there (.there .here)))) | exact .there (.there (.there (.there (.there (.there .here))))) | exact .there (.there (.there (.there (.there (.there (.there .here)))))) | exact .there (.there (.there (.there (.there (.there (.there (.there .here))))))))) (by rw [HN.out]; exact hci)) (by have := HN.out; simp; omega)) (RdB.sub (hS.ownRd (by first | exact .here | exact .there .here | exact .there (.there .here) | exact .there (.there (.there .here)) | exact .there (.there (.there (.there .here))) | exact .there (.there (.there (.there (.there .here)))) | exact .there (.there (.there (.there (.there (.there .here))))) | exact .there (.there (.there (.there (.there (.there (.there .here)))))) | exact .there (.there (.there (.there (.there (.there (.there (.there .here))))))))) (by rw [HN.out]; exact hci)) (by have := HN.out; simp; omega))) (HG.out.keep hS.below) (by have := HN.out; rw [HFL.out]; omega) (by decide)).mono ?_
        rintro e w_ ⟨rfl, hb_⟩
        rw [HFL.out]
        refine ⟨_, rfl, hb_, ?_⟩
        replace hS := hS.ext hb_
        clear hb_
        rintro _ rfl
        simp only [Act.put, List.setIfInBounds_toArray, List.set_cons_zero, List.set_cons_succ]
        refine E_call (i := 14) (N := (some 58)) (args := ?gr2ab_14) #[true, true, true, true, true, true, true, true, true, true, true, true, true, true, true, false, false, false, false, false, false, false, false, false, false, false, false, false, false] rfl rfl (by kernel_rfl) (by rfl) Tryd.func7 (by kernel_rfl) rfl rfl ?hgr2ab_14 ?_
        case hgr2ab_14 => (simp only [List.map_toArray, List.map_cons, List.map_nil]; go_simp; with_reducible rfl)
        refine (sum_any _ 1 1 _ [x] _ rfl (RdBB.of (hS.ownRd (by first | exact .here | exact .there .here | exact .there (.there .here) | exact .there (.there (.there .here)) | exact .there (.there (.there (.there .here))) | exact .there (.there (.there (.there (.there .here)))) | exact .there (.there (.there (.there (.there (.there .here))))) | exact .there (.there (.there (.there (.there (.there (.there .here)))))) | exact .there (.there (.there (.there (.there (.there (.there (.there .here))))))))) (Slcs.cons (Slcs.nil _) (hS.rdp HR.out) HN.out)) (HG.out.keep hS.below) (by have := HN.out; rw [HX.out]; omega) (by decide)).mono ?_
        rintro e w_ ⟨rfl, hb_⟩
        rw [HX.out]
        refine ⟨_, rfl, hb_, ?_⟩
        replace hS := hS.ext hb_
        clear hb_
        rintro _ rfl
        simp only [Act.put, List.setIfInBounds_toArray, List.set_cons_zero, List.set_cons_succ]
        refine E_take (hR := Ext.pre) (i := 15) (N := (some 59)) (v := ?vr2ab_15) (a' := ?ar2ab_15) #[true, true, true, true, true, true, true, true, true, true, true, true, true, true, true, true, false, false, false, false, false, false, false, false, false, false, false, false, false] rfl rfl (by kernel_rfl) (fun _ _ _ h => h) (by rfl) ?hyr2ab_15 ?har2ab_15 ?_
        case hyr2ab_15 =>
          intro w' hx
          go_simp
          with_reducible rfl
        case har2ab_15 => (simp only [Act.put, List.setIfInBounds_toArray, List.set_cons_zero, List.set_cons_succ]; rfl)
        refine E_take (hR := Ext.pre) (i := 16) (N := (some 60)) (v := ?vr2ab_16) (a' := ?ar2ab_16) #[true, true, true, true, true, true, true, true, true, true, true, true, true, true, true, true, true, false, false, false, false, false, false, false, false, false, false, false, false] rfl rfl (by kernel_rfl) (fun _ _ _ h => h) (by rfl) ?hyr2ab_16 ?har2ab_16 ?_
        case hyr2ab_16 =>
          intro w' hx
          go_simp
          with_reducible rfl
        case har2ab_16 => (simp only [Act.put, List.setIfInBounds_toArray, List.set_cons_zero, List.set_cons_succ]; rfl)
        refine E_take (hR := Ext.pre) (i := 17) (N := (some 61)) (v := ?vr2ab_17) (a' := ?ar2ab_17) #[true, true, true, true, true, true, true, true, true, true, true, true, true, true, true, true, true, true, false, false, false, false, false, false, false, false, false, false, false] rfl rfl (by kernel_rfl) (fun _ _ _ h => h) (by rfl) ?hyr2ab_17 ?har2ab_17 ?_
        case hyr2ab_17 =>
          intro w' hx
          go_simp
          with_reducible rfl
        case har2ab_17 => (simp only [Act.put, List.setIfInBounds_toArray, List.set_cons_zero, List.set_cons_succ]; rfl)
        refine E_take (hR := Ext.pre) (i := 18) (N := (some 62)) (v := ?vr2ab_18) (a' := ?ar2ab_18) #[true, true, true, true, true, true, true, true, true, true, true, true, true, true, true, true, true, true, true, false, false, false, false, false, false, false, false, false, false] rfl rfl (by kernel_rfl) (fun _ _ _ h => h) (by rfl) ?hyr2ab_18 ?har2ab_18 ?_
        case hyr2ab_18 =>
          intro w' hx
          have hst := run_str w' (P := Tryd.prog) (A := Ai) (n := n) (c := ci) Tryd.underlying24 Tryd.underlying5 (xs := x) ((hS.ext hx).ownRd (by first | exact .here | exact .there .here | exact .there (.there .here) | exact .there (.there (.there .here)) | exact .there (.there (.there (.there .here))) | exact .there (.there (.there (.there (.there .here)))) | exact .there (.there (.there (.there (.there (.there .here))))) | exact .there (.there (.there (.there (.there (.there (.there .here)))))) | exact .there (.there (.there (.there (.there (.there (.there (.there .here))))))))) HN.out Tryd.underlying9
          go_simp
          with_reducible rfl
        case har2ab_18 => (simp only [Act.put, List.setIfInBounds_toArray, List.set_cons_zero, List.set_cons_succ]; rfl)
        refine E_take (hR := Ext.pre) (i := 19) (N := (some 63)) (v := ?vr2ab_19) (a' := ?ar2ab_19) #[true, true, true, true, true, true, true, true, true, true, true, true, true, true, true, true, true, true, true, true, false, false, false, false, false, false, false, false, false] rfl rfl (by kernel_rfl) (fun _ _ _ h => h) (by rfl) ?hyr2ab_19 ?har2ab_19 ?_
        case hyr2ab_19 =>
          intro w' hx
          go_simp
          with_reducible rfl
        case har2ab_19 => (simp only [Act.put, List.setIfInBounds_toArray, List.set_cons_zero, List.set_cons_succ]; rfl)
        refine E_take (hR := Ext.pre) (i := 20) (N := (some 64)) (v := ?vr2ab_20) (a' := ?ar2ab_20) #[true, true, true, true, true, true, true, true, true, true, true, true, true, true, true, true, true, true, true, true, true, false, false, false, false, false, false, false, false] rfl rfl (by kernel_rfl) (fun _ _ _ h => h) (by rfl) ?hyr2ab_20 ?har2ab_20 ?_
        case hyr2ab_20 =>
          intro w' hx
          have hst := run_str w' (P := Tryd.prog) (A := A0) (n := n) (c := c) Tryd.underlying24 Tryd.underlying5 (xs := x) ((hS.ext hx).rdp HR.out) HN.out Tryd.underlying9
          go_simp
          with_reducible rfl
        case har2ab_20 => (simp only [Act.put, List.setIfInBounds_toArray, List.set_cons_zero, List.set_cons_succ]; rfl)
        refine E_take (hR := Ext.pre) (i := 21) (N := (some 65)) (v := ?vr2ab_21) (a' := ?ar2ab_21) #[true, true, true, true, true, true, true, true, true, true, true, true, true, true, true, true, true, true, true, true, true, true, false, false, false, false, false, false, false] rfl rfl (by kernel_rfl) (fun _ _ _ h => h) (by rfl) ?hyr2ab_21 ?har2ab_21 ?_
        case hyr2ab_21 =>
          intro w' hx
          go_simp
          with_reducible rfl
        case har2ab_21 => (simp only [Act.put, List.setIfInBounds_toArray, List.set_cons_zero, List.set_cons_succ]; rfl)
        refine E_take (hR := Ext.pre) (i := 22) (N := (some 66)) (v := ?vr2ab_22) (a' := ?ar2ab_22) #[true, true, true, true, true, true, true, true, true, true, true, true, true, true, true, true, true, true, true, true, true, true, true, false, false, false, false, false, false] rfl rfl (by kernel_rfl) (fun _ _ _ h => h) (by rfl) ?hyr2ab_22 ?har2ab_22 ?_
        case hyr2ab_22 =>
          intro w' hx
          go_simp
          with_reducible rfl
        case har2ab_22 => (simp only [Act.put, List.setIfInBounds_toArray, List.set_cons_zero, List.set_cons_succ]; rfl)
        refine E_take (hR := Ext.pre) (i := 23) (N := (some 67)) (v := ?vr2ab_23) (a' := ?ar2ab_23) #[true, true, true, true, true, true, true, true, true, true, true, true, true, true, true, true, true, true, true, true, true, true, true, true, false, false, false, false, false] rfl rfl (by kernel_rfl) (fun _ _ _ h => h) (by rfl) ?hyr2ab_23 ?har2ab_23 ?_
        case hyr2ab_23 =>
          intro w' hx
          go_simp
          with_reducible rfl
        case har2ab_23 => (simp only [Act.put, List.setIfInBounds_toArray, List.set_cons_zero, List.set_cons_succ]; rfl)
        refine E_call (i := 24) (N := (some 68)) (args := ?gr2ab_24) #[true, true, true, true, true, true, true, true, true, true, true, true, true, true, true, true, true, true, true, true, true, true, true, true, true, false, false, false, false] rfl rfl (by kernel_rfl) (by rfl) Tryd.func9 (by kernel_rfl) rfl rfl ?hgr2ab_24 ?_
        case hgr2ab_24 => (simp only [List.map_toArray, List.map_cons, List.map_nil]; go_simp; with_reducible rfl)
        refine (fill_any 0 (by decide) _).mono ?_
        rintro e w_ ⟨v_, rfl, hown_, hb_⟩
        rw [HF.out] at hown_
        obtain ⟨Af, cf, rfl, -⟩ := own_rd hown_
        refine ⟨_, rfl, hb_, ?_⟩
        replace hS := hS.got hb_ hown_
        clear hb_ hown_
        rintro _ rfl
        simp only [Act.put, List.setIfInBounds_toArray, List.set_cons_zero, List.set_cons_succ]
        refine E_take (hR := Ext.pre) (i := 25) (N := (some 69)) (v := ?vr2ab_25) (a' := ?ar2ab_25) #[true, true, true, true, true, true, true, true, true, true, true, true, true, true, true, true, true, true, true, true, true, true, true, true, true, true, false, false, false] rfl rfl (by kernel_rfl) (fun _ _ _ h => h) (by rfl) ?hyr2ab_25 ?har2ab_25 ?_
        case hyr2ab_25 =>
          intro w' hx
          go_simp
          with_reducible rfl
        case har2ab_25 => (simp only [Act.put, List.setIfInBounds_toArray, List.set_cons_zero, List.set_cons_succ]; rfl)
        refine E_take (hR := Ext.pre) (i := 26) (N := (some 70)) (v := ?vr2ab_26) (a' := ?ar2ab_26) #[true, true, true, true, true, true, true, true, true, true, true, true, true, true, true, true, true, true, true, true, true, true, true, true, true, true, true, false, false] rfl rfl (by kernel_rfl) (fun _ _ _ h => h) (by rfl) ?hyr2ab_26 ?har2ab_26 ?_
        case hyr2ab_26 =>
          intro w' hx
          go_simp
          with_reducible rfl
        case har2ab_26 => (simp only [Act.put, List.setIfInBounds_toArray, List.set_cons_zero, List.set_cons_succ]; rfl)
        refine E_take (hR := Ext.pre) (i := 27) (N := (some 71)) (v := ?vr2ab_27) (a' := ?ar2ab_27) #[true, true, true, true, true, true, true, true, true, true, true, true, true, true, true, true, true, true, true, true, true, true, true, true, true, true, true, true, false] rfl rfl (by kernel_rfl) (fun _ _ _ h => h) (by rfl) ?hyr2ab_27 ?har2ab_27 ?_
        case hyr2ab_27 =>
          intro w' hx
          go_simp
          with_reducible rfl
        case har2ab_27 => (simp only [Act.put, List.setIfInBounds_toArray, List.set_cons_zero, List.set_cons_succ]; rfl)
        refine E_take (hR := Ext.pre) (i := 28) (N := (some 4)) (v := ?vr2ab_28) (a' := ?ar2ab_28) #[true, true, true, true, true, true, true, true, true, true, true, true, true, true, true, true, true, true, true, true, true, true, true, true, true, true, true, true, true] rfl rfl (by kernel_rfl) (fun _ _ _ h => h) (by rfl) ?hyr2ab_28 ?har2ab_28 ?_
        case hyr2ab_28 =>
          intro w' hx
          go_simp
          with_reducible rfl
        case har2ab_28 => (simp only [Act.put, List.setIfInBounds_toArray, List.set_cons_zero, List.set_cons_succ]; rfl)
        refine E_done (by kernel_rfl) ?_
        go_wp2
        go_ret
        exact ⟨rfl, hS.below⟩
    · apply E_new1 (i := 13) (N := (some 57)) hS (hR := Ext.alloc _) #[true, true, true, true, true, true, true, true, true, true, false, false, true, true, false, false, false, false, false, false, false, false, false, false, false, false, false, false, false]
      rfl
      rfl
      kernel_rfl
      rfl
      (go_simp; first | with_reducible rfl | (refine ⟨?_, ?_⟩ <;> with_reducible rfl))
      rfl
      rfl
      rfl
      clear hS
      intro b_13 w_ hS
      rintro _ rfl
      simp only [Act.put, List.setIfInBounds_toArray, List.set_cons_zero, List.set_cons_succ]
      apply E_new (i := 10) (N := (some 54)) hS (hR := Ext.alloc _) #[true, true, true, true, true, true, true, true, true, true, true, false, true, true, false, false, false, false, false, false, false, false, false, false, false, false, false, false, false]
      rfl
      rfl
      kernel_rfl
      rfl
      (go_simp; first | with_reducible rfl | (refine ⟨?_, ?_⟩ <;> with_reducible rfl))
      rfl
      rfl
      rfl
      clear hS
      intro b_10 w_ hS
      rintro _ rfl
      simp only [Act.put, List.setIfInBounds_toArray, List.set_cons_zero, List.set_cons_succ]
      refine E_call (i := 11) (N := (some 55)) (args := ?gr2b_11) #[true, true, true, true, true, true, true, true, true, true, true, true, true, true, false, false, false, false, false, false, false, false, false, false, false, false, false, false, false] rfl rfl (by kernel_rfl) (by rfl) Tryd.func7 (by kernel_rfl) rfl rfl ?hgr2b_11 ?_
      case hgr2b_11 => (simp only [List.map_toArray, List.map_cons, List.map_nil]; go_simp; with_reducible rfl)
      refine (sum_any _ 3 3 _ [(x.take q).drop 0, (x.take p).drop q, (x.take n).drop p] _ rfl (RdBB.of (hS.ownRd (by first | exact .here | exact .there .here | exact .there (.there .here) | exact .there (.there (.there .here)) | exact .there (.there (.there (.there .here))) | exact .there (.there (.there (.there (.there .here)))) | exact .there (.there (.there (.there (.there (.there .here))))) | exact .there (.there (.there (.there (.there (.there (.there .here)))))) | exact .there (.there (.there (.there (.there (.there (.there (.there .here))))))))) (Slcs.cons (Slcs.cons (Slcs.cons (Slcs.nil _) (RdB.sub (hS.ownRd (by first | exact .here | exact .there .here | exact .there (.there .here) | exact .there (.there (.there .here)) | exact .there (.there (.there (.there .here))) | exact .there (.there (.there (.there (.there .here)))) | exact .there (.there (.there (.there (.there (.there .here))))) | exact .there (.there (.there (.there (.there (.there (.there .here)))))) | exact .there (.there (.there (.there (.there (.there (.there (.there .here))))))))) (by rw [HN.out]; exact hci)) (by have := HN.out; simp; omega)) (RdB.sub (hS.ownRd (by first | exact .here | exact .there .here | exact .there (.there .here) | exact .there (.there (.there .here)) | exact .there (.there (.there (.there .here))) | exact .there (.there (.there (.there (.there .here)))) | exact .there (.there (.there (.there (.there (.there .here))))) | exact .there (.there (.there (.there (.there (.there (.there .here)))))) | exact .there (.there (.there (.there (.there (.there (.there (.there .here))))))))) (by rw [HN.out]; exact hci)) (by have := HN.out; simp; omega)) (RdB.sub (hS.ownRd (by first | exact .here | exact .there .here | exact .there (.there .here) | exact .there (.there (.there .here)) | exact .there (.there (.there (.there .here))) | exact .there (.there (.there (.there (.there .here)))) | exact .there (.there (.there (.there (.there (.there .here))))) | exact .there (.there (.there (.there (.there (.there (.there .here)))))) | exact .there (.there (.there (.there (.there (.there (.there (.there .here))))))))) (by rw [HN.out]; exact hci)) (by have := HN.out; simp; omega))) (HG.out.keep hS.below) (by have := HN.out; rw [HFL.out]; omega) (by decide)).mono ?_
      rintro e w_ ⟨rfl, hb_⟩
      rw [HFL.out]
      refine ⟨_, rfl, hb_, ?_⟩
      replace hS := hS.ext hb_
      clear hb_
      rintro _ rfl
      simp only [Act.put, List.setIfInBounds_toArray, List.set_cons_zero, List.set_cons_succ]
      refine E_call (i := 14) (N := (some 58)) (args := ?gr2b_14) #[true, true, true, true, true, true, true, true, true, true, true, true, true, true, true, false, false, false, false, false, false, false, false, false, false, false, false, false, false] rfl rfl (by kernel_rfl) (by rfl) Tryd.func7 (by kernel_rfl) rfl rfl ?hgr2b_14 ?_
      case hgr2b_14 => (simp only [List.map_toArray, List.map_cons, List.map_nil]; go_simp; with_reducible rfl)
      refine (sum_any _ 1 1 _ [x] _ rfl (RdBB.of (hS.ownRd (by first | exact .here | exact .there .here | exact .there (.there .here) | exact .there (.there (.there .here)) | exact .there (.there (.there (.there .here))) | exact .there (.there (.there (.there (.there .here)))) | exact .there (.there (.there (.there (.there (.there .here))))) | exact .there (.there (.there (.there (.there (.there (.there .here)))))) | exact .there (.there (.there (.there (.there (.there (.there (.there .here))))))))) (Slcs.cons (Slcs.nil _) (hS.rdp HR.out) HN.out)) (HG.out.keep hS.below) (by have := HN.out; rw [HX.out]; omega) (by decide)).mono ?_
      rintro e w_ ⟨rfl, hb_⟩
      rw [HX.out]
      refine ⟨_, rfl, hb_, ?_⟩
      replace hS := hS.ext hb_
      clear hb_
      rintro _ rfl
      simp only [Act.put, List.setIfInBounds_toArray, List.set_cons_zero, List.set_cons_succ]
      refine E_take (hR := Ext.pre) (i := 15) (N := (some 59)) (v := ?vr2b_15) (a' := ?ar2b_15) #[true, true, true, true, true, true, true, true, true, true, true, true, true, true, true, true, false, false, false, false, false, false, false, false, false, false, false, false, false] rfl rfl (by kernel_rfl) (fun _ _ _ h => h) (by rfl) ?hyr2b_15 ?har2b_15 ?_
      case hyr2b_15 =>
        intro w' hx
        go_simp
        with_reducible rfl
      case har2b_15 => (simp only [Act.put, List.setIfInBounds_toArray, List.set_cons_zero, List.set_cons_succ]; rfl)
      refine E_take (hR := Ext.pre) (i := 16) (N := (some 60)) (v := ?vr2b_16) (a' := ?ar2b_16) #[true, true, true, true, true, true, true, true, true, true, true, true, true, true, true, true, true, false, false, false, false, false, false, false, false, false, false, false, false] rfl rfl (by kernel_rfl) (fun _ _ _ h => h) (by rfl) ?hyr2b_16 ?har2b_16 ?_
      case hyr2b_16 =>
        intro w' hx
        go_simp
        with_reducible rfl
      case har2b_16 => (simp only [Act.put, List.setIfInBounds_toArray, List.set_cons_zero, List.set_cons_succ]; rfl)
      refine E_take (hR := Ext.pre) (i := 17) (N := (some 61)) (v := ?vr2b_17) (a' := ?ar2b_17) #[true, true, true, true, true, true, true, true, true, true, true, true, true, true, true, true, true, true, false, false, false, false, false, false, false, false, false, false, false] rfl rfl (by kernel_rfl) (fun _ _ _ h => h) (by rfl) ?hyr2b_17 ?har2b_17 ?_
      case hyr2b_17 =>
        intro w' hx
        go_simp
        with_reducible rfl
      case har2b_17 => (simp only [Act.put, List.setIfInBounds_toArray, List.set_cons_zero, List.set_cons_succ]; rfl)
      refine E_take (hR := Ext.pre) (i := 18) (N := (some 62)) (v := ?vr2b_18) (a' := ?ar2b_18) #[true, true, true, true, true, true, true, true, true, true, true, true, true, true, true, true, true, true, true, false, false, false, false, false, false, false, false, false, false] rfl rfl (by kernel_rfl) (fun _ _ _ h => h) (by rfl) ?hyr2b_18 ?har2b_18 ?_
      case hyr2b_18 =>
        intro w' hx
        have hst := run_str w' (P := Tryd.prog) (A := Ai) (n := n) (c := ci) Tryd.underlying24 Tryd.underlying5 (xs := x) ((hS.ext hx).ownRd (by first | exact .here | exact .there .here | exact .there (.there .here) | exact .there (.there (.there .here)) | exact .there (.there (.there (.there .here))) | exact .there (.there (.there (.there (.there .here)))) | exact .there (.there (.there (.there (.there (.there .here))))) | exact .there (.there (.there (.there (.there (.there (.there .here)))))) | exact .there (.there (.there (.there (.there (.there (.there (.there .here))))))))) HN.out Tryd.underlying9
        go_simp
        with_reducible rfl
      case har2b_18 => (simp only [Act.put, List.setIfInBounds_toArray, List.set_cons_zero, List.set_cons_succ]; rfl)
      refine E_take (hR := Ext.pre) (i := 19) (N := (some 63)) (v := ?vr2b_19) (a' := ?ar2b_19) #[true, true, true, true, true, true, true, true, true, true, true, true, true, true, true, true, true, true, true, true, false, false, false, false, false, false, false, false, false] rfl rfl (by kernel_rfl) (fun _ _ _ h => h) (by rfl) ?hyr2b_19 ?har2b_19 ?_
      case hyr2b_19 =>
        intro w' hx
        go_simp
        with_reducible rfl
      case har2b_19 => (simp only [Act.put, List.setIfInBounds_toArray, List.set_cons_zero, List.set_cons_succ]; rfl)
      refine E_take (hR := Ext.pre) (i := 20) (N := (some 64)) (v := ?vr2b_20) (a' := ?ar2b_20) #[true, true, true, true, true, true, true, true, true, true, true, true, true, true, true, true, true, true, true, true, true, false, false, false, false, false, false, false, false] rfl rfl (by kernel_rfl) (fun _ _ _ h => h) (by rfl) ?hyr2b_20 ?har2b_20 ?_
      case hyr2b_20 =>
        intro w' hx
        have hst := run_str w' (P := Tryd.prog) (A := A0) (n := n) (c := c) Tryd.underlying24 Tryd.underlying5 (xs := x) ((hS.ext hx).rdp HR.out) HN.out Tryd.underlying9
        go_simp
        with_reducible rfl
      case har2b_20 => (simp only [Act.put, List.setIfInBounds_toArray, List.set_cons_zero, List.set_cons_succ]; rfl)
      refine E_take (hR := Ext.pre) (i := 21) (N := (some 65)) (v := ?vr2b_21) (a' := ?ar2b_21) #[true, true, true, true, true, true, true, true, true, true, true, true, true, true, true, true, true, true, true, true, true, true, false, false, false, false, false, false, false] rfl rfl (by kernel_rfl) (fun _ _ _ h => h) (by rfl) ?hyr2b_21 ?har2b_21 ?_
      case hyr2b_21 =>
        intro w' hx
        go_simp
        with_reducible rfl
      case har2b_21 => (simp only [Act.put, List.setIfInBounds_toArray, List.set_cons_zero, List.set_cons_succ]; rfl)
      refine E_take (hR := Ext.pre) (i := 22) (N := (some 66)) (v := ?vr2b_22) (a' := ?ar2b_22) #[true, true, true, true, true, true, true, true, true, true, true, true, true, true, true, true, true, true, true, true, true, true, true, false, false, false, false, false, false] rfl rfl (by kernel_rfl) (fun _ _ _ h => h) (by rfl) ?hyr2b_22 ?har2b_22 ?_
      case hyr2b_22 =>
        intro w' hx
        go_simp
        with_reducible rfl
      case har2b_22 => (simp only [Act.put, List.setIfInBounds_toArray, List.set_cons_zero, List.set_cons_succ]; rfl)
      refine E_take (hR := Ext.pre) (i := 23) (N := (some 67)) (v := ?vr2b_23) (a' := ?ar2b_23) #[true, true, true, true, true, true, true, true, true, true, true, true, true, true, true, true, true, true, true, true, true, true, true, true, false, false, false, false, false] rfl rfl (by kernel_rfl) (fun _ _ _ h => h) (by rfl) ?hyr2b_23 ?har2b_23 ?_
      case hyr2b_23 =>
        intro w' hx
        go_simp
        with_reducible rfl
      case har2b_23 => (simp only [Act.put, List.setIfInBounds_toArray, List.set_cons_zero, List.set_cons_succ]; rfl)
      refine E_call (i := 24) (N := (some 68)) (args := ?gr2b_24) #[true, true, true, true, true, true, true, true, true, true, true, true, true, true, true, true, true, true, true, true, true, true, true, true, true, false, false, false, false] rfl rfl (by kernel_rfl) (by rfl) Tryd.func9 (by kernel_rfl) rfl rfl ?hgr2b_24 ?_
      case hgr2b_24 => (simp only [List.map_toArray, List.map_cons, List.map_nil]; go_simp; with_reducible rfl)
      refine (fill_any 0 (by decide) _).mono ?_
      rintro e w_ ⟨v_, rfl, hown_, hb_⟩
      rw [HF.out] at hown_
      obtain ⟨Af, cf, rfl, -⟩ := own_rd hown_
      refine ⟨_, rfl, hb_, ?_⟩
      replace hS := hS.got hb_ hown_
      clear hb_ hown_
      rintro _ rfl
      simp only [Act.put, List.setIfInBounds_toArray, List.set_cons_zero, List.set_cons_succ]
      refine E_take (hR := Ext.pre) (i := 25) (N := (some 69)) (v := ?vr2b_25) (a' := ?ar2b_25) #[true, true, true, true, true, true, true, true, true, true, true, true, true, true, true, true, true, true, true, true, true, true, true, true, true, true, false, false, false] rfl rfl (by kernel_rfl) (fun _ _ _ h => h) (by rfl) ?hyr2b_25 ?har2b_25 ?_
      case hyr2b_25 =>
        intro w' hx
        go_simp
        with_reducible rfl
      case har2b_25 => (simp only [Act.put, List.setIfInBounds_toArray, List.set_cons_zero, List.set_cons_succ]; rfl)
      refine E_take (hR := Ext.pre) (i := 26) (N := (some 70)) (v := ?vr2b_26) (a' := ?ar2b_26) #[true, true, true, true, true, true, true, true, true, true, true, true, true, true, true, true, true, true, true, true, true, true, true, true, true, true, true, false, false] rfl rfl (by kernel_rfl) (fun _ _ _ h => h) (by rfl) ?hyr2b_26 ?har2b_26 ?_
      case hyr2b_26 =>
        intro w' hx
        go_simp
        with_reducible rfl
      case har2b_26 => (simp only [Act.put, List.setIfInBounds_toArray, List.set_cons_zero, List.set_cons_succ]; rfl)
      refine E_take (hR := Ext.pre) (i := 27) (N := (some 71)) (v := ?vr2b_27) (a' := ?ar2b_27) #[true, true, true, true, true, true, true, true, true, true, true, true, true, true, true, true, true, true, true, true, true, true, true, true, true, true, true, true, false] rfl rfl (by kernel_rfl) (fun _ _ _ h => h) (by rfl) ?hyr2b_27 ?har2b_27 ?_
      case hyr2b_27 =>
        intro w' hx
        go_simp
        with_reducible rfl
      case har2b_27 => (simp only [Act.put, List.setIfInBounds_toArray, List.set_cons_zero, List.set_cons_succ]; rfl)
      refine E_take (hR := Ext.pre) (i := 28) (N := (some 4)) (v := ?vr2b_28) (a' := ?ar2b_28) #[true, true, true, true, true, true, true, true, true, true, true, true, true, true, true, true, true, true, true, true, true, true, true, true, true, true, true, true, true] rfl rfl (by kernel_rfl) (fun _ _ _ h => h) (by rfl) ?hyr2b_28 ?har2b_28 ?_
      case hyr2b_28 =>
        intro w' hx
        go_simp
        with_reducible rfl
      case har2b_28 => (simp only [Act.put, List.setIfInBounds_toArray, List.set_cons_zero, List.set_cons_succ]; rfl)
      refine E_done (by kernel_rfl) ?_
      go_wp2
      go_ret
      exact ⟨rfl, hS.below⟩
  · skip
    go_upto_region 8 with (first | ((with_reducible show wpList _ _ _ (⟨some 41, Op.buildSlice _ _ _, _, _, _, _⟩ :: _) _ _); go_loud (apply S_bslice hS; rfl; (go_simp; first | with_reducible rfl | (refine ⟨?_, ?_⟩ <;> with_reducible rfl)); rfl; rfl; rfl; rfl; clear hS; intro b41 w_ hS)) | ((with_reducible show wpList _ _ _ (⟨some 43, Op.call _, _, _, _, _⟩ :: _) _ _); go_loud (apply S_app TB hS; rfl; rfl; rfl; (first | exact .here | exact .there .here | exact .there (.there .here) | exact .there (.there (.there .here)) | exact .there (.there (.there (.there .here))) | exact .there (.there (.there (.there (.there .here)))) | exact .there (.there (.there (.there (.there (.there .here))))) | exact .there (.there (.there (.there (.there (.there (.there .here)))))) | exact .there (.there (.there (.there (.there (.there (.there (.there .here)))))))); rfl; exact (RdB.src (c := c) Tryd.underlying24 (hS.rdp HR.out) HN.out); (unfold maxLen; omega); omega; clear hS; intro Ai ci w_ hS; (try simp only [Nat.zero_add, List.nil_append] at hS ⊢))))
    have hci := hS.ownCap (by first | exact .here | exact .there .here | exact .there (.there .here) | exact .there (.there (.there .here)) | exact .there (.there (.there (.there .here))) | exact .there (.there (.there (.there (.there .here)))) | exact .there (.there (.there (.there (.there (.there .here))))) | exact .there (.there (.there (.there (.there (.there (.there .here)))))) | exact .there (.there (.there (.there (.there (.there (.there (.there .here))))))))
    have HFL := Lib.hid (cut3 x (p := p) (q := q) (n := n) (by omega) HN.out)
    have HX := Lib.hid (show [x].flatten = x by simp)
    have HSL := Lib.hid (sumF_length x)
    have QE := fun wx => run_eql_arrA (sumF x) wx
    have HF := Lib.hid (show (fillS 0).length = 128 by decide)
    have l1 : ((q : Nat) : Int) ≤ n := by omega
    have l2 : p ≤ q := by omega
    have l3 : p ≤ ci := by omega
    have l4 : q ≤ ci := by omega
    refine E_start (hR := Ext.pre) #[false, false, false, false, false, false, false, false, false, false, false, false, false, false, false, false, false, false, false, false, false, false, false, false, false, false, false, false, false] (by kernel_rfl) rfl rfl (fun w_r3 hx_r3 he_r3 => ?_)
    clear he_r3
    replace hS := hS.ext hx_r3; clear hx_r3
    refine E_take (hR := Ext.pre) (i := 0) (N := (some 44)) (v := ?vr3_0) (a' := ?ar3_0) #[true, false, false, false, false, false, false, false, false, false, false, false, false, false, false, false, false, false, false, false, false, false, false, false, false, false, false, false, false] rfl rfl (by kernel_rfl) (fun _ _ _ h => h) (by rfl) ?hyr3_0 ?har3_0 ?_
    case hyr3_0 =>
      intro w' hx
      go_simp
      with_reducible rfl
    case har3_0 => (simp only [Act.put, List.setIfInBounds_toArray, List.set_cons_zero, List.set_cons_succ]; rfl)
    refine E_take (hR := Ext.pre) (i := 1) (N := (some 45)) (v := ?vr3_1) (a' := ?ar3_1) #[true, true, false, false, false, false, false, false, false, false, false, false, false, false, false, false, false, false, false, false, false, false, false, false, false, false, false, false, false] rfl rfl (by kernel_rfl) (fun _ _ _ h => h) (by rfl) ?hyr3_1 ?har3_1 ?_
    case hyr3_1 =>
      intro w' hx
      go_simp
      with_reducible rfl
    case har3_1 => (simp only [Act.put, List.setIfInBounds_toArray, List.set_cons_zero, List.set_cons_succ]; rfl)
    refine E_take (hR := Ext.pre) (i := 2) (N := (some 46)) (v := ?vr3_2) (a' := ?ar3_2) #[true, true, true, false, false, false, false, false, false, false, false, false, false, false, false, false, false, false, false, false, false, false, false, false, false, false, false, false, false] rfl rfl (by kernel_rfl) (fun _ _ _ h => h) (by rfl) ?hyr3_2 ?har3_2 ?_
    case hyr3_2 =>
      intro w' hx
      (first | (apply Eq.trans; (apply R_slice; rfl; rfl; (first | exact SB.no | exact SB.so); (first | exact SB.no | exact SB.so); rfl; rfl; (first | assumption | omega); (first | assumption | omega)); with_reducible rfl) | (go_simp; with_reducible rfl))
    case har3_2 => (simp only [Act.put, List.setIfInBounds_toArray, List.set_cons_zero, List.set_cons_succ]; rfl)
    refine E_take (hR := Ext.pre) (i := 3) (N := (some 47)) (v := ?vr3_3) (a' := ?ar3_3) #[true, true, true, true, false, false, false, false, false, false, false, false, false, false, false, false, false, false, false, false, false, false, false, false, false, false, false, false, false] rfl rfl (by kernel_rfl) (fun _ _ _ h => h) (by rfl) ?hyr3_3 ?har3_3 ?_
    case hyr3_3 =>
      intro w' hx
      go_simp
      with_reducible rfl
    case har3_3 => (simp only [Act.put, List.setIfInBounds_toArray, List.set_cons_zero, List.set_cons_succ]; rfl)
    refine E_take (hR := Ext.pre) (i := 4) (N := (some 48)) (v := ?vr3_4) (a' := ?ar3_4) #[true, true, true, true, true, false, false, false, false, false, false, false, false, false, false, false, false, false, false, false, false, false, false, false, false, false, false, false, false] rfl rfl (by kernel_rfl) (fun _ _ _ h => h) (by rfl) ?hyr3_4 ?har3_4 ?_
    case hyr3_4 =>
      intro w' hx
      go_simp
      with_reducible rfl
    case har3_4 => (simp only [Act.put, List.setIfInBounds_toArray, List.set_cons_zero, List.set_cons_succ]; rfl)
    refine E_take (hR := Ext.pre) (i := 5) (N := (some 49)) (v := ?vr3_5) (a' := ?ar3_5) #[true, true, true, true, true, true, false, false, false, false, false, false, false, false, false, false, false, false, false, false, false, false, false, false, false, false, false, false, false] rfl rfl (by kernel_rfl) (fun _ _ _ h => h) (by rfl) ?hyr3_5 ?har3_5 ?_
    case hyr3_5 =>
      intro w' hx
      go_simp
      with_reducible rfl
    case har3_5 => (simp only [Act.put, List.setIfInBounds_toArray, List.set_cons_zero, List.set_cons_succ]; rfl)
    refine E_take (hR := Ext.pre) (i := 6) (N := (some 50)) (v := ?vr3_6) (a' := ?ar3_6) #[true, true, true, true, true, true, true, false, false, false, false, false, false, false, false, false, false, false, false, false, false, false, false, false, false, false, false, false, false] rfl rfl (by kernel_rfl) (fun _ _ _ h => h) (by rfl) ?hyr3_6 ?har3_6 ?_
    case hyr3_6 =>
      intro w' hx
      (first | (apply Eq.trans; (apply R_slice; rfl; rfl; (first | exact SB.no | exact SB.so); (first | exact SB.no | exact SB.so); rfl; rfl; (first | assumption | omega); (first | assumption | omega)); with_reducible rfl) | (go_simp; with_reducible rfl))
    case har3_6 => (simp only [Act.put, List.setIfInBounds_toArray, List.set_cons_zero, List.set_cons_succ]; rfl)
    refine E_take (hR := Ext.pre) (i := 7) (N := (some 51)) (v := ?vr3_7) (a' := ?ar3_7) #[true, true, true, true, true, true, true, true, false, false, false, false, false, false, false, false, false, false, false, false, false, false, false, false, false, false, false, false, false] rfl rfl (by kernel_rfl) (fun _ _ _ h => h) (by rfl) ?hyr3_7 ?har3_7 ?_
    case hyr3_7 =>
      intro w' hx
      go_simp
      with_reducible rfl
    case har3_7 => (simp only [Act.put, List.setIfInBounds_toArray, List.set_cons_zero, List.set_cons_succ]; rfl)
    refine E_take (hR := Ext.pre) (i := 8) (N := (some 52)) (v := ?vr3_8) (a' := ?ar3_8) #[true, true, true, true, true, true, true, true, true, false, false, false, false, false, false, false, false, false, false, false, false, false, false, false, false, false, false, false, false] rfl rfl (by kernel_rfl) (fun _ _ _ h => h) (by rfl) ?hyr3_8 ?har3_8 ?_
    case hyr3_8 =>
      intro w' hx
      go_simp
      with_reducible rfl
    case har3_8 => (simp only [Act.put, List.setIfInBounds_toArray, List.set_cons_zero, List.set_cons_succ]; rfl)
    refine E_take (hR := Ext.pre) (i := 9) (N := (some 53)) (v := ?vr3_9) (a' := ?ar3_9) #[true, true, true, true, true, true, true, true, true, true, false, false, false, false, false, false, false, false, false, false, false, false, false, false, false, false, false, false, false] rfl rfl (by kernel_rfl) (fun _ _ _ h => h) (by rfl) ?hyr3_9 ?har3_9 ?_
    case hyr3_9 =>
      intro w' hx
      (first | (apply Eq.trans; (apply R_slice; rfl; rfl; (first | exact SB.no | exact SB.so); (first | exact SB.no | exact SB.so); rfl; rfl; (first | assumption | omega); (first | assumption | omega)); with_reducible rfl) | (go_simp; with_reducible rfl))
    case har3_9 => (simp only [Act.put, List.setIfInBounds_toArray, List.set_cons_zero, List.set_cons_succ]; rfl)
    refine E_take (hR := Ext.pre) (i := 12) (N := (some 56)) (v := ?vr3_12) (a' := ?ar3_12) #[true, true, true, true, true, true, true, true, true, true, false, false, true, false, false, false, false, false, false, false, false, false, false, false, false, false, false, false, false] rfl rfl (by kernel_rfl) (fun _ _ _ h => h) (by rfl) ?hyr3_12 ?har3_12 ?_
    case hyr3_12 =>
      intro w' hx
      go_simp
      with_reducible rfl
    case har3_12 => (simp only [Act.put, List.setIfInBounds_toArray, List.set_cons_zero, List.set_cons_succ]; rfl)
    refine E_split [10, 13] (by kernel_rfl) (by simp) (fun i_ hi_ => ?_)
    simp only [List.mem_cons, List.not_mem_nil, or_false] at hi_
    rcases hi_ with rfl | rfl
    · apply E_new1 (i := 10) (N := (some 54)) hS (hR := Ext.alloc _) #[true, true, true, true, true, true, true, true, true, true, true, false, true, false, false, false, false, false, false, false, false, false, false, false, false, false, false, false, false]
      rfl
      rfl
      kernel_rfl
      rfl
      (go_simp; first | with_reducible rfl | (refine ⟨?_, ?_⟩ <;> with_reducible rfl))
      rfl
      rfl
      rfl
      clear hS
      intro b_10 w_ hS
      rintro _ rfl
      simp only [Act.put, List.setIfInBounds_toArray, List.set_cons_zero, List.set_cons_succ]
      refine E_split [11, 13] (by kernel_rfl) (by simp) (fun i_ hi_ => ?_)
      simp only [List.mem_cons, List.not_mem_nil, or_false] at hi_
      rcases hi_ with rfl | rfl
      · refine E_call1 (i := 11) (N := (some 55)) (args := ?gr3aa_11) #[true, true, true, true, true, true, true, true, true, true, true, true, true, false, false, false, false, false, false, false, false, false, false, false, false, false, false, false, false] rfl rfl (by kernel_rfl) (by rfl) Tryd.func7 (by kernel_rfl) rfl rfl ?hgr3aa_11 ?_
        case hgr3aa_11 => (simp only [List.map_toArray, List.map_cons, List.map_nil]; go_simp; with_reducible rfl)
        refine (sum_any _ 3 3 _ [(x.take p).drop 0, (x.take q).drop p, (x.take n).drop q] _ rfl (RdBB.of (hS.ownRd (by first | exact .here | exact .there .here | exact .there (.there .here) | exact .there (.there (.there .here)) | exact .there (.there (.there (.there .here))) | exact .there (.there (.there (.there (.there .here)))) | exact .there (.there (.there (.there (.there (.there .here))))) | exact .there (.there (.there (.there (.there (.there (.there .here)))))) | exact .there (.there (.there (.there (.there (.there (.there (.there .here))))))))) (Slcs.cons (Slcs.cons (Slcs.cons (Slcs.nil _) (RdB.sub (hS.ownRd (by first | exact .here | exact .there .here | exact .there (.there .here) | exact .there (.there (.there .here)) | exact .there (.there (.there (.there .here))) | exact .there (.there (.there (.there (.there .here)))) | exact .there (.there (.there (.there (.there (.there .here))))) | exact .there (.there (.there (.there (.there (.there (.there .here)))))) | exact .there (.there (.there (.there (.there (.there (.there (.there .here))))))))) (by rw [HN.out]; exact hci)) (by have := HN.out; simp; omega)) (RdB.sub (hS.ownRd (by first | exact .here | exact .there .here | exact .there (.there .here) | exact .there (.there (.there .here)) | exact .there (.there (.there (.there .here))) | exact .there (.there (.there (.there (.there .here)))) | exact .there (.there (.there (.there (.there (.there .here))))) | exact .there (.there (.there (.there (.there (.there (.there .here)))))) | exact .there (.there (.there (.there (.there (.there (.there (.there .here))))))))) (by rw [HN.out]; exact hci)) (by have := HN.out; simp; omega)) (RdB.sub (hS.ownRd (by first | exact .here | exact .there .here | exact .there (.there .here) | exact .there (.there (.there .here)) | exact .there (.there (.there (.there .here))) | exact .there (.there (.there (.there (.there .here)))) | exact .there (.there (.there (.there (.there (.there .here))))) | exact .there (.there (.there (.there (.there (.there (.there .here)))))) | exact .there (.there (.there (.there (.there (.there (.there (.there .here))))))))) (by rw [HN.out]; exact hci)) (by have := HN.out; simp; omega))) (HG.out.keep hS.below) (by have := HN.out; rw [HFL.out]; omega) (by decide)).mono ?_
        rintro e w_ ⟨rfl, hb_⟩
        rw [HFL.out]
        refine ⟨_, rfl, hb_, ?_⟩
        replace hS := hS.ext hb_
        clear hb_
        rintro _ rfl
        simp only [Act.put, List.setIfInBounds_toArray, List.set_cons_zero, List.set_cons_succ]
        apply E_new (i := 13) (N := (some 57)) hS (hR := Ext.alloc _) #[true, true, true, true, true, true, true, true, true, true, true, true, true, true, false, false, false, false, false, false, false, false, false, false, false, false, false, false, false]
        rfl
        rfl
        kernel_rfl
        rfl
        (go_simp; first | with_reducible rfl | (refine ⟨?_, ?_⟩ <;> with_reducible rfl))
        rfl
        rfl
        rfl
        clear hS
        intro b_13 w_ hS
        rintro _ rfl
        simp only [Act.put, List.setIfInBounds_toArray, List.set_cons_zero, List.set_cons_succ]
        refine E_call (i := 14) (N := (some 58)) (args := ?gr3aa_14) #[true, true, true, true, true, true, true, true, true, true, true, true, true, true, true, false, false, false, false, false, false, false, false, false, false, false, false, false, false] rfl rfl (by kernel_rfl) (by rfl) Tryd.func7 (by kernel_rfl) rfl rfl ?hgr3aa_14 ?_
        case hgr3aa_14 => (simp only [List.map_toArray, List.map_cons, List.map_nil]; go_simp; with_reducible rfl)
        refine (sum_any _ 1 1 _ [x] _ rfl (RdBB.of (hS.ownRd (by first | exact .here | exact .there .here | exact .there (.there .here) | exact .there (.there (.there .here)) | exact .there (.there (.there (.there .here))) | exact .there (.there (.there (.there (.there .here)))) | exact .there (.there (.there (.there (.there (.there .here))))) | exact .there (.there (.there (.there (.there (.there (.there .here)))))) | exact .there (.there (.there (.there (.there (.there (.there (.there .here))))))))) (Slcs.cons (Slcs.nil _) (hS.rdp HR.out) HN.out)) (HG.out.keep hS.below) (by have := HN.out; rw [HX.out]; omega) (by decide)).mono ?_
        rintro e w_ ⟨rfl, hb_⟩
        rw [HX.out]
        refine ⟨_, rfl, hb_, ?_⟩
        replace hS := hS.ext hb_
        clear hb_
        rintro _ rfl
        simp only [Act.put, List.setIfInBounds_toArray, List.set_cons_zero, List.set_cons_succ]
        refine E_take (hR := Ext.pre) (i := 15) (N := (some 59)) (v := ?vr3aa_15) (a' := ?ar3aa_15) #[true, true, true, true, true, true, true, true, true, true, true, true, true, true, true, true, false, false, false, false, false, false, false, false, false, false, false, false, false] rfl rfl (by kernel_rfl) (fun _ _ _ h => h) (by rfl) ?hyr3aa_15 ?har3aa_15 ?_
        case hyr3aa_15 =>
          intro w' hx
          go_simp
          with_reducible rfl
        case har3aa_15 => (simp only [Act.put, List.setIfInBounds_toArray, List.set_cons_zero, List.set_cons_succ]; rfl)
        refine E_take (hR := Ext.pre) (i := 16) (N := (some 60)) (v := ?vr3aa_16) (a' := ?ar3aa_16) #[true, true, true, true, true, true, true, true, true, true, true, true, true, true, true, true, true, false, false, false, false, false, false, false, false, false, false, false, false] rfl rfl (by kernel_rfl) (fun _ _ _ h => h) (by rfl) ?hyr3aa_16 ?har3aa_16 ?_
        case hyr3aa_16 =>
          intro w' hx
          go_simp
          with_reducible rfl
        case har3aa_16 => (simp only [Act.put, List.setIfInBounds_toArray, List.set_cons_zero, List.set_cons_succ]; rfl)
        refine E_take (hR := Ext.pre) (i := 17) (N := (some 61)) (v := ?vr3aa_17) (a' := ?ar3aa_17) #[true, true, true, true, true, true, true, true, true, true, true, true, true, true, true, true, true, true, false, false, false, false, false, false, false, false, false, false, false] rfl rfl (by kernel_rfl) (fun _ _ _ h => h) (by rfl) ?hyr3aa_17 ?har3aa_17 ?_
        case hyr3aa_17 =>
          intro w' hx
          go_simp
          with_reducible rfl
        case har3aa_17 => (simp only [Act.put, List.setIfInBounds_toArray, List.set_cons_zero, List.set_cons_succ]; rfl)
        refine E_take (hR := Ext.pre) (i := 18) (N := (some 62)) (v := ?vr3aa_18) (a' := ?ar3aa_18) #[true, true, true, true, true, true, true, true, true, true, true, true, true, true, true, true, true, true, true, false, false, false, false, false, false, false, false, false, false] rfl rfl (by kernel_rfl) (fun _ _ _ h => h) (by rfl) ?hyr3aa_18 ?har3aa_18 ?_
        case hyr3aa_18 =>
          intro w' hx
          have hst := run_str w' (P := Tryd.prog) (A := Ai) (n := n) (c := ci) Tryd.underlying24 Tryd.underlying5 (xs := x) ((hS.ext hx).ownRd (by first | exact .here | exact .there .here | exact .there (.there .here) | exact .there (.there (.there .here)) | exact .there (.there (.there (.there .here))) | exact .there (.there (.there (.there (.there .here)))) | exact .there (.there (.there (.there (.there (.there .here))))) | exact .there (.there (.there (.there (.there (.there (.there .here)))))) | exact .there (.there (.there (.there (.there (.there (.there (.there .here))))))))) HN.out Tryd.underlying9
          go_simp
          with_reducible rfl
        case har3aa_18 => (simp only [Act.put, List.setIfInBounds_toArray, List.set_cons_zero, List.set_cons_succ]; rfl)
        refine E_take (hR := Ext.pre) (i := 19) (N := (some 63)) (v := ?vr3aa_19) (a' := ?ar3aa_19) #[true, true, true, true, true, true, true, true, true, true, true, true, true, true, true, true, true, true, true, true, false, false, false, false, false, false, false, false, false] rfl rfl (by kernel_rfl) (fun _ _ _ h => h) (by rfl) ?hyr3aa_19 ?har3aa_19 ?_
        case hyr3aa_19 =>
          intro w' hx
          go_simp
          with_reducible rfl
        case har3aa_19 => (simp only [Act.put, List.setIfInBounds_toArray, List.set_cons_zero, List.set_cons_succ]; rfl)
        refine E_take (hR := Ext.pre) (i := 20) (N := (some 64)) (v := ?vr3aa_20) (a' := ?ar3aa_20) #[true, true, true, true, true, true, true, true, true, true, true, true, true, true, true, true, true, true, true, true, true, false, false, false, false, false, false, false, false] rfl rfl (by kernel_rfl) (fun _ _ _ h => h) (by rfl) ?hyr3aa_20 ?har3aa_20 ?_
        case hyr3aa_20 =>
          intro w' hx
          have hst := run_str w' (P := Tryd.prog) (A := A0) (n := n) (c := c) Tryd.underlying24 Tryd.underlying5 (xs := x) ((hS.ext hx).rdp HR.out) HN.out Tryd.underlying9
          go_simp
          with_reducible rfl
        case har3aa_20 => (simp only [Act.put, List.setIfInBounds_toArray, List.set_cons_zero, List.set_cons_succ]; rfl)
        refine E_take (hR := Ext.pre) (i := 21) (N := (some 65)) (v := ?vr3aa_21) (a' := ?ar3aa_21) #[true, true, true, true, true, true, true, true, true, true, true, true, true, true, true, true, true, true, true, true, true, true, false, false, false, false, false, false, false] rfl rfl (by kernel_rfl) (fun _ _ _ h => h) (by rfl) ?hyr3aa_21 ?har3aa_21 ?_
        case hyr3aa_21 =>
          intro w' hx
          go_simp
          with_reducible rfl
        case har3aa_21 => (simp only [Act.put, List.setIfInBounds_toArray, List.set_cons_zero, List.set_cons_succ]; rfl)
        refine E_take (hR := Ext.pre) (i := 22) (N := (some 66)) (v := ?vr3aa_22) (a' := ?ar3aa_22) #[true, true, true, true, true, true, true, true, true, true, true, true, true, true, true, true, true, true, true, true, true, true, true, false, false, false, false, false, false] rfl rfl (by kernel_rfl) (fun _ _ _ h => h) (by rfl) ?hyr3aa_22 ?har3aa_22 ?_
        case hyr3aa_22 =>
          intro w' hx
          go_simp
          with_reducible rfl
        case har3aa_22 => (simp only [Act.put, List.setIfInBounds_toArray, List.set_cons_zero, List.set_cons_succ]; rfl)
        refine E_take (hR := Ext.pre) (i := 23) (N := (some 67)) (v := ?vr3aa_23) (a' := ?ar3aa_23) #[true, true, true, true, true, true, true, true, true, true, true, true, true, true, true, true, true, true, true, true, true, true, true, true, false, false, false, false, false] rfl rfl (by kernel_rfl) (fun _ _ _ h => h) (by rfl) ?hyr3aa_23 ?har3aa_23 ?_
        case hyr3aa_23 =>
          intro w' hx
          go_simp
          with_reducible rfl
        case har3aa_23 => (simp only [Act.put, List.setIfInBounds_toArray, List.set_cons_zero, List.set_cons_succ]; rfl)
        refine E_call (i := 24) (N := (some 68)) (args := ?gr3aa_24) #[true, true, true, true, true, true, true, true, true, true, true, true, true, true, true, true, true, true, true, true, true, true, true, true, true, false, false, false, false] rfl rfl (by kernel_rfl) (by rfl) Tryd.func9 (by kernel_rfl) rfl rfl ?hgr3aa_24 ?_
        case hgr3aa_24 => (simp only [List.map_toArray, List.map_cons, List.map_nil]; go_simp; with_reducible rfl)
        refine (fill_any 0 (by decide) _).mono ?_
        rintro e w_ ⟨v_, rfl, hown_, hb_⟩
        rw [HF.out] at hown_
        obtain ⟨Af, cf, rfl, -⟩ := own_rd hown_
        refine ⟨_, rfl, hb_, ?_⟩
        replace hS := hS.got hb_ hown_
        clear hb_ hown_
        rintro _ rfl
        simp only [Act.put, List.setIfInBounds_toArray, List.set_cons_zero, List.set_cons_succ]
        refine E_take (hR := Ext.pre) (i := 25) (N := (some 69)) (v := ?vr3aa_25) (a' := ?ar3aa_25) #[true, true, true, true, true, true, true, true, true, true, true, true, true, true, true, true, true, true, true, true, true, true, true, true, true, true, false, false, false] rfl rfl (by kernel_rfl) (fun _ _ _ h => h) (by rfl) ?hyr3aa_25 ?har3aa_25 ?_
        case hyr3aa_25 =>
          intro w' hx
          go_simp
          with_reducible rfl
        case har3aa_25 => (simp only [Act.put, List.setIfInBounds_toArray, List.set_cons_zero, List.set_cons_succ]; rfl)
        refine E_take (hR := Ext.pre) (i := 26) (N := (some 70)) (v := ?vr3aa_26) (a' := ?ar3aa_26) #[true, true, true, true, true, true, true, true, true, true, true, true, true, true, true, true, true, true, true, true, true, true, true, true, true, true, true, false, false] rfl rfl (by kernel_rfl) (fun _ _ _ h => h) (by rfl) ?hyr3aa_26 ?har3aa_26 ?_
        case hyr3aa_26 =>
          intro w' hx
          go_simp
          with_reducible rfl
        case har3aa_26 => (simp only [Act.put, List.setIfInBounds_toArray, List.set_cons_zero, List.set_cons_succ]; rfl)
        refine E_take (hR := Ext.pre) (i := 27) (N := (some 71)) (v := ?vr3aa_27) (a' := ?ar3aa_27) #[true, true, true, true, true, true, true, true, true, true, true, true, true, true, true, true, true, true, true, true, true, true, true, true, true, true, true, true, false] rfl rfl (by kernel_rfl) (fun _ _ _ h => h) (by rfl) ?hyr3aa_27 ?har3aa_27 ?_
        case hyr3aa_27 =>
          intro w' hx
          go_simp
          with_reducible rfl
        case har3aa_27 => (simp only [Act.put, List.setIfInBounds_toArray, List.set_cons_zero, List.set_cons_succ]; rfl)
        refine E_take (hR := Ext.pre) (i := 28) (N := (some 4)) (v := ?vr3aa_28) (a' := ?ar3aa_28) #[true, true, true, true, true, true, true, true, true, true, true, true, true, true, true, true, true, true, true, true, true, true, true, true, true, true, true, true, true] rfl rfl (by kernel_rfl) (fun _ _ _ h => h) (by rfl) ?hyr3aa_28 ?har3aa_28 ?_
        case hyr3aa_28 =>
          intro w' hx
          go_simp
          with_reducible rfl
        case har3aa_28 => (simp only [Act.put, List.setIfInBounds_toArray, List.set_cons_zero, List.set_cons_succ]; rfl)
        refine E_done (by kernel_rfl) ?_
        go_wp2
        go_ret
        exact ⟨rfl, hS.below⟩
      · apply E_new1 (i := 13) (N := (some 57)) hS (hR := Ext.alloc _) #[true, true, true, true, true, true, true, true, true, true, true, false, true, true, false, false, false, false, false, false, false, false, false, false, false, false, false, false, false]
        rfl
        rfl
        kernel_rfl
        rfl
        (go_simp; first | with_reducible rfl | (refine ⟨?_, ?_⟩ <;> with_reducible rfl))
        rfl
        rfl
        rfl
        clear hS
        intro b_13 w_ hS
        rintro _ rfl
        simp only [Act.put, List.setIfInBounds_toArray, List.set_cons_zero, List.set_cons_succ]
        refine E_call (i := 11) (N := (some 55)) (args := ?gr3ab_11) #[true, true, true, true, true, true, true, true, true, true, true, true, true, true, false, false, false, false, false, false, false, false, false, false, false, false, false, false, false] rfl rfl (by kernel_rfl) (by rfl) Tryd.func7 (by kernel_rfl) rfl rfl ?hgr3ab_11 ?_
        case hgr3ab_11 => (simp only [List.map_toArray, List.map_cons, List.map_nil]; go_simp; with_reducible rfl)
        refine (sum_any _ 3 3 _ [(x.take p).drop 0, (x.take q).drop p, (x.take n).drop q] _ rfl (RdBB.of (hS.ownRd (by first | exact .here | exact .there .here | exact .there (.there .here) | exact .there (.there (.there .here)) | exact .there (.there (.there (.there .here))) | exact .there (.there (.there (.there (.there .here)))) | exact .there (.there (.there (.there (.there (.there .here))))) | exact .there (.there (.there (.there (.there (.there (.there .here)))))) | exact .there (.there (.there (.there (.there (.there (.there (.there .here))))))))) (Slcs.cons (Slcs.cons (Slcs.cons (Slcs.nil _) (RdB.sub (hS.ownRd (by first | exact .here | exact .there .here | exact .there (.there .here) | exact .there (.there (.there .here)) | exact .there (.there (.there (.there .here))) | exact .there (.there (.there (.there (.there .here)))) | exact .there (.there (.there (.there (.there (.there .here))))) | exact .there (.there (.there (.there (.there (.there (.there .here)))))) | exact .there (.there (.there (.there (.there (.there (.there (.there .here))))))))) (by rw [HN.out]; exact hci)) (by have := HN.out; simp; omega)) (RdB.sub (hS.ownRd (by first | exact .here | exact .there .here | exact .there (.there .here) | exact .there (.there (.there .here)) | exact .there (.there (.there (.there .here))) | exact .there (.there (.there (.there (.there .here)))) | exact .there (.there (.there (.there (.there (.there .here))))) | exact .there (.there (.there (.there (.there (.there (.there .here)))))) | exact .there (.there (.there (.there (.there (.there (.there (.there .here))))))))) (by rw [HN.out]; exact hci)) (by have := HN.out; simp; omega)) (RdB.sub (hS.ownRd (by first | exact .here | exact .there .here | exact .there (.there .here) | exact .there (.there (.there .here)) | exact .there (.there (.there (.there .here))) | exact .there (.there (.there (.there (.there .here)))) | exact .there (.there (.there (.there (.there (.there .here))))) | exact .there (.there (.there (.there (.there (.there (.there .here)))))) | exact .there (.there (.there (.there (.there (.there (.there (.there .here))))))))) (by rw [HN.out]; exact hci)) (by have := HN.out; simp; omega))) (HG.out.keep hS.below) (by have := HN.out; rw [HFL.out]; omega) (by decide)).mono ?_
        rintro e w_ ⟨rfl, hb_⟩
        rw [HFL.out]
        refine ⟨_, rfl, hb_, ?_⟩
        replace hS := hS.ext hb_
        clear hb_
        rintro _ rfl
        simp only [Act.put, List.setIfInBounds_toArray, List.set_cons_zero, List.set_cons_succ]
        refine E_call (i := 14) (N := (some 58)) (args := ?gr3ab_14) #[true, true, true, true, true, true, true, true, true, true, true, true, true, true, true, false, false, false, false, false, false, false, false, false, false, false, false, false, false] rfl rfl (by kernel_rfl) (by rfl) Tryd.func7 (by kernel_rfl) rfl rfl ?hgr3ab_14 ?_
        case hgr3ab_14 => (simp only [List.map_toArray, List.map_cons, List.map_nil]; go_simp; with_reducible rfl)
        refine (sum_any _ 1 1 _ [x] _ rfl (RdBB.of (hS.ownRd (by first | exact .here | exact .there .here | exact .there (.there .here) | exact .there (.there (.there .here)) | exact .there (.there (.there (.there .here))) | exact .there (.there (.there (.there (.there .here)))) | exact .there (.there (.there (.there (.there (.there .here))))) | exact .there (.there (.there (.there (.there (.there (.there .here)))))) | exact .there (.there (.there (.there (.there (.there (.there (.there .here))))))))) (Slcs.cons (Slcs.nil _) (hS.rdp HR.out) HN.out)) (HG.out.keep hS.below) (by have := HN.out; rw [HX.out]; omega) (by decide)).mono ?_
        rintro e w_ ⟨rfl, hb_⟩
        rw [HX.out]
        refine ⟨_, rfl, hb_, ?_⟩
        replace hS := hS.ext hb_
        clear hb_
        rintro _ rfl
        simp only [Act.put, List.setIfInBounds_toArray, List.set_cons_zero, List.set_cons_succ]
        refine E_take (hR := Ext.pre) (i := 15) (N := (some 59)) (v := ?vr3ab_15) (a' := ?ar3ab_15) #[true, true, true, true, true, true, true, true, true, true, true, true, true, true, true, true, false, false, false, false, false, false, false, false, false, false, false, false, false] rfl rfl (by kernel_rfl) (fun _ _ _ h => h) (by rfl) ?hyr3ab_15 ?har3ab_15 ?_
        case hyr3ab_15 =>
          intro w' hx
          go_simp
          with_reducible rfl
        case har3ab_15 => (simp only [Act.put, List.setIfInBounds_toArray, List.set_cons_zero, List.set_cons_succ]; rfl)
        refine E_take (hR := Ext.pre) (i := 16) (N := (some 60)) (v := ?vr3ab_16) (a' := ?ar3ab_16) #[true, true, true, true, true, true, true, true, true, true, true, true, true, true, true, true, true, false, false, false, false, false, false, false, false, false, false, false, false] rfl rfl (by kernel_rfl) (fun _ _ _ h => h) (by rfl) ?hyr3ab_16 ?har3ab_16 ?_
        case hyr3ab_16 =>
          intro w' hx
          go_simp
          with_reducible rfl
        case har3ab_16 => (simp only [Act.put, List.setIfInBounds_toArray, List.set_cons_zero, List.set_cons_succ]; rfl)
        refine E_take (hR := Ext.pre) (i := 17) (N := (some 61)) (v := ?vr3ab_17) (a' := ?ar3ab_17) #[true, true, true, true, true, true, true, true, true, true, true, true, true, true, true, true, true, true, false, false, false, false, false, false, false, false, false, false, false] rfl rfl (by kernel_rfl) (fun _ _ _ h => h) (by rfl) ?hyr3ab_17 ?har3ab_17 ?_
        case hyr3ab_17 =>
          intro w' hx
          go_simp
          with_reducible rfl
        case har3ab_17 => (simp only [Act.put, List.setIfInBounds_toArray, List.set_cons_zero, List.set_cons_succ]; rfl)
        refine E_take (hR := Ext.pre) (i := 18) (N := (some 62)) (v := ?vr3ab_18) (a' := ?ar3ab_18) #[true, true, true, true, true, true, true, true, true, true, true, true, true, true, true, true, true, true, true, false, false, false, false, false, false, false, false, false, false] rfl rfl (by kernel_rfl) (fun _ _ _ h => h) (by rfl) ?hyr3ab_18 ?har3ab_18 ?_
        case hyr3ab_18 =>
          intro w' hx
          have hst := run_str w' (P := Tryd.prog) (A := Ai) (n := n) (c := ci) Tryd.underlying24 Tryd.underlying5 (xs := x) ((hS.ext hx).ownRd (by first | exact .here | exact .there .here | exact .there (.there .here) | exact .there (.there (.there .here)) | exact .there (.there (.there (.there .here))) | exact .there (.there (.there (.there (.there .here)))) | exact .there (.there (.there (.there (.there (.there .here))))) | exact .there (.there (.there (.there (.there (.there (.there .here)))))) | exact .there (.there (.there (.there (.there (.there (.there (.there .here))))))))) HN.out Tryd.underlying9
          go_simp
          with_reducible rfl
        case har3ab_18 => (simp only [Act.put, List.setIfInBounds_toArray, List.set_cons_zero, List.set_cons_succ]; rfl)
        refine E_take (hR := Ext.pre) (i := 19) (N := (some 63)) (v := ?vr3ab_19) (a' := ?ar3ab_19) #[true, true, true, true, true, true, true, true, true, true, true, true, true, true, true, true, true, true, true, true, false, false, false, false, false, false, false, false, false] rfl rfl (by kernel_rfl) (fun _ _ _ h => h) (by rfl) ?hyr3ab_19 ?har3ab_19 ?_
        case hyr3ab_19 =>
          intro w' hx
          go_simp
          with_reducible rfl
        case har3ab_19 => (simp only [Act.put, List.setIfInBounds_toArray, List.set_cons_zero, List.set_cons_succ]; rfl)
        refine E_take (hR := Ext.pre) (i := 20) (N := (some 64)) (v := ?vr3ab_20) (a' := ?ar3ab_20) #[true, true, true, true, true, true, true, true, true, true, true, true, true, true, true, true, true, true, true, true, true, false, false, false, false, false, false, false, false] rfl rfl (by kernel_rfl) (fun _ _ _ h => h) (by rfl) ?hyr3ab_20 ?har3ab_20 ?_
        case hyr3ab_20 =>
          intro w' hx
          have hst := run_str w' (P := Tryd.prog) (A := A0) (n := n) (c := c) Tryd.underlying24 Tryd.underlying5 (xs := x) ((hS.ext hx).rdp HR.out) HN.out Tryd.underlying9
          go_simp
          with_reducible rfl
        case har3ab_20 => (simp only [Act.put, List.setIfInBounds_toArray, List.set_cons_zero, List.set_cons_succ]; rfl)
        refine E_take (hR := Ext.pre) (i := 21) (N := (some 65)) (v := ?vr3ab_21) (a' := ?ar3ab_21) #[true, true, true, true, true, true, true, true, true, true, true, true, true, true, true, true, true, true, true, true, true, true, false, false, false, false, false, false, false] rfl rfl (by kernel_rfl) (fun _ _ _ h => h) (by rfl) ?hyr3ab_21 ?har3ab_21 ?_
        case hyr3ab_21 =>
          intro w' hx
          go_simp
          with_reducible rfl
        case har3ab_21 => (simp only [Act.put, List.setIfInBounds_toArray, List.set_cons_zero, List.set_cons_succ]; rfl)
        refine E_take (hR := Ext.pre) (i := 22) (N := (some 66)) (v := ?vr3ab_22) (a' := ?ar3ab_22) #[true, true, true, true, true, true, true, true, true, true, true, true, true, true, true, true, true, true, true, true, true, true, true, false, false, false, false, false, false] rfl rfl (by kernel_rfl) (fun _ _ _ h => h) (by rfl) ?hyr3ab_22 ?har3ab_22 ?_
        case hyr3ab_22 =>
          intro w' hx
          go_simp
          with_reducible rfl
        case har3ab_22 => (simp only [Act.put, List.setIfInBounds_toArray, List.set_cons_zero, List.set_cons_succ]; rfl)
        refine E_take (hR := Ext.pre) (i := 23) (N := (some 67)) (v := ?vr3ab_23) (a' := ?ar3ab_23) #[true, true, true, true, true, true, true, true, true, true, true, true, true, true, true, true, true, true, true, true, true, true, true, true, false, false, false, false, false] rfl rfl (by kernel_rfl) (fun _ _ _ h => h) (by rfl) ?hyr3ab_23 ?har3ab_23 ?_
        case hyr3ab_23 =>
          intro w' hx
          go_simp
          with_reducible rfl
        case har3ab_23 => (simp only [Act.put, List.setIfInBounds_toArray, List.set_cons_zero, List.set_cons_succ]; rfl)
        refine E_call (i := 24) (N := (some 68)) (args := ?gr3ab_24) #[true, true, true, true, true, true, true, true, true, true, true, true, true, true, true, true, true, true, true, true, true, true, true, true, true, false, false, false, false] rfl rfl (by kernel_rfl) (by rfl) Tryd.func9 (by kernel_rfl) rfl rfl ?hgr3ab_24 ?_
        case hgr3ab_24 => (simp only [List.map_toArray, List.map_cons, List.map_nil]; go_simp; with_reducible rfl)
        refine (fill_any 0 (by decide) _).mono ?_
        rintro e w_ ⟨v_, rfl, hown_, hb_⟩
        rw [HF.out] at hown_
        obtain ⟨Af, cf, rfl, -⟩ := own_rd hown_
        refine ⟨_, rfl, hb_, ?_⟩
        replace hS := hS.got hb_ hown_
        clear hb_ hown_
        rintro _ rfl
        simp only [Act.put, List.setIfInBounds_toArray, List.set_cons_zero, List.set_cons_succ]
        refine E_take (hR := Ext.pre) (i := 25) (N := (some 69)) (v := ?vr3ab_25) (a' := ?ar3ab_25) #[true, true, true, true, true, true, true, true, true, true, true, true, true, true, true, true, true, true, true, true, true, true, true, true, true, true, false, false, false] rfl rfl (by kernel_rfl) (fun _ _ _ h => h) (by rfl) ?hyr3ab_25 ?har3ab_25 ?_
        case hyr3ab_25 =>
          intro w' hx
          go_simp
          with_reducible rfl
        case har3ab_25 => (simp only [Act.put, List.setIfInBounds_toArray, List.set_cons_zero, List.set_cons_succ]; rfl)
        refine E_take (hR := Ext.pre) (i := 26) (N := (some 70)) (v := ?vr3ab_26) (a' := ?ar3ab_26) #[true, true, true, true, true, true, true, true, true, true, true, true, true, true, true, true, true, true, true, true, true, true, true, true, true, true, true, false, false] rfl rfl (by kernel_rfl) (fun _ _ _ h => h) (by rfl) ?hyr3ab_26 ?har3ab_26 ?_
        case hyr3ab_26 =>
          intro w' hx
          go_simp
          with_reducible rfl
        case har3ab_26 => (simp only [Act.put, List.setIfInBounds_toArray, List.set_cons_zero, List.set_cons_succ]; rfl)
        refine E_take (hR := Ext.pre) (i := 27) (N := (some 71)) (v := ?vr3ab_27) (a' := ?ar3ab_27) #[true, true, true, true, true, true, true, true, true, true, true, true, true, true, true, true, true, true, true, true, true, true, true, true, true, true, true, true, false] rfl rfl (by kernel_rfl) (fun _ _ _ h => h) (by rfl) ?hyr3ab_27 ?har3ab_27 ?_
        case hyr3ab_27 =>
          intro w' hx
          go_simp
          with_reducible rfl
        case har3ab_27 => (simp only [Act.put, List.setIfInBounds_toArray, List.set_cons_zero, List.set_cons_succ]; rfl)
        refine E_take (hR := Ext.pre) (i := 28) (N := (some 4)) (v := ?vr3ab_28) (a' := ?ar3ab_28) #[true, true, true, true, true, true, true, true, true, true, true, true, true, true, true, true, true, true, true, true, true, true, true, true, true, true, true, true, true] rfl rfl (by kernel_rfl) (fun _ _ _ h => h) (by rfl) ?hyr3ab_28 ?har3ab_28 ?_
        case hyr3ab_28 =>
          intro w' hx
          go_simp
          with_reducible rfl
        case har3ab_28 => (simp only [Act.put, List.setIfInBounds_toArray, List.set_cons_zero, List.set_cons_succ]; rfl)
        refine E_done (by kernel_rfl) ?_
        go_wp2
        go_ret
        exact ⟨rfl, hS.below⟩
    · apply E_new1 (i := 13) (N := (some 57)) hS (hR := Ext.alloc _) #[true, true, true, true, true, true, true, true, true, true, false, false, true, true, false, false, false, false, false, false, false, false, false, false, false, false, false, false, false]
      rfl
      rfl
      kernel_rfl
      rfl
      (go_simp; first | with_reducible rfl | (refine ⟨?_, ?_⟩ <;> with_reducible rfl))
      rfl
      rfl
      rfl
      clear hS
      intro b_13 w_ hS
      rintro _ rfl
      simp only [Act.put, List.setIfInBounds_toArray, List.set_cons_zero, List.set_cons_succ]
      apply E_new (i := 10) (N := (some 54)) hS (hR := Ext.alloc _) #[true, true, true, true, true, true, true, true, true, true, true, false, true, true, false, false, false, false, false, false, false, false, false, false, false, false, false, false, false]
      rfl
      rfl
      kernel_rfl
      rfl
      (go_simp; first | with_reducible rfl | (refine ⟨?_, ?_⟩ <;> with_reducible rfl))
      rfl
      rfl
      rfl
      clear hS
      intro b_10 w_ hS
      rintro _ rfl
      simp only [Act.put, List.setIfInBounds_toArray, List.set_cons_zero, List.set_cons_succ]
      refine E_call (i := 11) (N := (some 55)) (args := ?gr3b_11) #[true, true, true, true, true, true, true, true, true, true, true, true, true, true, false, false, false, false, false, false, false, false, false, false, false, false, false, false, false] rfl rfl (by kernel_rfl) (by rfl) Tryd.func7 (by kernel_rfl) rfl rfl ?hgr3b_11 ?_
      case hgr3b_11 => (simp only [List.map_toArray, List.map_cons, List.map_nil]; go_simp; with_reducible rfl)
      refine (sum_any _ 3 3 _ [(x.take p).drop 0, (x.take q).drop p, (x.take n).drop q] _ rfl (RdBB.of (hS.ownRd (by first | exact .here | exact .there .here | exact .there (.there .here) | exact .there (.there (.there .here)) | exact .there (.there (.there (.there .here))) | exact .there (.there (.there (.there (.there .here)))) | exact .there (.there (.there (.there (.there (.there .here))))) | exact .there (.there (.there (.there (.there (.there (.there .here)))))) | exact .there (.there (.there (.there (.there (.there (.there (.there .here))))))))) (Slcs.cons (Slcs.cons (Slcs.cons (Slcs.nil _) (RdB.sub (hS.ownRd (by first | exact .here | exact .there .here | exact .there (.there .here) | exact .there (.there (.there .here)) | exact .there (.there (.there (.there .here))) | exact .there (.there (.there (.there (.there .here)))) | exact .there (.there (.there (.there (.there (.there .here))))) | exact .there (.there (.there (.there (.there (.there (.there .here)))))) | exact .there (.there (.there (.there (.there (.there (.there (.there .here))))))))) (by rw [HN.out]; exact hci)) (by have := HN.out; simp; omega)) (RdB.sub (hS.ownRd (by first | exact .here | exact .there .here | exact .there (.there .here) | exact .there (.there (.there .here)) | exact .there (.there (.there (.there .here))) | exact .there (.there (.there (.there (.there .here)))) | exact .there (.there (.there (.there (.there (.there .here))))) | exact .there (.there (.there (.there (.there (.there (.there .here)))))) | exact .there (.there (.there (.there (.there (.there (.there (.there .here))))))))) (by rw [HN.out]; exact hci)) (by have := HN.out; simp; omega)) (RdB.sub (hS.ownRd (by first | exact .here | exact .there .here | exact .there (.there .here) | exact .there (.there (.there .here)) | exact .there (.there (.there (.there .here))) | exact .there (.there (.there (.there (.there .here)))) | exact .there (.there (.there (.there (.there (.there .here))))) | exact .there (.there (.there (.there (.there (.there (.there .here)))))) | exact .there (.there (.there (.there (.there (.there (.there (.there .here))))))))) (by rw [HN.out]; exact hci)) (by have := HN.out; simp; omega))) (HG.out.keep hS.below) (by have := HN.out; rw [HFL.out]; omega) (by decide)).mono ?_
      rintro e w_ ⟨rfl, hb_⟩
      rw [HFL.out]
      refine ⟨_, rfl, hb_, ?_⟩
      replace hS := hS.ext hb_
      clear hb_
      rintro _ rfl
      simp only [Act.put, List.setIfInBounds_toArray, List.set_cons_zero, List.set_cons_succ]
      refine E_call (i := 14) (N := (some 58)) (args := ?gr3b_14) #[true, true, true, true, true, true, true, true, true, true, true, true, true, true, true, false, false, false, false, false, false, false, false, false, false, false, false, false, false] rfl rfl (by kernel_rfl) (by rfl) Tryd.func7 (by kernel_rfl) rfl rfl ?hgr3b_14 ?_
      case hgr3b_14 => (simp only [List.map_toArray, List.map_cons, List.map_nil]; go_simp; with_reducible rfl)
      refine (sum_any _ 1 1 _ [x] _ rfl (RdBB.of (hS.ownRd (by first | exact .here | exact .there .here | exact .there (.there .here) | exact .there (.there (.there .here)) | exact .there (.there (.there (.there .here))) | exact .there (.there (.there (.there (.there .here)))) | exact .there (.there (.there (.there (.there (.there .here))))) | exact .there (.there (.there (.there (.there (.there (.there .here)))))) | exact .there (.there (.there (.there (.there (.there (.there (.there .here))))))))) (Slcs.cons (Slcs.nil _) (hS.rdp HR.out) HN.out)) (HG.out.keep hS.below) (by have := HN.out; rw [HX.out]; omega) (by decide)).mono ?_
      rintro e w_ ⟨rfl, hb_⟩
      rw [HX.out]
      refine ⟨_, rfl, hb_, ?_⟩
      replace hS := hS.ext hb_
      clear hb_
      rintro _ rfl
      simp only [Act.put, List.setIfInBounds_toArray, List.set_cons_zero, List.set_cons_succ]
      refine E_take (hR := Ext.pre) (i := 15) (N := (some 59)) (v := ?vr3b_15) (a' := ?ar3b_15) #[true, true, true, true, true, true, true, true, true, true, true, true, true, true, true, true, false, false, false, false, false, false, false, false, false, false, false, false, false] rfl rfl (by kernel_rfl) (fun _ _ _ h => h) (by rfl) ?hyr3b_15 ?har3b_15 ?_
      case hyr3b_15 =>
        intro w' hx
        go_simp
        with_reducible rfl
      case har3b_15 => (simp only [Act.put, List.setIfInBounds_toArray, List.set_cons_zero, List.set_cons_succ]; rfl)
      refine E_take (hR := Ext.pre) (i := 16) (N := (some 60)) (v := ?vr3b_16) (a' := ?ar3b_16) #[true, true, true, true, true, true, true, true, true, true, true, true, true, true, true, true, true, false, false, false, false, false, false, false, false, false, false, false, false] rfl rfl (by kernel_rfl) (fun _ _ _ h => h) (by rfl) ?hyr3b_16 ?har3b_16 ?_
      case hyr3b_16 =>
        intro w' hx
        go_simp
        with_reducible rfl
      case har3b_16 => (simp only [Act.put, List.setIfInBounds_toArray, List.set_cons_zero, List.set_cons_succ]; rfl)
      refine E_take (hR := Ext.pre) (i := 17) (N := (some 61)) (v := ?vr3b_17) (a' := ?ar3b_17) #[true, true, true, true, true, true, true, true, true, true, true, true, true, true, true, true, true, true, false, false, false, false, false, false, false, false, false, false, false] rfl rfl (by kernel_rfl) (fun _ _ _ h => h) (by rfl) ?hyr3b_17 ?har3b_17 ?_
      case hyr3b_17 =>
        intro w' hx
        go_simp
        with_reducible rfl
      case har3b_17 => (simp only [Act.put, List.setIfInBounds_toArray, List.set_cons_zero, List.set_cons_succ]; rfl)
      refine E_take (hR := Ext.pre) (i := 18) (N := (some 62)) (v := ?vr3b_18) (a' := ?ar3b_18) #[true, true, true, true, true, true, true, true, true, true, true, true, true, true, true, true, true, true, true, false, false, false, false, false, false, false, false, false, false] rfl rfl (by kernel_rfl) (fun _ _ _ h => h) (by rfl) ?hyr3b_18 ?har3b_18 ?_
      case hyr3b_18 =>
        intro w' hx
        have hst := run_str w' (P := Tryd.prog) (A := Ai) (n := n) (c := ci) Tryd.underlying24 Tryd.underlying5 (xs := x) ((hS.ext hx).ownRd (by first | exact .here | exact .there .here | exact .there (.there .here) | exact .there (.there (.there .here)) | exact .there (.there (.there (.there .here))) | exact .there (.there (.there (.there (.there .here)))) | exact .there (.there (.there (.there (.there (.there .here))))) | exact .there (.there (.there (.there (.there (.there (.there .here)))))) | exact .there (.there (.there (.there (.there (.there (.there (.there .here))))))))) HN.out Tryd.underlying9
        go_simp
        with_reducible rfl
      case har3b_18 => (simp only [Act.put, List.setIfInBounds_toArray, List.set_cons_zero, List.set_cons_succ]; rfl)
      refine E_take (hR := Ext.pre) (i := 19) (N := (some 63)) (v := ?vr3b_19) (a' := ?ar3b_19) #[true, true, true, true, true, true, true, true, true, true, true, true, true, true, true, true, true, true, true, true, false, false, false, false, false, false, false, false, false] rfl rfl (by kernel_rfl) (fun _ _ _ h => h) (by rfl) ?hyr3b_19 ?har3b_19 ?_
      case hyr3b_19 =>
        intro w' hx
        go_simp
        with_reducible rfl
      case har3b_19 => (simp only [Act.put, List.setIfInBounds_toArray, List.set_cons_zero, List.set_cons_succ]; rfl)
      refine E_take (hR := Ext.pre) (i := 20) (N := (some 64)) (v := ?vr3b_20) (a' := ?ar3b_20) #[true, true, true, true, true, true, true, true, true, true, true, true, true, true, true, true, true, true, true, true, true, false, false, false, false, false, false, false, false] rfl rfl (by kernel_rfl) (fun _ _ _ h => h) (by rfl) ?hyr3b_20 ?har3b_20 ?_
      case hyr3b_20 =>
        intro w' hx
        have hst := run_str w' (P := Tryd.prog) (A := A0) (n := n) (c := c) Tryd.underlying24 Tryd.underlying5 (xs := x) ((hS.ext hx).rdp HR.out) HN.out Tryd.underlying9
        go_simp
        with_reducible rfl
      case har3b_20 => (simp only [Act.put, List.setIfInBounds_toArray, List.set_cons_zero, List.set_cons_succ]; rfl)
      refine E_take (hR := Ext.pre) (i := 21) (N := (some 65)) (v := ?vr3b_21) (a' := ?ar3b_21) #[true, true, true, true, true, true, true, true, true, true, true, true, true, true, true, true, true, true, true, true, true, true, false, false, false, false, false, false, false] rfl rfl (by kernel_rfl) (fun _ _ _ h => h) (by rfl) ?hyr3b_21 ?har3b_21 ?_
      case hyr3b_21 =>
        intro w' hx
        go_simp
        with_reducible rfl
      case har3b_21 => (simp only [Act.put, List.setIfInBounds_toArray, List.set_cons_zero, List.set_cons_succ]; rfl)
      refine E_take (hR := Ext.pre) (i := 22) (N := (some 66)) (v := ?vr3b_22) (a' := ?ar3b_22) #[true, true, true, true, true, true, true, true, true, true, true, true, true, true, true, true, true, true, true, true, true, true, true, false, false, false, false, false, false] rfl rfl (by kernel_rfl) (fun _ _ _ h => h) (by rfl) ?hyr3b_22 ?har3b_22 ?_
      case hyr3b_22 =>
        intro w' hx
        go_simp
        with_reducible rfl
      case har3b_22 => (simp only [Act.put, List.setIfInBounds_toArray, List.set_cons_zero, List.set_cons_succ]; rfl)
      refine E_take (hR := Ext.pre) (i := 23) (N := (some 67)) (v := ?vr3b_23) (a' := ?ar3b_23) #[true, true, true, true, true, true, true, true, true, true, true, true, true, true, true, true, true, true, true, true, true, true, true, true, false, false, false, false, false] rfl rfl (by kernel_rfl) (fun _ _ _ h => h) (by rfl) ?hyr3b_23 ?har3b_23 ?_
      case hyr3b_23 =>
        intro w' hx
        go_simp
        with_reducible rfl
      case har3b_23 => (simp only [Act.put, List.setIfInBounds_toArray, List.set_cons_zero, List.set_cons_succ]; rfl)
      refine E_call (i := 24) (N := (some 68)) (args := ?gr3b_24) #[true, true, true, true, true, true, true, true, true, true, true, true, true, true, true, true, true, true, true, true, true, true, true, true, true, false, false, false, false] rfl rfl (by kernel_rfl) (by rfl) Tryd.func9 (by kernel_rfl) rfl rfl ?hgr3b_24 ?_
      case hgr3b_24 => (simp only [List.map_toArray, List.map_cons, List.map_nil]; go_simp; with_reducible rfl)
      refine (fill_any 0 (by decide) _).mono ?_
      rintro e w_ ⟨v_, rfl, hown_, hb_⟩
      rw [HF.out] at hown_
      obtain ⟨Af, cf, rfl, -⟩ := own_rd hown_
      refine ⟨_, rfl, hb_, ?_⟩
      replace hS := hS.got hb_ hown_
      clear hb_ hown_
      rintro _ rfl
      simp only [Act.put, List.setIfInBounds_toArray, List.set_cons_zero, List.set_cons_succ]
      refine E_take (hR := Ext.pre) (i := 25) (N := (some 69)) (v := ?vr3b_25) (a' := ?ar3b_25) #[true, true, true, true, true, true, true, true, true, true, true, true, true, true, true, true, true, true, true, true, true, true, true, true, true, true, false, false, false] rfl rfl (by kernel_rfl) (fun _ _ _ h => h) (by rfl) ?hyr3b_25 ?har3b_25 ?_
      case hyr3b_25 =>
        intro w' hx
        go_simp
        with_reducible rfl
      case har3b_25 => (simp only [Act.put, List.setIfInBounds_toArray, List.set_cons_zero, List.set_cons_succ]; rfl)
      refine E_take (hR := Ext.pre) (i := 26) (N := (some 70)) (v := ?vr3b_26) (a' := ?ar3b_26) #[true, true, true, true, true, true, true, true, true, true, true, true, true, true, true, true, true, true, true, true, true, true, true, true, true, true, true, false, false] rfl rfl (by kernel_rfl) (fun _ _ _ h => h) (by rfl) ?hyr3b_26 ?har3b_26 ?_
      case hyr3b_26 =>
        intro w' hx
        go_simp
        with_reducible rfl
      case har3b_26 => (simp only [Act.put, List.setIfInBounds_toArray, List.set_cons_zero, List.set_cons_succ]; rfl)
      refine E_take (hR := Ext.pre) (i := 27) (N := (some 71)) (v := ?vr3b_27) (a' := ?ar3b_27) #[true, true, true, true, true, true, true, true, true, true, true, true, true, true, true, true, true, true, true, true, true, true, true, true, true, true, true, true, false] rfl rfl (by kernel_rfl) (fun _ _ _ h => h) (by rfl) ?hyr3b_27 ?har3b_27 ?_
      case hyr3b_27 =>
        intro w' hx
        go_simp
        with_reducible rfl
      case har3b_27 => (simp only [Act.put, List.setIfInBounds_toArray, List.set_cons_zero, List.set_cons_succ]; rfl)
      refine E_take (hR := Ext.pre) (i := 28) (N := (some 4)) (v := ?vr3b_28) (a' := ?ar3b_28) #[true, true, true, true, true, true, true, true, true, true, true, true, true, true, true, true, true, true, true, true, true, true, true, true, true, true, true, true, true] rfl rfl (by kernel_rfl) (fun _ _ _ h => h) (by rfl) ?hyr3b_28 ?har3b_28 ?_
      case hyr3b_28 =>
        intro w' hx
        go_simp
        with_reducible rfl
      case har3b_28 => (simp only [Act.put, List.setIfInBounds_toArray, List.set_cons_zero, List.set_cons_succ]; rfl)
      refine E_done (by kernel_rfl) ?_
      go_wp2
      go_ret
      exact ⟨rfl, hS.below⟩
theorem cuts_row (A0 : Option Addr) (n c : Nat) (x : List UInt8) (w : World) (hn : x.length = n) (hr : RdB w A0 x) (hc : n ≤ c) (z : List Int) (hz : z.length = 2) (wz : ∀ y ∈ z, (Lit.int .i64 y).wf = true) (hG : GK w) :
    Calls Tryd.prog 4 #[.slice A0 n c, .agg (z.map (Value.int .i64)).toArray] w fun e w' => e = .returned (.bool true) ∧ Below w.heap.size w w' := by
  match z, hz with
  | [a, b], _ =>
    have key : ∀ y : Int, (Lit.int .i64 y).wf = true → -9223372036854775808 ≤ y ∧ y ≤ 9223372036854775807 := fun y hy => by
      simpa [Lit.wf, IntKind.min, IntKind.max, IntKind.signed, IntKind.bits] using hy
    exact cuts_walk A0 n c x a b w hn hr hc (key a (wz a (by simp))) (key b (wz b (by simp))) hG
end Go.Proofs.YtiihcgiakmienaaDoor
