/- The walk of Sums. -/
import Derived.Test.YtiihcgiakmienaaDoorShA
import Derived.Test.YtiihcgiakmienaaDoorPAll
import Derived.Test.YtiihcgiakmienaaDoorSt
namespace Go.Proofs.YtiihcgiakmienaaDoor
open Go.RowKit Go.Proofs.YtiihcgiakmienaaDoor.Pure Go.Proofs.YtiihcgiakmienaaDoor.PB Go.Proofs.YtiihcgiakmienaaDoorW.PrintWords

theorem u8s_flatten (l : List (List Int)) : u8s l.flatten = (l.map u8s).flatten := by
  unfold u8s
  rw [List.map_flatten]
theorem isB8_flatten {l : List (List Int)} (h : l.all isB8 = true) : isB8 l.flatten = true := by
  unfold isB8
  rw [List.all_eq_true] at h ⊢
  intro z hz
  obtain ⟨x, hx, hzx⟩ := List.mem_flatten.1 hz
  exact List.all_eq_true.1 (h x hx) z hzx

theorem arrA (s : List UInt8) : ((i8s s).map (Value.int .u8)).toArray = (s.map bV).toArray := by
  unfold i8s
  rw [List.map_map]; rfl
theorem run_eql_arrA (s : List UInt8) (w : World) (h : s.length = 64 := by first | assumption | exact sumF_length _) : (binOp .eql 26 (.agg (s.map bV).toArray) (.agg (s.map bV).toArray)).run Tryd.prog w = .ok (.bool true) w := by
  rw [← arrA]
  exact run_eql_same w Tryd.underlying26 Tryd.underlying5 (by kernel_rfl) (i8s s) (by rw [i8s_length]; exact h)

theorem bb1 {w : World} {b : Nat} {A : Option Addr} {l c : Nat} {d : List UInt8} (h1 : Rd w (some ⟨b, 0, none⟩) [.slice A l c]) (h2 : Rd w A (d.map bV)) (hl : d.length = l) : RdBB w (some ⟨b, 0, none⟩) [.slice A l c] [d] := by
  refine ⟨h1, rfl, fun i xs hi => ?_⟩
  match i, hi with
  | 0, hi => cases hi; exact ⟨A, c, by rw [hl]; rfl, h2⟩
  | i + 1, hi => simp at hi

set_option maxRecDepth 100000 in
set_option maxHeartbeats 800000 in
theorem sums_walk (A0 : Option Addr) (c0 : Nat) (l : List (List Int)) (w : World) (hC : Kd.C (Kd.slice 5 (Kd.int .u8)) w A0 l.length l) (hc : l.length ≤ c0) (hB : l.all isB8 = true) (hG : GK w) :
    Calls Tryd.prog 3 #[.slice A0 l.length c0] w fun e w' => e = .returned (.bool true) ∧ Below w.heap.size w w' := by
  have hb := Below.refl w.heap.size w
  have HG := Lib.hid hG
  have HC := Lib.hid hC
  have HBB := Lib.hid hB
  obtain ⟨vs, hR⟩ := RdBB_of_C hC hB
  have HR := Lib.hid hR
  clear hG hC hB hR
  by_cases h10 : 10 < l.length
  · go_enter Tryd.func3, Tryd.ntmps3
    go_wp2_with (go_at_call 5; refine (awake_acc w _ (HG.out.keep hb) hb).mono ?_; clear hb; rintro e w1 ⟨rfl, hb⟩)
    go_ret
    exact ⟨rfl, hb⟩
  go_enter Tryd.func3, Tryd.ntmps3
  go_wp2_with (go_at_call 5; refine (awake_acc w _ (HG.out.keep hb) hb).mono ?_; clear hb; rintro e w1 ⟨rfl, hb⟩)
  go_loopw [3] (fun i wr => ∃ k : Nat, i = .int .i64 (k : Int) ∧ k ≤ l.length ∧ Hid (∀ x ∈ l.take k, x.length ≤ 200) ∧ w1 = wr) (fun i _ => l.length - (intOf i).toNat)
  case atStart => exact ⟨0, rfl, Nat.zero_le _, Lib.hid (by simp), rfl⟩
  case round =>
    obtain ⟨k, rfl, hk, HS, rfl⟩ := hrel
    by_cases hlt : k < l.length
    · obtain ⟨b, o, Ai, ci, rfl, hcell, -⟩ := (HR.out.keep hb).at (i := k) (by rw [List.length_map]; exact hlt)
      have HT := Lib.hid (List.take_succ_eq_append_getElem hlt)
      rw [List.getElem_map, u8s_length] at hcell
      generalize hx : l[k].length = m at *
      have HX := Lib.hid hx
      clear hx
      by_cases h200 : 200 < m
      · go_wp2
        go_ret
        exact ⟨rfl, hb⟩
      · go_wp2
        go_roundw
        case rel => exact ⟨k + 1, by simp, by omega, Lib.hid (by rw [HT.out]; intro x hx; rcases List.mem_append.1 hx with h | h; exact HS.out x h; (obtain rfl := List.mem_singleton.1 h; rw [HX.out]; omega)), trivial⟩
        case measure => simp [intOf]; omega
    · have hkl : k = l.length := by omega
      have HS2 : ∀ x ∈ l, x.length ≤ 200 := by have := HS.out; rwa [hkl, List.take_length] at this
      have hfl : l.flatten.length ≤ 2000 := by
        have : ∀ (l : List (List Int)), (∀ x ∈ l, x.length ≤ 200) → l.flatten.length ≤ 200 * l.length := by
          intro l
          induction l with
          | nil => intro _; simp
          | cons x l ih =>
            intro h
            rw [List.flatten_cons, List.length_append, List.length_cons]
            have h1 := h x (by simp)
            have h2 := ih fun y hy => h y (by simp [hy])
            omega
        have := this l HS2
        omega
      obtain ⟨ka, hka⟩ := refAll l (by omega) (by omega)
      have HKA := Lib.hid (hka ka (Nat.le_refl _))
      clear hka HS2 HS
      have HXS := Lib.hid (u8s_flatten l)
      have HB8 := Lib.hid (isB8_flatten HBB.out)
      obtain ⟨kr, hkr⟩ := refSum (u8s l.flatten) (by rw [u8s_length]; omega)
      rw [i8s_u8s HB8.out] at hkr
      have HKR := Lib.hid (hkr kr (Nat.le_refl _))
      clear hkr
      generalize hg0 : l.flatten = fl at *
      clear hg0
      have hS := St.of_below hb
      clear hb
      go_upto_region 10 with (first | (go_at_call 6; refine (turnkeyref01_All.calls ka A0 c0 l fl w1 (Kd.C_below HC.out hS.below) hc HKA.out).mono ?_; rintro e w2 ⟨v2, rfl, hR2, hb2⟩; have hown2 := own_of_RB hR2 HB8.out; obtain ⟨A2, c2, rfl, hlc2, -⟩ := own_rd hown2; replace hS := hS.got hb2 hown2; clear hown2 hR2 hb2) | (go_at_call 7; (with_reducible show Calls _ _ #[.slice (some _) 1 1] _ _); refine (sum_any _ 1 1 _ [u8s fl] _ rfl (bb1 (hS.ownRd .here) (hS.ownRd (.there .here)) (u8s_length _)) (HG.out.keep hS.below) (by rw [show [u8s fl].flatten = u8s fl by simp, u8s_length]; omega) (by decide)).mono ?_; rintro e w4 ⟨rfl, hb4⟩; rw [show [u8s fl].flatten = u8s fl by simp]; replace hS := hS.ext hb4; clear hb4) | (go_at_call 7; (with_reducible show Calls _ _ #[.slice A0 _ _] _ _); refine (sum_any A0 l.length c0 vs (l.map u8s) _ (by simp) (HR.out.keep hS.below) (HG.out.keep hS.below) (by rw [← HXS.out, u8s_length]; omega) (by omega)).mono ?_; rintro e w3 ⟨rfl, hb3⟩; rw [← HXS.out]; replace hS := hS.ext hb3; clear hb3) | ((with_reducible show wpList _ _ _ (⟨some 32, Op.buildSlice _ _ _, _, _, _, _⟩ :: _) _ _); go_loud (apply S_bslice hS; rfl; (go_simp; first | with_reducible rfl | (refine ⟨?_, ?_⟩ <;> with_reducible rfl)); rfl; rfl; rfl; rfl; clear hS; intro b32 w_ hS)) | ((with_reducible show wpList _ _ _ (⟨some 5, Op.alloc _, _, _, _, _⟩ :: _) _ _); go_loud (refine S_alloc (z := .agg (List.replicate 64 (.int .u8 0)).toArray) (L := (List.replicate 64 (.int .u8 0))) hS rfl rfl ?_ ?_ ?_; kernel_rfl; kernel_rfl; clear hS; intro bd w_ hS)) | ((with_reducible show wpList _ _ _ (⟨some 6, Op.alloc _, _, _, _, _⟩ :: _) _ _); go_loud (refine S_alloc (z := .agg (List.replicate 64 (.int .u8 0)).toArray) (L := (List.replicate 64 (.int .u8 0))) hS rfl rfl ?_ ?_ ?_; kernel_rfl; kernel_rfl; clear hS; intro be w_ hS)) | ((with_reducible show wpList _ _ _ (⟨_, Op.store _ _ _, _, _, _, _⟩ :: _) _ _); go_loud (apply S_stAll hS; rfl; rfl; rfl; rfl; (first | exact .here | exact .there .here | exact .there (.there .here) | exact .there (.there (.there .here)) | exact .there (.there (.there (.there .here))) | exact .there (.there (.there (.there (.there .here)))) | exact .there (.there (.there (.there (.there (.there .here))))) | exact .there (.there (.there (.there (.there (.there (.there .here)))))) | exact .there (.there (.there (.there (.there (.there (.there (.there .here)))))))); (first | assumption | (simp [bV, wV, Value.oneCell'])); (first | rfl | (rw [List.length_map, sumF_length]; rfl)); (first | rfl | (rw [List.length_map, sumF_length]; rfl)); clear hS; intro w_ hS)))
      have HSL := Lib.hid (sumF_length (u8s fl))
      have QE := fun wx => run_eql_arrA (sumF (u8s fl)) wx
      have HLC := Lib.hid hlc2
      have HF1 := Lib.hid (show fl.length ≤ 9223372036854775807 by omega)
      clear hlc2
      refine E_start (hR := Ext.pre) #[false, false, false, false, false, false, false, false, false, false, false, false, false, false, false, false, false, false, false] (by kernel_rfl) rfl rfl (fun w_z1 hx_z1 he_z1 => ?_)
      clear he_z1
      replace hS := hS.ext hx_z1; clear hx_z1
      refine E_take (hR := Ext.pre) (i := 0) (N := (some 34)) (v := ?vz1_0) (a' := ?az1_0) #[true, false, false, false, false, false, false, false, false, false, false, false, false, false, false, false, false, false, false] rfl rfl (by kernel_rfl) (fun _ _ _ h => h) (by rfl) ?hyz1_0 ?haz1_0 ?_
      case hyz1_0 =>
        intro w' hx
        (first | (apply Eq.trans; (apply R_slice; rfl; rfl; (first | exact SB.no | exact SB.so); (first | exact SB.no | exact SB.so); rfl; rfl; (first | assumption | omega); (first | assumption | omega)); with_reducible rfl) | (go_simp; with_reducible rfl))
      case haz1_0 => (simp only [Act.put, List.setIfInBounds_toArray, List.set_cons_zero, List.set_cons_succ]; rfl)
      refine E_take (hR := Ext.pre) (i := 1) (N := (some 35)) (v := ?vz1_1) (a' := ?az1_1) #[true, true, false, false, false, false, false, false, false, false, false, false, false, false, false, false, false, false, false] rfl rfl (by kernel_rfl) (fun _ _ _ h => h) (by rfl) ?hyz1_1 ?haz1_1 ?_
      case hyz1_1 =>
        intro w' hx
        have hst := run_str w' (P := Tryd.prog) (A := some ⟨bd, 0, none⟩) (n := 64) (c := 64) Tryd.underlying24 Tryd.underlying5 (xs := sumF (u8s fl)) ((hS.ext hx).blkRd (by first | exact .here | exact .there .here | exact .there (.there .here) | exact .there (.there (.there .here)) | exact .there (.there (.there (.there .here))) | exact .there (.there (.there (.there (.there .here)))) | exact .there (.there (.there (.there (.there (.there .here))))) | exact .there (.there (.there (.there (.there (.there (.there .here)))))) | exact .there (.there (.there (.there (.there (.there (.there (.there .here))))))))) HSL.out Tryd.underlying9
        go_simp
        with_reducible rfl
      case haz1_1 => (simp only [Act.put, List.setIfInBounds_toArray, List.set_cons_zero, List.set_cons_succ]; rfl)
      refine E_take (hR := Ext.pre) (i := 2) (N := (some 36)) (v := ?vz1_2) (a' := ?az1_2) #[true, true, true, false, false, false, false, false, false, false, false, false, false, false, false, false, false, false, false] rfl rfl (by kernel_rfl) (fun _ _ _ h => h) (by rfl) ?hyz1_2 ?haz1_2 ?_
      case hyz1_2 =>
        intro w' hx
        go_simp
        with_reducible rfl
      case haz1_2 => (simp only [Act.put, List.setIfInBounds_toArray, List.set_cons_zero, List.set_cons_succ]; rfl)
      refine E_call (i := 3) (N := (some 37)) (args := ?gz1_3) #[true, true, true, true, false, false, false, false, false, false, false, false, false, false, false, false, false, false, false] rfl rfl (by kernel_rfl) (by rfl) Tryd.func8 (by kernel_rfl) rfl rfl ?hgz1_3 ?_
      case hgz1_3 => (simp only [List.map_toArray, List.map_cons, List.map_nil]; go_simp; with_reducible rfl)
      refine (PB.turnkeyref04_Sum.calls kr A2 c2 fl (str (sumF (u8s fl))) _ (by have := C_of_RdB (hS.ownRd (by first | exact .here | exact .there .here | exact .there (.there .here) | exact .there (.there (.there .here)) | exact .there (.there (.there (.there .here))) | exact .there (.there (.there (.there (.there .here)))) | exact .there (.there (.there (.there (.there (.there .here))))) | exact .there (.there (.there (.there (.there (.there (.there .here)))))) | exact .there (.there (.there (.there (.there (.there (.there (.there .here))))))))) (u8s_length fl) HF1.out; rwa [i8s_u8s HB8.out] at this) HLC.out HKR.out).mono ?_
      rintro e w6 ⟨rfl, hb6⟩
      refine ⟨_, rfl, hb6, ?_⟩
      replace hS := hS.ext hb6
      clear hb6
      rintro _ rfl
      simp only [Act.put, List.setIfInBounds_toArray, List.set_cons_zero, List.set_cons_succ]
      refine E_take (hR := Ext.pre) (i := 4) (N := (some 38)) (v := ?vz1_4) (a' := ?az1_4) #[true, true, true, true, true, false, false, false, false, false, false, false, false, false, false, false, false, false, false] rfl rfl (by kernel_rfl) (fun _ _ _ h => h) (by rfl) ?hyz1_4 ?haz1_4 ?_
      case hyz1_4 =>
        intro w' hx
        go_simp
        with_reducible rfl
      case haz1_4 => (simp only [Act.put, List.setIfInBounds_toArray, List.set_cons_zero, List.set_cons_succ]; rfl)
      refine E_take (hR := Ext.pre) (i := 5) (N := (some 39)) (v := ?vz1_5) (a' := ?az1_5) #[true, true, true, true, true, true, false, false, false, false, false, false, false, false, false, false, false, false, false] rfl rfl (by kernel_rfl) (fun _ _ _ h => h) (by rfl) ?hyz1_5 ?haz1_5 ?_
      case hyz1_5 =>
        intro w' hx
        go_simp
        with_reducible rfl
      case haz1_5 => (simp only [Act.put, List.setIfInBounds_toArray, List.set_cons_zero, List.set_cons_succ]; rfl)
      refine E_take (hR := Ext.pre) (i := 6) (N := (some 40)) (v := ?vz1_6) (a' := ?az1_6) #[true, true, true, true, true, true, true, false, false, false, false, false, false, false, false, false, false, false, false] rfl rfl (by kernel_rfl) (fun _ _ _ h => h) (by rfl) ?hyz1_6 ?haz1_6 ?_
      case hyz1_6 =>
        intro w' hx
        (first | (apply Eq.trans; (first | (apply R_ld (hS.ext hx); rfl; rfl; (first | exact .here | exact .there .here | exact .there (.there .here) | exact .there (.there (.there .here)) | exact .there (.there (.there (.there .here))) | exact .there (.there (.there (.there (.there .here)))) | exact .there (.there (.there (.there (.there (.there .here))))) | exact .there (.there (.there (.there (.there (.there (.there .here)))))) | exact .there (.there (.there (.there (.there (.there (.there (.there .here)))))))); rfl; (first | rfl | exact mapGet _ (by first | assumption | omega))) | (apply R_ldAll (hS.ext hx); rfl; rfl; (first | exact .here | exact .there .here | exact .there (.there .here) | exact .there (.there (.there .here)) | exact .there (.there (.there (.there .here))) | exact .there (.there (.there (.there (.there .here)))) | exact .there (.there (.there (.there (.there (.there .here))))) | exact .there (.there (.there (.there (.there (.there (.there .here)))))) | exact .there (.there (.there (.there (.there (.there (.there (.there .here)))))))); rfl; (first | rfl | (simp only [List.length_map, sumF_length]; rfl))) | (apply R_ldOwn (hS.ext hx); rfl; rfl; (first | exact .here | exact .there .here | exact .there (.there .here) | exact .there (.there (.there .here)) | exact .there (.there (.there (.there .here))) | exact .there (.there (.there (.there (.there .here)))) | exact .there (.there (.there (.there (.there (.there .here))))) | exact .there (.there (.there (.there (.there (.there (.there .here)))))) | exact .there (.there (.there (.there (.there (.there (.there (.there .here)))))))); rfl; (first | rfl | exact mapGet _ (by first | assumption | omega)))); with_reducible rfl) | (go_simp; with_reducible rfl))
      case haz1_6 => (simp only [Act.put, List.setIfInBounds_toArray, List.set_cons_zero, List.set_cons_succ]; rfl)
      refine E_take (hR := Ext.pre) (i := 7) (N := (some 41)) (v := ?vz1_7) (a' := ?az1_7) #[true, true, true, true, true, true, true, true, false, false, false, false, false, false, false, false, false, false, false] rfl rfl (by kernel_rfl) (fun _ _ _ h => h) (by rfl) ?hyz1_7 ?haz1_7 ?_
      case hyz1_7 =>
        intro w' hx
        (first | (apply Eq.trans; (first | (apply R_ld (hS.ext hx); rfl; rfl; (first | exact .here | exact .there .here | exact .there (.there .here) | exact .there (.there (.there .here)) | exact .there (.there (.there (.there .here))) | exact .there (.there (.there (.there (.there .here)))) | exact .there (.there (.there (.there (.there (.there .here))))) | exact .there (.there (.there (.there (.there (.there (.there .here)))))) | exact .there (.there (.there (.there (.there (.there (.there (.there .here)))))))); rfl; (first | rfl | exact mapGet _ (by first | assumption | omega))) | (apply R_ldAll (hS.ext hx); rfl; rfl; (first | exact .here | exact .there .here | exact .there (.there .here) | exact .there (.there (.there .here)) | exact .there (.there (.there (.there .here))) | exact .there (.there (.there (.there (.there .here)))) | exact .there (.there (.there (.there (.there (.there .here))))) | exact .there (.there (.there (.there (.there (.there (.there .here)))))) | exact .there (.there (.there (.there (.there (.there (.there (.there .here)))))))); rfl; (first | rfl | (simp only [List.length_map, sumF_length]; rfl))) | (apply R_ldOwn (hS.ext hx); rfl; rfl; (first | exact .here | exact .there .here | exact .there (.there .here) | exact .there (.there (.there .here)) | exact .there (.there (.there (.there .here))) | exact .there (.there (.there (.there (.there .here)))) | exact .there (.there (.there (.there (.there (.there .here))))) | exact .there (.there (.there (.there (.there (.there (.there .here)))))) | exact .there (.there (.there (.there (.there (.there (.there (.there .here)))))))); rfl; (first | rfl | exact mapGet _ (by first | assumption | omega)))); with_reducible rfl) | (go_simp; with_reducible rfl))
      case haz1_7 => (simp only [Act.put, List.setIfInBounds_toArray, List.set_cons_zero, List.set_cons_succ]; rfl)
      refine E_take (hR := Ext.pre) (i := 8) (N := (some 42)) (v := ?vz1_8) (a' := ?az1_8) #[true, true, true, true, true, true, true, true, true, false, false, false, false, false, false, false, false, false, false] rfl rfl (by kernel_rfl) (fun _ _ _ h => h) (by rfl) ?hyz1_8 ?haz1_8 ?_
      case hyz1_8 =>
        intro w' hx
        go_simp
        with_reducible rfl
      case haz1_8 => (simp only [Act.put, List.setIfInBounds_toArray, List.set_cons_zero, List.set_cons_succ]; rfl)
      refine E_take (hR := Ext.pre) (i := 9) (N := (some 43)) (v := ?vz1_9) (a' := ?az1_9) #[true, true, true, true, true, true, true, true, true, true, false, false, false, false, false, false, false, false, false] rfl rfl (by kernel_rfl) (fun _ _ _ h => h) (by rfl) ?hyz1_9 ?haz1_9 ?_
      case hyz1_9 =>
        intro w' hx
        go_simp
        with_reducible rfl
      case haz1_9 => (simp only [Act.put, List.setIfInBounds_toArray, List.set_cons_zero, List.set_cons_succ]; rfl)
      refine E_take (hR := Ext.pre) (i := 10) (N := (some 44)) (v := ?vz1_10) (a' := ?az1_10) #[true, true, true, true, true, true, true, true, true, true, true, false, false, false, false, false, false, false, false] rfl rfl (by kernel_rfl) (fun _ _ _ h => h) (by rfl) ?hyz1_10 ?haz1_10 ?_
      case hyz1_10 =>
        intro w' hx
        go_simp
        with_reducible rfl
      case haz1_10 => (simp only [Act.put, List.setIfInBounds_toArray, List.set_cons_zero, List.set_cons_succ]; rfl)
      refine E_take (hR := Ext.pre) (i := 11) (N := (some 45)) (v := ?vz1_11) (a' := ?az1_11) #[true, true, true, true, true, true, true, true, true, true, true, true, false, false, false, false, false, false, false] rfl rfl (by kernel_rfl) (fun _ _ _ h => h) (by rfl) ?hyz1_11 ?haz1_11 ?_
      case hyz1_11 =>
        intro w' hx
        go_simp
        with_reducible rfl
      case haz1_11 => (simp only [Act.put, List.setIfInBounds_toArray, List.set_cons_zero, List.set_cons_succ]; rfl)
      refine E_take (hR := Ext.pre) (i := 14) (N := (some 48)) (v := ?vz1_14) (a' := ?az1_14) #[true, true, true, true, true, true, true, true, true, true, true, true, false, false, true, false, false, false, false] rfl rfl (by kernel_rfl) (fun _ _ _ h => h) (by rfl) ?hyz1_14 ?haz1_14 ?_
      case hyz1_14 =>
        intro w' hx
        go_simp
        with_reducible rfl
      case haz1_14 => (simp only [Act.put, List.setIfInBounds_toArray, List.set_cons_zero, List.set_cons_succ]; rfl)
      refine E_take (hR := Ext.pre) (i := 15) (N := (some 49)) (v := ?vz1_15) (a' := ?az1_15) #[true, true, true, true, true, true, true, true, true, true, true, true, false, false, true, true, false, false, false] rfl rfl (by kernel_rfl) (fun _ _ _ h => h) (by rfl) ?hyz1_15 ?haz1_15 ?_
      case hyz1_15 =>
        intro w' hx
        have hst := run_str w' (P := Tryd.prog) (A := A2) (n := fl.length) (c := c2) Tryd.underlying24 Tryd.underlying5 (xs := u8s fl) ((hS.ext hx).ownRd (by first | exact .here | exact .there .here | exact .there (.there .here) | exact .there (.there (.there .here)) | exact .there (.there (.there (.there .here))) | exact .there (.there (.there (.there (.there .here)))) | exact .there (.there (.there (.there (.there (.there .here))))) | exact .there (.there (.there (.there (.there (.there (.there .here)))))) | exact .there (.there (.there (.there (.there (.there (.there (.there .here))))))))) (u8s_length fl) Tryd.underlying9
        go_simp
        with_reducible rfl
      case haz1_15 => (simp only [Act.put, List.setIfInBounds_toArray, List.set_cons_zero, List.set_cons_succ]; rfl)
      refine E_call (i := 12) (N := (some 46)) (args := ?gz1_12) #[true, true, true, true, true, true, true, true, true, true, true, true, true, false, true, true, false, false, false] rfl rfl (by kernel_rfl) (by rfl) Tryd.func6 (by kernel_rfl) rfl rfl ?hgz1_12 ?_
      case hgz1_12 => (simp only [List.map_toArray, List.map_cons, List.map_nil]; go_simp; with_reducible rfl)
      refine (turnkeyref01_All.calls ka A0 c0 l fl _ (Kd.C_below HC.out hS.below) hc HKA.out).mono ?_
      rintro e w7 ⟨v7, rfl, hR7, hb7⟩
      have hown7 := own_of_RB hR7 HB8.out
      obtain ⟨A7, c7, rfl, -⟩ := own_rd hown7
      refine ⟨_, rfl, hb7, ?_⟩
      replace hS := hS.got hb7 hown7
      clear hown7 hR7 hb7
      rintro _ rfl
      simp only [Act.put, List.setIfInBounds_toArray, List.set_cons_zero, List.set_cons_succ]
      refine E_take (hR := Ext.pre) (i := 13) (N := (some 47)) (v := ?vz1_13) (a' := ?az1_13) #[true, true, true, true, true, true, true, true, true, true, true, true, true, true, true, true, false, false, false] rfl rfl (by kernel_rfl) (fun _ _ _ h => h) (by rfl) ?hyz1_13 ?haz1_13 ?_
      case hyz1_13 =>
        intro w' hx
        have hst := run_str w' (P := Tryd.prog) (A := A7) (n := fl.length) (c := c7) Tryd.underlying24 Tryd.underlying5 (xs := u8s fl) ((hS.ext hx).ownRd (by first | exact .here | exact .there .here | exact .there (.there .here) | exact .there (.there (.there .here)) | exact .there (.there (.there (.there .here))) | exact .there (.there (.there (.there (.there .here)))) | exact .there (.there (.there (.there (.there (.there .here))))) | exact .there (.there (.there (.there (.there (.there (.there .here)))))) | exact .there (.there (.there (.there (.there (.there (.there (.there .here))))))))) (u8s_length fl) Tryd.underlying9
        go_simp
        with_reducible rfl
      case haz1_13 => (simp only [Act.put, List.setIfInBounds_toArray, List.set_cons_zero, List.set_cons_succ]; rfl)
      refine E_take (hR := Ext.pre) (i := 16) (N := (some 50)) (v := ?vz1_16) (a' := ?az1_16) #[true, true, true, true, true, true, true, true, true, true, true, true, true, true, true, true, true, false, false] rfl rfl (by kernel_rfl) (fun _ _ _ h => h) (by rfl) ?hyz1_16 ?haz1_16 ?_
      case hyz1_16 =>
        intro w' hx
        go_simp
        with_reducible rfl
      case haz1_16 => (simp only [Act.put, List.setIfInBounds_toArray, List.set_cons_zero, List.set_cons_succ]; rfl)
      refine E_take (hR := Ext.pre) (i := 17) (N := (some 51)) (v := ?vz1_17) (a' := ?az1_17) #[true, true, true, true, true, true, true, true, true, true, true, true, true, true, true, true, true, true, false] rfl rfl (by kernel_rfl) (fun _ _ _ h => h) (by rfl) ?hyz1_17 ?haz1_17 ?_
      case hyz1_17 =>
        intro w' hx
        go_simp
        with_reducible rfl
      case haz1_17 => (simp only [Act.put, List.setIfInBounds_toArray, List.set_cons_zero, List.set_cons_succ]; rfl)
      refine E_take (hR := Ext.pre) (i := 18) (N := (some 2)) (v := ?vz1_18) (a' := ?az1_18) #[true, true, true, true, true, true, true, true, true, true, true, true, true, true, true, true, true, true, true] rfl rfl (by kernel_rfl) (fun _ _ _ h => h) (by rfl) ?hyz1_18 ?haz1_18 ?_
      case hyz1_18 =>
        intro w' hx
        go_simp
        with_reducible rfl
      case haz1_18 => (simp only [Act.put, List.setIfInBounds_toArray, List.set_cons_zero, List.set_cons_succ]; rfl)
      refine E_done (by kernel_rfl) ?_
      go_wp2
      go_ret
      exact ⟨rfl, hS.below⟩
end Go.Proofs.YtiihcgiakmienaaDoor
