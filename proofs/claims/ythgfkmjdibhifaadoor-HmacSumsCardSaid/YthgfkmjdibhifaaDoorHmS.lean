/- The walk of HmacSums. -/
import Derived.Test.YthgfkmjdibhifaaDoorHmL
import Derived.Test.YthgfkmjdibhifaaDoorPAll
namespace Go.Proofs.YthgfkmjdibhifaaDoor
open Go.RowKit Go.Proofs.YthgfkmjdibhifaaDoor.Pure Go.Proofs.YthgfkmjdibhifaaDoor.PB Go.Proofs.YthgfkmjdibhifaaDoorW.PrintWords

theorem flat_leI (m : Nat) : ∀ (l : List (List Int)), (∀ x ∈ l, x.length ≤ m) → l.flatten.length ≤ m * l.length
  | [], _ => by simp
  | x :: l, h => by
    rw [List.flatten_cons, List.length_append, List.length_cons]
    have h1 := h x (by simp)
    have h2 := flat_leI m l fun y hy => h y (by simp [hy])
    rw [Nat.mul_succ]; omega

set_option maxRecDepth 8000 in
set_option maxHeartbeats 1600000 in
theorem hsums_walk (A0 A1 : Option Addr) (n0 c0 c1 : Nat) (key : List UInt8) (l : List (List Int)) (w : World) (hn0 : key.length = n0) (hr0 : RdB w A0 key) (hc0 : n0 ≤ c0) (hC : Kd.C (Kd.slice 5 (Kd.int .u8)) w A1 l.length l) (hc : l.length ≤ c1) (hB : l.all isB8 = true) (hG : GK w) :
    Calls Tryd.prog 4 #[.slice A0 n0 c0, .slice A1 l.length c1] w fun e w' => e = .returned (.bool true) ∧ Below w.heap.size w w' := by
  have hS := St.start w
  have HG := Lib.hid hG
  have HR0 := Lib.hid hr0
  have HN0 := Lib.hid hn0
  have HC := Lib.hid hC
  have HBB := Lib.hid hB
  obtain ⟨vs, hR⟩ := RdBB_of_C hC hB
  have HR := Lib.hid hR
  clear hG hC hB hR hr0 hn0
  by_cases h1 : 300 < n0
  · go_enter Tryd.func4, Tryd.ntmps4
    go_wp2_with (go_at_call 7; refine (awake_any _ (HG.out.keep hS.below)).mono ?_; rintro e w_ ⟨rfl, hb_⟩; replace hS := hS.ext hb_; clear hb_)
    all_goals (go_ret; exact ⟨rfl, hS.below⟩)
  by_cases h2 : 8 < l.length
  · go_enter Tryd.func4, Tryd.ntmps4
    go_wp2_with (go_at_call 7; refine (awake_any _ (HG.out.keep hS.below)).mono ?_; rintro e w_ ⟨rfl, hb_⟩; replace hS := hS.ext hb_; clear hb_)
    all_goals (go_ret; exact ⟨rfl, hS.below⟩)
  have i1 : ¬ (300 : Int) < (n0 : Int) := by omega
  have i2 : ¬ (8 : Int) < (l.length : Int) := by omega
  go_enter Tryd.func4, Tryd.ntmps4
  go_wp2_with (go_at_call 7; refine (awake_any _ (HG.out.keep hS.below)).mono ?_; rintro e w1 ⟨rfl, hb_⟩; replace hS := hS.ext hb_; clear hb_)
  go_loopw [5] (fun i wr => ∃ k : Nat, i = .int .i64 (k : Int) ∧ k ≤ l.length ∧ Hid (∀ x ∈ l.take k, x.length ≤ 200) ∧ w1 = wr) (fun i _ => l.length - (intOf i).toNat)
  case atStart => exact ⟨0, rfl, Nat.zero_le _, Lib.hid (by simp), rfl⟩
  case round =>
    obtain ⟨k, rfl, hk, HS, rfl⟩ := hrel
    by_cases hlt : k < l.length
    · obtain ⟨b, o, Ai, ci, rfl, hcell, -⟩ := (HR.out.keep hS.below).at (i := k) (by rw [List.length_map]; exact hlt)
      have HT := Lib.hid (List.take_succ_eq_append_getElem hlt)
      rw [List.getElem_map, u8s_length] at hcell
      generalize hx : l[k].length = m at *
      have HX := Lib.hid hx
      clear hx
      by_cases h200 : 200 < m
      · go_wp2
        go_ret
        exact ⟨rfl, hS.below⟩
      · go_wp2
        go_roundw
        case rel => exact ⟨k + 1, by simp, by omega, Lib.hid (by rw [HT.out]; intro x hx; rcases List.mem_append.1 hx with h | h; exact HS.out x h; (obtain rfl := List.mem_singleton.1 h; rw [HX.out]; omega)), trivial⟩
        case measure => simp [intOf]; omega
    · have hkl : k = l.length := by omega
      have HS2 : ∀ x ∈ l, x.length ≤ 200 := by have := HS.out; rwa [hkl, List.take_length] at this
      have hfl : l.flatten.length ≤ 1600 := by have := flat_leI 200 l HS2; omega
      obtain ⟨ka, hka⟩ := refAll l (by omega) (by omega)
      have HKA := Lib.hid (hka ka (Nat.le_refl _))
      clear hka HS2 HS
      have HXS := Lib.hid (u8s_flatten l)
      have HB8 := Lib.hid (isB8_flatten HBB.out)
      generalize hg0 : l.flatten = fl at *
      clear hg0
      have HFL := Lib.hid (u8s_length fl)
      have hl1 := Lib.hid (hmacF_len key (u8s fl))
      have hl2 := Lib.hid (tagF_len key (u8s fl))
      go_upto_region 11 with (first | (go_at_call 9; refine (turnkeyref01_All.calls ka A1 c1 l fl w1 (Kd.C_below HC.out hS.below) hc HKA.out).mono ?_; rintro e w2 ⟨v2, rfl, hR2, hb2⟩; have hown2 := own_of_RB hR2 HB8.out; obtain ⟨A6, c6, rfl, hlc2, -⟩ := own_rd hown2; have HLC := Lib.hid hlc2; clear hlc2; replace hS := hS.got hb2 hown2; clear hown2 hR2 hb2) | ((with_reducible show wpList _ _ _ (⟨some 37, Op.buildSlice _ _ _, _, _, _, _⟩ :: _) _ _); go_loud (apply S_bslice hS; rfl; (go_simp; first | with_reducible rfl | (refine ⟨?_, ?_⟩ <;> with_reducible rfl)); rfl; rfl; rfl; rfl; clear hS; intro b37 w_ hS)) | ((with_reducible show wpList _ _ _ (⟨some 39, Op.call _, _, _, _, _⟩ :: _) _ _); go_loud (apply S_app TB hS; rfl; rfl; rfl; (focus ((repeat (first | exact .here | apply At.there)); done)); rfl; exact (RdB.src (c := c0) Tryd.underlying22 (hS.rdp HR0.out) HN0.out); (unfold maxLen; omega); omega; clear hS; intro A7 c7 w_ hS; (try simp only [Nat.zero_add, List.nil_append] at hS ⊢))) | ((with_reducible show Calls _ 8 #[.slice A7 _ _, .slice A1 _ _] _ _); refine (hsum_any A7 A1 n0 c7 l.length c1 key vs (l.map u8s) _ HN0.out (hS.ownRd (A := A7) (by focus ((repeat (first | exact .here | apply At.there)); done))) (by rw [List.length_map]) (HR.out.keep hS.below) (by omega) (by rw [← HXS.out, HFL.out]; omega) (by omega) (HG.out.keep hS.below)).mono ?_; rw [← HXS.out]; rintro e w_ ⟨rfl, hb_⟩; replace hS := hS.ext hb_; clear hb_) | ((with_reducible show wpList _ _ _ (⟨some 45, Op.buildSlice _ _ _, _, _, _, _⟩ :: _) _ _); go_loud (apply S_bslice hS; rfl; (go_simp; first | with_reducible rfl | (refine ⟨?_, ?_⟩ <;> with_reducible rfl)); rfl; rfl; rfl; rfl; clear hS; intro b45 w_ hS)) | ((with_reducible show Calls _ 10 #[.slice A7 _ _, _] _ _); refine (tag_any A7 _ n0 c7 1 1 key _ [u8s fl] _ HN0.out (hS.ownRd (A := A7) (by focus ((repeat (first | exact .here | apply At.there)); done))) rfl (RdBB.one1 (hS.ownRd (A := some ⟨b45, 0, none⟩) (by focus ((repeat (first | exact .here | apply At.there)); done))) (hS.ownRd (A := A6) (by focus ((repeat (first | exact .here | apply At.there)); done))) HFL.out) (by omega) (by rw [flat1, HFL.out]; omega) (by decide) (HG.out.keep hS.below)).mono ?_; rw [flat1]; rintro e w_ ⟨rfl, hb_⟩; replace hS := hS.ext hb_; clear hb_) | ((with_reducible show wpList _ _ _ (⟨some 8, Op.alloc _, _, _, _, _⟩ :: _) _ _); go_loud (refine S_alloc (z := .agg (List.replicate 64 (.int .u8 0)).toArray) (L := (List.replicate 64 (.int .u8 0))) hS rfl rfl ?_ ?_ ?_; (show _ = _; kernel_rfl); (show _ = _; kernel_rfl); clear hS; intro b8 w_ hS)) | ((with_reducible show wpList _ _ _ (⟨some 9, Op.alloc _, _, _, _, _⟩ :: _) _ _); go_loud (refine S_alloc (z := .agg (List.replicate 32 (.int .u8 0)).toArray) (L := (List.replicate 32 (.int .u8 0))) hS rfl rfl ?_ ?_ ?_; (show _ = _; kernel_rfl); (show _ = _; kernel_rfl); clear hS; intro b9 w_ hS)) | ((with_reducible show wpList _ _ _ (⟨_, Op.store _ _ _, _, _, _, _⟩ :: _) _ _); go_loud (apply S_stAll hS; rfl; rfl; rfl; rfl; (focus ((repeat (first | exact .here | apply At.there)); done)); (first | assumption | (first | (rw [List.length_map, hl1.out]; rfl) | (rw [List.length_map, hl2.out]; rfl)) | (focus (simp [bV, wV, Value.oneCell']; done)) | (focus (simp [bV, Value.oneCell']; done))); (first | rfl | (first | (rw [List.length_map, hl1.out]; rfl) | (rw [List.length_map, hl2.out]; rfl))); (first | rfl | (first | (rw [List.length_map, hl1.out]; rfl) | (rw [List.length_map, hl2.out]; rfl))); clear hS; intro w_ hS)))
      have hTK := Lib.hid (show ((hmacF key (u8s fl)).take 32) = tagF key (u8s fl) from rfl)
      refine E_start (hR := Ext.pre) #[false, false, false, false, false, false, false, false, false, false, false, false, false, false, false, false, false, false, false, false, false] (by kernel_rfl) rfl rfl (fun w_z1 hx_z1 he_z1 => ?_)
      clear he_z1
      replace hS := hS.ext hx_z1; clear hx_z1
      refine E_take (hR := Ext.pre) (i := 0) (N := (some 47)) (v := ?vz1_0) (a' := ?az1_0) #[true, false, false, false, false, false, false, false, false, false, false, false, false, false, false, false, false, false, false, false, false] rfl rfl (by kernel_rfl) (fun _ _ _ h => h) (by rfl) ?hyz1_0 ?haz1_0 ?_
      case hyz1_0 =>
        intro w' hx
        (first | (apply Eq.trans; (apply R_slice; rfl; rfl; (first | exact SB.no | exact SB.so); (first | exact SB.no | exact SB.so); rfl; rfl; (first | assumption | omega); (first | assumption | omega)); with_reducible rfl) | (go_simp; with_reducible rfl))
      case haz1_0 => (simp only [Act.put, List.setIfInBounds_toArray, List.set_cons_zero, List.set_cons_succ]; rfl)
      refine E_take (hR := Ext.pre) (i := 1) (N := (some 48)) (v := ?vz1_1) (a' := ?az1_1) #[true, true, false, false, false, false, false, false, false, false, false, false, false, false, false, false, false, false, false, false, false] rfl rfl (by kernel_rfl) (fun _ _ _ h => h) (by rfl) ?hyz1_1 ?haz1_1 ?_
      case hyz1_1 =>
        intro w' hx
        (apply Eq.trans; (apply R_strc Tryd.underlying22 Tryd.underlying5 Tryd.underlying9 ((hS.ext hx).blkRd (b := b8) (by focus ((repeat (first | exact .here | apply At.there)); done)) : RdB _ _ (hmacF key (u8s fl))) hl1.out; rfl; rfl); with_reducible rfl)
      case haz1_1 => (simp only [Act.put, List.setIfInBounds_toArray, List.set_cons_zero, List.set_cons_succ]; rfl)
      refine E_take (hR := Ext.pre) (i := 2) (N := (some 49)) (v := ?vz1_2) (a' := ?az1_2) #[true, true, true, false, false, false, false, false, false, false, false, false, false, false, false, false, false, false, false, false, false] rfl rfl (by kernel_rfl) (fun _ _ _ h => h) (by rfl) ?hyz1_2 ?haz1_2 ?_
      case hyz1_2 =>
        intro w' hx
        go_simp
        with_reducible rfl
      case haz1_2 => (simp only [Act.put, List.setIfInBounds_toArray, List.set_cons_zero, List.set_cons_succ]; rfl)
      refine E_take (hR := Ext.pre) (i := 3) (N := (some 50)) (v := ?vz1_3) (a' := ?az1_3) #[true, true, true, true, false, false, false, false, false, false, false, false, false, false, false, false, false, false, false, false, false] rfl rfl (by kernel_rfl) (fun _ _ _ h => h) (by rfl) ?hyz1_3 ?haz1_3 ?_
      case hyz1_3 =>
        intro w' hx
        go_simp
        with_reducible rfl
      case haz1_3 => (simp only [Act.put, List.setIfInBounds_toArray, List.set_cons_zero, List.set_cons_succ]; rfl)
      refine E_call (i := 4) (N := (some 51)) (args := ?gz1_4) #[true, true, true, true, true, false, false, false, false, false, false, false, false, false, false, false, false, false, false, false, false] rfl rfl (by kernel_rfl) (by rfl) Tryd.func11 (by kernel_rfl) rfl rfl ?hgz1_4 ?_
      case hgz1_4 => (simp only [List.map_toArray, List.map_cons, List.map_nil]; go_simp; with_reducible rfl)
      refine (refH_any A0 A6 n0 c0 fl.length c6 key (u8s fl) _ HN0.out (hS.rdp HR0.out) hc0 HFL.out (hS.ownRd (A := A6) (by focus ((repeat (first | exact .here | apply At.there)); done))) (by omega) (by omega)).mono ?_
      rintro e w_ ⟨rfl, hb_⟩
      refine ⟨_, rfl, hb_, ?_⟩
      replace hS := hS.ext hb_
      clear hb_
      rintro _ rfl
      simp only [Act.put, List.setIfInBounds_toArray, List.set_cons_zero, List.set_cons_succ]
      refine E_take (hR := Ext.pre) (i := 5) (N := (some 52)) (v := ?vz1_5) (a' := ?az1_5) #[true, true, true, true, true, true, false, false, false, false, false, false, false, false, false, false, false, false, false, false, false] rfl rfl (by kernel_rfl) (fun _ _ _ h => h) (by rfl) ?hyz1_5 ?haz1_5 ?_
      case hyz1_5 =>
        intro w' hx
        go_simp
        with_reducible rfl
      case haz1_5 => (simp only [Act.put, List.setIfInBounds_toArray, List.set_cons_zero, List.set_cons_succ]; rfl)
      refine E_take (hR := Ext.pre) (i := 6) (N := (some 53)) (v := ?vz1_6) (a' := ?az1_6) #[true, true, true, true, true, true, true, false, false, false, false, false, false, false, false, false, false, false, false, false, false] rfl rfl (by kernel_rfl) (fun _ _ _ h => h) (by rfl) ?hyz1_6 ?haz1_6 ?_
      case hyz1_6 =>
        intro w' hx
        go_simp
        with_reducible rfl
      case haz1_6 => (simp only [Act.put, List.setIfInBounds_toArray, List.set_cons_zero, List.set_cons_succ]; rfl)
      refine E_take (hR := Ext.pre) (i := 7) (N := (some 54)) (v := ?vz1_7) (a' := ?az1_7) #[true, true, true, true, true, true, true, true, false, false, false, false, false, false, false, false, false, false, false, false, false] rfl rfl (by kernel_rfl) (fun _ _ _ h => h) (by rfl) ?hyz1_7 ?haz1_7 ?_
      case hyz1_7 =>
        intro w' hx
        (first | (apply Eq.trans; (apply R_slice; rfl; rfl; (first | exact SB.no | exact SB.so); (first | exact SB.no | exact SB.so); rfl; rfl; (first | assumption | omega); (first | assumption | omega)); with_reducible rfl) | (go_simp; with_reducible rfl))
      case haz1_7 => (simp only [Act.put, List.setIfInBounds_toArray, List.set_cons_zero, List.set_cons_succ]; rfl)
      refine E_take (hR := Ext.pre) (i := 8) (N := (some 55)) (v := ?vz1_8) (a' := ?az1_8) #[true, true, true, true, true, true, true, true, true, false, false, false, false, false, false, false, false, false, false, false, false] rfl rfl (by kernel_rfl) (fun _ _ _ h => h) (by rfl) ?hyz1_8 ?haz1_8 ?_
      case hyz1_8 =>
        intro w' hx
        (apply Eq.trans; (apply R_strc Tryd.underlying22 Tryd.underlying5 Tryd.underlying9 ((hS.ext hx).blkRd (b := b9) (by focus ((repeat (first | exact .here | apply At.there)); done)) : RdB _ _ (tagF key (u8s fl))) hl2.out; rfl; rfl); with_reducible rfl)
      case haz1_8 => (simp only [Act.put, List.setIfInBounds_toArray, List.set_cons_zero, List.set_cons_succ]; rfl)
      refine E_take (hR := Ext.pre) (i := 9) (N := (some 56)) (v := ?vz1_9) (a' := ?az1_9) #[true, true, true, true, true, true, true, true, true, true, false, false, false, false, false, false, false, false, false, false, false] rfl rfl (by kernel_rfl) (fun _ _ _ h => h) (by rfl) ?hyz1_9 ?haz1_9 ?_
      case hyz1_9 =>
        intro w' hx
        (first | (apply Eq.trans; (apply R_slice; rfl; rfl; (first | exact SB.no | exact SB.so); (first | exact SB.no | exact SB.so); rfl; rfl; (first | assumption | omega); (first | assumption | omega)); with_reducible rfl) | (go_simp; with_reducible rfl))
      case haz1_9 => (simp only [Act.put, List.setIfInBounds_toArray, List.set_cons_zero, List.set_cons_succ]; rfl)
      refine E_take (hR := Ext.pre) (i := 10) (N := (some 57)) (v := ?vz1_10) (a' := ?az1_10) #[true, true, true, true, true, true, true, true, true, true, true, false, false, false, false, false, false, false, false, false, false] rfl rfl (by kernel_rfl) (fun _ _ _ h => h) (by rfl) ?hyz1_10 ?haz1_10 ?_
      case hyz1_10 =>
        intro w' hx
        (apply Eq.trans; (apply R_strc Tryd.underlying22 Tryd.underlying5 Tryd.underlying9 (show RdB _ (some ⟨b8, 0, none⟩) (tagF key (u8s fl)) from RdB.take ((hS.ext hx).blkRd (b := b8) (by focus ((repeat (first | exact .here | apply At.there)); done))) 32) hl2.out; rfl; rfl); with_reducible rfl)
      case haz1_10 => (simp only [Act.put, List.setIfInBounds_toArray, List.set_cons_zero, List.set_cons_succ]; rfl)
      refine E_take (hR := Ext.pre) (i := 11) (N := (some 58)) (v := ?vz1_11) (a' := ?az1_11) #[true, true, true, true, true, true, true, true, true, true, true, true, false, false, false, false, false, false, false, false, false] rfl rfl (by kernel_rfl) (fun _ _ _ h => h) (by rfl) ?hyz1_11 ?haz1_11 ?_
      case hyz1_11 =>
        intro w' hx
        go_simp
        with_reducible rfl
      case haz1_11 => (simp only [Act.put, List.setIfInBounds_toArray, List.set_cons_zero, List.set_cons_succ]; rfl)
      refine E_take (hR := Ext.pre) (i := 12) (N := (some 59)) (v := ?vz1_12) (a' := ?az1_12) #[true, true, true, true, true, true, true, true, true, true, true, true, true, false, false, false, false, false, false, false, false] rfl rfl (by kernel_rfl) (fun _ _ _ h => h) (by rfl) ?hyz1_12 ?haz1_12 ?_
      case hyz1_12 =>
        intro w' hx
        go_simp
        with_reducible rfl
      case haz1_12 => (simp only [Act.put, List.setIfInBounds_toArray, List.set_cons_zero, List.set_cons_succ]; rfl)
      refine E_take (hR := Ext.pre) (i := 13) (N := (some 60)) (v := ?vz1_13) (a' := ?az1_13) #[true, true, true, true, true, true, true, true, true, true, true, true, true, true, false, false, false, false, false, false, false] rfl rfl (by kernel_rfl) (fun _ _ _ h => h) (by rfl) ?hyz1_13 ?haz1_13 ?_
      case hyz1_13 =>
        intro w' hx
        go_simp
        with_reducible rfl
      case haz1_13 => (simp only [Act.put, List.setIfInBounds_toArray, List.set_cons_zero, List.set_cons_succ]; rfl)
      refine E_take (hR := Ext.pre) (i := 14) (N := (some 61)) (v := ?vz1_14) (a' := ?az1_14) #[true, true, true, true, true, true, true, true, true, true, true, true, true, true, true, false, false, false, false, false, false] rfl rfl (by kernel_rfl) (fun _ _ _ h => h) (by rfl) ?hyz1_14 ?haz1_14 ?_
      case hyz1_14 =>
        intro w' hx
        go_simp
        with_reducible rfl
      case haz1_14 => (simp only [Act.put, List.setIfInBounds_toArray, List.set_cons_zero, List.set_cons_succ]; rfl)
      refine E_take (hR := Ext.pre) (i := 15) (N := (some 62)) (v := ?vz1_15) (a' := ?az1_15) #[true, true, true, true, true, true, true, true, true, true, true, true, true, true, true, true, false, false, false, false, false] rfl rfl (by kernel_rfl) (fun _ _ _ h => h) (by rfl) ?hyz1_15 ?haz1_15 ?_
      case hyz1_15 =>
        intro w' hx
        (apply Eq.trans; (apply R_strc Tryd.underlying22 Tryd.underlying5 Tryd.underlying9 ((hS.ext hx).ownRd (A := A7) (by focus ((repeat (first | exact .here | apply At.there)); done)) : RdB _ _ key) HN0.out; rfl; rfl); with_reducible rfl)
      case haz1_15 => (simp only [Act.put, List.setIfInBounds_toArray, List.set_cons_zero, List.set_cons_succ]; rfl)
      refine E_take (hR := Ext.pre) (i := 16) (N := (some 63)) (v := ?vz1_16) (a' := ?az1_16) #[true, true, true, true, true, true, true, true, true, true, true, true, true, true, true, true, true, false, false, false, false] rfl rfl (by kernel_rfl) (fun _ _ _ h => h) (by rfl) ?hyz1_16 ?haz1_16 ?_
      case hyz1_16 =>
        intro w' hx
        go_simp
        with_reducible rfl
      case haz1_16 => (simp only [Act.put, List.setIfInBounds_toArray, List.set_cons_zero, List.set_cons_succ]; rfl)
      refine E_take (hR := Ext.pre) (i := 17) (N := (some 64)) (v := ?vz1_17) (a' := ?az1_17) #[true, true, true, true, true, true, true, true, true, true, true, true, true, true, true, true, true, true, false, false, false] rfl rfl (by kernel_rfl) (fun _ _ _ h => h) (by rfl) ?hyz1_17 ?haz1_17 ?_
      case hyz1_17 =>
        intro w' hx
        (apply Eq.trans; (apply R_strc Tryd.underlying22 Tryd.underlying5 Tryd.underlying9 ((hS.ext hx).rdp HR0.out : RdB _ _ key) HN0.out; rfl; rfl); with_reducible rfl)
      case haz1_17 => (simp only [Act.put, List.setIfInBounds_toArray, List.set_cons_zero, List.set_cons_succ]; rfl)
      refine E_take (hR := Ext.pre) (i := 18) (N := (some 65)) (v := ?vz1_18) (a' := ?az1_18) #[true, true, true, true, true, true, true, true, true, true, true, true, true, true, true, true, true, true, true, false, false] rfl rfl (by kernel_rfl) (fun _ _ _ h => h) (by rfl) ?hyz1_18 ?haz1_18 ?_
      case hyz1_18 =>
        intro w' hx
        go_simp
        with_reducible rfl
      case haz1_18 => (simp only [Act.put, List.setIfInBounds_toArray, List.set_cons_zero, List.set_cons_succ]; rfl)
      refine E_take (hR := Ext.pre) (i := 19) (N := (some 66)) (v := ?vz1_19) (a' := ?az1_19) #[true, true, true, true, true, true, true, true, true, true, true, true, true, true, true, true, true, true, true, true, false] rfl rfl (by kernel_rfl) (fun _ _ _ h => h) (by rfl) ?hyz1_19 ?haz1_19 ?_
      case hyz1_19 =>
        intro w' hx
        go_simp
        with_reducible rfl
      case haz1_19 => (simp only [Act.put, List.setIfInBounds_toArray, List.set_cons_zero, List.set_cons_succ]; rfl)
      refine E_take (hR := Ext.pre) (i := 20) (N := (some 4)) (v := ?vz1_20) (a' := ?az1_20) #[true, true, true, true, true, true, true, true, true, true, true, true, true, true, true, true, true, true, true, true, true] rfl rfl (by kernel_rfl) (fun _ _ _ h => h) (by rfl) ?hyz1_20 ?haz1_20 ?_
      case hyz1_20 =>
        intro w' hx
        go_simp
        with_reducible rfl
      case haz1_20 => (simp only [Act.put, List.setIfInBounds_toArray, List.set_cons_zero, List.set_cons_succ]; rfl)
      refine E_done (by kernel_rfl) ?_
      go_wp2
      go_ret
      exact ⟨rfl, hS.below⟩
end Go.Proofs.YthgfkmjdibhifaaDoor
