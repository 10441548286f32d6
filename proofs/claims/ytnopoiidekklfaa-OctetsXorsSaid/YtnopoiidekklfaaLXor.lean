/- The walk of OctetsXors. -/
import Derived.Test.YtnopoiidekklfaaSame
namespace Go.Proofs.Ytnopoiidekklfaa
open Go.RowKit

theorem xor_back (a b : List UInt8) : xorF (xorF a b) b = a.take (min a.length b.length) := by
  unfold xorF; apply List.ext_getElem?; intro i; simp only [List.getElem?_zipWith, List.getElem?_take]
  by_cases h1 : i < a.length
  · by_cases h2 : i < b.length
    · rw [if_pos (by omega), List.getElem?_eq_getElem h1, List.getElem?_eq_getElem h2]
      simp only [Option.some.injEq]
      rw [UInt8.xor_assoc, UInt8.xor_self, UInt8.xor_zero]
    · rw [if_neg (by omega), List.getElem?_eq_none (l := b) (by omega)]
      cases a[i]? <;> rfl
  · rw [if_neg (by omega), List.getElem?_eq_none (l := a) (by omega)]

set_option maxHeartbeats 4000000 in
theorem octetsXors_walk (A B : Option Addr) (n m c c' : Nat) (a b : List UInt8) (w : World) (hn : a.length = n) (hm : b.length = m) (h : RdB w A a) (h' : RdB w B b) (hc : n ≤ c) :
    Calls Try.prog 7 #[.slice A n c, .slice B m c'] w fun e w' => e = .returned (.bool true) ∧ Below w.heap.size w w' := by
  have HN := Lib.hid hn
  have HM := Lib.hid hm
  have H := Lib.hid h
  have H' := Lib.hid h'
  have hb := Below.refl w.heap.size w
  clear hn hm h h'
  by_cases h500 : 500 < n
  · go_enter Try.func7, Try.ntmps7
    go_wp2_with (go_at_call 8; refine (awake_acc w _ hb).mono ?_; clear hb; rintro e w1 ⟨rfl, hb⟩)
    go_ret
    exact ⟨rfl, hb⟩
  by_cases h500' : 500 < m
  · go_enter Try.func7, Try.ntmps7
    go_wp2_with (go_at_call 8; refine (awake_acc w _ hb).mono ?_; clear hb; rintro e w1 ⟨rfl, hb⟩)
    go_ret
    exact ⟨rfl, hb⟩
  obtain ⟨q, hq1, hq2, hq3, hq4, hq5⟩ : ∃ q : Nat, q ≤ n ∧ q ≤ m ∧ q ≤ c ∧ min (n : Int) (m : Int) = (q : Int) ∧ min n m = q := ⟨min n m, by omega, by omega, by omega, by omega, rfl⟩
  have XL := Lib.hid (show (xorF a b).length = q by rw [xorF_length, HN.out, HM.out, hq5])
  have XB := Lib.hid (show xorF (xorF a b) b = a.take q by rw [xor_back, HN.out, HM.out, hq5])
  have TL := Lib.hid (show (a.take q).length = q by rw [List.length_take, HN.out]; omega)
  clear hq5
  have e1 : ((str (xorF a b)).toList == (str (xorF a b)).toList) = true := by simp
  have e2 : ((str (a.take q)).toList == (str (a.take q)).toList) = true := by simp
  have e3 : ((str a).toList == (str b).toList) = (a == b) := str_beq a b
  have e4 : (a == a) = true := by simp
  have E4 := Lib.hid e4
  clear e4
  generalize hx : xorF a b = x at *
  have XV := Lib.hid hx
  clear hx
  have HT := Lib.hid (RdB.take H.out q)
  generalize ht : a.take q = t at *
  clear ht
  generalize hr : (a == b) = r at *
  have RV := Lib.hid hr
  clear hr
  go_enter Try.func7, Try.ntmps7
  go_wp2_with (first | (go_at_call 8; refine (awake_acc w _ hb).mono ?_; clear hb; rintro e w1 ⟨rfl, hb⟩) | (go_at_call 23; refine (xor_any A B n m c c' a b _ HN.out HM.out (H.out.keep hb) (H'.out.keep hb) hc (by omega)).mono ?_; rintro e w2 ⟨v, rfl, hown, hb2⟩; rw [XV.out, XL.out] at hown; obtain ⟨A1, n1, rfl, hle1, _, hr, _⟩ := own_rd hown; have R1 := Lib.hid hr; clear hr hown; replace hb := hb.trans (hb2.mono hb.size); clear hb2))
  refine E_start (hR := Ext.pre) #[false, false, false, false, false, false, false, false, false, false, false, false, false, false, false, false, false, false, false, false, false, false, false, false, false, false, false, false, false, false, false, false, false, false, false, false, false] (by kernel_rfl) rfl rfl (fun w_r51 hx_r51 he_r51 => ?_)
  clear he_r51
  replace hb := Ext.below hb hx_r51
  replace R1 := Lib.hid (Rd.keep R1.out hx_r51)
  clear hx_r51
  refine E_take (hR := Ext.pre) (i := 0) (N := (some 28)) (v := ?vr51_0) (a' := ?ar51_0) #[true, false, false, false, false, false, false, false, false, false, false, false, false, false, false, false, false, false, false, false, false, false, false, false, false, false, false, false, false, false, false, false, false, false, false, false, false] rfl rfl (by kernel_rfl) (fun _ _ _ h => h) (by rfl) ?hyr51_0 ?har51_0 ?_
  case hyr51_0 =>
    intro w' hx
    go_simp
    with_reducible rfl
  case har51_0 => (simp only [Act.put, List.setIfInBounds_toArray, List.set_cons_zero, List.set_cons_succ]; rfl)
  refine E_take (hR := Ext.pre) (i := 1) (N := (some 29)) (v := ?vr51_1) (a' := ?ar51_1) #[true, true, false, false, false, false, false, false, false, false, false, false, false, false, false, false, false, false, false, false, false, false, false, false, false, false, false, false, false, false, false, false, false, false, false, false, false] rfl rfl (by kernel_rfl) (fun _ _ _ h => h) (by rfl) ?hyr51_1 ?har51_1 ?_
  case hyr51_1 =>
    intro w' hx
    have hst := run_str w' (P := Try.prog) (n := q) (c := n1) Try.underlying22 Try.underlying5 (xs := x) (Rd.keep R1.out hx) XL.out Try.underlying9
    go_simp
    with_reducible rfl
  case har51_1 => (simp only [Act.put, List.setIfInBounds_toArray, List.set_cons_zero, List.set_cons_succ]; rfl)
  refine E_take (hR := Ext.pre) (i := 2) (N := (some 30)) (v := ?vr51_2) (a' := ?ar51_2) #[true, true, true, false, false, false, false, false, false, false, false, false, false, false, false, false, false, false, false, false, false, false, false, false, false, false, false, false, false, false, false, false, false, false, false, false, false] rfl rfl (by kernel_rfl) (fun _ _ _ h => h) (by rfl) ?hyr51_2 ?har51_2 ?_
  case hyr51_2 =>
    intro w' hx
    go_simp
    with_reducible rfl
  case har51_2 => (simp only [Act.put, List.setIfInBounds_toArray, List.set_cons_zero, List.set_cons_succ]; rfl)
  refine E_take (hR := Ext.pre) (i := 3) (N := (some 31)) (v := ?vr51_3) (a' := ?ar51_3) #[true, true, true, true, false, false, false, false, false, false, false, false, false, false, false, false, false, false, false, false, false, false, false, false, false, false, false, false, false, false, false, false, false, false, false, false, false] rfl rfl (by kernel_rfl) (fun _ _ _ h => h) (by rfl) ?hyr51_3 ?har51_3 ?_
  case hyr51_3 =>
    intro w' hx
    go_simp
    with_reducible rfl
  case har51_3 => (simp only [Act.put, List.setIfInBounds_toArray, List.set_cons_zero, List.set_cons_succ]; rfl)
  refine E_call (i := 4) (N := (some 32)) (args := ?gr51_4) #[true, true, true, true, true, false, false, false, false, false, false, false, false, false, false, false, false, false, false, false, false, false, false, false, false, false, false, false, false, false, false, false, false, false, false, false, false] rfl rfl (by kernel_rfl) (by rfl) Try.func24 (by kernel_rfl) rfl rfl ?hgr51_4 ?_
  case hgr51_4 => (simp only [List.map_toArray, List.map_cons, List.map_nil]; go_simp; with_reducible rfl)
  refine (refXor_any A B n m c c' a b _ HN.out HM.out (H.out.keep hb) (H'.out.keep hb) (by omega)).mono ?_
  rintro e w3 ⟨v, rfl, hown, hb3⟩
  rw [XV.out, XL.out] at hown
  obtain ⟨A3, n3, rfl, _, _, hr3, _⟩ := own_rd hown
  have R3 := Lib.hid hr3
  clear hr3 hown
  refine ⟨_, rfl, hb3, ?_⟩
  replace hb := hb.trans (hb3.mono hb.size)
  replace R1 := Lib.hid (Rd.keep R1.out hb3)
  clear hb3
  rintro _ rfl
  simp only [Act.put, List.setIfInBounds_toArray, List.set_cons_zero, List.set_cons_succ]
  refine E_take (hR := Ext.pre) (i := 5) (N := (some 33)) (v := ?vr51_5) (a' := ?ar51_5) #[true, true, true, true, true, true, false, false, false, false, false, false, false, false, false, false, false, false, false, false, false, false, false, false, false, false, false, false, false, false, false, false, false, false, false, false, false] rfl rfl (by kernel_rfl) (fun _ _ _ h => h) (by rfl) ?hyr51_5 ?har51_5 ?_
  case hyr51_5 =>
    intro w' hx
    have hst := run_str w' (P := Try.prog) (n := q) (c := n3) Try.underlying22 Try.underlying5 (xs := x) (Rd.keep R3.out hx) XL.out Try.underlying9
    go_simp
    with_reducible rfl
  case har51_5 => (simp only [Act.put, List.setIfInBounds_toArray, List.set_cons_zero, List.set_cons_succ]; rfl)
  refine E_take (hR := Ext.pre) (i := 6) (N := (some 34)) (v := ?vr51_6) (a' := ?ar51_6) #[true, true, true, true, true, true, true, false, false, false, false, false, false, false, false, false, false, false, false, false, false, false, false, false, false, false, false, false, false, false, false, false, false, false, false, false, false] rfl rfl (by kernel_rfl) (fun _ _ _ h => h) (by rfl) ?hyr51_6 ?har51_6 ?_
  case hyr51_6 =>
    intro w' hx
    go_simp
    with_reducible rfl
  case har51_6 => (simp only [Act.put, List.setIfInBounds_toArray, List.set_cons_zero, List.set_cons_succ]; rfl)
  refine E_take (hR := Ext.pre) (i := 7) (N := (some 35)) (v := ?vr51_7) (a' := ?ar51_7) #[true, true, true, true, true, true, true, true, false, false, false, false, false, false, false, false, false, false, false, false, false, false, false, false, false, false, false, false, false, false, false, false, false, false, false, false, false] rfl rfl (by kernel_rfl) (fun _ _ _ h => h) (by rfl) ?hyr51_7 ?har51_7 ?_
  case hyr51_7 =>
    intro w' hx
    go_simp
    with_reducible rfl
  case har51_7 => (simp only [Act.put, List.setIfInBounds_toArray, List.set_cons_zero, List.set_cons_succ]; rfl)
  refine E_take (hR := Ext.pre) (i := 8) (N := (some 36)) (v := ?vr51_8) (a' := ?ar51_8) #[true, true, true, true, true, true, true, true, true, false, false, false, false, false, false, false, false, false, false, false, false, false, false, false, false, false, false, false, false, false, false, false, false, false, false, false, false] rfl rfl (by kernel_rfl) (fun _ _ _ h => h) (by rfl) ?hyr51_8 ?har51_8 ?_
  case hyr51_8 =>
    intro w' hx
    go_simp
    with_reducible rfl
  case har51_8 => (simp only [Act.put, List.setIfInBounds_toArray, List.set_cons_zero, List.set_cons_succ]; rfl)
  refine E_take (hR := Ext.pre) (i := 9) (N := (some 37)) (v := ?vr51_9) (a' := ?ar51_9) #[true, true, true, true, true, true, true, true, true, true, false, false, false, false, false, false, false, false, false, false, false, false, false, false, false, false, false, false, false, false, false, false, false, false, false, false, false] rfl rfl (by kernel_rfl) (fun _ _ _ h => h) (by rfl) ?hyr51_9 ?har51_9 ?_
  case hyr51_9 =>
    intro w' hx
    go_simp
    with_reducible rfl
  case har51_9 => (simp only [Act.put, List.setIfInBounds_toArray, List.set_cons_zero, List.set_cons_succ]; rfl)
  refine E_take (hR := Ext.pre) (i := 12) (N := (some 40)) (v := ?vr51_12) (a' := ?ar51_12) #[true, true, true, true, true, true, true, true, true, true, false, false, true, false, false, false, false, false, false, false, false, false, false, false, false, false, false, false, false, false, false, false, false, false, false, false, false] rfl rfl (by kernel_rfl) (fun _ _ _ h => h) (by rfl) ?hyr51_12 ?har51_12 ?_
  case hyr51_12 =>
    intro w' hx
    go_simp
    with_reducible rfl
  case har51_12 => (simp only [Act.put, List.setIfInBounds_toArray, List.set_cons_zero, List.set_cons_succ]; rfl)
  refine E_take (hR := Ext.pre) (i := 13) (N := (some 41)) (v := ?vr51_13) (a' := ?ar51_13) #[true, true, true, true, true, true, true, true, true, true, false, false, true, true, false, false, false, false, false, false, false, false, false, false, false, false, false, false, false, false, false, false, false, false, false, false, false] rfl rfl (by kernel_rfl) (fun _ _ _ h => h) (by rfl) ?hyr51_13 ?har51_13 ?_
  case hyr51_13 =>
    intro w' hx
    go_simp
    with_reducible rfl
  case har51_13 => (simp only [Act.put, List.setIfInBounds_toArray, List.set_cons_zero, List.set_cons_succ]; rfl)
  refine E_take (hR := Ext.pre) (i := 14) (N := (some 42)) (v := ?vr51_14) (a' := ?ar51_14) #[true, true, true, true, true, true, true, true, true, true, false, false, true, true, true, false, false, false, false, false, false, false, false, false, false, false, false, false, false, false, false, false, false, false, false, false, false] rfl rfl (by kernel_rfl) (fun _ _ _ h => h) (by rfl) ?hyr51_14 ?har51_14 ?_
  case hyr51_14 =>
    intro w' hx
    go_simp
    with_reducible rfl
  case har51_14 => (simp only [Act.put, List.setIfInBounds_toArray, List.set_cons_zero, List.set_cons_succ]; rfl)
  refine E_take (hR := Ext.pre) (i := 15) (N := (some 43)) (v := ?vr51_15) (a' := ?ar51_15) #[true, true, true, true, true, true, true, true, true, true, false, false, true, true, true, true, false, false, false, false, false, false, false, false, false, false, false, false, false, false, false, false, false, false, false, false, false] rfl rfl (by kernel_rfl) (fun _ _ _ h => h) (by rfl) ?hyr51_15 ?har51_15 ?_
  case hyr51_15 =>
    intro w' hx
    have hst := run_str w' (P := Try.prog) (n := q) (c := c) Try.underlying22 Try.underlying5 (xs := t) (HT.out.keep (hb.trans (hx.mono hb.size))) TL.out Try.underlying9
    go_simp
    with_reducible rfl
  case har51_15 => (simp only [Act.put, List.setIfInBounds_toArray, List.set_cons_zero, List.set_cons_succ]; rfl)
  refine E_call (i := 10) (N := (some 38)) (args := ?gr51_10) #[true, true, true, true, true, true, true, true, true, true, true, false, true, true, true, true, false, false, false, false, false, false, false, false, false, false, false, false, false, false, false, false, false, false, false, false, false] rfl rfl (by kernel_rfl) (by rfl) Try.func23 (by kernel_rfl) rfl rfl ?hgr51_10 ?_
  case hgr51_10 => (simp only [List.map_toArray, List.map_cons, List.map_nil]; go_simp; with_reducible rfl)
  refine (xor_any A1 B q m n1 c' x b _ XL.out HM.out R1.out (H'.out.keep hb) hle1 (by omega)).mono ?_
  rintro e w4 ⟨v, rfl, hown, hb4⟩
  rw [XB.out, TL.out] at hown
  obtain ⟨A4, n4, rfl, _, _, hr4, _⟩ := own_rd hown
  have R4 := Lib.hid hr4
  clear hr4 hown
  refine ⟨_, rfl, hb4, ?_⟩
  replace hb := hb.trans (hb4.mono hb.size)
  clear hb4
  rintro _ rfl
  simp only [Act.put, List.setIfInBounds_toArray, List.set_cons_zero, List.set_cons_succ]
  refine E_take (hR := Ext.pre) (i := 11) (N := (some 39)) (v := ?vr51_11) (a' := ?ar51_11) #[true, true, true, true, true, true, true, true, true, true, true, true, true, true, true, true, false, false, false, false, false, false, false, false, false, false, false, false, false, false, false, false, false, false, false, false, false] rfl rfl (by kernel_rfl) (fun _ _ _ h => h) (by rfl) ?hyr51_11 ?har51_11 ?_
  case hyr51_11 =>
    intro w' hx
    have hst := run_str w' (P := Try.prog) (n := q) (c := n4) Try.underlying22 Try.underlying5 (xs := t) (Rd.keep R4.out hx) TL.out Try.underlying9
    go_simp
    with_reducible rfl
  case har51_11 => (simp only [Act.put, List.setIfInBounds_toArray, List.set_cons_zero, List.set_cons_succ]; rfl)
  refine E_take (hR := Ext.pre) (i := 16) (N := (some 44)) (v := ?vr51_16) (a' := ?ar51_16) #[true, true, true, true, true, true, true, true, true, true, true, true, true, true, true, true, true, false, false, false, false, false, false, false, false, false, false, false, false, false, false, false, false, false, false, false, false] rfl rfl (by kernel_rfl) (fun _ _ _ h => h) (by rfl) ?hyr51_16 ?har51_16 ?_
  case hyr51_16 =>
    intro w' hx
    go_simp
    with_reducible rfl
  case har51_16 => (simp only [Act.put, List.setIfInBounds_toArray, List.set_cons_zero, List.set_cons_succ]; rfl)
  refine E_take (hR := Ext.pre) (i := 17) (N := (some 45)) (v := ?vr51_17) (a' := ?ar51_17) #[true, true, true, true, true, true, true, true, true, true, true, true, true, true, true, true, true, true, false, false, false, false, false, false, false, false, false, false, false, false, false, false, false, false, false, false, false] rfl rfl (by kernel_rfl) (fun _ _ _ h => h) (by rfl) ?hyr51_17 ?har51_17 ?_
  case hyr51_17 =>
    intro w' hx
    go_simp
    with_reducible rfl
  case har51_17 => (simp only [Act.put, List.setIfInBounds_toArray, List.set_cons_zero, List.set_cons_succ]; rfl)
  refine E_take (hR := Ext.pre) (i := 18) (N := (some 46)) (v := ?vr51_18) (a' := ?ar51_18) #[true, true, true, true, true, true, true, true, true, true, true, true, true, true, true, true, true, true, true, false, false, false, false, false, false, false, false, false, false, false, false, false, false, false, false, false, false] rfl rfl (by kernel_rfl) (fun _ _ _ h => h) (by rfl) ?hyr51_18 ?har51_18 ?_
  case hyr51_18 =>
    intro w' hx
    go_simp
    with_reducible rfl
  case har51_18 => (simp only [Act.put, List.setIfInBounds_toArray, List.set_cons_zero, List.set_cons_succ]; rfl)
  refine E_take (hR := Ext.pre) (i := 19) (N := (some 47)) (v := ?vr51_19) (a' := ?ar51_19) #[true, true, true, true, true, true, true, true, true, true, true, true, true, true, true, true, true, true, true, true, false, false, false, false, false, false, false, false, false, false, false, false, false, false, false, false, false] rfl rfl (by kernel_rfl) (fun _ _ _ h => h) (by rfl) ?hyr51_19 ?har51_19 ?_
  case hyr51_19 =>
    intro w' hx
    go_simp
    with_reducible rfl
  case har51_19 => (simp only [Act.put, List.setIfInBounds_toArray, List.set_cons_zero, List.set_cons_succ]; rfl)
  refine E_take (hR := Ext.pre) (i := 20) (N := (some 48)) (v := ?vr51_20) (a' := ?ar51_20) #[true, true, true, true, true, true, true, true, true, true, true, true, true, true, true, true, true, true, true, true, true, false, false, false, false, false, false, false, false, false, false, false, false, false, false, false, false] rfl rfl (by kernel_rfl) (fun _ _ _ h => h) (by rfl) ?hyr51_20 ?har51_20 ?_
  case hyr51_20 =>
    intro w' hx
    go_simp
    with_reducible rfl
  case har51_20 => (simp only [Act.put, List.setIfInBounds_toArray, List.set_cons_zero, List.set_cons_succ]; rfl)
  refine E_take (hR := Ext.pre) (i := 22) (N := (some 50)) (v := ?vr51_22) (a' := ?ar51_22) #[true, true, true, true, true, true, true, true, true, true, true, true, true, true, true, true, true, true, true, true, true, false, true, false, false, false, false, false, false, false, false, false, false, false, false, false, false] rfl rfl (by kernel_rfl) (fun _ _ _ h => h) (by rfl) ?hyr51_22 ?har51_22 ?_
  case hyr51_22 =>
    intro w' hx
    go_simp
    with_reducible rfl
  case har51_22 => (simp only [Act.put, List.setIfInBounds_toArray, List.set_cons_zero, List.set_cons_succ]; rfl)
  refine E_take (hR := Ext.pre) (i := 23) (N := (some 51)) (v := ?vr51_23) (a' := ?ar51_23) #[true, true, true, true, true, true, true, true, true, true, true, true, true, true, true, true, true, true, true, true, true, false, true, true, false, false, false, false, false, false, false, false, false, false, false, false, false] rfl rfl (by kernel_rfl) (fun _ _ _ h => h) (by rfl) ?hyr51_23 ?har51_23 ?_
  case hyr51_23 =>
    intro w' hx
    have hst := run_str w' (P := Try.prog) (n := n) (c := c) Try.underlying22 Try.underlying5 (xs := a) (H.out.keep (hb.trans (hx.mono hb.size))) HN.out Try.underlying9
    go_simp
    with_reducible rfl
  case har51_23 => (simp only [Act.put, List.setIfInBounds_toArray, List.set_cons_zero, List.set_cons_succ]; rfl)
  refine E_take (hR := Ext.pre) (i := 24) (N := (some 52)) (v := ?vr51_24) (a' := ?ar51_24) #[true, true, true, true, true, true, true, true, true, true, true, true, true, true, true, true, true, true, true, true, true, false, true, true, true, false, false, false, false, false, false, false, false, false, false, false, false] rfl rfl (by kernel_rfl) (fun _ _ _ h => h) (by rfl) ?hyr51_24 ?har51_24 ?_
  case hyr51_24 =>
    intro w' hx
    go_simp
    with_reducible rfl
  case har51_24 => (simp only [Act.put, List.setIfInBounds_toArray, List.set_cons_zero, List.set_cons_succ]; rfl)
  refine E_take (hR := Ext.pre) (i := 25) (N := (some 53)) (v := ?vr51_25) (a' := ?ar51_25) #[true, true, true, true, true, true, true, true, true, true, true, true, true, true, true, true, true, true, true, true, true, false, true, true, true, true, false, false, false, false, false, false, false, false, false, false, false] rfl rfl (by kernel_rfl) (fun _ _ _ h => h) (by rfl) ?hyr51_25 ?har51_25 ?_
  case hyr51_25 =>
    intro w' hx
    have hst := run_str w' (P := Try.prog) (n := m) (c := c') Try.underlying22 Try.underlying5 (xs := b) (H'.out.keep (hb.trans (hx.mono hb.size))) HM.out Try.underlying9
    go_simp
    with_reducible rfl
  case har51_25 => (simp only [Act.put, List.setIfInBounds_toArray, List.set_cons_zero, List.set_cons_succ]; rfl)
  refine E_take (hR := Ext.pre) (i := 26) (N := (some 54)) (v := ?vr51_26) (a' := ?ar51_26) #[true, true, true, true, true, true, true, true, true, true, true, true, true, true, true, true, true, true, true, true, true, false, true, true, true, true, true, false, false, false, false, false, false, false, false, false, false] rfl rfl (by kernel_rfl) (fun _ _ _ h => h) (by rfl) ?hyr51_26 ?har51_26 ?_
  case hyr51_26 =>
    intro w' hx
    go_simp
    with_reducible rfl
  case har51_26 => (simp only [Act.put, List.setIfInBounds_toArray, List.set_cons_zero, List.set_cons_succ]; rfl)
  refine E_call (i := 21) (N := (some 49)) (args := ?gr51_21) #[true, true, true, true, true, true, true, true, true, true, true, true, true, true, true, true, true, true, true, true, true, true, true, true, true, true, true, false, false, false, false, false, false, false, false, false, false] rfl rfl (by kernel_rfl) (by rfl) Try.func25 (by kernel_rfl) rfl rfl ?hgr51_21 ?_
  case hgr51_21 => (simp only [List.map_toArray, List.map_cons, List.map_nil]; go_simp; with_reducible rfl)
  refine (same_any A B n m c c' a b _ HN.out HM.out (H.out.keep hb) (H'.out.keep hb) (by omega) (by omega)).mono ?_
  rintro e w5 ⟨rfl, rfl⟩
  rw [RV.out]
  refine ⟨_, rfl, Ext.refl _, ?_⟩
  rintro _ rfl
  simp only [Act.put, List.setIfInBounds_toArray, List.set_cons_zero, List.set_cons_succ]
  refine E_take (hR := Ext.pre) (i := 27) (N := (some 55)) (v := ?vr51_27) (a' := ?ar51_27) #[true, true, true, true, true, true, true, true, true, true, true, true, true, true, true, true, true, true, true, true, true, true, true, true, true, true, true, true, false, false, false, false, false, false, false, false, false] rfl rfl (by kernel_rfl) (fun _ _ _ h => h) (by rfl) ?hyr51_27 ?har51_27 ?_
  case hyr51_27 =>
    intro w' hx
    go_simp
    with_reducible rfl
  case har51_27 => (simp only [Act.put, List.setIfInBounds_toArray, List.set_cons_zero, List.set_cons_succ]; rfl)
  refine E_take (hR := Ext.pre) (i := 28) (N := (some 56)) (v := ?vr51_28) (a' := ?ar51_28) #[true, true, true, true, true, true, true, true, true, true, true, true, true, true, true, true, true, true, true, true, true, true, true, true, true, true, true, true, true, false, false, false, false, false, false, false, false] rfl rfl (by kernel_rfl) (fun _ _ _ h => h) (by rfl) ?hyr51_28 ?har51_28 ?_
  case hyr51_28 =>
    intro w' hx
    go_simp
    with_reducible rfl
  case har51_28 => (simp only [Act.put, List.setIfInBounds_toArray, List.set_cons_zero, List.set_cons_succ]; rfl)
  refine E_take (hR := Ext.pre) (i := 29) (N := (some 57)) (v := ?vr51_29) (a' := ?ar51_29) #[true, true, true, true, true, true, true, true, true, true, true, true, true, true, true, true, true, true, true, true, true, true, true, true, true, true, true, true, true, true, false, false, false, false, false, false, false] rfl rfl (by kernel_rfl) (fun _ _ _ h => h) (by rfl) ?hyr51_29 ?har51_29 ?_
  case hyr51_29 =>
    intro w' hx
    go_simp
    with_reducible rfl
  case har51_29 => (simp only [Act.put, List.setIfInBounds_toArray, List.set_cons_zero, List.set_cons_succ]; rfl)
  refine E_take (hR := Ext.pre) (i := 30) (N := (some 58)) (v := ?vr51_30) (a' := ?ar51_30) #[true, true, true, true, true, true, true, true, true, true, true, true, true, true, true, true, true, true, true, true, true, true, true, true, true, true, true, true, true, true, true, false, false, false, false, false, false] rfl rfl (by kernel_rfl) (fun _ _ _ h => h) (by rfl) ?hyr51_30 ?har51_30 ?_
  case hyr51_30 =>
    intro w' hx
    go_simp
    with_reducible rfl
  case har51_30 => (simp only [Act.put, List.setIfInBounds_toArray, List.set_cons_zero, List.set_cons_succ]; rfl)
  refine E_take (hR := Ext.pre) (i := 32) (N := (some 60)) (v := ?vr51_32) (a' := ?ar51_32) #[true, true, true, true, true, true, true, true, true, true, true, true, true, true, true, true, true, true, true, true, true, true, true, true, true, true, true, true, true, true, true, false, true, false, false, false, false] rfl rfl (by kernel_rfl) (fun _ _ _ h => h) (by rfl) ?hyr51_32 ?har51_32 ?_
  case hyr51_32 =>
    intro w' hx
    go_simp
    with_reducible rfl
  case har51_32 => (simp only [Act.put, List.setIfInBounds_toArray, List.set_cons_zero, List.set_cons_succ]; rfl)
  obtain ⟨wA, hwA⟩ : ∃ wA, wA = w4 := ⟨_, rfl⟩
  rw [← hwA]
  rw [← hwA] at hb
  have HWA := Lib.hid hwA
  clear hwA
  refine E_run (i := 31) (N := (some 59)) (v := .slice (some ⟨wA.heap.size, 0, none⟩) 0 0) (w1 := wA.alloc (.cells #[] 5)) (a' := ?ar51_31) #[true, true, true, true, true, true, true, true, true, true, true, true, true, true, true, true, true, true, true, true, true, true, true, true, true, true, true, true, true, true, true, true, true, false, false, false, false] rfl rfl (by kernel_rfl) (by rfl) ?hrr51_31 ?hxr51_31 ?har51_31 ?_
  case hrr51_31 => go_simp
  case hxr51_31 => exact Ext.alloc _ _
  case har51_31 => (simp only [Act.put, List.setIfInBounds_toArray, List.set_cons_zero, List.set_cons_succ]; rfl)
  replace hb := hb.alloc hb.size (.cells #[] 5)
  obtain ⟨v6, w6, hrun, hown6, hgrow⟩ := run_app0 (wA.alloc (.cells #[] 5)) 22 (World.ownsRow_made wA #[] 0 (Nat.le_refl _) (Nat.zero_le _) rfl) (c := c) (H.out.keep hb) HN.out (by omega) (by rw [World.size_alloc]; omega)
  obtain ⟨A6, n6, rfl, _, _, hr6, _⟩ := own_rd hown6
  have R6 := Lib.hid hr6
  have HRUN := Lib.hid hrun
  clear hrun hr6 hown6
  have hb6 : Ext (wA.alloc (.cells #[] 5)) w6 := (Below.refl _ _).grown hgrow (Nat.le_refl _) (fun k e => by cases e)
  refine E_run (i := 33) (N := (some 61)) (v := .slice A6 n n6) (w1 := w6) (a' := ?ar51_33) #[true, true, true, true, true, true, true, true, true, true, true, true, true, true, true, true, true, true, true, true, true, true, true, true, true, true, true, true, true, true, true, true, true, true, false, false, false] rfl rfl (by kernel_rfl) (by rfl) (exec_append rfl rfl rfl HRUN.out) hb6 ?har51_33 ?_
  case har51_33 => (simp only [Act.put, List.setIfInBounds_toArray, List.set_cons_zero, List.set_cons_succ]; rfl)
  replace hb := hb.trans (hb6.mono hb.size)
  refine E_call (i := 34) (N := (some 62)) (args := ?gr51_34) #[true, true, true, true, true, true, true, true, true, true, true, true, true, true, true, true, true, true, true, true, true, true, true, true, true, true, true, true, true, true, true, true, true, true, true, false, false] rfl rfl (by kernel_rfl) (by rfl) Try.func25 (by kernel_rfl) rfl rfl ?hgr51_34 ?_
  case hgr51_34 => (simp only [List.map_toArray, List.map_cons, List.map_nil]; go_simp; with_reducible rfl)
  refine (same_any A A6 n n c n6 a a _ HN.out HN.out (H.out.keep hb) R6.out (by omega) (by omega)).mono ?_
  rintro e w7 ⟨rfl, rfl⟩
  rw [E4.out]
  refine ⟨_, rfl, Ext.refl _, ?_⟩
  rintro _ rfl
  simp only [Act.put, List.setIfInBounds_toArray, List.set_cons_zero, List.set_cons_succ]
  refine E_take (hR := Ext.pre) (i := 35) (N := (some 63)) (v := ?vr51_35) (a' := ?ar51_35) #[true, true, true, true, true, true, true, true, true, true, true, true, true, true, true, true, true, true, true, true, true, true, true, true, true, true, true, true, true, true, true, true, true, true, true, true, false] rfl rfl (by kernel_rfl) (fun _ _ _ h => h) (by rfl) ?hyr51_35 ?har51_35 ?_
  case hyr51_35 =>
    intro w' hx
    go_simp
    with_reducible rfl
  case har51_35 => (simp only [Act.put, List.setIfInBounds_toArray, List.set_cons_zero, List.set_cons_succ]; rfl)
  refine E_take (hR := Ext.pre) (i := 36) (N := (some 4)) (v := ?vr51_36) (a' := ?ar51_36) #[true, true, true, true, true, true, true, true, true, true, true, true, true, true, true, true, true, true, true, true, true, true, true, true, true, true, true, true, true, true, true, true, true, true, true, true, true] rfl rfl (by kernel_rfl) (fun _ _ _ h => h) (by rfl) ?hyr51_36 ?har51_36 ?_
  case hyr51_36 =>
    intro w' hx
    go_simp
    with_reducible rfl
  case har51_36 => (simp only [Act.put, List.setIfInBounds_toArray, List.set_cons_zero, List.set_cons_succ]; rfl)
  refine E_done (by kernel_rfl) ?_
  go_wp2
  go_ret
  exact ⟨rfl, hb⟩
end Go.Proofs.Ytnopoiidekklfaa
