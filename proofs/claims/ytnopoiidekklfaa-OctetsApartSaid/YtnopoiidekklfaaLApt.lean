/- The walk of OctetsApart. -/
import Derived.Test.YtnopoiidekklfaaLDig
import Derived.Test.YtnopoiidekklfaaLNum
import Derived.Test.YtnopoiidekklfaaArr
namespace Go.Proofs.Ytnopoiidekklfaa
open Go.RowKit

theorem hexF_inj (a b : List UInt8) : (hexF a == hexF b) = (a == b) := by
  rw [Bool.eq_iff_iff, beq_iff_eq, beq_iff_eq]
  constructor
  · intro h; rw [← unh_hex a, ← unh_hex b, h]
  · intro h; rw [h]

theorem rd2 {w : World} {b : Nat} {u v : Value} (h : Rd w (some ⟨b, 0, none⟩) [u, v]) : w.cell? ⟨b, 0, none⟩ = some u ∧ w.cell? ⟨b, 1, none⟩ = some v := by
  rcases h with h | ⟨b', o', e, h⟩
  · cases h
  · cases e
    exact ⟨h 0 (by simp), h 1 (by simp)⟩

theorem lex_step (x y r s M : Int) (hr : 0 ≤ r) (hr' : r < M) (hs : 0 ≤ s) (hs' : s < M) : decide (x * M + r < y * M + s) = (decide (x < y) || (decide (x = y) && decide (r < s))) := by
  have hM : 0 ≤ M := by omega
  rcases Int.lt_trichotomy x y with h | h | h
  · have := Int.mul_le_mul_of_nonneg_right (show x + 1 ≤ y by omega) hM
    rw [Int.add_mul, Int.one_mul] at this
    rw [decide_eq_true h, Bool.true_or, decide_eq_true_eq]; omega
  · subst h
    rw [decide_eq_false (Int.lt_irrefl _), Bool.false_or, decide_eq_true rfl, Bool.true_and]
    congr 1
    apply propext; omega
  · have := Int.mul_le_mul_of_nonneg_right (show y + 1 ≤ x by omega) hM
    rw [Int.add_mul, Int.one_mul] at this
    rw [decide_eq_false (show ¬ x < y by omega), Bool.false_or, decide_eq_false (show ¬ x = y by omega), Bool.false_and, decide_eq_false_iff_not]; omega

theorem lay_lt (p q : Int) : ∀ k : Nat, Op.bytesLess (layK p k) (layK q k) = decide (p % 256 ^ k < q % 256 ^ k)
  | 0 => by simp [layK, Op.bytesLess]
  | k + 1 => by
    have ih := lay_lt p q k
    have hM : (0 : Int) < 256 ^ k := Int.pow_pos (by decide)
    have hp : (2 : Int) ^ (8 * k) = 256 ^ k := by rw [Int.pow_mul]; rfl
    rw [layK, layK, Op.bytesLess, ih, Int.pow_succ, ← Int.emod_mul_aux p (256 ^ k) 256 (by omega), ← Int.emod_mul_aux q (256 ^ k) 256 (by omega), lex_step _ _ _ _ _ (Int.emod_nonneg _ (by omega)) (Int.emod_lt_of_pos _ hM) (Int.emod_nonneg _ (by omega)) (Int.emod_lt_of_pos _ hM), ← hp, ← layB_toNat, ← layB_toNat]
    congr 1
    · rw [decide_eq_decide, UInt8.lt_iff_toNat_lt]; omega
    · congr 1
      rw [Bool.eq_iff_iff, beq_iff_eq, decide_eq_true_eq, ← UInt8.toNat_inj]; omega

theorem lay8_lt {p q : Int} (h1 : 0 ≤ p) (h2 : p ≤ 9223372036854775807) (h3 : 0 ≤ q) (h4 : q ≤ 9223372036854775807) : Op.bytesLess (str (layK p (sizeK 8))).toList (str (layK q (sizeK 8))).toList = decide (p < q) := by
  rw [str_toList, str_toList, show sizeK 8 = 8 from rfl, lay_lt]
  congr 1
  apply propext; omega

set_option maxHeartbeats 4000000 in
theorem octetsApart_walk (A A' : Option Addr) (n n' c c' : Nat) (a b : List UInt8) (p q : Int) (w : World) (hn : a.length = n) (hn' : b.length = n') (h : RdB w A a) (h' : RdB w A' b)
    (hp : p ≤ 9223372036854775807) (hq : q ≤ 9223372036854775807) :
    Calls Try.prog 3 #[.slice A n c, .slice A' n' c', .agg #[.int .i64 p, .int .i64 q]] w fun e w' => e = .returned (.bool true) ∧ Below w.heap.size w w' := by
  have HN := Lib.hid hn
  have HN' := Lib.hid hn'
  have H := Lib.hid h
  have H' := Lib.hid h'
  have hb := Below.refl w.heap.size w
  clear hn hn' h h'
  by_cases h300 : 300 < n
  · go_enter Try.func3, Try.ntmps3
    go_wp2_with (go_at_call 8; refine (awake_acc w _ (by first | exact hb | exact hb.alloc hb.size _)).mono ?_; clear hb; rintro e w1 ⟨rfl, hb⟩)
    go_ret
    exact ⟨rfl, hb⟩
  by_cases h300' : 300 < n'
  · go_enter Try.func3, Try.ntmps3
    go_wp2_with (go_at_call 8; refine (awake_acc w _ (by first | exact hb | exact hb.alloc hb.size _)).mono ?_; clear hb; rintro e w1 ⟨rfl, hb⟩)
    go_ret
    exact ⟨rfl, hb⟩
  have e1 : ((str (hexF a)).toList == (str (hexF b)).toList) = (a == b) := by rw [str_beq, hexF_inj]
  have e2 : ((str a).toList == (str b).toList) = (a == b) := str_beq a b
  generalize (a == b) = r at e1 e2
  go_enter Try.func3, Try.ntmps3
  go_wp2_with (go_at_call 8; refine (awake_any _).mono ?_; rintro e w1 ⟨rfl, hb1⟩)
  have RB0 : Rd w1 (some ⟨w.heap.size, 0, none⟩) [.int .i64 p, .int .i64 q] := Rd.keep (rd_litV w [.int .i64 p, .int .i64 q] 23) hb1
  have RB := Lib.hid RB0
  clear RB0
  replace hb := (hb.alloc hb.size _).trans (hb1.mono (by rw [World.size_alloc]; omega))
  clear hb1
  refine E_start #[false, false, false, false, false, false, false, false, false, false, false] (by kernel_rfl) rfl rfl (fun w_r31 hx_r31 he_r31 => ?_)
  clear he_r31
  refine E_take (i := 0) (N := (some 20)) (v := ?vr31_0) (a' := ?ar31_0) #[true, false, false, false, false, false, false, false, false, false, false] rfl rfl (by kernel_rfl) (fun _ _ _ h => h) (by rfl) ?hyr31_0 ?har31_0 ?_
  case hyr31_0 =>
    intro w' hx
    go_simp
    with_reducible rfl
  case har31_0 => (simp only [Act.put, List.setIfInBounds_toArray, List.set_cons_zero, List.set_cons_succ]; rfl)
  refine E_take (i := 2) (N := (some 22)) (v := ?vr31_2) (a' := ?ar31_2) #[true, false, true, false, false, false, false, false, false, false, false] rfl rfl (by kernel_rfl) (fun _ _ _ h => h) (by rfl) ?hyr31_2 ?har31_2 ?_
  case hyr31_2 =>
    intro w' hx
    go_simp
    with_reducible rfl
  case har31_2 => (simp only [Act.put, List.setIfInBounds_toArray, List.set_cons_zero, List.set_cons_succ]; rfl)
  refine E_take (i := 5) (N := (some 25)) (v := ?vr31_5) (a' := ?ar31_5) #[true, false, true, false, false, true, false, false, false, false, false] rfl rfl (by kernel_rfl) (fun _ _ _ h => h) (by rfl) ?hyr31_5 ?har31_5 ?_
  case hyr31_5 =>
    intro w' hx
    go_simp
    with_reducible rfl
  case har31_5 => (simp only [Act.put, List.setIfInBounds_toArray, List.set_cons_zero, List.set_cons_succ]; rfl)
  refine E_take (i := 6) (N := (some 26)) (v := ?vr31_6) (a' := ?ar31_6) #[true, false, true, false, false, true, true, false, false, false, false] rfl rfl (by kernel_rfl) (fun _ _ _ h => h) (by rfl) ?hyr31_6 ?har31_6 ?_
  case hyr31_6 =>
    intro w' hx
    have hst := run_str w' (P := Try.prog) (n := n) (c := c) Try.underlying22 Try.underlying5 (xs := a) (H.out.keep (hb.trans ((hx_r31.trans hx).mono hb.size))) HN.out Try.underlying9
    go_simp
    with_reducible rfl
  case har31_6 => (simp only [Act.put, List.setIfInBounds_toArray, List.set_cons_zero, List.set_cons_succ]; rfl)
  refine E_take (i := 7) (N := (some 27)) (v := ?vr31_7) (a' := ?ar31_7) #[true, false, true, false, false, true, true, true, false, false, false] rfl rfl (by kernel_rfl) (fun _ _ _ h => h) (by rfl) ?hyr31_7 ?har31_7 ?_
  case hyr31_7 =>
    intro w' hx
    go_simp
    with_reducible rfl
  case har31_7 => (simp only [Act.put, List.setIfInBounds_toArray, List.set_cons_zero, List.set_cons_succ]; rfl)
  refine E_take (i := 8) (N := (some 28)) (v := ?vr31_8) (a' := ?ar31_8) #[true, false, true, false, false, true, true, true, true, false, false] rfl rfl (by kernel_rfl) (fun _ _ _ h => h) (by rfl) ?hyr31_8 ?har31_8 ?_
  case hyr31_8 =>
    intro w' hx
    have hst := run_str w' (P := Try.prog) (n := n') (c := c') Try.underlying22 Try.underlying5 (xs := b) (H'.out.keep (hb.trans ((hx_r31.trans hx).mono hb.size))) HN'.out Try.underlying9
    go_simp
    with_reducible rfl
  case har31_8 => (simp only [Act.put, List.setIfInBounds_toArray, List.set_cons_zero, List.set_cons_succ]; rfl)
  refine E_take (i := 9) (N := (some 29)) (v := ?vr31_9) (a' := ?ar31_9) #[true, false, true, false, false, true, true, true, true, true, false] rfl rfl (by kernel_rfl) (fun _ _ _ h => h) (by rfl) ?hyr31_9 ?har31_9 ?_
  case hyr31_9 =>
    intro w' hx
    go_simp
    with_reducible rfl
  case har31_9 => (simp only [Act.put, List.setIfInBounds_toArray, List.set_cons_zero, List.set_cons_succ]; rfl)
  refine E_call (i := 1) (N := (some 21)) (args := ?gr31_1) #[true, true, true, false, false, true, true, true, true, true, false] rfl rfl (by kernel_rfl) (by rfl) Try.func9 (by kernel_rfl) rfl rfl ?hgr31_1 ?_
  case hgr31_1 => (simp only [List.map_toArray, List.map_cons, List.map_nil]; go_simp; with_reducible rfl)
  refine (hex_any A n c a _ HN.out (H.out.keep (hb.trans (hx_r31.mono hb.size))) (by omega)).mono ?_
  rintro e w2 ⟨rfl, hb2⟩
  refine ⟨_, rfl, hb2, ?_⟩
  rintro _ rfl
  simp only [Act.put, List.setIfInBounds_toArray, List.set_cons_zero, List.set_cons_succ]
  refine E_call (i := 3) (N := (some 23)) (args := ?gr31_3) #[true, true, true, true, false, true, true, true, true, true, false] rfl rfl (by kernel_rfl) (by rfl) Try.func9 (by kernel_rfl) rfl rfl ?hgr31_3 ?_
  case hgr31_3 => (simp only [List.map_toArray, List.map_cons, List.map_nil]; go_simp; with_reducible rfl)
  refine (hex_any A' n' c' b _ HN'.out (H'.out.keep (hb.trans ((hx_r31.trans hb2).mono hb.size))) (by omega)).mono ?_
  rintro e w3 ⟨rfl, hb3⟩
  refine ⟨_, rfl, hb3, ?_⟩
  rintro _ rfl
  simp only [Act.put, List.setIfInBounds_toArray, List.set_cons_zero, List.set_cons_succ]
  refine E_take (i := 4) (N := (some 24)) (v := ?vr31_4) (a' := ?ar31_4) #[true, true, true, true, true, true, true, true, true, true, false] rfl rfl (by kernel_rfl) (fun _ _ _ h => h) (by rfl) ?hyr31_4 ?har31_4 ?_
  case hyr31_4 =>
    intro w' hx
    go_simp
    with_reducible rfl
  case har31_4 => (simp only [Act.put, List.setIfInBounds_toArray, List.set_cons_zero, List.set_cons_succ]; rfl)
  refine E_take (i := 10) (N := (some 30)) (v := ?vr31_10) (a' := ?ar31_10) #[true, true, true, true, true, true, true, true, true, true, true] rfl rfl (by kernel_rfl) (fun _ _ _ h => h) (by rfl) ?hyr31_10 ?har31_10 ?_
  case hyr31_10 =>
    intro w' hx
    go_simp
    with_reducible rfl
  case har31_10 => (simp only [Act.put, List.setIfInBounds_toArray, List.set_cons_zero, List.set_cons_succ]; rfl)
  refine E_done (by kernel_rfl) ?_
  replace RB := Lib.hid (Rd.keep RB.out ((hx_r31.trans hb2).trans hb3))
  replace hb := Ext.below hb ((hx_r31.trans hb2).trans hb3)
  clear hx_r31 hb2 hb3 e1 e2
  go_upto_region 5 with (fail)
  by_cases hp0 : p < 0
  · skip
    refine E_start #[false, false, false, false, false, false, false, false, false, false, false, false, false, false, false, false, false, false, false, false, false, false, false, false, false, false] (by kernel_rfl) rfl rfl (fun w_u2 hx_u2 he_u2 => ?_)
    clear he_u2
    refine E_take (i := 0) (N := (some 31)) (v := ?vu2_0) (a' := ?au2_0) #[true, false, false, false, false, false, false, false, false, false, false, false, false, false, false, false, false, false, false, false, false, false, false, false, false, false] rfl rfl (by kernel_rfl) (fun _ _ _ h => h) (by rfl) ?hyu2_0 ?hau2_0 ?_
    case hyu2_0 =>
      intro w' hx
      go_simp
      with_reducible rfl
    case hau2_0 => (simp only [Act.put, List.setIfInBounds_toArray, List.set_cons_zero, List.set_cons_succ]; rfl)
    refine E_take (i := 1) (N := (some 32)) (v := ?vu2_1) (a' := ?au2_1) #[true, true, false, false, false, false, false, false, false, false, false, false, false, false, false, false, false, false, false, false, false, false, false, false, false, false] rfl rfl (by kernel_rfl) (fun _ _ _ h => h) (by rfl) ?hyu2_1 ?hau2_1 ?_
    case hyu2_1 =>
      intro w' hx
      have hc := rd2 (Rd.keep RB.out (hx_u2.trans hx))
      go_simp
      with_reducible rfl
    case hau2_1 => (simp only [Act.put, List.setIfInBounds_toArray, List.set_cons_zero, List.set_cons_succ]; rfl)
    refine E_take (i := 2) (N := (some 33)) (v := ?vu2_2) (a' := ?au2_2) #[true, true, true, false, false, false, false, false, false, false, false, false, false, false, false, false, false, false, false, false, false, false, false, false, false, false] rfl rfl (by kernel_rfl) (fun _ _ _ h => h) (by rfl) ?hyu2_2 ?hau2_2 ?_
    case hyu2_2 =>
      intro w' hx
      go_simp
      with_reducible rfl
    case hau2_2 => (simp only [Act.put, List.setIfInBounds_toArray, List.set_cons_zero, List.set_cons_succ]; rfl)
    refine E_take (i := 3) (N := (some 34)) (v := ?vu2_3) (a' := ?au2_3) #[true, true, true, true, false, false, false, false, false, false, false, false, false, false, false, false, false, false, false, false, false, false, false, false, false, false] rfl rfl (by kernel_rfl) (fun _ _ _ h => h) (by rfl) ?hyu2_3 ?hau2_3 ?_
    case hyu2_3 =>
      intro w' hx
      go_simp
      with_reducible rfl
    case hau2_3 => (simp only [Act.put, List.setIfInBounds_toArray, List.set_cons_zero, List.set_cons_succ]; rfl)
    refine E_skip (i := 4) (N := (some 35)) (a' := ?au2_4) #[true, true, true, true, true, false, false, false, false, false, false, false, false, false, false, false, false, false, false, false, false, false, false, false, false, false] rfl rfl (by kernel_rfl) (fun _ _ _ h => h) (by rfl) ?hau2_4 ?_
    case hau2_4 => (simp only [Act.put, List.setIfInBounds_toArray, List.set_cons_zero, List.set_cons_succ]; rfl)
    refine E_skip (i := 5) (N := (some 36)) (a' := ?au2_5) #[true, true, true, true, true, true, false, false, false, false, false, false, false, false, false, false, false, false, false, false, false, false, false, false, false, false] rfl rfl (by kernel_rfl) (fun _ _ _ h => h) (by rfl) ?hau2_5 ?_
    case hau2_5 => (simp only [Act.put, List.setIfInBounds_toArray, List.set_cons_zero, List.set_cons_succ]; rfl)
    refine E_skip (i := 6) (N := (some 37)) (a' := ?au2_6) #[true, true, true, true, true, true, true, false, false, false, false, false, false, false, false, false, false, false, false, false, false, false, false, false, false, false] rfl rfl (by kernel_rfl) (fun _ _ _ h => h) (by rfl) ?hau2_6 ?_
    case hau2_6 => (simp only [Act.put, List.setIfInBounds_toArray, List.set_cons_zero, List.set_cons_succ]; rfl)
    refine E_take (i := 7) (N := (some 38)) (v := ?vu2_7) (a' := ?au2_7) #[true, true, true, true, true, true, true, true, false, false, false, false, false, false, false, false, false, false, false, false, false, false, false, false, false, false] rfl rfl (by kernel_rfl) (fun _ _ _ h => h) (by rfl) ?hyu2_7 ?hau2_7 ?_
    case hyu2_7 =>
      intro w' hx
      go_simp
      with_reducible rfl
    case hau2_7 => (simp only [Act.put, List.setIfInBounds_toArray, List.set_cons_zero, List.set_cons_succ]; rfl)
    refine E_take (i := 8) (N := (some 39)) (v := ?vu2_8) (a' := ?au2_8) #[true, true, true, true, true, true, true, true, true, false, false, false, false, false, false, false, false, false, false, false, false, false, false, false, false, false] rfl rfl (by kernel_rfl) (fun _ _ _ h => h) (by rfl) ?hyu2_8 ?hau2_8 ?_
    case hyu2_8 =>
      intro w' hx
      go_simp
      with_reducible rfl
    case hau2_8 => (simp only [Act.put, List.setIfInBounds_toArray, List.set_cons_zero, List.set_cons_succ]; rfl)
    refine E_skip (i := 9) (N := (some 40)) (a' := ?au2_9) #[true, true, true, true, true, true, true, true, true, true, false, false, false, false, false, false, false, false, false, false, false, false, false, false, false, false] rfl rfl (by kernel_rfl) (fun _ _ _ h => h) (by rfl) ?hau2_9 ?_
    case hau2_9 => (simp only [Act.put, List.setIfInBounds_toArray, List.set_cons_zero, List.set_cons_succ]; rfl)
    refine E_skip (i := 10) (N := (some 41)) (a' := ?au2_10) #[true, true, true, true, true, true, true, true, true, true, true, false, false, false, false, false, false, false, false, false, false, false, false, false, false, false] rfl rfl (by kernel_rfl) (fun _ _ _ h => h) (by rfl) ?hau2_10 ?_
    case hau2_10 => (simp only [Act.put, List.setIfInBounds_toArray, List.set_cons_zero, List.set_cons_succ]; rfl)
    refine E_skip (i := 11) (N := (some 42)) (a' := ?au2_11) #[true, true, true, true, true, true, true, true, true, true, true, true, false, false, false, false, false, false, false, false, false, false, false, false, false, false] rfl rfl (by kernel_rfl) (fun _ _ _ h => h) (by rfl) ?hau2_11 ?_
    case hau2_11 => (simp only [Act.put, List.setIfInBounds_toArray, List.set_cons_zero, List.set_cons_succ]; rfl)
    refine E_skip (i := 12) (N := (some 43)) (a' := ?au2_12) #[true, true, true, true, true, true, true, true, true, true, true, true, true, false, false, false, false, false, false, false, false, false, false, false, false, false] rfl rfl (by kernel_rfl) (fun _ _ _ h => h) (by rfl) ?hau2_12 ?_
    case hau2_12 => (simp only [Act.put, List.setIfInBounds_toArray, List.set_cons_zero, List.set_cons_succ]; rfl)
    refine E_skip (i := 13) (N := (some 44)) (a' := ?au2_13) #[true, true, true, true, true, true, true, true, true, true, true, true, true, true, false, false, false, false, false, false, false, false, false, false, false, false] rfl rfl (by kernel_rfl) (fun _ _ _ h => h) (by rfl) ?hau2_13 ?_
    case hau2_13 => (simp only [Act.put, List.setIfInBounds_toArray, List.set_cons_zero, List.set_cons_succ]; rfl)
    refine E_skip (i := 14) (N := (some 45)) (a' := ?au2_14) #[true, true, true, true, true, true, true, true, true, true, true, true, true, true, true, false, false, false, false, false, false, false, false, false, false, false] rfl rfl (by kernel_rfl) (fun _ _ _ h => h) (by rfl) ?hau2_14 ?_
    case hau2_14 => (simp only [Act.put, List.setIfInBounds_toArray, List.set_cons_zero, List.set_cons_succ]; rfl)
    refine E_skip (i := 15) (N := (some 46)) (a' := ?au2_15) #[true, true, true, true, true, true, true, true, true, true, true, true, true, true, true, true, false, false, false, false, false, false, false, false, false, false] rfl rfl (by kernel_rfl) (fun _ _ _ h => h) (by rfl) ?hau2_15 ?_
    case hau2_15 => (simp only [Act.put, List.setIfInBounds_toArray, List.set_cons_zero, List.set_cons_succ]; rfl)
    refine E_skip (i := 16) (N := (some 47)) (a' := ?au2_16) #[true, true, true, true, true, true, true, true, true, true, true, true, true, true, true, true, true, false, false, false, false, false, false, false, false, false] rfl rfl (by kernel_rfl) (fun _ _ _ h => h) (by rfl) ?hau2_16 ?_
    case hau2_16 => (simp only [Act.put, List.setIfInBounds_toArray, List.set_cons_zero, List.set_cons_succ]; rfl)
    refine E_skip (i := 17) (N := (some 48)) (a' := ?au2_17) #[true, true, true, true, true, true, true, true, true, true, true, true, true, true, true, true, true, true, false, false, false, false, false, false, false, false] rfl rfl (by kernel_rfl) (fun _ _ _ h => h) (by rfl) ?hau2_17 ?_
    case hau2_17 => (simp only [Act.put, List.setIfInBounds_toArray, List.set_cons_zero, List.set_cons_succ]; rfl)
    refine E_skip (i := 18) (N := (some 49)) (a' := ?au2_18) #[true, true, true, true, true, true, true, true, true, true, true, true, true, true, true, true, true, true, true, false, false, false, false, false, false, false] rfl rfl (by kernel_rfl) (fun _ _ _ h => h) (by rfl) ?hau2_18 ?_
    case hau2_18 => (simp only [Act.put, List.setIfInBounds_toArray, List.set_cons_zero, List.set_cons_succ]; rfl)
    refine E_skip (i := 19) (N := (some 50)) (a' := ?au2_19) #[true, true, true, true, true, true, true, true, true, true, true, true, true, true, true, true, true, true, true, true, false, false, false, false, false, false] rfl rfl (by kernel_rfl) (fun _ _ _ h => h) (by rfl) ?hau2_19 ?_
    case hau2_19 => (simp only [Act.put, List.setIfInBounds_toArray, List.set_cons_zero, List.set_cons_succ]; rfl)
    refine E_skip (i := 20) (N := (some 51)) (a' := ?au2_20) #[true, true, true, true, true, true, true, true, true, true, true, true, true, true, true, true, true, true, true, true, true, false, false, false, false, false] rfl rfl (by kernel_rfl) (fun _ _ _ h => h) (by rfl) ?hau2_20 ?_
    case hau2_20 => (simp only [Act.put, List.setIfInBounds_toArray, List.set_cons_zero, List.set_cons_succ]; rfl)
    refine E_skip (i := 21) (N := (some 52)) (a' := ?au2_21) #[true, true, true, true, true, true, true, true, true, true, true, true, true, true, true, true, true, true, true, true, true, true, false, false, false, false] rfl rfl (by kernel_rfl) (fun _ _ _ h => h) (by rfl) ?hau2_21 ?_
    case hau2_21 => (simp only [Act.put, List.setIfInBounds_toArray, List.set_cons_zero, List.set_cons_succ]; rfl)
    refine E_skip (i := 22) (N := (some 53)) (a' := ?au2_22) #[true, true, true, true, true, true, true, true, true, true, true, true, true, true, true, true, true, true, true, true, true, true, true, false, false, false] rfl rfl (by kernel_rfl) (fun _ _ _ h => h) (by rfl) ?hau2_22 ?_
    case hau2_22 => (simp only [Act.put, List.setIfInBounds_toArray, List.set_cons_zero, List.set_cons_succ]; rfl)
    refine E_skip (i := 23) (N := (some 54)) (a' := ?au2_23) #[true, true, true, true, true, true, true, true, true, true, true, true, true, true, true, true, true, true, true, true, true, true, true, true, false, false] rfl rfl (by kernel_rfl) (fun _ _ _ h => h) (by rfl) ?hau2_23 ?_
    case hau2_23 => (simp only [Act.put, List.setIfInBounds_toArray, List.set_cons_zero, List.set_cons_succ]; rfl)
    refine E_take (i := 24) (N := (some 55)) (v := ?vu2_24) (a' := ?au2_24) #[true, true, true, true, true, true, true, true, true, true, true, true, true, true, true, true, true, true, true, true, true, true, true, true, true, false] rfl rfl (by kernel_rfl) (fun _ _ _ h => h) (by rfl) ?hyu2_24 ?hau2_24 ?_
    case hyu2_24 =>
      intro w' hx
      go_simp
      with_reducible rfl
    case hau2_24 => (simp only [Act.put, List.setIfInBounds_toArray, List.set_cons_zero, List.set_cons_succ]; rfl)
    refine E_take (i := 25) (N := (some 6)) (v := ?vu2_25) (a' := ?au2_25) #[true, true, true, true, true, true, true, true, true, true, true, true, true, true, true, true, true, true, true, true, true, true, true, true, true, true] rfl rfl (by kernel_rfl) (fun _ _ _ h => h) (by rfl) ?hyu2_25 ?hau2_25 ?_
    case hyu2_25 =>
      intro w' hx
      go_simp
      with_reducible rfl
    case hau2_25 => (simp only [Act.put, List.setIfInBounds_toArray, List.set_cons_zero, List.set_cons_succ]; rfl)
    refine E_done (by kernel_rfl) ?_
    go_wp2
    go_ret
    exact ⟨rfl, Ext.below hb hx_u2⟩
  by_cases hq0 : q < 0
  · skip
    refine E_start #[false, false, false, false, false, false, false, false, false, false, false, false, false, false, false, false, false, false, false, false, false, false, false, false, false, false] (by kernel_rfl) rfl rfl (fun w_v3 hx_v3 he_v3 => ?_)
    clear he_v3
    refine E_take (i := 0) (N := (some 31)) (v := ?vv3_0) (a' := ?av3_0) #[true, false, false, false, false, false, false, false, false, false, false, false, false, false, false, false, false, false, false, false, false, false, false, false, false, false] rfl rfl (by kernel_rfl) (fun _ _ _ h => h) (by rfl) ?hyv3_0 ?hav3_0 ?_
    case hyv3_0 =>
      intro w' hx
      go_simp
      with_reducible rfl
    case hav3_0 => (simp only [Act.put, List.setIfInBounds_toArray, List.set_cons_zero, List.set_cons_succ]; rfl)
    refine E_take (i := 1) (N := (some 32)) (v := ?vv3_1) (a' := ?av3_1) #[true, true, false, false, false, false, false, false, false, false, false, false, false, false, false, false, false, false, false, false, false, false, false, false, false, false] rfl rfl (by kernel_rfl) (fun _ _ _ h => h) (by rfl) ?hyv3_1 ?hav3_1 ?_
    case hyv3_1 =>
      intro w' hx
      have hc := rd2 (Rd.keep RB.out (hx_v3.trans hx))
      go_simp
      with_reducible rfl
    case hav3_1 => (simp only [Act.put, List.setIfInBounds_toArray, List.set_cons_zero, List.set_cons_succ]; rfl)
    refine E_take (i := 2) (N := (some 33)) (v := ?vv3_2) (a' := ?av3_2) #[true, true, true, false, false, false, false, false, false, false, false, false, false, false, false, false, false, false, false, false, false, false, false, false, false, false] rfl rfl (by kernel_rfl) (fun _ _ _ h => h) (by rfl) ?hyv3_2 ?hav3_2 ?_
    case hyv3_2 =>
      intro w' hx
      go_simp
      with_reducible rfl
    case hav3_2 => (simp only [Act.put, List.setIfInBounds_toArray, List.set_cons_zero, List.set_cons_succ]; rfl)
    refine E_take (i := 3) (N := (some 34)) (v := ?vv3_3) (a' := ?av3_3) #[true, true, true, true, false, false, false, false, false, false, false, false, false, false, false, false, false, false, false, false, false, false, false, false, false, false] rfl rfl (by kernel_rfl) (fun _ _ _ h => h) (by rfl) ?hyv3_3 ?hav3_3 ?_
    case hyv3_3 =>
      intro w' hx
      go_simp
      with_reducible rfl
    case hav3_3 => (simp only [Act.put, List.setIfInBounds_toArray, List.set_cons_zero, List.set_cons_succ]; rfl)
    refine E_take (i := 4) (N := (some 35)) (v := ?vv3_4) (a' := ?av3_4) #[true, true, true, true, true, false, false, false, false, false, false, false, false, false, false, false, false, false, false, false, false, false, false, false, false, false] rfl rfl (by kernel_rfl) (fun _ _ _ h => h) (by rfl) ?hyv3_4 ?hav3_4 ?_
    case hyv3_4 =>
      intro w' hx
      go_simp
      with_reducible rfl
    case hav3_4 => (simp only [Act.put, List.setIfInBounds_toArray, List.set_cons_zero, List.set_cons_succ]; rfl)
    refine E_take (i := 5) (N := (some 36)) (v := ?vv3_5) (a' := ?av3_5) #[true, true, true, true, true, true, false, false, false, false, false, false, false, false, false, false, false, false, false, false, false, false, false, false, false, false] rfl rfl (by kernel_rfl) (fun _ _ _ h => h) (by rfl) ?hyv3_5 ?hav3_5 ?_
    case hyv3_5 =>
      intro w' hx
      have hc := rd2 (Rd.keep RB.out (hx_v3.trans hx))
      go_simp
      with_reducible rfl
    case hav3_5 => (simp only [Act.put, List.setIfInBounds_toArray, List.set_cons_zero, List.set_cons_succ]; rfl)
    refine E_take (i := 6) (N := (some 37)) (v := ?vv3_6) (a' := ?av3_6) #[true, true, true, true, true, true, true, false, false, false, false, false, false, false, false, false, false, false, false, false, false, false, false, false, false, false] rfl rfl (by kernel_rfl) (fun _ _ _ h => h) (by rfl) ?hyv3_6 ?hav3_6 ?_
    case hyv3_6 =>
      intro w' hx
      go_simp
      with_reducible rfl
    case hav3_6 => (simp only [Act.put, List.setIfInBounds_toArray, List.set_cons_zero, List.set_cons_succ]; rfl)
    refine E_take (i := 7) (N := (some 38)) (v := ?vv3_7) (a' := ?av3_7) #[true, true, true, true, true, true, true, true, false, false, false, false, false, false, false, false, false, false, false, false, false, false, false, false, false, false] rfl rfl (by kernel_rfl) (fun _ _ _ h => h) (by rfl) ?hyv3_7 ?hav3_7 ?_
    case hyv3_7 =>
      intro w' hx
      go_simp
      with_reducible rfl
    case hav3_7 => (simp only [Act.put, List.setIfInBounds_toArray, List.set_cons_zero, List.set_cons_succ]; rfl)
    refine E_take (i := 8) (N := (some 39)) (v := ?vv3_8) (a' := ?av3_8) #[true, true, true, true, true, true, true, true, true, false, false, false, false, false, false, false, false, false, false, false, false, false, false, false, false, false] rfl rfl (by kernel_rfl) (fun _ _ _ h => h) (by rfl) ?hyv3_8 ?hav3_8 ?_
    case hyv3_8 =>
      intro w' hx
      go_simp
      with_reducible rfl
    case hav3_8 => (simp only [Act.put, List.setIfInBounds_toArray, List.set_cons_zero, List.set_cons_succ]; rfl)
    refine E_skip (i := 9) (N := (some 40)) (a' := ?av3_9) #[true, true, true, true, true, true, true, true, true, true, false, false, false, false, false, false, false, false, false, false, false, false, false, false, false, false] rfl rfl (by kernel_rfl) (fun _ _ _ h => h) (by rfl) ?hav3_9 ?_
    case hav3_9 => (simp only [Act.put, List.setIfInBounds_toArray, List.set_cons_zero, List.set_cons_succ]; rfl)
    refine E_skip (i := 10) (N := (some 41)) (a' := ?av3_10) #[true, true, true, true, true, true, true, true, true, true, true, false, false, false, false, false, false, false, false, false, false, false, false, false, false, false] rfl rfl (by kernel_rfl) (fun _ _ _ h => h) (by rfl) ?hav3_10 ?_
    case hav3_10 => (simp only [Act.put, List.setIfInBounds_toArray, List.set_cons_zero, List.set_cons_succ]; rfl)
    refine E_skip (i := 11) (N := (some 42)) (a' := ?av3_11) #[true, true, true, true, true, true, true, true, true, true, true, true, false, false, false, false, false, false, false, false, false, false, false, false, false, false] rfl rfl (by kernel_rfl) (fun _ _ _ h => h) (by rfl) ?hav3_11 ?_
    case hav3_11 => (simp only [Act.put, List.setIfInBounds_toArray, List.set_cons_zero, List.set_cons_succ]; rfl)
    refine E_skip (i := 12) (N := (some 43)) (a' := ?av3_12) #[true, true, true, true, true, true, true, true, true, true, true, true, true, false, false, false, false, false, false, false, false, false, false, false, false, false] rfl rfl (by kernel_rfl) (fun _ _ _ h => h) (by rfl) ?hav3_12 ?_
    case hav3_12 => (simp only [Act.put, List.setIfInBounds_toArray, List.set_cons_zero, List.set_cons_succ]; rfl)
    refine E_skip (i := 13) (N := (some 44)) (a' := ?av3_13) #[true, true, true, true, true, true, true, true, true, true, true, true, true, true, false, false, false, false, false, false, false, false, false, false, false, false] rfl rfl (by kernel_rfl) (fun _ _ _ h => h) (by rfl) ?hav3_13 ?_
    case hav3_13 => (simp only [Act.put, List.setIfInBounds_toArray, List.set_cons_zero, List.set_cons_succ]; rfl)
    refine E_skip (i := 14) (N := (some 45)) (a' := ?av3_14) #[true, true, true, true, true, true, true, true, true, true, true, true, true, true, true, false, false, false, false, false, false, false, false, false, false, false] rfl rfl (by kernel_rfl) (fun _ _ _ h => h) (by rfl) ?hav3_14 ?_
    case hav3_14 => (simp only [Act.put, List.setIfInBounds_toArray, List.set_cons_zero, List.set_cons_succ]; rfl)
    refine E_skip (i := 15) (N := (some 46)) (a' := ?av3_15) #[true, true, true, true, true, true, true, true, true, true, true, true, true, true, true, true, false, false, false, false, false, false, false, false, false, false] rfl rfl (by kernel_rfl) (fun _ _ _ h => h) (by rfl) ?hav3_15 ?_
    case hav3_15 => (simp only [Act.put, List.setIfInBounds_toArray, List.set_cons_zero, List.set_cons_succ]; rfl)
    refine E_skip (i := 16) (N := (some 47)) (a' := ?av3_16) #[true, true, true, true, true, true, true, true, true, true, true, true, true, true, true, true, true, false, false, false, false, false, false, false, false, false] rfl rfl (by kernel_rfl) (fun _ _ _ h => h) (by rfl) ?hav3_16 ?_
    case hav3_16 => (simp only [Act.put, List.setIfInBounds_toArray, List.set_cons_zero, List.set_cons_succ]; rfl)
    refine E_skip (i := 17) (N := (some 48)) (a' := ?av3_17) #[true, true, true, true, true, true, true, true, true, true, true, true, true, true, true, true, true, true, false, false, false, false, false, false, false, false] rfl rfl (by kernel_rfl) (fun _ _ _ h => h) (by rfl) ?hav3_17 ?_
    case hav3_17 => (simp only [Act.put, List.setIfInBounds_toArray, List.set_cons_zero, List.set_cons_succ]; rfl)
    refine E_skip (i := 18) (N := (some 49)) (a' := ?av3_18) #[true, true, true, true, true, true, true, true, true, true, true, true, true, true, true, true, true, true, true, false, false, false, false, false, false, false] rfl rfl (by kernel_rfl) (fun _ _ _ h => h) (by rfl) ?hav3_18 ?_
    case hav3_18 => (simp only [Act.put, List.setIfInBounds_toArray, List.set_cons_zero, List.set_cons_succ]; rfl)
    refine E_skip (i := 19) (N := (some 50)) (a' := ?av3_19) #[true, true, true, true, true, true, true, true, true, true, true, true, true, true, true, true, true, true, true, true, false, false, false, false, false, false] rfl rfl (by kernel_rfl) (fun _ _ _ h => h) (by rfl) ?hav3_19 ?_
    case hav3_19 => (simp only [Act.put, List.setIfInBounds_toArray, List.set_cons_zero, List.set_cons_succ]; rfl)
    refine E_skip (i := 20) (N := (some 51)) (a' := ?av3_20) #[true, true, true, true, true, true, true, true, true, true, true, true, true, true, true, true, true, true, true, true, true, false, false, false, false, false] rfl rfl (by kernel_rfl) (fun _ _ _ h => h) (by rfl) ?hav3_20 ?_
    case hav3_20 => (simp only [Act.put, List.setIfInBounds_toArray, List.set_cons_zero, List.set_cons_succ]; rfl)
    refine E_skip (i := 21) (N := (some 52)) (a' := ?av3_21) #[true, true, true, true, true, true, true, true, true, true, true, true, true, true, true, true, true, true, true, true, true, true, false, false, false, false] rfl rfl (by kernel_rfl) (fun _ _ _ h => h) (by rfl) ?hav3_21 ?_
    case hav3_21 => (simp only [Act.put, List.setIfInBounds_toArray, List.set_cons_zero, List.set_cons_succ]; rfl)
    refine E_skip (i := 22) (N := (some 53)) (a' := ?av3_22) #[true, true, true, true, true, true, true, true, true, true, true, true, true, true, true, true, true, true, true, true, true, true, true, false, false, false] rfl rfl (by kernel_rfl) (fun _ _ _ h => h) (by rfl) ?hav3_22 ?_
    case hav3_22 => (simp only [Act.put, List.setIfInBounds_toArray, List.set_cons_zero, List.set_cons_succ]; rfl)
    refine E_skip (i := 23) (N := (some 54)) (a' := ?av3_23) #[true, true, true, true, true, true, true, true, true, true, true, true, true, true, true, true, true, true, true, true, true, true, true, true, false, false] rfl rfl (by kernel_rfl) (fun _ _ _ h => h) (by rfl) ?hav3_23 ?_
    case hav3_23 => (simp only [Act.put, List.setIfInBounds_toArray, List.set_cons_zero, List.set_cons_succ]; rfl)
    refine E_take (i := 24) (N := (some 55)) (v := ?vv3_24) (a' := ?av3_24) #[true, true, true, true, true, true, true, true, true, true, true, true, true, true, true, true, true, true, true, true, true, true, true, true, true, false] rfl rfl (by kernel_rfl) (fun _ _ _ h => h) (by rfl) ?hyv3_24 ?hav3_24 ?_
    case hyv3_24 =>
      intro w' hx
      go_simp
      with_reducible rfl
    case hav3_24 => (simp only [Act.put, List.setIfInBounds_toArray, List.set_cons_zero, List.set_cons_succ]; rfl)
    refine E_take (i := 25) (N := (some 6)) (v := ?vv3_25) (a' := ?av3_25) #[true, true, true, true, true, true, true, true, true, true, true, true, true, true, true, true, true, true, true, true, true, true, true, true, true, true] rfl rfl (by kernel_rfl) (fun _ _ _ h => h) (by rfl) ?hyv3_25 ?hav3_25 ?_
    case hyv3_25 =>
      intro w' hx
      go_simp
      with_reducible rfl
    case hav3_25 => (simp only [Act.put, List.setIfInBounds_toArray, List.set_cons_zero, List.set_cons_succ]; rfl)
    refine E_done (by kernel_rfl) ?_
    go_wp2
    go_ret
    exact ⟨rfl, Ext.below hb hx_v3⟩
  · have e5 := lay8_lt (p := p) (q := q) (by omega) hp (by omega) hq
    refine E_start #[false, false, false, false, false, false, false, false, false, false, false, false, false, false, false, false, false, false, false, false, false, false, false, false, false, false] (by kernel_rfl) rfl rfl (fun w_z4 hx_z4 he_z4 => ?_)
    clear he_z4
    refine E_take (i := 0) (N := (some 31)) (v := ?vz4_0) (a' := ?az4_0) #[true, false, false, false, false, false, false, false, false, false, false, false, false, false, false, false, false, false, false, false, false, false, false, false, false, false] rfl rfl (by kernel_rfl) (fun _ _ _ h => h) (by rfl) ?hyz4_0 ?haz4_0 ?_
    case hyz4_0 =>
      intro w' hx
      go_simp
      with_reducible rfl
    case haz4_0 => (simp only [Act.put, List.setIfInBounds_toArray, List.set_cons_zero, List.set_cons_succ]; rfl)
    refine E_take (i := 1) (N := (some 32)) (v := ?vz4_1) (a' := ?az4_1) #[true, true, false, false, false, false, false, false, false, false, false, false, false, false, false, false, false, false, false, false, false, false, false, false, false, false] rfl rfl (by kernel_rfl) (fun _ _ _ h => h) (by rfl) ?hyz4_1 ?haz4_1 ?_
    case hyz4_1 =>
      intro w' hx
      have hc := rd2 (Rd.keep RB.out (hx_z4.trans hx))
      go_simp
      with_reducible rfl
    case haz4_1 => (simp only [Act.put, List.setIfInBounds_toArray, List.set_cons_zero, List.set_cons_succ]; rfl)
    refine E_take (i := 2) (N := (some 33)) (v := ?vz4_2) (a' := ?az4_2) #[true, true, true, false, false, false, false, false, false, false, false, false, false, false, false, false, false, false, false, false, false, false, false, false, false, false] rfl rfl (by kernel_rfl) (fun _ _ _ h => h) (by rfl) ?hyz4_2 ?haz4_2 ?_
    case hyz4_2 =>
      intro w' hx
      go_simp
      with_reducible rfl
    case haz4_2 => (simp only [Act.put, List.setIfInBounds_toArray, List.set_cons_zero, List.set_cons_succ]; rfl)
    refine E_take (i := 3) (N := (some 34)) (v := ?vz4_3) (a' := ?az4_3) #[true, true, true, true, false, false, false, false, false, false, false, false, false, false, false, false, false, false, false, false, false, false, false, false, false, false] rfl rfl (by kernel_rfl) (fun _ _ _ h => h) (by rfl) ?hyz4_3 ?haz4_3 ?_
    case hyz4_3 =>
      intro w' hx
      go_simp
      with_reducible rfl
    case haz4_3 => (simp only [Act.put, List.setIfInBounds_toArray, List.set_cons_zero, List.set_cons_succ]; rfl)
    refine E_take (i := 4) (N := (some 35)) (v := ?vz4_4) (a' := ?az4_4) #[true, true, true, true, true, false, false, false, false, false, false, false, false, false, false, false, false, false, false, false, false, false, false, false, false, false] rfl rfl (by kernel_rfl) (fun _ _ _ h => h) (by rfl) ?hyz4_4 ?haz4_4 ?_
    case hyz4_4 =>
      intro w' hx
      go_simp
      with_reducible rfl
    case haz4_4 => (simp only [Act.put, List.setIfInBounds_toArray, List.set_cons_zero, List.set_cons_succ]; rfl)
    refine E_take (i := 5) (N := (some 36)) (v := ?vz4_5) (a' := ?az4_5) #[true, true, true, true, true, true, false, false, false, false, false, false, false, false, false, false, false, false, false, false, false, false, false, false, false, false] rfl rfl (by kernel_rfl) (fun _ _ _ h => h) (by rfl) ?hyz4_5 ?haz4_5 ?_
    case hyz4_5 =>
      intro w' hx
      have hc := rd2 (Rd.keep RB.out (hx_z4.trans hx))
      go_simp
      with_reducible rfl
    case haz4_5 => (simp only [Act.put, List.setIfInBounds_toArray, List.set_cons_zero, List.set_cons_succ]; rfl)
    refine E_take (i := 6) (N := (some 37)) (v := ?vz4_6) (a' := ?az4_6) #[true, true, true, true, true, true, true, false, false, false, false, false, false, false, false, false, false, false, false, false, false, false, false, false, false, false] rfl rfl (by kernel_rfl) (fun _ _ _ h => h) (by rfl) ?hyz4_6 ?haz4_6 ?_
    case hyz4_6 =>
      intro w' hx
      go_simp
      with_reducible rfl
    case haz4_6 => (simp only [Act.put, List.setIfInBounds_toArray, List.set_cons_zero, List.set_cons_succ]; rfl)
    refine E_take (i := 7) (N := (some 38)) (v := ?vz4_7) (a' := ?az4_7) #[true, true, true, true, true, true, true, true, false, false, false, false, false, false, false, false, false, false, false, false, false, false, false, false, false, false] rfl rfl (by kernel_rfl) (fun _ _ _ h => h) (by rfl) ?hyz4_7 ?haz4_7 ?_
    case hyz4_7 =>
      intro w' hx
      go_simp
      with_reducible rfl
    case haz4_7 => (simp only [Act.put, List.setIfInBounds_toArray, List.set_cons_zero, List.set_cons_succ]; rfl)
    refine E_take (i := 8) (N := (some 39)) (v := ?vz4_8) (a' := ?az4_8) #[true, true, true, true, true, true, true, true, true, false, false, false, false, false, false, false, false, false, false, false, false, false, false, false, false, false] rfl rfl (by kernel_rfl) (fun _ _ _ h => h) (by rfl) ?hyz4_8 ?haz4_8 ?_
    case hyz4_8 =>
      intro w' hx
      go_simp
      with_reducible rfl
    case haz4_8 => (simp only [Act.put, List.setIfInBounds_toArray, List.set_cons_zero, List.set_cons_succ]; rfl)
    refine E_take (i := 9) (N := (some 40)) (v := ?vz4_9) (a' := ?az4_9) #[true, true, true, true, true, true, true, true, true, true, false, false, false, false, false, false, false, false, false, false, false, false, false, false, false, false] rfl rfl (by kernel_rfl) (fun _ _ _ h => h) (by rfl) ?hyz4_9 ?haz4_9 ?_
    case hyz4_9 =>
      intro w' hx
      go_simp
      with_reducible rfl
    case haz4_9 => (simp only [Act.put, List.setIfInBounds_toArray, List.set_cons_zero, List.set_cons_succ]; rfl)
    refine E_take (i := 10) (N := (some 41)) (v := ?vz4_10) (a' := ?az4_10) #[true, true, true, true, true, true, true, true, true, true, true, false, false, false, false, false, false, false, false, false, false, false, false, false, false, false] rfl rfl (by kernel_rfl) (fun _ _ _ h => h) (by rfl) ?hyz4_10 ?haz4_10 ?_
    case hyz4_10 =>
      intro w' hx
      have hc := rd2 (Rd.keep RB.out (hx_z4.trans hx))
      go_simp
      with_reducible rfl
    case haz4_10 => (simp only [Act.put, List.setIfInBounds_toArray, List.set_cons_zero, List.set_cons_succ]; rfl)
    refine E_take (i := 11) (N := (some 42)) (v := ?vz4_11) (a' := ?az4_11) #[true, true, true, true, true, true, true, true, true, true, true, true, false, false, false, false, false, false, false, false, false, false, false, false, false, false] rfl rfl (by kernel_rfl) (fun _ _ _ h => h) (by rfl) ?hyz4_11 ?haz4_11 ?_
    case hyz4_11 =>
      intro w' hx
      go_simp
      with_reducible rfl
    case haz4_11 => (simp only [Act.put, List.setIfInBounds_toArray, List.set_cons_zero, List.set_cons_succ]; rfl)
    refine E_take (i := 12) (N := (some 43)) (v := ?vz4_12) (a' := ?az4_12) #[true, true, true, true, true, true, true, true, true, true, true, true, true, false, false, false, false, false, false, false, false, false, false, false, false, false] rfl rfl (by kernel_rfl) (fun _ _ _ h => h) (by rfl) ?hyz4_12 ?haz4_12 ?_
    case hyz4_12 =>
      intro w' hx
      have hc := rd2 (Rd.keep RB.out (hx_z4.trans hx))
      go_simp
      with_reducible rfl
    case haz4_12 => (simp only [Act.put, List.setIfInBounds_toArray, List.set_cons_zero, List.set_cons_succ]; rfl)
    refine E_take (i := 13) (N := (some 44)) (v := ?vz4_13) (a' := ?az4_13) #[true, true, true, true, true, true, true, true, true, true, true, true, true, true, false, false, false, false, false, false, false, false, false, false, false, false] rfl rfl (by kernel_rfl) (fun _ _ _ h => h) (by rfl) ?hyz4_13 ?haz4_13 ?_
    case hyz4_13 =>
      intro w' hx
      go_simp
      with_reducible rfl
    case haz4_13 => (simp only [Act.put, List.setIfInBounds_toArray, List.set_cons_zero, List.set_cons_succ]; rfl)
    refine E_take (i := 14) (N := (some 45)) (v := ?vz4_14) (a' := ?az4_14) #[true, true, true, true, true, true, true, true, true, true, true, true, true, true, true, false, false, false, false, false, false, false, false, false, false, false] rfl rfl (by kernel_rfl) (fun _ _ _ h => h) (by rfl) ?hyz4_14 ?haz4_14 ?_
    case hyz4_14 =>
      intro w' hx
      go_simp
      with_reducible rfl
    case haz4_14 => (simp only [Act.put, List.setIfInBounds_toArray, List.set_cons_zero, List.set_cons_succ]; rfl)
    refine E_take (i := 15) (N := (some 46)) (v := ?vz4_15) (a' := ?az4_15) #[true, true, true, true, true, true, true, true, true, true, true, true, true, true, true, true, false, false, false, false, false, false, false, false, false, false] rfl rfl (by kernel_rfl) (fun _ _ _ h => h) (by rfl) ?hyz4_15 ?haz4_15 ?_
    case hyz4_15 =>
      intro w' hx
      have hc := rd2 (Rd.keep RB.out (hx_z4.trans hx))
      go_simp
      with_reducible rfl
    case haz4_15 => (simp only [Act.put, List.setIfInBounds_toArray, List.set_cons_zero, List.set_cons_succ]; rfl)
    refine E_take (i := 18) (N := (some 49)) (v := ?vz4_18) (a' := ?az4_18) #[true, true, true, true, true, true, true, true, true, true, true, true, true, true, true, true, false, false, true, false, false, false, false, false, false, false] rfl rfl (by kernel_rfl) (fun _ _ _ h => h) (by rfl) ?hyz4_18 ?haz4_18 ?_
    case hyz4_18 =>
      intro w' hx
      go_simp
      with_reducible rfl
    case haz4_18 => (simp only [Act.put, List.setIfInBounds_toArray, List.set_cons_zero, List.set_cons_succ]; rfl)
    refine E_take (i := 19) (N := (some 50)) (v := ?vz4_19) (a' := ?az4_19) #[true, true, true, true, true, true, true, true, true, true, true, true, true, true, true, true, false, false, true, true, false, false, false, false, false, false] rfl rfl (by kernel_rfl) (fun _ _ _ h => h) (by rfl) ?hyz4_19 ?haz4_19 ?_
    case hyz4_19 =>
      intro w' hx
      have hc := rd2 (Rd.keep RB.out (hx_z4.trans hx))
      go_simp
      with_reducible rfl
    case haz4_19 => (simp only [Act.put, List.setIfInBounds_toArray, List.set_cons_zero, List.set_cons_succ]; rfl)
    refine E_call (i := 16) (N := (some 47)) (args := ?gz4_16) #[true, true, true, true, true, true, true, true, true, true, true, true, true, true, true, true, true, false, true, true, false, false, false, false, false, false] rfl rfl (by kernel_rfl) (by rfl) Try.func10 (by kernel_rfl) rfl rfl ?hgz4_16 ?_
    case hgz4_16 => (simp only [List.map_toArray, List.map_cons, List.map_nil]; go_simp; with_reducible rfl)
    refine (lay_any p 8 _).mono ?_
    rintro e w4 ⟨v, rfl, hown, hb4⟩
    rw [layK_length] at hown
    obtain ⟨A4, n4, rfl, _, _, hr, _⟩ := own_rd hown
    have R4 := Lib.hid hr
    clear hown hr
    refine ⟨_, rfl, hb4, ?_⟩
    rintro _ rfl
    simp only [Act.put, List.setIfInBounds_toArray, List.set_cons_zero, List.set_cons_succ]
    refine E_take (i := 17) (N := (some 48)) (v := ?vz4_17) (a' := ?az4_17) #[true, true, true, true, true, true, true, true, true, true, true, true, true, true, true, true, true, true, true, true, false, false, false, false, false, false] rfl rfl (by kernel_rfl) (fun _ _ _ h => h) (by rfl) ?hyz4_17 ?haz4_17 ?_
    case hyz4_17 =>
      intro w' hx
      have hst := run_str w' (P := Try.prog) (n := sizeK 8) (c := n4) Try.underlying22 Try.underlying5 (xs := layK p (sizeK 8)) (Rd.keep R4.out hx) (layK_length _ _) Try.underlying9
      go_simp
      with_reducible rfl
    case haz4_17 => (simp only [Act.put, List.setIfInBounds_toArray, List.set_cons_zero, List.set_cons_succ]; rfl)
    refine E_call (i := 20) (N := (some 51)) (args := ?gz4_20) #[true, true, true, true, true, true, true, true, true, true, true, true, true, true, true, true, true, true, true, true, true, false, false, false, false, false] rfl rfl (by kernel_rfl) (by rfl) Try.func10 (by kernel_rfl) rfl rfl ?hgz4_20 ?_
    case hgz4_20 => (simp only [List.map_toArray, List.map_cons, List.map_nil]; go_simp; with_reducible rfl)
    refine (lay_any q 8 _).mono ?_
    rintro e w5 ⟨v, rfl, hown, hb5⟩
    rw [layK_length] at hown
    obtain ⟨A5, n5, rfl, _, _, hr, _⟩ := own_rd hown
    have R5 := Lib.hid hr
    clear hown hr
    refine ⟨_, rfl, hb5, ?_⟩
    rintro _ rfl
    simp only [Act.put, List.setIfInBounds_toArray, List.set_cons_zero, List.set_cons_succ]
    refine E_take (i := 21) (N := (some 52)) (v := ?vz4_21) (a' := ?az4_21) #[true, true, true, true, true, true, true, true, true, true, true, true, true, true, true, true, true, true, true, true, true, true, false, false, false, false] rfl rfl (by kernel_rfl) (fun _ _ _ h => h) (by rfl) ?hyz4_21 ?haz4_21 ?_
    case hyz4_21 =>
      intro w' hx
      have hst := run_str w' (P := Try.prog) (n := sizeK 8) (c := n5) Try.underlying22 Try.underlying5 (xs := layK q (sizeK 8)) (Rd.keep R5.out hx) (layK_length _ _) Try.underlying9
      go_simp
      with_reducible rfl
    case haz4_21 => (simp only [Act.put, List.setIfInBounds_toArray, List.set_cons_zero, List.set_cons_succ]; rfl)
    refine E_take (i := 22) (N := (some 53)) (v := ?vz4_22) (a' := ?az4_22) #[true, true, true, true, true, true, true, true, true, true, true, true, true, true, true, true, true, true, true, true, true, true, true, false, false, false] rfl rfl (by kernel_rfl) (fun _ _ _ h => h) (by rfl) ?hyz4_22 ?haz4_22 ?_
    case hyz4_22 =>
      intro w' hx
      go_simp
      with_reducible rfl
    case haz4_22 => (simp only [Act.put, List.setIfInBounds_toArray, List.set_cons_zero, List.set_cons_succ]; rfl)
    refine E_take (i := 23) (N := (some 54)) (v := ?vz4_23) (a' := ?az4_23) #[true, true, true, true, true, true, true, true, true, true, true, true, true, true, true, true, true, true, true, true, true, true, true, true, false, false] rfl rfl (by kernel_rfl) (fun _ _ _ h => h) (by rfl) ?hyz4_23 ?haz4_23 ?_
    case hyz4_23 =>
      intro w' hx
      go_simp
      with_reducible rfl
    case haz4_23 => (simp only [Act.put, List.setIfInBounds_toArray, List.set_cons_zero, List.set_cons_succ]; rfl)
    refine E_take (i := 24) (N := (some 55)) (v := ?vz4_24) (a' := ?az4_24) #[true, true, true, true, true, true, true, true, true, true, true, true, true, true, true, true, true, true, true, true, true, true, true, true, true, false] rfl rfl (by kernel_rfl) (fun _ _ _ h => h) (by rfl) ?hyz4_24 ?haz4_24 ?_
    case hyz4_24 =>
      intro w' hx
      go_simp
      with_reducible rfl
    case haz4_24 => (simp only [Act.put, List.setIfInBounds_toArray, List.set_cons_zero, List.set_cons_succ]; rfl)
    refine E_take (i := 25) (N := (some 6)) (v := ?vz4_25) (a' := ?az4_25) #[true, true, true, true, true, true, true, true, true, true, true, true, true, true, true, true, true, true, true, true, true, true, true, true, true, true] rfl rfl (by kernel_rfl) (fun _ _ _ h => h) (by rfl) ?hyz4_25 ?haz4_25 ?_
    case hyz4_25 =>
      intro w' hx
      go_simp
      with_reducible rfl
    case haz4_25 => (simp only [Act.put, List.setIfInBounds_toArray, List.set_cons_zero, List.set_cons_succ]; rfl)
    refine E_done (by kernel_rfl) ?_
    go_wp2
    go_ret
    exact ⟨rfl, Ext.below hb ((hx_z4.trans hb4).trans hb5)⟩

theorem octetsApart_row (A A' : Option Addr) (n n' c c' : Nat) (a b : List UInt8) (w : World) (hn : a.length = n) (hn' : b.length = n') (h : RdB w A a) (h' : RdB w A' b) (zs : List Int) (hz : zs.length = 2) (wz : ∀ z ∈ zs, (Lit.int .i64 z).wf = true) :
    Calls Try.prog 3 #[.slice A n c, .slice A' n' c', .agg (zs.map (Value.int .i64)).toArray] w fun e w' => e = .returned (.bool true) ∧ Below w.heap.size w w' := by
  match zs, hz with
  | [p, q], _ => exact octetsApart_walk A A' n n' c c' a b p q w hn hn' h h' (i64_bounds (wz p (by simp))).2 (i64_bounds (wz q (by simp))).2
end Go.Proofs.Ytnopoiidekklfaa
