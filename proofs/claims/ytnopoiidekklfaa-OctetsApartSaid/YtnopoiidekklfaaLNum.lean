/- The walk of OctetsNumbers. -/
import Derived.Test.YtnopoiidekklfaaOctK
namespace Go.Proofs.Ytnopoiidekklfaa
open Go.RowKit

theorem numN_foldl (l : List UInt8) : ∀ a : Nat, l.foldl (fun n c => n * 256 + c.toNat) a = a * 256 ^ l.length + numN l := by
  induction l with
  | nil => intro a; simp [numN]
  | cons c l ih =>
    intro a
    have h1 := ih (a * 256 + c.toNat)
    have h2 := ih (0 * 256 + c.toNat)
    simp only [numN, List.foldl_cons, List.length_cons] at *
    rw [h1, h2, Nat.pow_succ, Nat.add_mul, Nat.zero_mul, Nat.zero_add, Nat.mul_assoc, Nat.mul_comm 256 (256 ^ l.length), Nat.add_assoc]
theorem numN_cons (c : UInt8) (l : List UInt8) : numN (c :: l) = c.toNat * 256 ^ l.length + numN l := by
  have := numN_foldl l (0 * 256 + c.toNat)
  rw [Nat.zero_mul, Nat.zero_add] at this
  rw [← this]; simp [numN]
theorem Int.emod_mul_aux (n a b : Int) (ha : 0 ≤ a) : n / a % b * a + n % a = n % (a * b) := by
  rw [Int.emod_def n (a * b), Int.emod_def (n / a) b, Int.emod_def n a, Int.ediv_ediv_of_nonneg ha, Int.sub_mul, Int.mul_comm a (n / a), Int.mul_comm b (n / (a * b)), Int.mul_assoc, Int.mul_comm (a * b), Int.mul_comm b a]
  omega
theorem num_lay (n : Int) : ∀ k : Nat, (numN (layK n k) : Int) = n % 256 ^ k
  | 0 => by simp [layK, numN]
  | k + 1 => by
    have ih := num_lay n k
    rw [layK, numN_cons, layK_length]
    rw [Int.natCast_add, Int.natCast_mul, Int.natCast_pow, show ((256 : Nat) : Int) = 256 from rfl]
    rw [ih, layB_toNat]
    have hp : (2 : Int) ^ (8 * k) = 256 ^ k := by rw [Int.pow_mul]; rfl
    rw [hp, Int.pow_succ, Int.emod_mul_aux n (256 ^ k) 256 (by exact Int.le_of_lt (Int.pow_pos (by decide)))]
theorem num_lay8 (n : Int) (h1 : -9223372036854775808 ≤ n) (h2 : n ≤ 9223372036854775807) : wrap64 (numN (layK n (sizeK 8))) = n := by
  rw [num_lay, show sizeK 8 = 8 from rfl]
  unfold wrap64; omega

theorem i64_bounds {n : Int} (h : (Lit.int .i64 n).wf = true) : -9223372036854775808 ≤ n ∧ n ≤ 9223372036854775807 := by
  simpa [Lit.wf, IntKind.min, IntKind.max, IntKind.signed, IntKind.bits] using h

set_option maxHeartbeats 1600000 in
theorem octetsNumbers_walk (n size : Int) (A : Option Addr) (m c : Nat) (b : List UInt8) (w : World) (hm : b.length = m) (h : RdB w A b)
    (hn1 : -9223372036854775808 ≤ n) (hn2 : n ≤ 9223372036854775807) (hs1 : -9223372036854775808 ≤ size) (hs2 : size ≤ 9223372036854775807) :
    Calls Try.prog 4 #[.int .i64 n, .int .i64 size, .slice A m c] w fun e w' => e = .returned (.bool true) ∧ Below w.heap.size w w' := by
  have HM := Lib.hid hm
  have H := Lib.hid h
  have hb := Below.refl w.heap.size w
  clear hm h
  by_cases h100 : 100 < m
  · go_enter Try.func4, Try.ntmps4
    go_wp2_with (go_at_call 8; refine (awake_acc w _ hb).mono ?_; clear hb; rintro e w1 ⟨rfl, hb⟩)
    go_ret
    exact ⟨rfl, hb⟩
  · have hK8 : sizeK size ≤ 8 := by unfold sizeK; omega
    have hK : max 0 (min size 8) = (sizeK size : Int) := by unfold sizeK; omega
    generalize hk : sizeK size = k at *
    have HK := Lib.hid hk
    clear hk
    have HL : Hid (wrap64 (numN (layK n (sizeK 8))) = n) := Lib.hid (num_lay8 n hn1 hn2)
    have hrefl : ((str (layK n k)).toList == (str (layK n k)).toList) = true := by simp
    go_enter Try.func4, Try.ntmps4
    go_wp2_with (first | (go_at_call 8; refine (awake_acc w _ hb).mono ?_; clear hb; rintro e w1 ⟨rfl, hb⟩) | (go_at_call 10; refine (lay_any n size _).mono ?_; rintro e w2 ⟨v, rfl, hown, hbel⟩; rw [layK_length, HK.out] at hown; obtain ⟨A1, n1, rfl, _, _, hrd, _⟩ := own_rd hown; clear hown; have hb2 := hb.trans (hbel.mono hb.size); clear hb hbel))
    have HX := Lib.hid hrd
    clear hrd
    refine E_start #[false, false, false, false, false, false, false, false, false, false, false, false, false, false, false, false, false, false, false, false, false, false, false, false, false, false, false] (by kernel_rfl) rfl rfl (fun w_r51 hx_r51 _ => ?_)
    refine E_take (i := 0) (N := (some 23)) (v := ?vr51_0) (a' := ?ar51_0) #[true, false, false, false, false, false, false, false, false, false, false, false, false, false, false, false, false, false, false, false, false, false, false, false, false, false, false] rfl rfl (by kernel_rfl) (fun _ _ _ h => h) (by rfl) ?hyr51_0 ?har51_0 ?_
    case hyr51_0 =>
      intro w' hx
      go_simp
      with_reducible rfl
    case har51_0 => (simp only [Act.put, List.setIfInBounds_toArray, List.set_cons_zero, List.set_cons_succ]; rfl)
    refine E_take (i := 1) (N := (some 24)) (v := ?vr51_1) (a' := ?ar51_1) #[true, true, false, false, false, false, false, false, false, false, false, false, false, false, false, false, false, false, false, false, false, false, false, false, false, false, false] rfl rfl (by kernel_rfl) (fun _ _ _ h => h) (by rfl) ?hyr51_1 ?har51_1 ?_
    case hyr51_1 =>
      intro w' hx
      have hst := run_str w' (P := Try.prog) (n := k) (c := n1) Try.underlying22 Try.underlying5 (RdB.keep HX.out (Ext.trans hx_r51 hx)) (layK_length n k) Try.underlying9
      go_simp
      with_reducible rfl
    case har51_1 => (simp only [Act.put, List.setIfInBounds_toArray, List.set_cons_zero, List.set_cons_succ]; rfl)
    refine E_take (i := 2) (N := (some 25)) (v := ?vr51_2) (a' := ?ar51_2) #[true, true, true, false, false, false, false, false, false, false, false, false, false, false, false, false, false, false, false, false, false, false, false, false, false, false, false] rfl rfl (by kernel_rfl) (fun _ _ _ h => h) (by rfl) ?hyr51_2 ?har51_2 ?_
    case hyr51_2 =>
      intro w' hx
      go_simp
      with_reducible rfl
    case har51_2 => (simp only [Act.put, List.setIfInBounds_toArray, List.set_cons_zero, List.set_cons_succ]; rfl)
    refine E_take (i := 3) (N := (some 26)) (v := ?vr51_3) (a' := ?ar51_3) #[true, true, true, true, false, false, false, false, false, false, false, false, false, false, false, false, false, false, false, false, false, false, false, false, false, false, false] rfl rfl (by kernel_rfl) (fun _ _ _ h => h) (by rfl) ?hyr51_3 ?har51_3 ?_
    case hyr51_3 =>
      intro w' hx
      go_simp
      with_reducible rfl
    case har51_3 => (simp only [Act.put, List.setIfInBounds_toArray, List.set_cons_zero, List.set_cons_succ]; rfl)
    refine E_call (i := 4) (N := (some 27)) (args := ?gr51_4) #[true, true, true, true, true, false, false, false, false, false, false, false, false, false, false, false, false, false, false, false, false, false, false, false, false, false, false] rfl rfl (by kernel_rfl) (by rfl) Try.func11 (by kernel_rfl) rfl rfl ?hgr51_4 ?_
    case hgr51_4 => (simp only [List.map_toArray, List.map_cons, List.map_nil]; go_simp; with_reducible rfl)
    refine (refLay_any n size _).mono ?_
    rintro e wA ⟨v, rfl, hown, hbA⟩
    rw [layK_length, HK.out] at hown
    obtain ⟨A3, n3, rfl, _, _, hrd3, _⟩ := own_rd hown
    have HX3 := Lib.hid hrd3
    clear hown hrd3
    refine ⟨_, rfl, hbA, ?_⟩
    rintro _ rfl
    simp only [Act.put, List.setIfInBounds_toArray, List.set_cons_zero, List.set_cons_succ]
    refine E_take (i := 5) (N := (some 28)) (v := ?vr51_5) (a' := ?ar51_5) #[true, true, true, true, true, true, false, false, false, false, false, false, false, false, false, false, false, false, false, false, false, false, false, false, false, false, false] rfl rfl (by kernel_rfl) (fun _ _ _ h => h) (by rfl) ?hyr51_5 ?har51_5 ?_
    case hyr51_5 =>
      intro w' hx
      have hst := run_str w' (P := Try.prog) (n := k) (c := n3) Try.underlying22 Try.underlying5 (RdB.keep HX3.out hx) (layK_length n k) Try.underlying9
      go_simp
      with_reducible rfl
    case har51_5 => (simp only [Act.put, List.setIfInBounds_toArray, List.set_cons_zero, List.set_cons_succ]; rfl)
    refine E_take (i := 6) (N := (some 29)) (v := ?vr51_6) (a' := ?ar51_6) #[true, true, true, true, true, true, true, false, false, false, false, false, false, false, false, false, false, false, false, false, false, false, false, false, false, false, false] rfl rfl (by kernel_rfl) (fun _ _ _ h => h) (by rfl) ?hyr51_6 ?har51_6 ?_
    case hyr51_6 =>
      intro w' hx
      go_simp
      with_reducible rfl
    case har51_6 => (simp only [Act.put, List.setIfInBounds_toArray, List.set_cons_zero, List.set_cons_succ]; rfl)
    refine E_take (i := 7) (N := (some 30)) (v := ?vr51_7) (a' := ?ar51_7) #[true, true, true, true, true, true, true, true, false, false, false, false, false, false, false, false, false, false, false, false, false, false, false, false, false, false, false] rfl rfl (by kernel_rfl) (fun _ _ _ h => h) (by rfl) ?hyr51_7 ?har51_7 ?_
    case hyr51_7 =>
      intro w' hx
      go_simp
      with_reducible rfl
    case har51_7 => (simp only [Act.put, List.setIfInBounds_toArray, List.set_cons_zero, List.set_cons_succ]; rfl)
    refine E_take (i := 8) (N := (some 31)) (v := ?vr51_8) (a' := ?ar51_8) #[true, true, true, true, true, true, true, true, true, false, false, false, false, false, false, false, false, false, false, false, false, false, false, false, false, false, false] rfl rfl (by kernel_rfl) (fun _ _ _ h => h) (by rfl) ?hyr51_8 ?har51_8 ?_
    case hyr51_8 =>
      intro w' hx
      go_simp
      with_reducible rfl
    case har51_8 => (simp only [Act.put, List.setIfInBounds_toArray, List.set_cons_zero, List.set_cons_succ]; rfl)
    refine E_take (i := 9) (N := (some 32)) (v := ?vr51_9) (a' := ?ar51_9) #[true, true, true, true, true, true, true, true, true, true, false, false, false, false, false, false, false, false, false, false, false, false, false, false, false, false, false] rfl rfl (by kernel_rfl) (fun _ _ _ h => h) (by rfl) ?hyr51_9 ?har51_9 ?_
    case hyr51_9 =>
      intro w' hx
      go_simp
      with_reducible rfl
    case har51_9 => (simp only [Act.put, List.setIfInBounds_toArray, List.set_cons_zero, List.set_cons_succ]; rfl)
    refine E_take (i := 10) (N := (some 33)) (v := ?vr51_10) (a' := ?ar51_10) #[true, true, true, true, true, true, true, true, true, true, true, false, false, false, false, false, false, false, false, false, false, false, false, false, false, false, false] rfl rfl (by kernel_rfl) (fun _ _ _ h => h) (by rfl) ?hyr51_10 ?har51_10 ?_
    case hyr51_10 =>
      intro w' hx
      go_simp
      with_reducible rfl
    case har51_10 => (simp only [Act.put, List.setIfInBounds_toArray, List.set_cons_zero, List.set_cons_succ]; rfl)
    refine E_take (i := 11) (N := (some 34)) (v := ?vr51_11) (a' := ?ar51_11) #[true, true, true, true, true, true, true, true, true, true, true, true, false, false, false, false, false, false, false, false, false, false, false, false, false, false, false] rfl rfl (by kernel_rfl) (fun _ _ _ h => h) (by rfl) ?hyr51_11 ?har51_11 ?_
    case hyr51_11 =>
      intro w' hx
      go_simp
      with_reducible rfl
    case har51_11 => (simp only [Act.put, List.setIfInBounds_toArray, List.set_cons_zero, List.set_cons_succ]; rfl)
    refine E_take (i := 12) (N := (some 35)) (v := ?vr51_12) (a' := ?ar51_12) #[true, true, true, true, true, true, true, true, true, true, true, true, true, false, false, false, false, false, false, false, false, false, false, false, false, false, false] rfl rfl (by kernel_rfl) (fun _ _ _ h => h) (by rfl) ?hyr51_12 ?har51_12 ?_
    case hyr51_12 =>
      intro w' hx
      go_simp
      with_reducible rfl
    case har51_12 => (simp only [Act.put, List.setIfInBounds_toArray, List.set_cons_zero, List.set_cons_succ]; rfl)
    refine E_take (i := 13) (N := (some 36)) (v := ?vr51_13) (a' := ?ar51_13) #[true, true, true, true, true, true, true, true, true, true, true, true, true, true, false, false, false, false, false, false, false, false, false, false, false, false, false] rfl rfl (by kernel_rfl) (fun _ _ _ h => h) (by rfl) ?hyr51_13 ?har51_13 ?_
    case hyr51_13 =>
      intro w' hx
      go_simp
      with_reducible rfl
    case har51_13 => (simp only [Act.put, List.setIfInBounds_toArray, List.set_cons_zero, List.set_cons_succ]; rfl)
    refine E_take (i := 14) (N := (some 37)) (v := ?vr51_14) (a' := ?ar51_14) #[true, true, true, true, true, true, true, true, true, true, true, true, true, true, true, false, false, false, false, false, false, false, false, false, false, false, false] rfl rfl (by kernel_rfl) (fun _ _ _ h => h) (by rfl) ?hyr51_14 ?har51_14 ?_
    case hyr51_14 =>
      intro w' hx
      go_simp
      with_reducible rfl
    case har51_14 => (simp only [Act.put, List.setIfInBounds_toArray, List.set_cons_zero, List.set_cons_succ]; rfl)
    refine E_take (i := 16) (N := (some 39)) (v := ?vr51_16) (a' := ?ar51_16) #[true, true, true, true, true, true, true, true, true, true, true, true, true, true, true, false, true, false, false, false, false, false, false, false, false, false, false] rfl rfl (by kernel_rfl) (fun _ _ _ h => h) (by rfl) ?hyr51_16 ?har51_16 ?_
    case hyr51_16 =>
      intro w' hx
      go_simp
      with_reducible rfl
    case har51_16 => (simp only [Act.put, List.setIfInBounds_toArray, List.set_cons_zero, List.set_cons_succ]; rfl)
    refine E_call (i := 15) (N := (some 38)) (args := ?gr51_15) #[true, true, true, true, true, true, true, true, true, true, true, true, true, true, true, true, true, false, false, false, false, false, false, false, false, false, false] rfl rfl (by kernel_rfl) (by rfl) Try.func12 (by kernel_rfl) rfl rfl ?hgr51_15 ?_
    case hgr51_15 => (simp only [List.map_toArray, List.map_cons, List.map_nil]; go_simp; with_reducible rfl)
    refine (number_any A m c b _ HM.out (H.out.keep (hb2.trans ((hx_r51.trans hbA).mono hb2.size))) (by omega)).mono ?_
    rintro e wB ⟨rfl, rfl⟩
    refine ⟨_, rfl, Ext.refl _, ?_⟩
    rintro _ rfl
    simp only [Act.put, List.setIfInBounds_toArray, List.set_cons_zero, List.set_cons_succ]
    refine E_call (i := 17) (N := (some 40)) (args := ?gr51_17) #[true, true, true, true, true, true, true, true, true, true, true, true, true, true, true, true, true, true, false, false, false, false, false, false, false, false, false] rfl rfl (by kernel_rfl) (by rfl) Try.func13 (by kernel_rfl) rfl rfl ?hgr51_17 ?_
    case hgr51_17 => (simp only [List.map_toArray, List.map_cons, List.map_nil]; go_simp; with_reducible rfl)
    refine (refNumber_any A m c b _ HM.out (H.out.keep (hb2.trans ((hx_r51.trans hbA).mono hb2.size))) (by omega)).mono ?_
    rintro e wB ⟨rfl, rfl⟩
    refine ⟨_, rfl, Ext.refl _, ?_⟩
    rintro _ rfl
    simp only [Act.put, List.setIfInBounds_toArray, List.set_cons_zero, List.set_cons_succ]
    refine E_take (i := 18) (N := (some 41)) (v := ?vr51_18) (a' := ?ar51_18) #[true, true, true, true, true, true, true, true, true, true, true, true, true, true, true, true, true, true, true, false, false, false, false, false, false, false, false] rfl rfl (by kernel_rfl) (fun _ _ _ h => h) (by rfl) ?hyr51_18 ?har51_18 ?_
    case hyr51_18 =>
      intro w' hx
      go_simp
      with_reducible rfl
    case har51_18 => (simp only [Act.put, List.setIfInBounds_toArray, List.set_cons_zero, List.set_cons_succ]; rfl)
    refine E_take (i := 19) (N := (some 42)) (v := ?vr51_19) (a' := ?ar51_19) #[true, true, true, true, true, true, true, true, true, true, true, true, true, true, true, true, true, true, true, true, false, false, false, false, false, false, false] rfl rfl (by kernel_rfl) (fun _ _ _ h => h) (by rfl) ?hyr51_19 ?har51_19 ?_
    case hyr51_19 =>
      intro w' hx
      go_simp
      with_reducible rfl
    case har51_19 => (simp only [Act.put, List.setIfInBounds_toArray, List.set_cons_zero, List.set_cons_succ]; rfl)
    refine E_take (i := 20) (N := (some 43)) (v := ?vr51_20) (a' := ?ar51_20) #[true, true, true, true, true, true, true, true, true, true, true, true, true, true, true, true, true, true, true, true, true, false, false, false, false, false, false] rfl rfl (by kernel_rfl) (fun _ _ _ h => h) (by rfl) ?hyr51_20 ?har51_20 ?_
    case hyr51_20 =>
      intro w' hx
      go_simp
      with_reducible rfl
    case har51_20 => (simp only [Act.put, List.setIfInBounds_toArray, List.set_cons_zero, List.set_cons_succ]; rfl)
    refine E_take (i := 21) (N := (some 44)) (v := ?vr51_21) (a' := ?ar51_21) #[true, true, true, true, true, true, true, true, true, true, true, true, true, true, true, true, true, true, true, true, true, true, false, false, false, false, false] rfl rfl (by kernel_rfl) (fun _ _ _ h => h) (by rfl) ?hyr51_21 ?har51_21 ?_
    case hyr51_21 =>
      intro w' hx
      go_simp
      with_reducible rfl
    case har51_21 => (simp only [Act.put, List.setIfInBounds_toArray, List.set_cons_zero, List.set_cons_succ]; rfl)
    refine E_take (i := 24) (N := (some 47)) (v := ?vr51_24) (a' := ?ar51_24) #[true, true, true, true, true, true, true, true, true, true, true, true, true, true, true, true, true, true, true, true, true, true, false, false, true, false, false] rfl rfl (by kernel_rfl) (fun _ _ _ h => h) (by rfl) ?hyr51_24 ?har51_24 ?_
    case hyr51_24 =>
      intro w' hx
      go_simp
      with_reducible rfl
    case har51_24 => (simp only [Act.put, List.setIfInBounds_toArray, List.set_cons_zero, List.set_cons_succ]; rfl)
    refine E_call (i := 22) (N := (some 45)) (args := ?gr51_22) #[true, true, true, true, true, true, true, true, true, true, true, true, true, true, true, true, true, true, true, true, true, true, true, false, true, false, false] rfl rfl (by kernel_rfl) (by rfl) Try.func10 (by kernel_rfl) rfl rfl ?hgr51_22 ?_
    case hgr51_22 => (simp only [List.map_toArray, List.map_cons, List.map_nil]; go_simp; with_reducible rfl)
    refine (lay_any n 8 _).mono ?_
    rintro e wC ⟨v, rfl, hown, hbC⟩
    obtain ⟨A4, n4, rfl, _, _, hrd4, _⟩ := own_rd hown
    have HX4 := Lib.hid hrd4
    clear hown hrd4
    refine ⟨_, rfl, hbC, ?_⟩
    rintro _ rfl
    simp only [Act.put, List.setIfInBounds_toArray, List.set_cons_zero, List.set_cons_succ]
    refine E_call (i := 23) (N := (some 46)) (args := ?gr51_23) #[true, true, true, true, true, true, true, true, true, true, true, true, true, true, true, true, true, true, true, true, true, true, true, true, true, false, false] rfl rfl (by kernel_rfl) (by rfl) Try.func12 (by kernel_rfl) rfl rfl ?hgr51_23 ?_
    case hgr51_23 => (simp only [List.map_toArray, List.map_cons, List.map_nil]; go_simp; with_reducible rfl)
    refine (number_any A4 _ n4 (layK n (sizeK 8)) _ rfl HX4.out (by rw [layK_length]; decide)).mono ?_
    rintro e wB ⟨rfl, rfl⟩
    rw [HL.out]
    refine ⟨_, rfl, Ext.refl _, ?_⟩
    rintro _ rfl
    simp only [Act.put, List.setIfInBounds_toArray, List.set_cons_zero, List.set_cons_succ]
    refine E_take (i := 25) (N := (some 48)) (v := ?vr51_25) (a' := ?ar51_25) #[true, true, true, true, true, true, true, true, true, true, true, true, true, true, true, true, true, true, true, true, true, true, true, true, true, true, false] rfl rfl (by kernel_rfl) (fun _ _ _ h => h) (by rfl) ?hyr51_25 ?har51_25 ?_
    case hyr51_25 =>
      intro w' hx
      go_simp
      with_reducible rfl
    case har51_25 => (simp only [Act.put, List.setIfInBounds_toArray, List.set_cons_zero, List.set_cons_succ]; rfl)
    refine E_take (i := 26) (N := (some 49)) (v := ?vr51_26) (a' := ?ar51_26) #[true, true, true, true, true, true, true, true, true, true, true, true, true, true, true, true, true, true, true, true, true, true, true, true, true, true, true] rfl rfl (by kernel_rfl) (fun _ _ _ h => h) (by rfl) ?hyr51_26 ?har51_26 ?_
    case hyr51_26 =>
      intro w' hx
      go_simp
      with_reducible rfl
    case har51_26 => (simp only [Act.put, List.setIfInBounds_toArray, List.set_cons_zero, List.set_cons_succ]; rfl)
    refine E_done (by kernel_rfl) ?_
    have hbD := Ext.below hb2 ((hx_r51.trans hbA).trans hbC)
    have HXD := Lib.hid (RdB.keep HX.out ((hx_r51.trans hbA).trans hbC))
    go_wp2_with (go_at_call 12; refine (number_any A1 k n1 (layK n k) _ (layK_length n k) HXD.out (by omega)).mono ?_; rintro e wD ⟨rfl, rfl⟩)
    all_goals go_ret
    all_goals try exact ⟨rfl, hbD⟩
    refine ⟨ret_bool ?_, hbD⟩
    rename_i hsh
    have e : wrap64 (numN (layK n k)) = n := by
      rw [num_lay, show (256 : Int) ^ k = 2 ^ (8 * k) from by rw [Int.pow_mul]; rfl, Int.emod_def, hsh, Int.mul_zero, Int.sub_zero]
      exact wrap64_id hn1 hn2
    rw [e]; simp
end Go.Proofs.Ytnopoiidekklfaa
