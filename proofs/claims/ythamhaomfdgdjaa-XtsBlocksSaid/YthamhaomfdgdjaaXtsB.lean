/- slices.Reverse at eight bytes. -/
import Derived.Test.YthamhaomfdgdjaaXtsA
import Derived.Test.YthamhaomfdgdjaaStJ
namespace Go.Proofs.Ythamhaomfdgdjaa
open Go.RowKit
set_option linter.unusedVariables false
set_option linter.unusedSimpArgs false

theorem own_blk8 {w : World} {B : Nat} {e : TypeId} {g n cap : Nat} {vs : List Value} (h : w.ownsRow B e 1 (.slice (some ⟨g, 0, none⟩) n cap) n vs) : ∃ tl, Blk w g e (vs ++ tl) ∧ B ≤ g ∧ n ≤ cap := by
  rcases h.2 with ⟨e1, _⟩ | ⟨g', cap', cur, e1, hB, hg, hn, hc, hs, ht⟩
  · cases e1
  · cases e1
    rw [Nat.mul_one] at ht
    refine ⟨cur.toList.drop n, ?_, hB, hn⟩
    unfold Blk
    rw [← ht, List.take_append_drop]
    exact hg
def rv8 (xs : List UInt8) (k : Nat) : List UInt8 := (List.range 8).map fun j => if j < k ∨ 7 < j + k then xs.getD (7 - j) 0 else xs.getD j 0
theorem rv8_len (xs : List UInt8) (k : Nat) : (rv8 xs k).length = 8 := by simp [rv8]
theorem ex8 {xs : List UInt8} (h : xs.length = 8) : ∃ a0 a1 a2 a3 a4 a5 a6 a7, xs = [a0, a1, a2, a3, a4, a5, a6, a7] := by
  match xs, h with
  | [a0, a1, a2, a3, a4, a5, a6, a7], _ => exact ⟨a0, a1, a2, a3, a4, a5, a6, a7, rfl⟩
theorem rv8_zero {xs : List UInt8} (h : xs.length = 8) : rv8 xs 0 = xs := by
  obtain ⟨a0, a1, a2, a3, a4, a5, a6, a7, rfl⟩ := ex8 h; rfl
theorem rv8_end {xs : List UInt8} (h : xs.length = 8) : rv8 xs 4 = xs.reverse := by
  obtain ⟨a0, a1, a2, a3, a4, a5, a6, a7, rfl⟩ := ex8 h; rfl
theorem rv8_set {xs : List UInt8} (h : xs.length = 8) {k p : Nat} (hk : k < 4) (hp : p + k = 7) : ((rv8 xs k).set k (xs.getD p 0)).set p (xs.getD k 0) = rv8 xs (k + 1) := by
  obtain ⟨a0, a1, a2, a3, a4, a5, a6, a7, rfl⟩ := ex8 h
  have hc : k = 0 ∨ k = 1 ∨ k = 2 ∨ k = 3 := by omega
  rcases hc with rfl | rfl | rfl | rfl
  · obtain rfl : p = 7 := by omega
    rfl
  · obtain rfl : p = 6 := by omega
    rfl
  · obtain rfl : p = 5 := by omega
    rfl
  · obtain rfl : p = 4 := by omega
    rfl
theorem rv8_at {xs : List UInt8} (h : xs.length = 8) {k p : Nat} (hk : k < 4) (hp : p + k = 7) : (rv8 xs k).getD k 0 = xs.getD k 0 ∧ (rv8 xs k).getD p 0 = xs.getD p 0 := by
  obtain ⟨a0, a1, a2, a3, a4, a5, a6, a7, rfl⟩ := ex8 h
  have hc : k = 0 ∨ k = 1 ∨ k = 2 ∨ k = 3 := by omega
  rcases hc with rfl | rfl | rfl | rfl
  · obtain rfl : p = 7 := by omega
    exact ⟨rfl, rfl⟩
  · obtain rfl : p = 6 := by omega
    exact ⟨rfl, rfl⟩
  · obtain rfl : p = 5 := by omega
    exact ⟨rfl, rfl⟩
  · obtain rfl : p = 4 := by omega
    exact ⟨rfl, rfl⟩
theorem getApp {xs : List UInt8} {tl : List Value} {i : Nat} (h : i < xs.length) : (xs.map bV ++ tl)[i]? = some (.int .u8 ((xs.getD i 0).toNat : Int)) := by
  rw [List.getElem?_append_left (by rw [List.length_map]; exact h)]; exact mapGetB h
theorem setApp {xs : List UInt8} {tl : List Value} {i : Nat} (h : i < xs.length) (u : UInt8) : (xs.map bV ++ tl).set i (.int .u8 (u.toNat : Int)) = (xs.set i u).map bV ++ tl := by
  rw [List.set_append_left _ _ (by rw [List.length_map]; exact h)]
  congr 1
  exact (List.map_set ..).symm

set_option maxRecDepth 8000 in
set_option maxHeartbeats 1600000 in
theorem rev_any (g cap : Nat) (tl : List Value) (xs : List UInt8) (w : World) (hB : Blk w g 5 (xs.map bV ++ tl)) (hx : xs.length = 8) :
    Calls Try.prog 21 #[.slice (some ⟨g, 0, none⟩) 8 cap] w fun e w' => (∃ z, e = .returned z) ∧ w.grownBy w' (some g) ∧ Blk w' g 5 (xs.reverse.map bV ++ tl) := by
  have hS := St.start1 (x := .blk g 5 (xs.map bV ++ tl)) (w := w) hB (b := g) rfl
  have HX := Lib.hid hx
  clear hB
  go_enter Try.func21, Try.ntmps21
  go_wp2
  go_loopw [2, 3] (fun i j wr => ∃ k p : Nat, i = .int .i64 (k : Int) ∧ j = .int .i64 (p : Int) ∧ k ≤ 4 ∧ p + k = 7 ∧ St (Km w g) w wr [.blk g 5 ((rv8 xs k).map bV ++ tl)]) (fun i _ _ => 4 - (intOf i).toNat)
  case atStart => exact ⟨0, 7, rfl, rfl, by omega, by omega, by rw [rv8_zero HX.out]; exact hS⟩
  case round =>
    clear hS hx
    obtain ⟨k, p, rfl, rfl, hk, hp, hS⟩ := hrel
    by_cases hlt : k < 4
    · have hkp : (k : Int) < (p : Int) := by omega
      have hk8 : (k : Int) < 8 := by omega
      have hp8 : (p : Int) < 8 := by omega
      have hpm : IntKind.i64.wrap ((p : Int) - 1) = ((p - 1 : Nat) : Int) := by rw [IntKind.wrap_i64]; omega
      have hset := Lib.hid (rv8_set HX.out hlt hp)
      obtain ⟨r1, r2⟩ := rv8_at HX.out hlt hp
      have v1 : ((rv8 xs k).map bV ++ tl)[k]? = some (.int .u8 ((xs.getD k 0).toNat : Int)) := by rw [getApp (by rw [rv8_len]; omega), r1]
      have v2 : ((rv8 xs k).map bV ++ tl)[p]? = some (.int .u8 ((xs.getD p 0).toNat : Int)) := by rw [getApp (by rw [rv8_len]; omega), r2]
      have hl1 : k < ((rv8 xs k).map bV ++ tl).length := by rw [List.length_append, List.length_map, rv8_len]; omega
      have HP := Lib.hid hp
      have HLK := Lib.hid (show k < 8 ∧ p < 8 by omega)
      have HRL := Lib.hid (rv8_len xs k)
      have hl2 : p < (((rv8 xs k).map bV ++ tl).set k (.int .u8 ((xs.getD p 0).toNat : Int))).length := by rw [List.length_set, List.length_append, List.length_map, rv8_len]; omega
      generalize xs.getD k 0 = x at *
      generalize xs.getD p 0 = y at *
      generalize rv8 xs k = L at *
      clear r1 r2 hp
      go_upto_region 3 with (fail)
      obtain ⟨N_, hN_⟩ := hS.sz
      have h0N_ := hS.size
      rw [hN_] at h0N_
      refine E_start (hR := KeepS.pre (SN N_ [g])) #[false, false, false, false, false, false, false, false, false, false, false, false, false, false, false, false] (by kernel_rfl) rfl rfl (fun w_r1 hx_r1 he_r1 => ?_)
      have hzE_ : w_r1.heap.size = N_ := by rw [he_r1]; exact hN_
      have hz : N_ ≤ w_r1.heap.size := Nat.le_of_eq hzE_.symm
      replace hS := hS.drew; rw [← he_r1] at hS
      clear hx_r1 he_r1
      clear hzE_ hN_
      refine E_take (hR := KeepS.pre (SN N_ [g])) (i := 0) (N := (some 14)) (v := ?vr1_0) (a' := ?ar1_0) #[true, false, false, false, false, false, false, false, false, false, false, false, false, false, false, false] rfl rfl (by kernel_rfl) (fun _ _ _ h => h) (by rfl) ?hyr1_0 ?har1_0 ?_
      case hyr1_0 =>
        intro w' hx
        go_simp
        with_reducible rfl
      case har1_0 => (simp only [Act.put, List.setIfInBounds_toArray, List.set_cons_zero, List.set_cons_succ]; rfl)
      refine E_take (hR := KeepS.pre (SN N_ [g])) (i := 1) (N := (some 15)) (v := ?vr1_1) (a' := ?ar1_1) #[true, true, false, false, false, false, false, false, false, false, false, false, false, false, false, false] rfl rfl (by kernel_rfl) (fun _ _ _ h => h) (by rfl) ?hyr1_1 ?har1_1 ?_
      case hyr1_1 =>
        intro w' hx
        go_simp
        with_reducible rfl
      case har1_1 => (simp only [Act.put, List.setIfInBounds_toArray, List.set_cons_zero, List.set_cons_succ]; rfl)
      refine E_take (hR := KeepS.pre (SN N_ [g])) (i := 2) (N := (some 16)) (v := ?vr1_2) (a' := ?ar1_2) #[true, true, true, false, false, false, false, false, false, false, false, false, false, false, false, false] rfl rfl (by kernel_rfl) (fun _ _ _ h => h) (by rfl) ?hyr1_2 ?har1_2 ?_
      case hyr1_2 =>
        intro w' hx
        go_simp
        with_reducible rfl
      case har1_2 => (simp only [Act.put, List.setIfInBounds_toArray, List.set_cons_zero, List.set_cons_succ]; rfl)
      refine E_take (hR := KeepS.pre (SN N_ [g])) (i := 3) (N := (some 17)) (v := ?vr1_3) (a' := ?ar1_3) #[true, true, true, true, false, false, false, false, false, false, false, false, false, false, false, false] rfl rfl (by kernel_rfl) (fun _ _ _ h => h) (by rfl) ?hyr1_3 ?har1_3 ?_
      case hyr1_3 =>
        intro w' hx
        go_simp
        with_reducible rfl
      case har1_3 => (simp only [Act.put, List.setIfInBounds_toArray, List.set_cons_zero, List.set_cons_succ]; rfl)
      refine E_take (hR := KeepS.pre (SN N_ [g])) (i := 4) (N := (some 18)) (v := ?vr1_4) (a' := ?ar1_4) #[true, true, true, true, true, false, false, false, false, false, false, false, false, false, false, false] rfl rfl (by kernel_rfl) (fun _ _ _ h => h) (by rfl) ?hyr1_4 ?har1_4 ?_
      case hyr1_4 =>
        intro w' hx
        go_simp
        with_reducible rfl
      case har1_4 => (simp only [Act.put, List.setIfInBounds_toArray, List.set_cons_zero, List.set_cons_succ]; rfl)
      refine E_take (hR := KeepS.pre (SN N_ [g])) (i := 5) (N := (some 19)) (v := ?vr1_5) (a' := ?ar1_5) #[true, true, true, true, true, true, false, false, false, false, false, false, false, false, false, false] rfl rfl (by kernel_rfl) (fun _ _ _ h => h) (by rfl) ?hyr1_5 ?har1_5 ?_
      case hyr1_5 =>
        intro w' hx
        go_simp
        with_reducible rfl
      case har1_5 => (simp only [Act.put, List.setIfInBounds_toArray, List.set_cons_zero, List.set_cons_succ]; rfl)
      refine E_take (hR := KeepS.pre (SN N_ [g])) (i := 6) (N := (some 20)) (v := ?vr1_6) (a' := ?ar1_6) #[true, true, true, true, true, true, true, false, false, false, false, false, false, false, false, false] rfl rfl (by kernel_rfl) (fun _ _ _ h => h) (by rfl) ?hyr1_6 ?har1_6 ?_
      case hyr1_6 =>
        intro w' hx
        go_simp
        with_reducible rfl
      case har1_6 => (simp only [Act.put, List.setIfInBounds_toArray, List.set_cons_zero, List.set_cons_succ]; rfl)
      refine E_take (hR := KeepS.pre (SN N_ [g])) (i := 8) (N := (some 22)) (v := ?vr1_8) (a' := ?ar1_8) #[true, true, true, true, true, true, true, false, true, false, false, false, false, false, false, false] rfl rfl (by kernel_rfl) (fun _ _ _ h => h) (by rfl) ?hyr1_8 ?har1_8 ?_
      case hyr1_8 =>
        intro w' hx
        go_simp
        with_reducible rfl
      case har1_8 => (simp only [Act.put, List.setIfInBounds_toArray, List.set_cons_zero, List.set_cons_succ]; rfl)
      refine E_take (hR := KeepS.pre (SN N_ [g])) (i := 9) (N := (some 23)) (v := ?vr1_9) (a' := ?ar1_9) #[true, true, true, true, true, true, true, false, true, true, false, false, false, false, false, false] rfl rfl (by kernel_rfl) (fun _ _ _ h => h) (by rfl) ?hyr1_9 ?har1_9 ?_
      case hyr1_9 =>
        intro w' hx
        go_simp
        with_reducible rfl
      case har1_9 => (simp only [Act.put, List.setIfInBounds_toArray, List.set_cons_zero, List.set_cons_succ]; rfl)
      refine E_take (hR := KeepS.pre (SN N_ [g])) (i := 10) (N := (some 24)) (v := ?vr1_10) (a' := ?ar1_10) #[true, true, true, true, true, true, true, false, true, true, true, false, false, false, false, false] rfl rfl (by kernel_rfl) (fun _ _ _ h => h) (by rfl) ?hyr1_10 ?har1_10 ?_
      case hyr1_10 =>
        intro w' hx
        go_simp
        with_reducible rfl
      case har1_10 => (simp only [Act.put, List.setIfInBounds_toArray, List.set_cons_zero, List.set_cons_succ]; rfl)
      refine E_split [7, 11] (by kernel_rfl) (by simp) (fun i_ hi_ => ?_)
      simp only [List.mem_cons, List.not_mem_nil, or_false] at hi_
      rcases hi_ with rfl | rfl
      · (apply K_val (i := 7) (T := (some 21)) #[true, true, true, true, true, true, true, true, true, true, true, false, false, false, false, false]; rfl; rfl; (show _ = _; kernel_rfl); rfl; (apply R_ld hS; rfl; rfl; (focus ((repeat (first | exact .here | apply At.there)); done)); rfl; (first | assumption | rfl | exact mapGetB (by first | assumption | omega))); exact KeepS.refl _ _)
        rintro _ rfl
        simp only [Act.put, List.setIfInBounds_toArray, List.set_cons_zero, List.set_cons_succ]
        refine E_split [11] (by kernel_rfl) (by simp) (fun i_ hi_ => ?_)
        simp only [List.mem_cons, List.not_mem_nil, or_false] at hi_
        rcases hi_ with rfl
        (apply K_val (i := 11) (T := (some 25)) #[true, true, true, true, true, true, true, true, true, true, true, true, false, false, false, false]; rfl; rfl; (show _ = _; kernel_rfl); rfl; (apply R_ld hS; rfl; rfl; (focus ((repeat (first | exact .here | apply At.there)); done)); rfl; (first | assumption | rfl | exact mapGetB (by first | assumption | omega))); exact KeepS.refl _ _)
        rintro _ rfl
        simp only [Act.put, List.setIfInBounds_toArray, List.set_cons_zero, List.set_cons_succ]
        refine E_take (hR := KeepS.pre (SN N_ [g])) (i := 12) (N := (some 26)) (v := ?vr1a_12) (a' := ?ar1a_12) #[true, true, true, true, true, true, true, true, true, true, true, true, true, false, false, false] rfl rfl (by kernel_rfl) (fun _ _ _ h => h) (by rfl) ?hyr1a_12 ?har1a_12 ?_
        case hyr1a_12 =>
          intro w' hx
          go_simp
          with_reducible rfl
        case har1a_12 => (simp only [Act.put, List.setIfInBounds_toArray, List.set_cons_zero, List.set_cons_succ]; rfl)
        refine E_split [13] (by kernel_rfl) (by simp) (fun i_ hi_ => ?_)
        simp only [List.mem_cons, List.not_mem_nil, or_false] at hi_
        rcases hi_ with rfl
        (apply K_st (i := 13) hS hz #[true, true, true, true, true, true, true, true, true, true, true, true, true, true, false, false]; rfl; rfl; (show _ = _; kernel_rfl); rfl; rfl; rfl; (focus ((conv => lhs; whnf) <;> rfl)); (focus ((repeat (first | exact .here | apply At.there)); done)); (first | assumption | (refine Or.inl ?_; assumption) | (refine Or.inr ?_; focus (simp; done))); rfl; rfl; (first | decide | assumption | (simp only [List.length_map, List.length_set]; omega)))
        clear hS hz
        intro w_ hS hz
        try simp only [List.set_cons_zero, List.set_cons_succ] at hS
        refine E_take (hR := KeepS.pre (SN N_ [g])) (i := 14) (N := (some 27)) (v := ?vr1a_14) (a' := ?ar1a_14) #[true, true, true, true, true, true, true, true, true, true, true, true, true, true, true, false] rfl rfl (by kernel_rfl) (fun _ _ _ h => h) (by rfl) ?hyr1a_14 ?har1a_14 ?_
        case hyr1a_14 =>
          intro w' hx
          go_simp
          with_reducible rfl
        case har1a_14 => (simp only [Act.put, List.setIfInBounds_toArray, List.set_cons_zero, List.set_cons_succ]; rfl)
        refine E_split [15] (by kernel_rfl) (by simp) (fun i_ hi_ => ?_)
        simp only [List.mem_cons, List.not_mem_nil, or_false] at hi_
        rcases hi_ with rfl
        (apply K_st (i := 15) hS hz #[true, true, true, true, true, true, true, true, true, true, true, true, true, true, true, true]; rfl; rfl; (show _ = _; kernel_rfl); rfl; rfl; rfl; (focus ((conv => lhs; whnf) <;> rfl)); (focus ((repeat (first | exact .here | apply At.there)); done)); (first | assumption | (refine Or.inl ?_; assumption) | (refine Or.inr ?_; focus (simp; done))); rfl; rfl; (first | decide | assumption | (simp only [List.length_map, List.length_set]; omega)))
        clear hS hz
        intro w_ hS hz
        try simp only [List.set_cons_zero, List.set_cons_succ] at hS
        refine E_done (by kernel_rfl) ?_
        have hS2 := hS
        rw [setApp (by rw [HRL.out]; exact HLK.out.1), setApp (by rw [List.length_set, HRL.out]; exact HLK.out.2), hset.out] at hS2
        clear hS
        go_wp2
        go_roundw
        case rel => exact ⟨k + 1, p - 1, by go_num, by go_num, by omega, by have := HP.out; omega, hS2⟩
        case measure => simp [intOf]; omega
      · (apply K_val (i := 11) (T := (some 25)) #[true, true, true, true, true, true, true, false, true, true, true, true, false, false, false, false]; rfl; rfl; (show _ = _; kernel_rfl); rfl; (apply R_ld hS; rfl; rfl; (focus ((repeat (first | exact .here | apply At.there)); done)); rfl; (first | assumption | rfl | exact mapGetB (by first | assumption | omega))); exact KeepS.refl _ _)
        rintro _ rfl
        simp only [Act.put, List.setIfInBounds_toArray, List.set_cons_zero, List.set_cons_succ]
        refine E_split [7] (by kernel_rfl) (by simp) (fun i_ hi_ => ?_)
        simp only [List.mem_cons, List.not_mem_nil, or_false] at hi_
        rcases hi_ with rfl
        (apply K_val (i := 7) (T := (some 21)) #[true, true, true, true, true, true, true, true, true, true, true, true, false, false, false, false]; rfl; rfl; (show _ = _; kernel_rfl); rfl; (apply R_ld hS; rfl; rfl; (focus ((repeat (first | exact .here | apply At.there)); done)); rfl; (first | assumption | rfl | exact mapGetB (by first | assumption | omega))); exact KeepS.refl _ _)
        rintro _ rfl
        simp only [Act.put, List.setIfInBounds_toArray, List.set_cons_zero, List.set_cons_succ]
        refine E_take (hR := KeepS.pre (SN N_ [g])) (i := 12) (N := (some 26)) (v := ?vr1b_12) (a' := ?ar1b_12) #[true, true, true, true, true, true, true, true, true, true, true, true, true, false, false, false] rfl rfl (by kernel_rfl) (fun _ _ _ h => h) (by rfl) ?hyr1b_12 ?har1b_12 ?_
        case hyr1b_12 =>
          intro w' hx
          go_simp
          with_reducible rfl
        case har1b_12 => (simp only [Act.put, List.setIfInBounds_toArray, List.set_cons_zero, List.set_cons_succ]; rfl)
        refine E_split [13] (by kernel_rfl) (by simp) (fun i_ hi_ => ?_)
        simp only [List.mem_cons, List.not_mem_nil, or_false] at hi_
        rcases hi_ with rfl
        (apply K_st (i := 13) hS hz #[true, true, true, true, true, true, true, true, true, true, true, true, true, true, false, false]; rfl; rfl; (show _ = _; kernel_rfl); rfl; rfl; rfl; (focus ((conv => lhs; whnf) <;> rfl)); (focus ((repeat (first | exact .here | apply At.there)); done)); (first | assumption | (refine Or.inl ?_; assumption) | (refine Or.inr ?_; focus (simp; done))); rfl; rfl; (first | decide | assumption | (simp only [List.length_map, List.length_set]; omega)))
        clear hS hz
        intro w_ hS hz
        try simp only [List.set_cons_zero, List.set_cons_succ] at hS
        refine E_take (hR := KeepS.pre (SN N_ [g])) (i := 14) (N := (some 27)) (v := ?vr1b_14) (a' := ?ar1b_14) #[true, true, true, true, true, true, true, true, true, true, true, true, true, true, true, false] rfl rfl (by kernel_rfl) (fun _ _ _ h => h) (by rfl) ?hyr1b_14 ?har1b_14 ?_
        case hyr1b_14 =>
          intro w' hx
          go_simp
          with_reducible rfl
        case har1b_14 => (simp only [Act.put, List.setIfInBounds_toArray, List.set_cons_zero, List.set_cons_succ]; rfl)
        refine E_split [15] (by kernel_rfl) (by simp) (fun i_ hi_ => ?_)
        simp only [List.mem_cons, List.not_mem_nil, or_false] at hi_
        rcases hi_ with rfl
        (apply K_st (i := 15) hS hz #[true, true, true, true, true, true, true, true, true, true, true, true, true, true, true, true]; rfl; rfl; (show _ = _; kernel_rfl); rfl; rfl; rfl; (focus ((conv => lhs; whnf) <;> rfl)); (focus ((repeat (first | exact .here | apply At.there)); done)); (first | assumption | (refine Or.inl ?_; assumption) | (refine Or.inr ?_; focus (simp; done))); rfl; rfl; (first | decide | assumption | (simp only [List.length_map, List.length_set]; omega)))
        clear hS hz
        intro w_ hS hz
        try simp only [List.set_cons_zero, List.set_cons_succ] at hS
        refine E_done (by kernel_rfl) ?_
        have hS2 := hS
        rw [setApp (by rw [HRL.out]; exact HLK.out.1), setApp (by rw [List.length_set, HRL.out]; exact HLK.out.2), hset.out] at hS2
        clear hS
        go_wp2
        go_roundw
        case rel => exact ⟨k + 1, p - 1, by go_num, by go_num, by omega, by have := HP.out; omega, hS2⟩
        case measure => simp [intOf]; omega
    · have hk4 : k = 4 := by omega
      have hkp : ¬ (k : Int) < (p : Int) := by omega
      rw [hk4, rv8_end HX.out] at hS
      clear hk4 hp
      go_wp2
      go_end0
      have hBl := hS.blk (b := g) (by focus ((repeat (first | exact .here | apply At.there)); done))
      rw [List.map_reverse] at hBl
      exact ⟨⟨_, rfl⟩, hS.grownBy, hBl⟩
end Go.Proofs.Ythamhaomfdgdjaa
