/- AES: the tables. -/
import Derived.Test.YthamhaomfdgdjaaAesR
namespace Go.Proofs.Ythamhaomfdgdjaa
open Go.RowKit

theorem sh1 (q : UInt8) : (q.toNat : Int) * 2 % 256 = ((q <<< 1).toNat : Int) := u8_all (p := fun q => (q.toNat : Int) * 2 % 256 = ((q <<< 1).toNat : Int)) (by decide +kernel) q
theorem sh2 (q : UInt8) : (q.toNat : Int) * 4 % 256 = ((q <<< 2).toNat : Int) := u8_all (p := fun q => (q.toNat : Int) * 4 % 256 = ((q <<< 2).toNat : Int)) (by decide +kernel) q
theorem sh4 (q : UInt8) : (q.toNat : Int) * 16 % 256 = ((q <<< 4).toNat : Int) := u8_all (p := fun q => (q.toNat : Int) * 16 % 256 = ((q <<< 4).toNat : Int)) (by decide +kernel) q
theorem and128 (q : UInt8) : bits .and .u8 (q.toNat : Int) 128 = ((q &&& 128).toNat : Int) := u8_all (p := fun q => bits .and .u8 (q.toNat : Int) 128 = ((q &&& 128).toNat : Int)) (by decide +kernel) q
structure TS where
  p : UInt8
  q : UInt8
  s : List UInt8
def q3 (q : UInt8) : UInt8 := ((q ^^^ q <<< 1) ^^^ (q ^^^ q <<< 1) <<< 2) ^^^ ((q ^^^ q <<< 1) ^^^ (q ^^^ q <<< 1) <<< 2) <<< 4
def qn (q : UInt8) : UInt8 := if q3 q &&& 128 = 0 then q3 q else q3 q ^^^ 9
def tnext (t : TS) : TS := ⟨t.p ^^^ xt t.p, qn t.q, t.s.set (t.p ^^^ xt t.p).toNat (tnd (qn t.q))⟩
def tst : Nat → TS
  | 0 => ⟨1, 1, List.replicate 256 0⟩
  | k + 1 => tnext (tst k)
theorem tst_len : ∀ k, (tst k).s.length = 256
  | 0 => List.length_replicate
  | k + 1 => by show ((tst k).s.set _ _).length = 256; rw [List.length_set]; exact tst_len k
set_option maxRecDepth 100000 in
theorem tst_end : (tst 255).s.set 0 (tnd 0) = sbT := by decide +kernel
def bkS (k : Nat) : List UInt8 := (List.range k).foldl (fun l i => l.set (sbT.getD i 0).toNat (UInt8.ofNat i)) (List.replicate 256 0)
theorem bkS_succ (k : Nat) : bkS (k + 1) = (bkS k).set (sbT.getD k 0).toNat (UInt8.ofNat k) := by
  unfold bkS; rw [List.range_succ, List.foldl_append]; rfl
theorem bkS_len : ∀ k, (bkS k).length = 256
  | 0 => List.length_replicate
  | k + 1 => by rw [bkS_succ, List.length_set]; exact bkS_len k
set_option maxRecDepth 100000 in
theorem bkS_end : bkS 256 = bkT := by decide +kernel
def tL (s : List UInt8) : List Value := (s ++ List.replicate 496 0).map bV
def uL (b : List UInt8) : List Value := (sbT ++ (b ++ List.replicate 240 0)).map bV
theorem tL_len {s : List UInt8} (h : s.length = 256) : (tL s).length = 752 := by unfold tL; rw [List.length_map, List.length_append, h, List.length_replicate]
theorem tL_set {s : List UInt8} (h : s.length = 256) {i : Nat} (hi : i < 256) (v : UInt8) : (tL s).set i (bV v) = tL (s.set i v) := by
  unfold tL; rw [← List.map_set, List.set_append_left _ _ (by omega)]

theorem sbT_len : sbT.length = 256 := by decide +kernel
theorem uL_len {b : List UInt8} (h : b.length = 256) : (uL b).length = 752 := by unfold uL; rw [List.length_map, List.length_append, List.length_append, sbT_len, h, List.length_replicate]
theorem uL_set {b : List UInt8} (h : b.length = 256) {i : Nat} (hi : i < 256) (v : UInt8) : (uL b).set (256 + i) (bV v) = uL (b.set i v) := by
  unfold uL
  rw [← List.map_set, List.set_append_right _ _ (by rw [sbT_len]; omega), sbT_len, Nat.add_sub_cancel_left, List.set_append_left _ _ (by omega)]
theorem uL_sub (b : List UInt8) : ((uL b).drop 0).take 256 = sbT.map bV := by
  unfold uL
  rw [List.drop_zero, List.map_append, List.take_append_of_le_length (by rw [List.length_map, sbT_len]; decide), List.take_of_length_le (by rw [List.length_map, sbT_len]; decide)]

set_option maxRecDepth 8000 in
set_option maxHeartbeats 1600000 in
theorem tables_any (bC : Nat) (w : World) (hC : Blk w bC 64 (tL (List.replicate 256 0))) :
    Calls Try.prog 30 #[.pointer (some ⟨bC, 0, none⟩)] w fun e w' => e = .returned (.tuple #[]) ∧ w.grownBy w' (some bC) ∧ Blk w' bC 64 (uL bkT) := by
  have hS := St.start1 (x := .blk bC 64 (tL (List.replicate 256 0))) (w := w) hC (b := bC) rfl
  clear hC
  go_enter Try.func30, Try.ntmps30
  go_wp2
  go_loopw [2, 3, 6] (fun vp vq i wr => ∃ k : Nat, i = .int .i64 (k : Int) ∧ k ≤ 255 ∧ vp = .int .u8 ((tst k).p.toNat : Int) ∧ vq = .int .u8 ((tst k).q.toNat : Int) ∧ St (Km w bC) w wr [.blk bC 64 (tL (tst k).s)]) (fun _ _ i _ => 255 - (intOf i).toNat)
  case atStart => exact ⟨0, rfl, by omega, rfl, rfl, hS⟩
  case round =>
    clear hS
    obtain ⟨k, rfl, hk, rfl, rfl, hS⟩ := hrel
    by_cases hlt : k < 255
    · have hst := Lib.hid (show tst (k + 1) = tnext (tst k) from rfl)
      have hsl := Lib.hid (tst_len k)
      generalize tst k = t at *
      obtain ⟨p, q, s⟩ := t
      obtain ⟨p1, hp1, xp⟩ : ∃ u, p ^^^ xt p = u ∧ bits .xor .u8 (p.toNat : Int) ((xt p).toNat : Int) = (u.toNat : Int) := ⟨_, rfl, xor8 _ _⟩
      obtain ⟨u1, hu1, a1⟩ : ∃ u, q <<< 1 = u ∧ (q.toNat : Int) * 2 % 256 = (u.toNat : Int) := ⟨_, rfl, sh1 q⟩
      obtain ⟨v1, hv1, x1⟩ : ∃ u, q ^^^ u1 = u ∧ bits .xor .u8 (q.toNat : Int) (u1.toNat : Int) = (u.toNat : Int) := ⟨_, rfl, xor8 _ _⟩
      obtain ⟨u2, hu2, a2⟩ : ∃ u, v1 <<< 2 = u ∧ (v1.toNat : Int) * 4 % 256 = (u.toNat : Int) := ⟨_, rfl, sh2 v1⟩
      obtain ⟨v2, hv2, x2⟩ : ∃ u, v1 ^^^ u2 = u ∧ bits .xor .u8 (v1.toNat : Int) (u2.toNat : Int) = (u.toNat : Int) := ⟨_, rfl, xor8 _ _⟩
      obtain ⟨u3, hu3, a3⟩ : ∃ u, v2 <<< 4 = u ∧ (v2.toNat : Int) * 16 % 256 = (u.toNat : Int) := ⟨_, rfl, sh4 v2⟩
      obtain ⟨v3, hv3, x3⟩ : ∃ u, v2 ^^^ u3 = u ∧ bits .xor .u8 (v2.toNat : Int) (u3.toNat : Int) = (u.toNat : Int) := ⟨_, rfl, xor8 _ _⟩
      obtain ⟨v4, hv4, x4⟩ : ∃ u, v3 ^^^ 9 = u ∧ bits .xor .u8 (v3.toNat : Int) 9 = (u.toNat : Int) := ⟨_, rfl, xor8 _ 9⟩
      have HQ3 := Lib.hid (show q3 q = v3 by unfold q3; rw [hu1, hv1, hu2, hv2, hu3, hv3])
      have HP1 := Lib.hid hp1
      have HV4 := Lib.hid hv4
      have hA := and128 v3
      clear hp1 hu1 hv1 hu2 hv2 hu3 hv3 hv4
      have hp256 : (p1.toNat : Int) < 256 := by have := p1.toNat_lt; omega
      have hpl : p1.toNat < (tL s).length := by rw [tL_len hsl.out]; have := p1.toNat_lt; omega
      by_cases hb : v3 &&& 128 = 0
      · have hA0 : bits .and .u8 (v3.toNat : Int) 128 = 0 := by rw [hA, hb]; rfl
        have hnx := Lib.hid (show tst (k + 1) = ⟨p1, v3, s.set p1.toNat (tnd v3)⟩ by rw [hst.out]; unfold tnext qn; rw [HQ3.out, if_pos hb, HP1.out])
        clear hA hb hst
        go_upto_region 9 with (first | (go_at_call 36; refine (times_any p _).mono ?_; rintro e w_ ⟨rfl, hb_⟩; replace hS := hS.ext hb_; clear hb_))
        obtain ⟨N_, hN_⟩ := hS.sz
        have h0N_ := hS.size
        rw [hN_] at h0N_
        refine E_start (hR := KeepS.pre (SN N_ [bC])) #[false, false, false, false, false, false, false, false] (by kernel_rfl) rfl rfl (fun w_r1 hx_r1 he_r1 => ?_)
        have hzE_ : w_r1.heap.size = N_ := by rw [he_r1]; exact hN_
        have hz : N_ ≤ w_r1.heap.size := Nat.le_of_eq hzE_.symm
        replace hS := hS.drew; rw [← he_r1] at hS
        clear hx_r1 he_r1
        clear hzE_ hN_
        refine E_take (hR := KeepS.pre (SN N_ [bC])) (i := 0) (N := (some 29)) (v := ?vr1_0) (a' := ?ar1_0) #[true, false, false, false, false, false, false, false] rfl rfl (by kernel_rfl) (fun _ _ _ h => h) (by rfl) ?hyr1_0 ?har1_0 ?_
        case hyr1_0 =>
          intro w' hx
          go_simp
          with_reducible rfl
        case har1_0 => (simp only [Act.put, List.setIfInBounds_toArray, List.set_cons_zero, List.set_cons_succ]; rfl)
        refine E_take (hR := KeepS.pre (SN N_ [bC])) (i := 1) (N := (some 30)) (v := ?vr1_1) (a' := ?ar1_1) #[true, true, false, false, false, false, false, false] rfl rfl (by kernel_rfl) (fun _ _ _ h => h) (by rfl) ?hyr1_1 ?har1_1 ?_
        case hyr1_1 =>
          intro w' hx
          go_simp
          with_reducible rfl
        case har1_1 => (simp only [Act.put, List.setIfInBounds_toArray, List.set_cons_zero, List.set_cons_succ]; rfl)
        refine E_take (hR := KeepS.pre (SN N_ [bC])) (i := 2) (N := (some 31)) (v := ?vr1_2) (a' := ?ar1_2) #[true, true, true, false, false, false, false, false] rfl rfl (by kernel_rfl) (fun _ _ _ h => h) (by rfl) ?hyr1_2 ?har1_2 ?_
        case hyr1_2 =>
          intro w' hx
          go_simp
          with_reducible rfl
        case har1_2 => (simp only [Act.put, List.setIfInBounds_toArray, List.set_cons_zero, List.set_cons_succ]; rfl)
        refine E_take (hR := KeepS.pre (SN N_ [bC])) (i := 4) (N := (some 33)) (v := ?vr1_4) (a' := ?ar1_4) #[true, true, true, false, true, false, false, false] rfl rfl (by kernel_rfl) (fun _ _ _ h => h) (by rfl) ?hyr1_4 ?har1_4 ?_
        case hyr1_4 =>
          intro w' hx
          go_simp
          with_reducible rfl
        case har1_4 => (simp only [Act.put, List.setIfInBounds_toArray, List.set_cons_zero, List.set_cons_succ]; rfl)
        refine E_take (hR := KeepS.pre (SN N_ [bC])) (i := 5) (N := (some 34)) (v := ?vr1_5) (a' := ?ar1_5) #[true, true, true, false, true, true, false, false] rfl rfl (by kernel_rfl) (fun _ _ _ h => h) (by rfl) ?hyr1_5 ?har1_5 ?_
        case hyr1_5 =>
          intro w' hx
          go_simp
          with_reducible rfl
        case har1_5 => (simp only [Act.put, List.setIfInBounds_toArray, List.set_cons_zero, List.set_cons_succ]; rfl)
        refine E_split [3] (by kernel_rfl) (by simp) (fun i_ hi_ => ?_)
        simp only [List.mem_cons, List.not_mem_nil, or_false] at hi_
        rcases hi_ with rfl
        refine E_call1 (i := 3) (N := (some 32)) (args := ?gr1_3) #[true, true, true, true, true, true, false, false] rfl rfl (by kernel_rfl) (by rfl) Try.func37 (by kernel_rfl) rfl rfl ?hgr1_3 ?_
        case hgr1_3 => (simp only [List.map_toArray, List.map_cons, List.map_nil]; go_simp; with_reducible rfl)
        refine (turned_any v3 _).mono ?_
        rintro e w_ ⟨rfl, hb_⟩
        (refine ⟨_, rfl, KeepS.below hb_ hz, ?_⟩; replace hS := hS.ext hb_; replace hz := Nat.le_trans hz hb_.size; clear hb_)
        rintro _ rfl
        simp only [Act.put, List.setIfInBounds_toArray, List.set_cons_zero, List.set_cons_succ]
        refine E_take (hR := KeepS.pre (SN N_ [bC])) (i := 6) (N := (some 35)) (v := ?vr1_6) (a' := ?ar1_6) #[true, true, true, true, true, true, true, false] rfl rfl (by kernel_rfl) (fun _ _ _ h => h) (by rfl) ?hyr1_6 ?har1_6 ?_
        case hyr1_6 =>
          intro w' hx
          go_simp
          with_reducible rfl
        case har1_6 => (simp only [Act.put, List.setIfInBounds_toArray, List.set_cons_zero, List.set_cons_succ]; rfl)
        refine E_split [7] (by kernel_rfl) (by simp) (fun i_ hi_ => ?_)
        simp only [List.mem_cons, List.not_mem_nil, or_false] at hi_
        rcases hi_ with rfl
        (apply K_st (i := 7) hS hz #[true, true, true, true, true, true, true, true]; rfl; rfl; (show _ = _; kernel_rfl); rfl; rfl; rfl; (focus ((conv => lhs; whnf) <;> rfl)); (focus ((repeat (first | exact .here | apply At.there)); done)); (first | assumption | (refine Or.inl ?_; assumption) | (refine Or.inr ?_; focus (simp; done))); rfl; rfl; (first | decide | assumption | (simp only [List.length_map, List.length_set]; omega)))
        clear hS hz
        intro w_ hS hz
        try simp only [List.set_cons_zero, List.set_cons_succ] at hS
        refine E_done (by kernel_rfl) ?_
        change St _ _ _ [.blk bC _ ((tL s).set p1.toNat (bV (tnd v3)))] at hS
        rw [tL_set hsl.out p1.toNat_lt] at hS
        go_wp2
        go_roundw
        case rel => exact ⟨k + 1, by go_num, by omega, by rw [hnx.out], by rw [hnx.out], by rw [hnx.out]; exact hS⟩
        case measure => simp [intOf]; omega
      · have hA0 : ¬ bits .and .u8 (v3.toNat : Int) 128 = 0 := by rw [hA]; intro h; apply hb; rw [← UInt8.toNat_inj]; simpa using h
        have hA1 : (bits .and .u8 (v3.toNat : Int) 128 != 0) = true := by simpa [bne_iff_ne] using hA0
        have hnx := Lib.hid (show tst (k + 1) = ⟨p1, v4, s.set p1.toNat (tnd v4)⟩ by rw [hst.out]; unfold tnext qn; rw [HQ3.out, if_neg hb, HP1.out, HV4.out])
        clear hA hb hst
        go_upto_region 9 with (first | (go_at_call 36; refine (times_any p _).mono ?_; rintro e w_ ⟨rfl, hb_⟩; replace hS := hS.ext hb_; clear hb_))
        obtain ⟨N_, hN_⟩ := hS.sz
        have h0N_ := hS.size
        rw [hN_] at h0N_
        refine E_start (hR := KeepS.pre (SN N_ [bC])) #[false, false, false, false, false, false, false, false] (by kernel_rfl) rfl rfl (fun w_r2 hx_r2 he_r2 => ?_)
        have hzE_ : w_r2.heap.size = N_ := by rw [he_r2]; exact hN_
        have hz : N_ ≤ w_r2.heap.size := Nat.le_of_eq hzE_.symm
        replace hS := hS.drew; rw [← he_r2] at hS
        clear hx_r2 he_r2
        clear hzE_ hN_
        refine E_take (hR := KeepS.pre (SN N_ [bC])) (i := 0) (N := (some 29)) (v := ?vr2_0) (a' := ?ar2_0) #[true, false, false, false, false, false, false, false] rfl rfl (by kernel_rfl) (fun _ _ _ h => h) (by rfl) ?hyr2_0 ?har2_0 ?_
        case hyr2_0 =>
          intro w' hx
          go_simp
          with_reducible rfl
        case har2_0 => (simp only [Act.put, List.setIfInBounds_toArray, List.set_cons_zero, List.set_cons_succ]; rfl)
        refine E_take (hR := KeepS.pre (SN N_ [bC])) (i := 1) (N := (some 30)) (v := ?vr2_1) (a' := ?ar2_1) #[true, true, false, false, false, false, false, false] rfl rfl (by kernel_rfl) (fun _ _ _ h => h) (by rfl) ?hyr2_1 ?har2_1 ?_
        case hyr2_1 =>
          intro w' hx
          go_simp
          with_reducible rfl
        case har2_1 => (simp only [Act.put, List.setIfInBounds_toArray, List.set_cons_zero, List.set_cons_succ]; rfl)
        refine E_take (hR := KeepS.pre (SN N_ [bC])) (i := 2) (N := (some 31)) (v := ?vr2_2) (a' := ?ar2_2) #[true, true, true, false, false, false, false, false] rfl rfl (by kernel_rfl) (fun _ _ _ h => h) (by rfl) ?hyr2_2 ?har2_2 ?_
        case hyr2_2 =>
          intro w' hx
          go_simp
          with_reducible rfl
        case har2_2 => (simp only [Act.put, List.setIfInBounds_toArray, List.set_cons_zero, List.set_cons_succ]; rfl)
        refine E_take (hR := KeepS.pre (SN N_ [bC])) (i := 4) (N := (some 33)) (v := ?vr2_4) (a' := ?ar2_4) #[true, true, true, false, true, false, false, false] rfl rfl (by kernel_rfl) (fun _ _ _ h => h) (by rfl) ?hyr2_4 ?har2_4 ?_
        case hyr2_4 =>
          intro w' hx
          go_simp
          with_reducible rfl
        case har2_4 => (simp only [Act.put, List.setIfInBounds_toArray, List.set_cons_zero, List.set_cons_succ]; rfl)
        refine E_take (hR := KeepS.pre (SN N_ [bC])) (i := 5) (N := (some 34)) (v := ?vr2_5) (a' := ?ar2_5) #[true, true, true, false, true, true, false, false] rfl rfl (by kernel_rfl) (fun _ _ _ h => h) (by rfl) ?hyr2_5 ?har2_5 ?_
        case hyr2_5 =>
          intro w' hx
          go_simp
          with_reducible rfl
        case har2_5 => (simp only [Act.put, List.setIfInBounds_toArray, List.set_cons_zero, List.set_cons_succ]; rfl)
        refine E_split [3] (by kernel_rfl) (by simp) (fun i_ hi_ => ?_)
        simp only [List.mem_cons, List.not_mem_nil, or_false] at hi_
        rcases hi_ with rfl
        refine E_call1 (i := 3) (N := (some 32)) (args := ?gr2_3) #[true, true, true, true, true, true, false, false] rfl rfl (by kernel_rfl) (by rfl) Try.func37 (by kernel_rfl) rfl rfl ?hgr2_3 ?_
        case hgr2_3 => (simp only [List.map_toArray, List.map_cons, List.map_nil]; go_simp; with_reducible rfl)
        refine (turned_any v4 _).mono ?_
        rintro e w_ ⟨rfl, hb_⟩
        (refine ⟨_, rfl, KeepS.below hb_ hz, ?_⟩; replace hS := hS.ext hb_; replace hz := Nat.le_trans hz hb_.size; clear hb_)
        rintro _ rfl
        simp only [Act.put, List.setIfInBounds_toArray, List.set_cons_zero, List.set_cons_succ]
        refine E_take (hR := KeepS.pre (SN N_ [bC])) (i := 6) (N := (some 35)) (v := ?vr2_6) (a' := ?ar2_6) #[true, true, true, true, true, true, true, false] rfl rfl (by kernel_rfl) (fun _ _ _ h => h) (by rfl) ?hyr2_6 ?har2_6 ?_
        case hyr2_6 =>
          intro w' hx
          go_simp
          with_reducible rfl
        case har2_6 => (simp only [Act.put, List.setIfInBounds_toArray, List.set_cons_zero, List.set_cons_succ]; rfl)
        refine E_split [7] (by kernel_rfl) (by simp) (fun i_ hi_ => ?_)
        simp only [List.mem_cons, List.not_mem_nil, or_false] at hi_
        rcases hi_ with rfl
        (apply K_st (i := 7) hS hz #[true, true, true, true, true, true, true, true]; rfl; rfl; (show _ = _; kernel_rfl); rfl; rfl; rfl; (focus ((conv => lhs; whnf) <;> rfl)); (focus ((repeat (first | exact .here | apply At.there)); done)); (first | assumption | (refine Or.inl ?_; assumption) | (refine Or.inr ?_; focus (simp; done))); rfl; rfl; (first | decide | assumption | (simp only [List.length_map, List.length_set]; omega)))
        clear hS hz
        intro w_ hS hz
        try simp only [List.set_cons_zero, List.set_cons_succ] at hS
        refine E_done (by kernel_rfl) ?_
        change St _ _ _ [.blk bC _ ((tL s).set p1.toNat (bV (tnd v4)))] at hS
        rw [tL_set hsl.out p1.toNat_lt] at hS
        go_wp2
        go_roundw
        case rel => exact ⟨k + 1, by go_num, by omega, by rw [hnx.out], by rw [hnx.out], by rw [hnx.out]; exact hS⟩
        case measure => simp [intOf]; omega
    · have hk5 : k = 255 := by omega
      have hsl := Lib.hid (tst_len k)
      have hend := Lib.hid (show (tst k).s.set 0 (tnd 0) = sbT by rw [hk5]; exact tst_end)
      generalize tst k = t at *
      obtain ⟨p, q, s⟩ := t
      have hpl : 0 < (tL s).length := by rw [tL_len hsl.out]; decide
      go_upto_region 11 with (fail)
      obtain ⟨N_, hN_⟩ := hS.sz
      have h0N_ := hS.size
      rw [hN_] at h0N_
      refine E_start (hR := KeepS.pre (SN N_ [bC])) #[false, false, false, false, false, false] (by kernel_rfl) rfl rfl (fun w_s3 hx_s3 he_s3 => ?_)
      have hzE_ : w_s3.heap.size = N_ := by rw [he_s3]; exact hN_
      have hz : N_ ≤ w_s3.heap.size := Nat.le_of_eq hzE_.symm
      replace hS := hS.drew; rw [← he_s3] at hS
      clear hx_s3 he_s3
      clear hzE_ hN_
      refine E_take (hR := KeepS.pre (SN N_ [bC])) (i := 0) (N := (some 37)) (v := ?vs3_0) (a' := ?as3_0) #[true, false, false, false, false, false] rfl rfl (by kernel_rfl) (fun _ _ _ h => h) (by rfl) ?hys3_0 ?has3_0 ?_
      case hys3_0 =>
        intro w' hx
        go_simp
        with_reducible rfl
      case has3_0 => (simp only [Act.put, List.setIfInBounds_toArray, List.set_cons_zero, List.set_cons_succ]; rfl)
      refine E_take (hR := KeepS.pre (SN N_ [bC])) (i := 2) (N := (some 39)) (v := ?vs3_2) (a' := ?as3_2) #[true, false, true, false, false, false] rfl rfl (by kernel_rfl) (fun _ _ _ h => h) (by rfl) ?hys3_2 ?has3_2 ?_
      case hys3_2 =>
        intro w' hx
        go_simp
        with_reducible rfl
      case has3_2 => (simp only [Act.put, List.setIfInBounds_toArray, List.set_cons_zero, List.set_cons_succ]; rfl)
      refine E_take (hR := KeepS.pre (SN N_ [bC])) (i := 3) (N := (some 40)) (v := ?vs3_3) (a' := ?as3_3) #[true, false, true, true, false, false] rfl rfl (by kernel_rfl) (fun _ _ _ h => h) (by rfl) ?hys3_3 ?has3_3 ?_
      case hys3_3 =>
        intro w' hx
        go_simp
        with_reducible rfl
      case has3_3 => (simp only [Act.put, List.setIfInBounds_toArray, List.set_cons_zero, List.set_cons_succ]; rfl)
      refine E_split [1] (by kernel_rfl) (by simp) (fun i_ hi_ => ?_)
      simp only [List.mem_cons, List.not_mem_nil, or_false] at hi_
      rcases hi_ with rfl
      refine E_call1 (i := 1) (N := (some 38)) (args := ?gs3_1) #[true, true, true, true, false, false] rfl rfl (by kernel_rfl) (by rfl) Try.func37 (by kernel_rfl) rfl rfl ?hgs3_1 ?_
      case hgs3_1 => (simp only [List.map_toArray, List.map_cons, List.map_nil]; go_simp; with_reducible rfl)
      refine (turned_any 0 _).mono ?_
      rintro e w_ ⟨rfl, hb_⟩
      (refine ⟨_, rfl, KeepS.below hb_ hz, ?_⟩; replace hS := hS.ext hb_; replace hz := Nat.le_trans hz hb_.size; clear hb_)
      rintro _ rfl
      simp only [Act.put, List.setIfInBounds_toArray, List.set_cons_zero, List.set_cons_succ]
      refine E_take (hR := KeepS.pre (SN N_ [bC])) (i := 4) (N := (some 41)) (v := ?vs3_4) (a' := ?as3_4) #[true, true, true, true, true, false] rfl rfl (by kernel_rfl) (fun _ _ _ h => h) (by rfl) ?hys3_4 ?has3_4 ?_
      case hys3_4 =>
        intro w' hx
        go_simp
        with_reducible rfl
      case has3_4 => (simp only [Act.put, List.setIfInBounds_toArray, List.set_cons_zero, List.set_cons_succ]; rfl)
      refine E_split [5] (by kernel_rfl) (by simp) (fun i_ hi_ => ?_)
      simp only [List.mem_cons, List.not_mem_nil, or_false] at hi_
      rcases hi_ with rfl
      (apply K_st (i := 5) hS hz #[true, true, true, true, true, true]; rfl; rfl; (show _ = _; kernel_rfl); rfl; rfl; rfl; (focus ((conv => lhs; whnf) <;> rfl)); (focus ((repeat (first | exact .here | apply At.there)); done)); (first | assumption | (refine Or.inl ?_; assumption) | (refine Or.inr ?_; focus (simp; done))); rfl; rfl; (first | decide | assumption | (simp only [List.length_map, List.length_set]; omega)))
      clear hS hz
      intro w_ hS hz
      try simp only [List.set_cons_zero, List.set_cons_succ] at hS
      refine E_done (by kernel_rfl) ?_
      change St _ _ _ [.blk bC _ ((tL s).set 0 (bV (tnd 0)))] at hS
      rw [tL_set hsl.out (by decide), show s.set 0 (tnd 0) = sbT from hend.out] at hS
      have hU0 := Lib.hid (show tL sbT = uL (bkS 0) by unfold tL uL bkS; rw [List.range_zero, List.foldl_nil, List.replicate_append_replicate])
      rw [hU0.out] at hS
      have hLL := Lib.hid (uL_len (bkS_len 0))
      have HSU := Lib.hid (uL_sub (bkS 0))
      have hix := Lib.hid (show ∀ k : Nat, k < 256 → ∀ wx, (Instr.index 61 (.agg (sbT.map bV).toArray) (.int .i64 (k : Int))).run Try.prog wx = .ok (.int .u8 ((sbT.getD k 0).toNat : Int)) wx from fun k hk wx => run_index_agg (e := 5) (q := .u8) wx Try.underlying61 Try.underlying5 (by kernel_rfl) hk (by rw [List.getElem?_toArray]; exact mapGetB (by rw [sbT_len]; exact hk)))
      clear hend hU0
      go_wp2_with (first | ((with_reducible show wpList _ _ _ (⟨some 45, Op.load _ _, _, _, _, _⟩ :: _) _ _); go_loud (apply S_ldPart (m := 256) hS; rfl; rfl; rfl; (focus ((repeat (first | exact .here | apply At.there)); done)); rfl; rfl; (rw [hLL.out]; decide); (rw [HSU.out]))))
      go_loopw [46] (fun i wr => ∃ k : Nat, i = .int .i64 (k : Int) ∧ k ≤ 256 ∧ St (Km w bC) w wr [.blk bC 64 (uL (bkS k))]) (fun i _ => 256 - (intOf i).toNat)
      case atStart => exact ⟨0, rfl, by omega, hS⟩
      case round =>
        clear hS
        obtain ⟨k, rfl, hk, hS⟩ := hrel
        by_cases hlt : k < 256
        · have hi := hix.out k hlt
          have hst := Lib.hid (bkS_succ k)
          have hbl := Lib.hid (bkS_len k)
          generalize sbT.getD k 0 = x at *
          have hx256 : (x.toNat : Int) < 256 := by have := x.toNat_lt; omega
          have hpl : 256 + x.toNat < (uL (bkS k)).length := by rw [uL_len hbl.out]; have := x.toNat_lt; omega
          have hcv : Value.int .u8 (k : Int) = bV (UInt8.ofNat k) := by unfold bV; rw [UInt8.toNat_ofNat_of_lt' (show k < 256 from hlt)]
          have HCV := Lib.hid hcv
          clear hcv
          go_wp2_with (first | ((with_reducible show wpList _ _ _ (⟨_, Op.store _ _ _, _, _, _, _⟩ :: _) _ _); go_loud (first | (apply S_st hS; rfl; rfl; rfl; (focus ((conv => lhs; whnf) <;> rfl)); (focus ((repeat (first | exact .here | apply At.there)); done)); rfl; rfl; (first | (assumption) | decide | assumption | (simp only [List.length_map, List.length_set, List.length_replicate, List.length_append, List.length_cons, List.length_nil]; omega)); clear hS; intro w_ hS; (try simp only [List.set_cons_zero, List.set_cons_succ] at hS)) | (apply S_stOwn hS; rfl; rfl; rfl; (focus ((conv => lhs; whnf) <;> rfl)); (focus ((repeat (first | exact .here | apply At.there)); done)); rfl; rfl; (first | decide | assumption | omega); clear hS; intro w_ hS; (try simp only [List.set_cons_zero, List.set_cons_succ] at hS)))))
          rw [HCV.out, uL_set hbl.out x.toNat_lt, ← hst.out] at hS
          go_roundw
          case rel => exact ⟨k + 1, by go_num, by omega, hS⟩
          case measure => simp [intOf]; omega
        · have hk6 : k = 256 := by omega
          rw [hk6, bkS_end] at hS
          go_wp2
          refine bodyPost_end (results_none rfl _ _ _) rfl ⟨rfl, hS.grownBy, hS.blk (by focus ((repeat (first | exact .here | apply At.there)); done))⟩
end Go.Proofs.Ythamhaomfdgdjaa
