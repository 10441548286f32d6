/- cts: right, swap. -/
import Derived.Test.YthmdnpaebdlefaaInv
import Derived.Test.YthmdnpaebdlefaaCut
namespace Go.Proofs.Ythmdnpaebdlefaa
open Go.RowKit
set_option linter.unusedVariables false
set_option linter.unusedSimpArgs false

theorem right_nil (A : Option Addr) (n c : Nat) (w : World) : Calls Try.prog 14 #[.nilIface, .slice A n c] w fun e w' => e = .returned (.int .i64 1) ∧ w = w' := by
  have q : ∀ w, (binOp .eql 45 .nilIface .nilIface).run Try.prog w = .ok (.bool true) w := fun _ => by rfl
  go_enter Try.func14, Try.ntmps14
  go_wp2
  go_ret
  exact ⟨rfl, rfl⟩
theorem right_no (t : TypeId) (u : Value) (A : Option Addr) (n c : Nat) (w : World) (h : n < 16 ∨ 256 < n) : Calls Try.prog 14 #[.iface t u, .slice A n c] w fun e w' => e = .returned (.int .i64 2) ∧ w = w' := by
  have q : ∀ w, (binOp .eql 45 (.iface t u) .nilIface).run Try.prog w = .ok (.bool false) w := fun _ => by rfl
  rcases h with h | h
  · have h1 : (n : Int) < 16 := by omega
    clear h
    go_enter Try.func14, Try.ntmps14
    go_wp2
    go_ret
    exact ⟨rfl, rfl⟩
  · have h1 : ¬ (n : Int) < 16 := by omega
    have h2 : (256 : Int) < (n : Int) := by omega
    clear h
    go_enter Try.func14, Try.ntmps14
    go_wp2
    go_ret
    exact ⟨rfl, rfl⟩
theorem right_ok (t : TypeId) (u : Value) (A : Option Addr) (n c : Nat) (w : World) (h1 : 16 ≤ n) (h2 : n ≤ 256) : Calls Try.prog 14 #[.iface t u, .slice A n c] w fun e w' => e = .returned (.int .i64 0) ∧ w = w' := by
  have q : ∀ w, (binOp .eql 45 (.iface t u) .nilIface).run Try.prog w = .ok (.bool false) w := fun _ => by rfl
  have h3 : ¬ (n : Int) < 16 := by omega
  have h4 : ¬ (256 : Int) < (n : Int) := by omega
  clear h1 h2
  go_enter Try.func14, Try.ntmps14
  go_wp2
  go_ret
  exact ⟨rfl, rfl⟩

/-- A row of ours, as a block. -/
theorem own_blk {w : World} {B : Nat} {e : TypeId} {g n cap : Nat} {vs : List Value} (h : w.ownsRow B e 1 (.slice (some ⟨g, 0, none⟩) n cap) n vs) : ∃ tl, Blk w g e (vs ++ tl) ∧ B ≤ g ∧ vs.length = n ∧ n ≤ cap ∧ (vs ++ tl).length = cap ∧ cap ≤ maxLen := by
  rcases h.2 with ⟨e1, _⟩ | ⟨g', cap', cur, e1, hB, hg, hn, hc, hs, ht⟩
  · cases e1
  · cases e1
    have hl : vs.length = n := by have := h.1; omega
    rw [Nat.mul_one] at ht hs
    refine ⟨cur.toList.drop n, ?_, hB, hl, hn, ?_, hc⟩
    · unfold Blk
      rw [← ht, List.take_append_drop]
      exact hg
    · rw [← ht, List.take_append_drop, Array.length_toList]; exact hs

set_option maxHeartbeats 1600000 in
theorem swap_one (A : Option Addr) (n c : Nat) (w : World) (h : n ≤ 1) : Calls Try.prog 18 #[.slice A n c] w fun e w' => (∃ v, e = .returned v) ∧ w = w' := by
  have h1 : ¬ (1 : Int) < (n : Int) := by omega
  clear h
  go_enter Try.func18, Try.ntmps18
  go_wp2
  go_end0
  exact ⟨⟨_, rfl⟩, rfl⟩
set_option maxHeartbeats 1600000 in
theorem swap_any (g m cap : Nat) (e : TypeId) (L : List Value) (A1 A2 : Option Addr) (n1 c1 n2 c2 : Nat) (w : World) (hB : Blk w g e L) (hl : m + 2 ≤ L.length) (hm : m ≤ 1000) (hu : L[m]? = some (.slice A1 n1 c1)) (hv : L[m + 1]? = some (.slice A2 n2 c2)) :
    Calls Try.prog 18 #[.slice (some ⟨g, 0, none⟩) (m + 2) cap] w fun e' w' => (∃ z, e' = .returned z) ∧ w.grownBy w' (some g) ∧ Blk w' g e ((L.set m (.slice A2 n2 c2)).set (m + 1) (.slice A1 n1 c1)) := by
  have hS := St.start1 (x := .blk g e L) hB rfl
  have hm1 : m + 1 < L.length := by omega
  have hm0 : m < L.length := by omega
  have hml : m + 1 < (L.set m (.slice A2 n2 c2)).length := by rw [List.length_set]; exact hm1
  have hml' : m < (L.set (m + 1) (.slice A1 n1 c1)).length := by rw [List.length_set]; exact hm0
  have w1 : IntKind.i64.wrap ((m : Int) + 2 - 1) = (m : Int) + 1 := by rw [IntKind.wrap_i64]; omega
  have w2 : IntKind.i64.wrap (m : Int) = (m : Int) := by rw [IntKind.wrap_i64]; omega
  have k1 : (0 : Int) ≤ (m : Int) + 1 ∧ (m : Int) + 1 < (m : Int) + 2 := by omega
  have k2 : (m : Int) < (m : Int) + 2 := by omega
  have k3 : (0 : Int) ≤ (m : Int) + 1 := by omega
  have k4 : (m : Int) + 1 < (m : Int) + 2 := by omega
  clear hB hl
  go_enter Try.func18, Try.ntmps18
  go_upto_region 2 with (fail)
  obtain ⟨N_, hN_⟩ := hS.sz
  have h0N_ := hS.size
  rw [hN_] at h0N_
  refine E_start (hR := KeepS.pre (SN N_ [g])) #[false, false, false, false, false, false, false, false, false, false, false, false, false, false, false, false, false, false, false, false] (by kernel_rfl) rfl rfl (fun w_r1 hx_r1 he_r1 => ?_)
  have hzE_ : w_r1.heap.size = N_ := by rw [he_r1]; exact hN_
  have hz : N_ ≤ w_r1.heap.size := Nat.le_of_eq hzE_.symm
  replace hS := hS.drew; rw [← he_r1] at hS
  clear hx_r1 he_r1
  clear hzE_ hN_
  refine E_take (hR := KeepS.pre (SN N_ [g])) (i := 0) (N := (some 7)) (v := ?vr1_0) (a' := ?ar1_0) #[true, false, false, false, false, false, false, false, false, false, false, false, false, false, false, false, false, false, false, false] rfl rfl (by kernel_rfl) (fun _ _ _ h => h) (by rfl) ?hyr1_0 ?har1_0 ?_
  case hyr1_0 =>
    intro w' hx
    go_simp
    with_reducible rfl
  case har1_0 => (simp only [Act.put, List.setIfInBounds_toArray, List.set_cons_zero, List.set_cons_succ]; rfl)
  refine E_take (hR := KeepS.pre (SN N_ [g])) (i := 1) (N := (some 8)) (v := ?vr1_1) (a' := ?ar1_1) #[true, true, false, false, false, false, false, false, false, false, false, false, false, false, false, false, false, false, false, false] rfl rfl (by kernel_rfl) (fun _ _ _ h => h) (by rfl) ?hyr1_1 ?har1_1 ?_
  case hyr1_1 =>
    intro w' hx
    go_simp
    with_reducible rfl
  case har1_1 => (simp only [Act.put, List.setIfInBounds_toArray, List.set_cons_zero, List.set_cons_succ]; rfl)
  refine E_take (hR := KeepS.pre (SN N_ [g])) (i := 2) (N := (some 9)) (v := ?vr1_2) (a' := ?ar1_2) #[true, true, true, false, false, false, false, false, false, false, false, false, false, false, false, false, false, false, false, false] rfl rfl (by kernel_rfl) (fun _ _ _ h => h) (by rfl) ?hyr1_2 ?har1_2 ?_
  case hyr1_2 =>
    intro w' hx
    go_simp
    with_reducible rfl
  case har1_2 => (simp only [Act.put, List.setIfInBounds_toArray, List.set_cons_zero, List.set_cons_succ]; rfl)
  refine E_take (hR := KeepS.pre (SN N_ [g])) (i := 3) (N := (some 10)) (v := ?vr1_3) (a' := ?ar1_3) #[true, true, true, true, false, false, false, false, false, false, false, false, false, false, false, false, false, false, false, false] rfl rfl (by kernel_rfl) (fun _ _ _ h => h) (by rfl) ?hyr1_3 ?har1_3 ?_
  case hyr1_3 =>
    intro w' hx
    go_simp
    with_reducible rfl
  case har1_3 => (simp only [Act.put, List.setIfInBounds_toArray, List.set_cons_zero, List.set_cons_succ]; rfl)
  refine E_take (hR := KeepS.pre (SN N_ [g])) (i := 4) (N := (some 11)) (v := ?vr1_4) (a' := ?ar1_4) #[true, true, true, true, true, false, false, false, false, false, false, false, false, false, false, false, false, false, false, false] rfl rfl (by kernel_rfl) (fun _ _ _ h => h) (by rfl) ?hyr1_4 ?har1_4 ?_
  case hyr1_4 =>
    intro w' hx
    go_simp
    with_reducible rfl
  case har1_4 => (simp only [Act.put, List.setIfInBounds_toArray, List.set_cons_zero, List.set_cons_succ]; rfl)
  refine E_take (hR := KeepS.pre (SN N_ [g])) (i := 5) (N := (some 12)) (v := ?vr1_5) (a' := ?ar1_5) #[true, true, true, true, true, true, false, false, false, false, false, false, false, false, false, false, false, false, false, false] rfl rfl (by kernel_rfl) (fun _ _ _ h => h) (by rfl) ?hyr1_5 ?har1_5 ?_
  case hyr1_5 =>
    intro w' hx
    go_simp
    with_reducible rfl
  case har1_5 => (simp only [Act.put, List.setIfInBounds_toArray, List.set_cons_zero, List.set_cons_succ]; rfl)
  refine E_take (hR := KeepS.pre (SN N_ [g])) (i := 6) (N := (some 13)) (v := ?vr1_6) (a' := ?ar1_6) #[true, true, true, true, true, true, true, false, false, false, false, false, false, false, false, false, false, false, false, false] rfl rfl (by kernel_rfl) (fun _ _ _ h => h) (by rfl) ?hyr1_6 ?har1_6 ?_
  case hyr1_6 =>
    intro w' hx
    go_simp
    with_reducible rfl
  case har1_6 => (simp only [Act.put, List.setIfInBounds_toArray, List.set_cons_zero, List.set_cons_succ]; rfl)
  refine E_take (hR := KeepS.pre (SN N_ [g])) (i := 7) (N := (some 14)) (v := ?vr1_7) (a' := ?ar1_7) #[true, true, true, true, true, true, true, true, false, false, false, false, false, false, false, false, false, false, false, false] rfl rfl (by kernel_rfl) (fun _ _ _ h => h) (by rfl) ?hyr1_7 ?har1_7 ?_
  case hyr1_7 =>
    intro w' hx
    go_simp
    with_reducible rfl
  case har1_7 => (simp only [Act.put, List.setIfInBounds_toArray, List.set_cons_zero, List.set_cons_succ]; rfl)
  refine E_take (hR := KeepS.pre (SN N_ [g])) (i := 8) (N := (some 15)) (v := ?vr1_8) (a' := ?ar1_8) #[true, true, true, true, true, true, true, true, true, false, false, false, false, false, false, false, false, false, false, false] rfl rfl (by kernel_rfl) (fun _ _ _ h => h) (by rfl) ?hyr1_8 ?har1_8 ?_
  case hyr1_8 =>
    intro w' hx
    go_simp
    with_reducible rfl
  case har1_8 => (simp only [Act.put, List.setIfInBounds_toArray, List.set_cons_zero, List.set_cons_succ]; rfl)
  refine E_take (hR := KeepS.pre (SN N_ [g])) (i := 9) (N := (some 16)) (v := ?vr1_9) (a' := ?ar1_9) #[true, true, true, true, true, true, true, true, true, true, false, false, false, false, false, false, false, false, false, false] rfl rfl (by kernel_rfl) (fun _ _ _ h => h) (by rfl) ?hyr1_9 ?har1_9 ?_
  case hyr1_9 =>
    intro w' hx
    go_simp
    with_reducible rfl
  case har1_9 => (simp only [Act.put, List.setIfInBounds_toArray, List.set_cons_zero, List.set_cons_succ]; rfl)
  refine E_take (hR := KeepS.pre (SN N_ [g])) (i := 11) (N := (some 18)) (v := ?vr1_11) (a' := ?ar1_11) #[true, true, true, true, true, true, true, true, true, true, false, true, false, false, false, false, false, false, false, false] rfl rfl (by kernel_rfl) (fun _ _ _ h => h) (by rfl) ?hyr1_11 ?har1_11 ?_
  case hyr1_11 =>
    intro w' hx
    go_simp
    with_reducible rfl
  case har1_11 => (simp only [Act.put, List.setIfInBounds_toArray, List.set_cons_zero, List.set_cons_succ]; rfl)
  refine E_take (hR := KeepS.pre (SN N_ [g])) (i := 12) (N := (some 19)) (v := ?vr1_12) (a' := ?ar1_12) #[true, true, true, true, true, true, true, true, true, true, false, true, true, false, false, false, false, false, false, false] rfl rfl (by kernel_rfl) (fun _ _ _ h => h) (by rfl) ?hyr1_12 ?har1_12 ?_
  case hyr1_12 =>
    intro w' hx
    go_simp
    with_reducible rfl
  case har1_12 => (simp only [Act.put, List.setIfInBounds_toArray, List.set_cons_zero, List.set_cons_succ]; rfl)
  refine E_take (hR := KeepS.pre (SN N_ [g])) (i := 13) (N := (some 20)) (v := ?vr1_13) (a' := ?ar1_13) #[true, true, true, true, true, true, true, true, true, true, false, true, true, true, false, false, false, false, false, false] rfl rfl (by kernel_rfl) (fun _ _ _ h => h) (by rfl) ?hyr1_13 ?har1_13 ?_
  case hyr1_13 =>
    intro w' hx
    go_simp
    with_reducible rfl
  case har1_13 => (simp only [Act.put, List.setIfInBounds_toArray, List.set_cons_zero, List.set_cons_succ]; rfl)
  refine E_take (hR := KeepS.pre (SN N_ [g])) (i := 14) (N := (some 21)) (v := ?vr1_14) (a' := ?ar1_14) #[true, true, true, true, true, true, true, true, true, true, false, true, true, true, true, false, false, false, false, false] rfl rfl (by kernel_rfl) (fun _ _ _ h => h) (by rfl) ?hyr1_14 ?har1_14 ?_
  case hyr1_14 =>
    intro w' hx
    go_simp
    with_reducible rfl
  case har1_14 => (simp only [Act.put, List.setIfInBounds_toArray, List.set_cons_zero, List.set_cons_succ]; rfl)
  refine E_split [10, 15] (by kernel_rfl) (by simp) (fun i_ hi_ => ?_)
  simp only [List.mem_cons, List.not_mem_nil, or_false] at hi_
  rcases hi_ with rfl | rfl
  · (apply K_val (i := 10) (T := (some 17)) #[true, true, true, true, true, true, true, true, true, true, true, true, true, true, true, false, false, false, false, false]; rfl; rfl; (show _ = _; kernel_rfl); rfl; (apply R_ld hS; rfl; rfl; (focus ((repeat (first | exact .here | apply At.there)); done)); rfl; (first | assumption | rfl | exact mapGetB (by first | assumption | omega))); exact KeepS.refl _ _)
    rintro _ rfl
    simp only [Act.put, List.setIfInBounds_toArray, List.set_cons_zero, List.set_cons_succ]
    refine E_split [15] (by kernel_rfl) (by simp) (fun i_ hi_ => ?_)
    simp only [List.mem_cons, List.not_mem_nil, or_false] at hi_
    rcases hi_ with rfl
    (apply K_val (i := 15) (T := (some 22)) #[true, true, true, true, true, true, true, true, true, true, true, true, true, true, true, true, false, false, false, false]; rfl; rfl; (show _ = _; kernel_rfl); rfl; (apply R_ld hS; rfl; rfl; (focus ((repeat (first | exact .here | apply At.there)); done)); rfl; (first | assumption | rfl | exact mapGetB (by first | assumption | omega))); exact KeepS.refl _ _)
    rintro _ rfl
    simp only [Act.put, List.setIfInBounds_toArray, List.set_cons_zero, List.set_cons_succ]
    refine E_take (hR := KeepS.pre (SN N_ [g])) (i := 16) (N := (some 23)) (v := ?vr1a_16) (a' := ?ar1a_16) #[true, true, true, true, true, true, true, true, true, true, true, true, true, true, true, true, true, false, false, false] rfl rfl (by kernel_rfl) (fun _ _ _ h => h) (by rfl) ?hyr1a_16 ?har1a_16 ?_
    case hyr1a_16 =>
      intro w' hx
      go_simp
      with_reducible rfl
    case har1a_16 => (simp only [Act.put, List.setIfInBounds_toArray, List.set_cons_zero, List.set_cons_succ]; rfl)
    refine E_split [17] (by kernel_rfl) (by simp) (fun i_ hi_ => ?_)
    simp only [List.mem_cons, List.not_mem_nil, or_false] at hi_
    rcases hi_ with rfl
    (apply K_st (i := 17) hS hz #[true, true, true, true, true, true, true, true, true, true, true, true, true, true, true, true, true, true, false, false]; rfl; rfl; (show _ = _; kernel_rfl); rfl; rfl; rfl; (focus ((conv => lhs; whnf) <;> rfl)); (focus ((repeat (first | exact .here | apply At.there)); done)); (first | assumption | (refine Or.inl ?_; assumption) | (refine Or.inr ?_; focus (simp; done))); rfl; rfl; (first | decide | assumption | (simp only [List.length_map, List.length_set]; omega)))
    clear hS hz
    intro w_ hS hz
    try simp only [List.set_cons_zero, List.set_cons_succ] at hS
    refine E_take (hR := KeepS.pre (SN N_ [g])) (i := 18) (N := (some 24)) (v := ?vr1a_18) (a' := ?ar1a_18) #[true, true, true, true, true, true, true, true, true, true, true, true, true, true, true, true, true, true, true, false] rfl rfl (by kernel_rfl) (fun _ _ _ h => h) (by rfl) ?hyr1a_18 ?har1a_18 ?_
    case hyr1a_18 =>
      intro w' hx
      go_simp
      with_reducible rfl
    case har1a_18 => (simp only [Act.put, List.setIfInBounds_toArray, List.set_cons_zero, List.set_cons_succ]; rfl)
    refine E_split [19] (by kernel_rfl) (by simp) (fun i_ hi_ => ?_)
    simp only [List.mem_cons, List.not_mem_nil, or_false] at hi_
    rcases hi_ with rfl
    (apply K_st (i := 19) hS hz #[true, true, true, true, true, true, true, true, true, true, true, true, true, true, true, true, true, true, true, true]; rfl; rfl; (show _ = _; kernel_rfl); rfl; rfl; rfl; (focus ((conv => lhs; whnf) <;> rfl)); (focus ((repeat (first | exact .here | apply At.there)); done)); (first | assumption | (refine Or.inl ?_; assumption) | (refine Or.inr ?_; focus (simp; done))); rfl; rfl; (first | decide | assumption | (simp only [List.length_map, List.length_set]; omega)))
    clear hS hz
    intro w_ hS hz
    try simp only [List.set_cons_zero, List.set_cons_succ] at hS
    refine E_done (by kernel_rfl) ?_
    go_wp2
    go_end0
    exact ⟨⟨_, rfl⟩, hS.grownBy, hS.blk (by focus ((repeat (first | exact .here | apply At.there)); done))⟩
  · (apply K_val (i := 15) (T := (some 22)) #[true, true, true, true, true, true, true, true, true, true, false, true, true, true, true, true, false, false, false, false]; rfl; rfl; (show _ = _; kernel_rfl); rfl; (apply R_ld hS; rfl; rfl; (focus ((repeat (first | exact .here | apply At.there)); done)); rfl; (first | assumption | rfl | exact mapGetB (by first | assumption | omega))); exact KeepS.refl _ _)
    rintro _ rfl
    simp only [Act.put, List.setIfInBounds_toArray, List.set_cons_zero, List.set_cons_succ]
    refine E_split [10] (by kernel_rfl) (by simp) (fun i_ hi_ => ?_)
    simp only [List.mem_cons, List.not_mem_nil, or_false] at hi_
    rcases hi_ with rfl
    (apply K_val (i := 10) (T := (some 17)) #[true, true, true, true, true, true, true, true, true, true, true, true, true, true, true, true, false, false, false, false]; rfl; rfl; (show _ = _; kernel_rfl); rfl; (apply R_ld hS; rfl; rfl; (focus ((repeat (first | exact .here | apply At.there)); done)); rfl; (first | assumption | rfl | exact mapGetB (by first | assumption | omega))); exact KeepS.refl _ _)
    rintro _ rfl
    simp only [Act.put, List.setIfInBounds_toArray, List.set_cons_zero, List.set_cons_succ]
    refine E_take (hR := KeepS.pre (SN N_ [g])) (i := 16) (N := (some 23)) (v := ?vr1b_16) (a' := ?ar1b_16) #[true, true, true, true, true, true, true, true, true, true, true, true, true, true, true, true, true, false, false, false] rfl rfl (by kernel_rfl) (fun _ _ _ h => h) (by rfl) ?hyr1b_16 ?har1b_16 ?_
    case hyr1b_16 =>
      intro w' hx
      go_simp
      with_reducible rfl
    case har1b_16 => (simp only [Act.put, List.setIfInBounds_toArray, List.set_cons_zero, List.set_cons_succ]; rfl)
    refine E_split [17] (by kernel_rfl) (by simp) (fun i_ hi_ => ?_)
    simp only [List.mem_cons, List.not_mem_nil, or_false] at hi_
    rcases hi_ with rfl
    (apply K_st (i := 17) hS hz #[true, true, true, true, true, true, true, true, true, true, true, true, true, true, true, true, true, true, false, false]; rfl; rfl; (show _ = _; kernel_rfl); rfl; rfl; rfl; (focus ((conv => lhs; whnf) <;> rfl)); (focus ((repeat (first | exact .here | apply At.there)); done)); (first | assumption | (refine Or.inl ?_; assumption) | (refine Or.inr ?_; focus (simp; done))); rfl; rfl; (first | decide | assumption | (simp only [List.length_map, List.length_set]; omega)))
    clear hS hz
    intro w_ hS hz
    try simp only [List.set_cons_zero, List.set_cons_succ] at hS
    refine E_take (hR := KeepS.pre (SN N_ [g])) (i := 18) (N := (some 24)) (v := ?vr1b_18) (a' := ?ar1b_18) #[true, true, true, true, true, true, true, true, true, true, true, true, true, true, true, true, true, true, true, false] rfl rfl (by kernel_rfl) (fun _ _ _ h => h) (by rfl) ?hyr1b_18 ?har1b_18 ?_
    case hyr1b_18 =>
      intro w' hx
      go_simp
      with_reducible rfl
    case har1b_18 => (simp only [Act.put, List.setIfInBounds_toArray, List.set_cons_zero, List.set_cons_succ]; rfl)
    refine E_split [19] (by kernel_rfl) (by simp) (fun i_ hi_ => ?_)
    simp only [List.mem_cons, List.not_mem_nil, or_false] at hi_
    rcases hi_ with rfl
    (apply K_st (i := 19) hS hz #[true, true, true, true, true, true, true, true, true, true, true, true, true, true, true, true, true, true, true, true]; rfl; rfl; (show _ = _; kernel_rfl); rfl; rfl; rfl; (focus ((conv => lhs; whnf) <;> rfl)); (focus ((repeat (first | exact .here | apply At.there)); done)); (first | assumption | (refine Or.inl ?_; assumption) | (refine Or.inr ?_; focus (simp; done))); rfl; rfl; (first | decide | assumption | (simp only [List.length_map, List.length_set]; omega)))
    clear hS hz
    intro w_ hS hz
    try simp only [List.set_cons_zero, List.set_cons_succ] at hS
    refine E_done (by kernel_rfl) ?_
    go_wp2
    go_end0
    exact ⟨⟨_, rfl⟩, hS.grownBy, hS.blk (by focus ((repeat (first | exact .here | apply At.there)); done))⟩
end Go.Proofs.Ythmdnpaebdlefaa
