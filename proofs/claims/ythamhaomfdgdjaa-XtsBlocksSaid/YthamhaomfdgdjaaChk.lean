/- slices.Chunk at bytes: what the loop over it may rest on. -/
import Derived.RangeFuncBox
import Derived.RangeFuncNested
import Derived.RangeFuncLeaves
import Derived.Shelf.Abstract
import Derived.WalkKit
import Derived.OwnWalkIn
import Derived.TacticsInMore
import Derived.LoopNIn
import Derived.LoopIn
import Derived.Maps.AppendAt
import Derived.Sort.QuietIn
import Derived.Test.YthamhaomfdgdjaaOctA
import Derived.Test.YthamhaomfdgdjaaBits
namespace Go.Proofs.Ythamhaomfdgdjaa
open Go.RowKit Go.Shelf

attribute [local go_sem] Oper.semAt_some

/-- How many pieces of s there are in n. -/
def nCh (n s : Nat) : Nat := (n + s - 1) / s
theorem nCh_eq {n s k : Nat} (hs : 1 ≤ s) (h1 : n ≤ k * s) (h2 : k = 0 ∨ (k - 1) * s < n) : nCh n s = k := by
  unfold nCh
  rcases h2 with rfl | h2
  · have : n = 0 := by omega
    subst this
    exact Nat.div_eq_of_lt (by omega)
  · obtain ⟨j, rfl⟩ : ∃ j, k = j + 1 := ⟨k - 1, by
      rcases k with _ | k
      · simp at h1; subst h1; omega
      · rfl⟩
    rw [Nat.add_sub_cancel] at h2
    rw [Nat.succ_mul] at h1
    exact Nat.div_eq_of_lt_le (by rw [Nat.succ_mul]; omega) (by rw [Nat.succ_mul, Nat.succ_mul]; omega)
theorem nCh_le {n s : Nat} (hs : 1 ≤ s) : nCh n s ≤ n := by
  unfold nCh
  refine Nat.lt_succ_iff.1 (Nat.div_lt_of_lt_mul ?_)
  rw [Nat.mul_succ]
  have : n ≤ s * n := Nat.le_mul_of_pos_left n hs
  omega
theorem lt_nCh {n s k : Nat} (hs : 1 ≤ s) (h : k * s < n) : k < nCh n s := by
  unfold nCh
  refine (Nat.le_div_iff_mul_le hs).2 ?_
  rw [Nat.succ_mul]; omega

/-- The blocks Bs and Bz lie as they lay. -/
def KB (Bs Bz : Nat) (W W' : World) : Prop := W'.heap[Bs]? = W.heap[Bs]? ∧ W'.heap[Bz]? = W.heap[Bz]?
theorem KB.refl (Bs Bz : Nat) (W : World) : KB Bs Bz W W := ⟨rfl, rfl⟩
theorem KB.trans {Bs Bz : Nat} {A B C : World} (h : KB Bs Bz A B) (k : KB Bs Bz B C) : KB Bs Bz A C := ⟨k.1.trans h.1, k.2.trans h.2⟩
theorem KB.cell1 {Bs Bz : Nat} {A B : World} (h : KB Bs Bz A B) {v : Value} (hv : A.cell? ⟨Bs, 0, none⟩ = some v) : B.cell? ⟨Bs, 0, none⟩ = some v := (World.cell?_of_block (a := ⟨Bs, 0, none⟩) h.1).trans hv
theorem KB.cell2 {Bs Bz : Nat} {A B : World} (h : KB Bs Bz A B) {v : Value} (hv : A.cell? ⟨Bz, 0, none⟩ = some v) : B.cell? ⟨Bz, 0, none⟩ = some v := (World.cell?_of_block (a := ⟨Bz, 0, none⟩) h.2).trans hv
theorem KB.put {Bs Bz : Nat} {w : World} (h1 : Bs < w.heap.size) (h2 : Bz < w.heap.size) (W : World) (l : Nat) (o o' : Obj) (hl : w.heap.size ≤ l) (hW : W.heap[l]? = some o) (_ : o.isCells = false) (_ : o.isWalk = false) : KB Bs Bz W (W.putObj l o') :=
  ⟨(grownBy_putObj' W l o').block Bs (by have := (Array.getElem?_eq_some_iff.1 hW).1; omega) (by intro e; cases e; omega), (grownBy_putObj' W l o').block Bz (by have := (Array.getElem?_eq_some_iff.1 hW).1; omega) (by intro e; cases e; omega)⟩

/-- The j-th piece, as a value. -/
def chV (b off len s : Nat) (j : Nat) : Value := .slice (some ⟨b, off + j * s, none⟩) (min s (len - j * s)) (min s (len - j * s))

set_option maxRecDepth 100000 in
set_option maxHeartbeats 2000000 in
theorem chunk1_in (n : Nat) (hn : 1 ≤ n) (l Bs Bz b off len cap s : Nat) (hs1 : 1 ≤ s) (hs2 : s ≤ 9223372036854775807) (hlen : len ≤ 70368744177664) (hcap : len ≤ cap) (J Jx : List Nat → World → Prop)
    (hY : ∀ pre x W, J pre W → pre.length < nCh len s → pre = List.range x → YieldAt Fence.wide (n - 1) Try.prog l #[chV b off len s x] W fun e W' =>
      (e = .returned (.bool true) ∧ J (pre ++ [x]) W' ∧ KB Bs Bz W W') ∨ (e = .returned (.bool false) ∧ Jx (pre ++ [x]) W'))
    (W : World) (hBs : W.cell? ⟨Bs, 0, none⟩ = some (.slice (some ⟨b, off, none⟩) len cap)) (hBz : W.cell? ⟨Bz, 0, none⟩ = some (.int .i64 (s : Int))) (hJd : ∀ pre W m, J pre W → J pre (W.drewN m)) (h0 : J [] W) :
    CallsIn Fence.wide n Try.prog 32 #[.func (.yield l) #[] #[], .pointer (some ⟨Bs, 0, none⟩), .pointer (some ⟨Bz, 0, none⟩)] W fun e W' => (∃ v, e = .returned v) ∧
      ((∃ ys, ys = List.range (nCh len s) ∧ J ys W') ∨ (∃ pre, (∃ k, pre = List.range k) ∧ Jx pre W')) := by
  refine callsIn_of_wp Try.func32 rfl trivial ?_ rfl
  simp only [Try.ntmps32, List.size_toArray, List.length_cons, List.length_nil, Nat.reduceAdd, Nat.reduceSub, Array.replicate_succ, Array.replicate_zero, List.push_toArray, List.append_toArray, List.nil_append, List.cons_append]
  gi_wp2
  gi_loopw [4] (fun i wr => ∃ k m : Nat, i = .int .i64 (m : Int) ∧ Hid (m = k * s) ∧ (k = 0 ∨ (k - 1) * s < len) ∧ J (List.range k) wr ∧ KB Bs Bz W wr)
    (fun i _ => len - (intOf i).toNat)
  case atStart => exact ⟨0, 0, rfl, Lib.hid (by simp), .inl rfl, h0, KB.refl _ _ _⟩
  case round =>
    obtain ⟨k, m, rfl, hm, hk, hJs, hnx⟩ := hrel
    have hB1 : wr.cell? ⟨Bs, 0, none⟩ = some (.slice (some ⟨b, off, none⟩) len cap) := hnx.cell1 hBs
    have hB2 : wr.cell? ⟨Bz, 0, none⟩ = some (.int .i64 (s : Int)) := hnx.cell2 hBz
    clear hBs hBz h0
    by_cases hlt : m < len
    · have hcm : ¬ cap = m := by omega
      have hml : m ≤ len := by omega
      have hkn := lt_nCh hs1 (hm.out ▸ hlt)
      by_cases hle : len - m < s
      · have hch : Hid (chV b off len s k = .slice (some ⟨b, off + m, none⟩) (len - m) (len - m)) := Lib.hid (by
          unfold chV; rw [← hm.out, Nat.min_eq_right (by omega)])
        gi_wp2
        gi_quiet (fail)
        obtain ⟨fn, tmps, assign, body, hy, hR⟩ := hY _ k (wr.drewN nq) (hJd _ _ nq hJs) (by rw [List.length_range]; exact hkn) rfl
        rw [hch.out] at hy
        generalize hq : len - m = q at *
        have HQ := Lib.hid hq
        clear hq
        have h1 : m + q ≤ len := by have := HQ.out; omega
        have h2 : m + q ≤ cap := by omega
        have h3 : m ≤ m + q := by omega
        have hq1 : ¬ m + q = m := by have := HQ.out; omega
        have hq0 : ¬ q = 0 := by omega
        clear hlt
        gi_wp2
        refine hR.mono ?_
        rintro e W3 (⟨rfl, hJ3, hk3⟩ | ⟨rfl, hJx3⟩)
        · have hB13 : W3.cell? ⟨Bs, 0, none⟩ = some (.slice (some ⟨b, off, none⟩) len cap) := hk3.cell1 hB1
          have hB23 : W3.cell? ⟨Bz, 0, none⟩ = some (.int .i64 (s : Int)) := hk3.cell2 hB2
          have hms : (m : Int) + (s : Int) ≤ 9223372036854775807 := by
            have := hm.out
            rcases k with _ | k
            · simp at this; omega
            · have : s ≤ m := by rw [this, Nat.succ_mul]; omega
              omega
          have HW := Lib.hid (wrap64_id (x := (m : Int) + (s : Int)) (by omega) hms)
          clear hB1 hB2 hR hms hY
          gi_wp2
          go_roundw
          case rel =>
            try rw [HW.out]
            refine ⟨k + 1, m + s, by simp, Lib.hid (by rw [hm.out, Nat.succ_mul]), .inr (by rw [Nat.add_sub_cancel, ← hm.out]; have := HQ.out; omega), by rw [List.range_succ]; exact hJ3, hnx.trans ?_⟩
            exact hk3
          case measure =>
            try rw [HW.out]
            simp [intOf]; have := HQ.out; omega
        · gi_wp2
          refine bodyPost_ret (results_none rfl _ _ _) rfl ?_
          exact ⟨⟨_, rfl⟩, .inr ⟨_, ⟨k + 1, (List.range_succ).symm⟩, hJx3⟩⟩
      · have hch : Hid (chV b off len s k = .slice (some ⟨b, off + m, none⟩) s s) := Lib.hid (by
          unfold chV; rw [← hm.out, Nat.min_eq_left (by omega)])
        gi_wp2
        gi_quiet (fail)
        obtain ⟨fn, tmps, assign, body, hy, hR⟩ := hY _ k (wr.drewN nq) (hJd _ _ nq hJs) (by rw [List.length_range]; exact hkn) rfl
        rw [hch.out] at hy
        have HQ : Hid (s ≤ len - m) := Lib.hid (by omega)
        clear hle
        have h1 : m + s ≤ len := by have := HQ.out; omega
        have h2 : m + s ≤ cap := by omega
        have h3 : m ≤ m + s := by omega
        have hq1 : ¬ m + s = m := by have := HQ.out; omega
        have hq0 : ¬ s = 0 := by omega
        clear hlt
        gi_wp2
        refine hR.mono ?_
        rintro e W3 (⟨rfl, hJ3, hk3⟩ | ⟨rfl, hJx3⟩)
        · have hB13 : W3.cell? ⟨Bs, 0, none⟩ = some (.slice (some ⟨b, off, none⟩) len cap) := hk3.cell1 hB1
          have hB23 : W3.cell? ⟨Bz, 0, none⟩ = some (.int .i64 (s : Int)) := hk3.cell2 hB2
          have hms : (m : Int) + (s : Int) ≤ 9223372036854775807 := by
            have := hm.out
            rcases k with _ | k
            · simp at this; omega
            · have : s ≤ m := by rw [this, Nat.succ_mul]; omega
              omega
          have HW := Lib.hid (wrap64_id (x := (m : Int) + (s : Int)) (by omega) hms)
          clear hB1 hB2 hR hms hY
          gi_wp2
          go_roundw
          case rel =>
            try rw [HW.out]
            refine ⟨k + 1, m + s, by simp, Lib.hid (by rw [hm.out, Nat.succ_mul]), .inr (by rw [Nat.add_sub_cancel, ← hm.out]; have := HQ.out; omega), by rw [List.range_succ]; exact hJ3, hnx.trans ?_⟩
            exact hk3
          case measure =>
            try rw [HW.out]
            simp [intOf]; have := HQ.out; omega
        · gi_wp2
          refine bodyPost_ret (results_none rfl _ _ _) rfl ?_
          exact ⟨⟨_, rfl⟩, .inr ⟨_, ⟨k + 1, (List.range_succ).symm⟩, hJx3⟩⟩
    · gi_wp2
      go_end0
      have : nCh len s = k := nCh_eq hs1 (by have := hm.out; omega) hk
      exact ⟨⟨_, rfl⟩, .inl ⟨_, by rw [this], hJs⟩⟩

set_option maxRecDepth 100000 in
set_option maxHeartbeats 1000000 in
/-- .. at a slice without bytes: no round. -/
theorem chunk1_nil_in (n : Nat) (l Bs Bz cap : Nat) (A : Option Addr) (J : List Nat → World → Prop) (W : World) (hBs : W.cell? ⟨Bs, 0, none⟩ = some (.slice A 0 cap)) (h0 : J [] W) :
    CallsIn Fence.wide n Try.prog 32 #[.func (.yield l) #[] #[], .pointer (some ⟨Bs, 0, none⟩), .pointer (some ⟨Bz, 0, none⟩)] W fun e W' => (∃ v, e = .returned v) ∧ J [] W' := by
  refine callsIn_of_wp Try.func32 rfl trivial ?_ rfl
  simp only [Try.ntmps32, List.size_toArray, List.length_cons, List.length_nil, Nat.reduceAdd, Nat.reduceSub, Array.replicate_succ, Array.replicate_zero, List.push_toArray, List.append_toArray, List.nil_append, List.cons_append]
  gi_wp2
  gi_loopw [4] (fun i wr => i = .int .i64 0 ∧ J [] wr ∧ wr.cell? ⟨Bs, 0, none⟩ = some (.slice A 0 cap)) (fun _ _ => 0)
  case atStart => exact ⟨rfl, h0, hBs⟩
  case round =>
    obtain ⟨rfl, hJs, hB⟩ := hrel
    clear hBs
    gi_wp2
    go_end0
    exact ⟨⟨_, rfl⟩, hJs⟩

set_option maxHeartbeats 1000000 in
/-- slices.Chunk itself: the two arguments are boxed. -/
theorem chunk_in (n : Nat) (A : Option Addr) (len cap s : Nat) (hs1 : 1 ≤ s) (w : World) :
    CallsIn Fence.wide n Try.prog 22 #[.slice A len cap, .int .i64 (s : Int)] w fun e w' => e = .returned (.func (.func 32) #[] #[.pointer (some ⟨w.heap.size, 0, none⟩), .pointer (some ⟨w.heap.size + 1, 0, none⟩)]) ∧ w' = (w.alloc (.cells #[.slice A len cap] 26)).alloc (.cells #[.int .i64 (s : Int)] 3) := by
  refine callsIn_of_wp Try.func22 rfl trivial ?_ rfl
  simp only [Try.ntmps22, List.size_toArray, List.length_cons, List.length_nil, Nat.reduceAdd, Nat.reduceSub, Array.replicate_succ, Array.replicate_zero, List.push_toArray, List.append_toArray, List.nil_append, List.cons_append]
  have hlt : ¬ (s : Int) < 1 := by omega
  gi_wp2
  go_ret
  exact ⟨rfl, rfl⟩

theorem grownBy_drewN (W : World) (n : Nat) : W.grownBy (W.drewN n) none := ⟨rfl, rfl, rfl, Nat.le_refl _, fun _ _ _ => rfl⟩

/-- What a loop over slices.Chunk may rest on. -/
theorem chunk_stops (n : Nat) (hn : 1 ≤ n) (Bs Bz : Nat) (A : Option Addr) (len cap s : Nat) (hs1 : 1 ≤ s) (hs2 : s ≤ 9223372036854775807) (hlen : len ≤ 70368744177664) (hcap : len ≤ cap) (b off : Nat) (hA : A = some ⟨b, off, none⟩ ∨ len = 0)
    (w : World) (hBs : w.cell? ⟨Bs, 0, none⟩ = some (.slice A len cap)) (hBz : w.cell? ⟨Bz, 0, none⟩ = some (.int .i64 (s : Int))) (hb1 : Bs < w.heap.size) (hb2 : Bz < w.heap.size) :
    SeqStopsK Fence.wide n Try.prog 32 #[.pointer (some ⟨Bs, 0, none⟩), .pointer (some ⟨Bz, 0, none⟩)] (fun x : Nat => #[chV b off len s x]) (KB Bs Bz) (fun ys => ys = List.range (nCh len s)) (fun _ => True) (nCh len s) w := fun l J Jx W hW hJ _ hY h0 => by
  have hc1 := (hW.cell (p := ⟨Bs, 0, none⟩) hb1).trans hBs
  have hc2 := (hW.cell (p := ⟨Bz, 0, none⟩) hb2).trans hBz
  rcases hA with rfl | rfl
  · refine (chunk1_in n hn l Bs Bz b off len cap s hs1 hs2 hlen hcap J Jx (fun pre x W1 a1 a2 _ => hY pre x W1 a1 a2) W hc1 hc2 (fun pre X m h => hJ pre X _ none h (grownBy_drewN X m) (fun r e => by cases e)) h0).mono ?_
    rintro e W' ⟨he, ⟨ys, rfl, hj⟩ | ⟨pre, -, hj⟩⟩
    · exact ⟨he, .inl ⟨_, rfl, hj⟩⟩
    · exact ⟨he, .inr ⟨_, trivial, hj⟩⟩
  · refine (chunk1_nil_in n l Bs Bz cap A J W hc1 h0).mono ?_
    rintro e W' ⟨he, hj⟩
    exact ⟨he, .inl ⟨_, by rw [nCh_eq (k := 0) hs1 (by omega) (.inl rfl)]; rfl, hj⟩⟩

/-- The same, each round's number below the rounds' count. -/
theorem chunk_stopsF (n : Nat) (hn : 1 ≤ n) (Bs Bz : Nat) (A : Option Addr) (len cap s : Nat) (hs1 : 1 ≤ s) (hs2 : s ≤ 9223372036854775807) (hlen : len ≤ 70368744177664) (hcap : len ≤ cap) (b off : Nat) (hA : A = some ⟨b, off, none⟩ ∨ len = 0)
    (w : World) (hBs : w.cell? ⟨Bs, 0, none⟩ = some (.slice A len cap)) (hBz : w.cell? ⟨Bz, 0, none⟩ = some (.int .i64 (s : Int))) (hb1 : Bs < w.heap.size) (hb2 : Bz < w.heap.size) :
    SeqStopsK Fence.wide n Try.prog 32 #[.pointer (some ⟨Bs, 0, none⟩), .pointer (some ⟨Bz, 0, none⟩)] (fun x : {j : Nat // j < nCh len s} => #[chV b off len s x.1]) (KB Bs Bz) (fun ys => ys.map (·.1) = List.range (nCh len s)) (fun _ => True) (nCh len s) w := fun l J Jx W hW hJ _ hY h0 => by
  have hc1 := (hW.cell (p := ⟨Bs, 0, none⟩) hb1).trans hBs
  have hc2 := (hW.cell (p := ⟨Bz, 0, none⟩) hb2).trans hBz
  rcases hA with rfl | rfl
  · refine (chunk1_in n hn l Bs Bz b off len cap s hs1 hs2 hlen hcap (fun pre X => ∃ p : List {j : Nat // j < nCh len s}, p.map (·.1) = pre ∧ J p X) (fun pre X => ∃ p : List {j : Nat // j < nCh len s}, p.map (·.1) = pre ∧ Jx p X) ?_ W hc1 hc2 (fun pre X m h => by obtain ⟨p, hp, h⟩ := h; exact ⟨p, hp, hJ p X _ none h (grownBy_drewN X m) (fun r e => by cases e)⟩) ⟨[], rfl, h0⟩).mono ?_
    · rintro pre x W1 ⟨p, hp, hj⟩ hl he
      have hx : x < nCh len s := by rw [he, List.length_range] at hl; exact hl
      obtain ⟨fn, tmps, assign, body, hy, hR⟩ := hY p ⟨x, hx⟩ W1 hj (by rw [← hp, List.length_map] at hl; exact hl)
      refine ⟨fn, tmps, assign, body, hy, hR.mono ?_⟩
      rintro e W' (⟨h1, h2, h3⟩ | ⟨h1, h2⟩)
      · exact .inl ⟨h1, ⟨_, by rw [List.map_append, hp]; rfl, h2⟩, h3⟩
      · exact .inr ⟨h1, ⟨_, by rw [List.map_append, hp]; rfl, h2⟩⟩
    · rintro e W' ⟨he, ⟨ys, rfl, p, hp, hj⟩ | ⟨pre, -, p, hp, hj⟩⟩
      · exact ⟨he, .inl ⟨p, hp, hj⟩⟩
      · exact ⟨he, .inr ⟨p, trivial, hj⟩⟩
  · refine (chunk1_nil_in n l Bs Bz cap A (fun pre X => ∃ p : List {j : Nat // j < nCh 0 s}, p.map (·.1) = pre ∧ J p X) W hc1 ⟨[], rfl, h0⟩).mono ?_
    rintro e W' ⟨he, p, hp, hj⟩
    exact ⟨he, .inl ⟨p, by show p.map (·.1) = _; rw [hp, nCh_eq (k := 0) hs1 (by omega) (.inl rfl)]; rfl, hj⟩⟩
end Go.Proofs.Ythamhaomfdgdjaa
