/- slices.Grow and slices.Concat at bytes. -/
import Derived.Test.YthmdnpaebdlefaaBB
import Derived.Test.YthmdnpaebdlefaaSet
namespace Go.Proofs.Ythmdnpaebdlefaa
open Go.RowKit

/-- append(nil, make([]byte, m)...). -/
theorem run_app_make (w : World) (ty : TypeId) (m : Nat) (hm0 : 0 < m) (hm : m ≤ 70368744177664) :
    ∃ c w1, (Builtin.append_ #[29, 3] ty #[.slice none 0 0, .int .i64 (m : Int)]).run Try.prog w = .ok (.slice (some ⟨w.heap.size, 0, none⟩) m c) w1 ∧ m ≤ c ∧ c ≤ maxLen ∧
      w1.ownsRow w.heap.size 5 1 (.slice (some ⟨w.heap.size, 0, none⟩) 0 c) 0 [] ∧ w.grownBy w1 none := by
  obtain ⟨i, hi, hz, h1, h2⟩ := info_parts TB.hi
  have ht := Try.underlying29
  have hti := Try.underlying3
  have hw : IntKind.i64.wrap (m : Int) = m := by rw [IntKind.wrap_i64]; omega
  have hneg : ¬ ((m : Int) < 0) := by omega
  have hbig : ¬ (281474976710656 < (m : Int)) := by omega
  have hn : ¬ (m ≤ 0) := by omega
  have h63 : ¬ (9223372036854775807 < (m : Int)) := by omega
  have hfit := growslice_fits (old := 0) (show 0 < m by omega) (show m * 1 ≤ 140737488355328 by omega)
  have h48 : ¬ (281474976710656 < Builtin.nextslicecap m 0) := by omega
  have hge := grownCap_ge w m 0 5
  have hcm : grownCap w m 0 5 ≤ maxLen := grownCap_le_maxLen w m 0 5 (by unfold maxLen; omega)
  have hmz : ¬ m = 0 := by omega
  refine ⟨grownCap w m 0 5, w.drew.alloc (.cells (Builtin.zeroCells #[.int .u8 0] m ++ Builtin.zeroCells #[.int .u8 0] (grownCap w m 0 5 - m)) 5), ?_, hge, hcm, ⟨rfl, .inr ⟨w.heap.size, _, _, rfl, Nat.le_refl _, heap_alloc_new w.drew _, Nat.zero_le _, hcm, ?_, rfl⟩⟩, ⟨rfl, rfl, rfl, by simp, fun k hk _ => Below.heap_alloc w.drew _ k hk⟩⟩
  · have hz' : (Value.int IntKind.u8 0).cells = #[.int .u8 0] := rfl
    have hfo : (Builtin.firstCells 1 0 (.slice none 0 0)).run Try.prog w.drew = .ok #[] w.drew := run_firstCells_none w.drew 1 0 0 0
    simp [Builtin.append_, run_underlying ht, run_underlying hti, sizeOf, typeInfo, zeroValue, hi, hz, h1, h2, asInt, asIntOf, hw, hneg, hbig, hn, h63, h48, Question.forced, hfo, newRow, grownCap, hmz, hz']
  · simp only [Array.size_append, size_zeroCells]
    simp; omega

theorem wpList_appMake {w : World} {ops : Array Oper} {rest : List Oper} {o : Oper} {a : Act} {Q : Exit → Act → World → Prop} {s x : Operand} (m : Nat) (hm0 : 0 < m) (hm : m ≤ 70368744177664) (hgd : o.guard = none)
    (ho : o.op = .call { callee := .builtin .append, args := #[s, x], argTypes := #[29, 3] }) (hsv : a.eval s = .slice none 0 0) (hxv : a.eval x = .int .i64 (m : Int))
    (hk : ∀ c w', m ≤ c → w'.ownsRow w.heap.size 5 1 (.slice (some ⟨w.heap.size, 0, none⟩) 0 c) 0 [] → w.grownBy w' none → wpList Try.prog ops Q rest (a.put o.dst (.slice (some ⟨w.heap.size, 0, none⟩) m c)) w') : wpList Try.prog ops Q (o :: rest) a w := by
  obtain ⟨c, w', hr, h1, _, h2, h3⟩ := run_app_make w o.type m hm0 hm
  refine wpList_plain hgd fun _ hK => ?_
  unfold Oper.wp execOp
  simp only [ho, resolve, invoke, builtin, Sem.run_bind, Sem.run_pure, Result.andThen_ok, List.map_toArray, List.map_cons, List.map_nil, hsv, hxv, hr]
  exact hK _ _ (hk c w' h1 h2 h3)

set_option maxHeartbeats 400000 in
theorem grow_any (m : Nat) (w : World) (hm : m ≤ 70368744177664) :
    Calls Try.prog 29 #[.slice none 0 0, .int .i64 (m : Int)] w fun e w' => ∃ v, e = .returned v ∧ w'.ownsRow w.heap.size 5 1 v 0 [] ∧ Below w.heap.size w w' := by
  by_cases hm0 : 0 < m
  · have hz : ¬ (m : Int) < 0 := by omega
    go_enter Try.func29, Try.ntmps29
    go_wp2_with (at_builtin; refine wpList_appMake m hm0 hm rfl rfl rfl rfl (fun c w1 hc hown hg => ?_))
    go_ret
    exact ⟨_, rfl, hown, (Below.refl _ w).grown hg (Nat.le_refl _) (fun k e => by cases e)⟩
  · obtain rfl : m = 0 := by omega
    go_enter Try.func29, Try.ntmps29
    go_wp2
    go_ret
    exact ⟨_, rfl, World.ownsRow_nil _ _ _ _, Below.refl _ _⟩

theorem flat_le (xss : List (List UInt8)) (k : Nat) : (xss.take k).flatten.length ≤ xss.flatten.length := by
  conv => rhs; rw [← List.take_append_drop k xss, List.flatten_append, List.length_append]
  omega

set_option maxHeartbeats 800000 in
theorem concat_any (A : Option Addr) (n c : Nat) (vs : List Value) (xss : List (List UInt8)) (w : World) (hn : xss.length = n) (h : RdBB w A vs xss) (hb : xss.flatten.length ≤ 70368744177664) (hn2 : n ≤ 70368744177664) :
    Calls Try.prog 19 #[.slice A n c] w (GivesB xss.flatten w) := by
  have HN := Lib.hid hn; clear hn
  have H := Lib.hid h; clear h
  go_enter Try.func19, Try.ntmps19
  go_wp2
  go_loopw [3, 11] (fun v i wr => ∃ (k l : Nat), i = .int .i64 (k : Int) ∧ v = .int .i64 (l : Int) ∧ k ≤ n ∧ Hid ((xss.take k).flatten.length = l) ∧ w = wr) (fun _ i _ => n - (intOf i).toNat)
  case atStart => exact ⟨0, 0, rfl, rfl, Nat.zero_le _, Lib.hid (by simp), rfl⟩
  case round =>
    obtain ⟨k, l, rfl, rfl, hk, HL, rfl⟩ := hrel
    have hlb : l ≤ 70368744177664 := by have h1 := flat_le xss k; have h2 := HL.out; omega
    by_cases hlt : k < n
    · obtain ⟨b, o, Ai, ci, rfl, hc, hr⟩ := H.out.at (i := k) (by rw [HN.out]; exact hlt)
      have hfl : (xss.take (k + 1)).flatten = (xss.take k).flatten ++ xss[k]'(by rw [HN.out]; exact hlt) := by
        rw [List.take_succ_eq_append_getElem (by rw [HN.out]; exact hlt), List.flatten_append]; simp
      have hle := flat_le xss (k + 1)
      generalize hx : xss[k]'(by rw [HN.out]; exact hlt) = x at *
      clear hx
      rw [hfl, List.length_append, HL.out] at hle
      have HFL := Lib.hid hfl
      clear hfl
      have hsum : l + x.length ≤ 70368744177664 := by omega
      have hneg : ¬ (l : Int) + (x.length : Int) < 0 := by omega
      go_wp2
      go_roundw
      case rel => exact ⟨k + 1, l + x.length, by simp, by simp, by omega, Lib.hid (by rw [HFL.out, List.length_append, HL.out]), trivial⟩
      case measure => simp [intOf]; omega
    · obtain rfl : k = n := by omega
      rw [List.take_of_length_le (by rw [HN.out]; omega)] at HL
      go_wp2_with (go_at_call 29; refine (grow_any l _ hlb).mono ?_; rintro e w1 ⟨v, rfl, hown, hbel⟩; obtain ⟨A1, c1, rfl, -⟩ := own_rd hown)
      have HO := Lib.hid hown
      clear hown
      go_loopw [6, 27] (fun v i wr => ∃ (j l' : Nat) (A1 : Option Addr) (c1 : Nat), i = .int .i64 (j : Int) ∧ v = .slice A1 l' c1 ∧ j ≤ k ∧ Hid ((xss.take j).flatten.length = l') ∧ wr.ownsRow w.heap.size 5 1 (.slice A1 l' c1) l' ((xss.take j).flatten.map bV) ∧ Below w.heap.size w wr) (fun _ i _ => k - (intOf i).toNat)
      case atStart => exact ⟨0, 0, A1, c1, rfl, rfl, Nat.zero_le _, Lib.hid (by simp), by simpa using HO.out, hbel⟩
      case round =>
        clear HO hbel
        obtain ⟨j, l', A2, c2, rfl, rfl, hj, HL2, hown, hbel⟩ := hrel
        by_cases hlt2 : j < k
        · obtain ⟨b, o, Ai, ci, rfl, hc, hr⟩ := (H.out.keep hbel).at (i := j) (by rw [HN.out]; exact hlt2)
          have hfl : (xss.take (j + 1)).flatten = (xss.take j).flatten ++ xss[j]'(by rw [HN.out]; exact hlt2) := by
            rw [List.take_succ_eq_append_getElem (by rw [HN.out]; exact hlt2), List.flatten_append]; simp
          have hle := flat_le xss (j + 1)
          generalize hx : xss[j]'(by rw [HN.out]; exact hlt2) = x at *
          clear hx
          rw [hfl, List.length_append, HL2.out] at hle
          have HFL := Lib.hid hfl
          clear hfl
          have hsrc := Lib.hid (RdB.src (P := Try.prog) (c := ci) Try.underlying29 hr rfl)
          go_wp2_with (at_builtin; go_loud (refine wpList_app' TB w.heap.size hown _ hsrc.out rfl rfl rfl rfl (by unfold maxLen; omega) (by omega) (by have := hbel.size; omega) hbel (fun A2 c2 w1 hown1 hg hbel1 => ?_)))
          go_roundw
          case rel =>
            refine ⟨j + 1, l' + x.length, A2, c2, by simp, rfl, by omega, Lib.hid (by rw [HFL.out, List.length_append, HL2.out]), ?_, hbel1⟩
            rw [HFL.out, List.map_append]; exact hown1
          case measure => simp [intOf]; omega
        · obtain rfl : j = k := by omega
          rw [List.take_of_length_le (by rw [HN.out]; omega)] at hown HL2
          have HO := Lib.hid hown
          clear hown
          go_wp2
          go_ret
          exact ⟨_, rfl, by rw [HL2.out]; exact HO.out, hbel⟩
end Go.Proofs.Ythmdnpaebdlefaa
