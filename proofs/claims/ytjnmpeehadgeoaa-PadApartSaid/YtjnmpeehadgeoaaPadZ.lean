/- The walk of PadSizes. -/
import Derived.Test.YtjnmpeehadgeoaaPadN
import Derived.Deep.RegionWith
namespace Go.Proofs.Ytjnmpeehadgeoaa
open Go.RowKit

theorem pad_size {l : List UInt8} {u : Int} (hn : nameL l = true) (hu : u = 16 ∨ u = 32) :
    ((padF l u).length : Int) = sizeF l.length u ∧ okF l u = true ∧ (padF l u).length ≤ 400 ∧ l.length ≤ (padF l u).length ∧ ((padF l u).length : Int) < l.length + u ∧ ((padF l u).length : Int) = (l.length + u - 1) / u * u := by
  have ho : okF l u = true := by unfold okF; rw [hn]; rcases hu with rfl | rfl <;> rfl
  have hs := ok_size ho
  have hl := nameL_len hn
  have e : padF l u = fillF l (sizeF l.length u) := by unfold padF; rw [ho]; rfl
  have e2 : (padF l u).length = (sizeF l.length u).toNat := by rw [e, fillF_length]; omega
  have e3 : sizeF l.length u = (l.length + u - 1) / u * u := by unfold sizeF; rw [if_neg (by omega)]
  refine ⟨by rw [e2]; omega, ho, by rw [e2]; omega, by rw [e2]; omega, ?_, by rw [e2]; omega⟩
  rw [e2]
  rcases hu with rfl | rfl <;> omega

set_option maxHeartbeats 1600000 in
theorem padSizes_walk (s t : ByteArray) (wide : Bool) (w : World) (hs : s.size ≤ maxLen) (ht : t.size ≤ maxLen) :
    Calls Try.prog 5 #[.string s, .string t, .bool wide] w fun e w' => e = .returned (.bool true) ∧ Below w.heap.size w w' := by
  obtain ⟨a, rfl⟩ : ∃ l, s = str l := ⟨_, (str_of s).symm⟩
  obtain ⟨b, rfl⟩ : ∃ l, t = str l := ⟨_, (str_of t).symm⟩
  have hsz := str_size a
  have hsz2 := str_size b
  unfold maxLen at hs ht
  rw [hsz] at hs
  rw [hsz2] at ht
  have hb := Below.refl w.heap.size w
  cases hna : nameL a with
  | false =>
    rw [← refName_eq] at hna
    go_enter Try.func5, Try.ntmps5
    go_wp2_with (first | (go_at_call 7; refine (awake_acc w _ hb).mono ?_; clear hb; rintro e w1 ⟨rfl, hb⟩) | (go_at_call 11; refine (refName_any _ _ (by omega)).mono ?_; rintro e w' ⟨rfl, rfl⟩))
    go_ret
    exact ⟨rfl, hb⟩
  | true =>
    cases hnb : nameL b with
    | false =>
      rw [← refName_eq] at hna hnb
      go_enter Try.func5, Try.ntmps5
      go_wp2_with (first | (go_at_call 7; refine (awake_acc w _ hb).mono ?_; clear hb; rintro e w1 ⟨rfl, hb⟩) | (go_at_call 11; refine (refName_any _ _ (by omega)).mono ?_; rintro e w' ⟨rfl, rfl⟩))
      go_ret
      exact ⟨rfl, hb⟩
    | true =>
      cases wide with
      | false =>
        obtain ⟨p1, p2, p3, p4, p5, p6⟩ := pad_size (u := 16) hna (by decide)
        obtain ⟨q1, q2, q3, q4, q5, q6⟩ := pad_size (u := 16) hnb (by decide)
        have hab : b.length < a.length ∨ (padF a 16).length ≤ (padF b 16).length := by omega
        have t1 : (((padF a 16).length : Int) == sizeF a.length 16) = true := beq_iff_eq.2 p1
        have hla := (nameL_len hna).2
        have hlb := (nameL_len hnb).2
        have P := Lib.hid (rfl : (padF a 16).length = (padF a 16).length)
        have Q := Lib.hid (rfl : (padF b 16).length = (padF b 16).length)
        have C1 : Hid (codeF a 16 = 0) := by unfold Hid codeF; rw [p2]; rfl
        have C2 : Hid (codeF b 16 = 0) := by unfold Hid codeF; rw [q2]; rfl
        rw [← refName_eq] at hna hnb
        clear p1 p2 p6 q1 q2 q6
        have key : ∀ hcase : b.length < a.length ∨ (padF a 16).length ≤ (padF b 16).length ∧ ¬ b.length < a.length,
            Calls Try.prog 5 #[.string (str a), .string (str b), .bool false] w fun e w' => e = .returned (.bool true) ∧ Below w.heap.size w w' := by
          clear hab
          generalize hx : (padF a 16).length = x at *
          generalize hy : (padF b 16).length = y at *
          have HX := Lib.hid hx
          have HY := Lib.hid hy
          clear hx hy
          rintro (hc | ⟨hc, hd⟩)
          all_goals
            go_enter Try.func5, Try.ntmps5
            go_wp2_with (first | (go_at_call 7; refine (awake_acc w _ hb).mono ?_; clear hb; rintro e w1 ⟨rfl, hb⟩) | (go_at_call 11; refine (refName_any _ _ (by omega)).mono ?_; rintro e w' ⟨rfl, rfl⟩) | (go_at_call_of 8 (Value.string (str a)); refine (padFill_any (str a) 16 _ (by omega)).mono ?_; rintro e w1 ⟨v, rfl, hown, hbel⟩; rw [str_data, HX.out] at hown; simp only [str_data]; rw [C1.out]; obtain ⟨A1, n1, rfl, _⟩ := own_rd hown; replace hb := hb.trans (hbel.mono hb.size); clear hown hbel) | (go_at_call_of 8 (Value.string (str b)); refine (padFill_any (str b) 16 _ (by omega)).mono ?_; rintro e w1 ⟨v, rfl, hown, hbel⟩; rw [str_data, HY.out] at hown; simp only [str_data]; rw [C2.out]; obtain ⟨A1, n1, rfl, _⟩ := own_rd hown; replace hb := hb.trans (hbel.mono hb.size); clear hown hbel) | (go_at_call 12; refine (size_any _ _ _).mono ?_; rintro e w' ⟨rfl, rfl⟩))
            go_ret
            exact ⟨ret_bool (decide_eq_true (by omega)), hb⟩
        exact key (by omega)
      | true =>
        obtain ⟨p1, p2, p3, p4, p5, p6⟩ := pad_size (u := 32) hna (by decide)
        obtain ⟨q1, q2, q3, q4, q5, q6⟩ := pad_size (u := 32) hnb (by decide)
        have hab : b.length < a.length ∨ (padF a 32).length ≤ (padF b 32).length := by omega
        have t1 : (((padF a 32).length : Int) == sizeF a.length 32) = true := beq_iff_eq.2 p1
        have hla := (nameL_len hna).2
        have hlb := (nameL_len hnb).2
        have P := Lib.hid (rfl : (padF a 32).length = (padF a 32).length)
        have Q := Lib.hid (rfl : (padF b 32).length = (padF b 32).length)
        have C1 : Hid (codeF a 32 = 0) := by unfold Hid codeF; rw [p2]; rfl
        have C2 : Hid (codeF b 32 = 0) := by unfold Hid codeF; rw [q2]; rfl
        rw [← refName_eq] at hna hnb
        clear p1 p2 p6 q1 q2 q6
        have key : ∀ hcase : b.length < a.length ∨ (padF a 32).length ≤ (padF b 32).length ∧ ¬ b.length < a.length,
            Calls Try.prog 5 #[.string (str a), .string (str b), .bool true] w fun e w' => e = .returned (.bool true) ∧ Below w.heap.size w w' := by
          clear hab
          generalize hx : (padF a 32).length = x at *
          generalize hy : (padF b 32).length = y at *
          have HX := Lib.hid hx
          have HY := Lib.hid hy
          clear hx hy
          rintro (hc | ⟨hc, hd⟩)
          all_goals
            go_enter Try.func5, Try.ntmps5
            go_wp2_with (first | (go_at_call 7; refine (awake_acc w _ hb).mono ?_; clear hb; rintro e w1 ⟨rfl, hb⟩) | (go_at_call 11; refine (refName_any _ _ (by omega)).mono ?_; rintro e w' ⟨rfl, rfl⟩) | (go_at_call_of 8 (Value.string (str a)); refine (padFill_any (str a) 32 _ (by omega)).mono ?_; rintro e w1 ⟨v, rfl, hown, hbel⟩; rw [str_data, HX.out] at hown; simp only [str_data]; rw [C1.out]; obtain ⟨A1, n1, rfl, _⟩ := own_rd hown; replace hb := hb.trans (hbel.mono hb.size); clear hown hbel) | (go_at_call_of 8 (Value.string (str b)); refine (padFill_any (str b) 32 _ (by omega)).mono ?_; rintro e w1 ⟨v, rfl, hown, hbel⟩; rw [str_data, HY.out] at hown; simp only [str_data]; rw [C2.out]; obtain ⟨A1, n1, rfl, _⟩ := own_rd hown; replace hb := hb.trans (hbel.mono hb.size); clear hown hbel) | (go_at_call 12; refine (size_any _ _ _).mono ?_; rintro e w' ⟨rfl, rfl⟩))
            go_ret
            exact ⟨ret_bool (decide_eq_true (by omega)), hb⟩
        exact key (by omega)
end Go.Proofs.Ytjnmpeehadgeoaa
