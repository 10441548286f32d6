/- octets.Same. -/
import Derived.Test.YthgfkmjdibhifaaDoorXor
namespace Go.Proofs.YthgfkmjdibhifaaDoor
open Go.RowKit

theorem or_xor_zero (d x y : UInt8) : (d ||| (x ^^^ y)) = 0 ↔ d = 0 ∧ x = y := by
  rw [UInt8.or_eq_zero_iff, UInt8.xor_eq_zero_iff]

theorem take_eq_succ {a b : List UInt8} {k : Nat} (h1 : k < a.length) (h2 : k < b.length) : a.take (k + 1) = b.take (k + 1) ↔ a.take k = b.take k ∧ a[k] = b[k] := by
  rw [List.take_succ_eq_append_getElem h1, List.take_succ_eq_append_getElem h2]
  constructor
  · intro h
    have := List.append_inj h (by rw [List.length_take, List.length_take]; omega)
    exact ⟨this.1, by simpa using this.2⟩
  · rintro ⟨h3, h4⟩; rw [h3, h4]

theorem orxor (d x y : UInt8) : Value.int .u8 (bits .or .u8 (d.toNat : Int) (bits .xor .u8 (x.toNat : Int) (y.toNat : Int))) = .int .u8 ((d ||| (x ^^^ y)).toNat : Int) := by
  rw [xor8, or8]

theorem orx0 (d x : UInt8) : Value.int .u8 (bits .or .u8 (d.toNat : Int) (bits .xor .u8 (x.toNat : Int) 0)) = .int .u8 ((d ||| (x ^^^ 0)).toNat : Int) := by
  have := orxor d x 0
  rwa [show (((0 : UInt8).toNat : Nat) : Int) = 0 from rfl] at this
theorem or0x (d x : UInt8) : Value.int .u8 (bits .or .u8 (d.toNat : Int) (bits .xor .u8 0 (x.toNat : Int))) = .int .u8 ((d ||| (0 ^^^ x)).toNat : Int) := by
  have := orxor d 0 x
  rwa [show (((0 : UInt8).toNat : Nat) : Int) = 0 from rfl] at this

set_option maxHeartbeats 1600000 in
theorem same_any (A B : Option Addr) (n m c c' : Nat) (a b : List UInt8) (w : World) (hn : a.length = n) (hm : b.length = m) (h : RdB w A a) (h' : RdB w B b) (hb : n ≤ 70368744177664) (hb' : m ≤ 70368744177664) :
    Calls Tryd.prog 20 #[.slice A n c, .slice B m c'] w fun e w' => e = .returned (.bool (a == b)) ∧ w = w' := by
  have HN := Lib.hid hn
  have HM := Lib.hid hm
  have H := Lib.hid h
  have H' := Lib.hid h'
  clear hn hm h h'
  generalize hr : (a == b) = r
  have HR := Lib.hid hr
  clear hr
  go_enter Tryd.func20, Tryd.ntmps20
  go_upto_if 13 with (fail)
  go_cut [5] (fun d wx => ∃ D : UInt8, d = .int .u8 (D.toNat : Int) ∧ Hid (D = 0 ↔ n = m) ∧ w = wx)
  case first =>
    by_cases hnm : n = m
    · subst hnm
      go_wp2
      go_meet
      case rel => exact ⟨0, rfl, Lib.hid ⟨fun _ => by trivial, fun _ => rfl⟩, rfl⟩
    · have hi : ((n : Int) == (m : Int)) = false := by rw [beq_eq_false_iff_ne]; omega
      have hi2 : ¬ (n : Int) = (m : Int) := by omega
      go_wp2
      go_meet
      case rel => exact ⟨1, rfl, Lib.hid ⟨fun h => absurd h (by decide), fun h => absurd h hnm⟩, rfl⟩
  case rest =>
    obtain ⟨D0, rfl, hD, rfl⟩ := hcut
    rcases Nat.lt_trichotomy m n with hnm2 | hnm2 | hnm2
    · have hq1 : max (n : Int) (m : Int) = (n : Int) := by omega
      have hq2 : n ≤ n := Nat.le_refl n
      have hq3 : m ≤ n := by omega
      go_wp2
      go_loopw [19, 5] (fun i d wr => ∃ (k : Nat) (D : UInt8), i = .int .i64 (k : Int) ∧ d = .int .u8 (D.toNat : Int) ∧ k ≤ n ∧ w = wr ∧ Hid ((n ≠ m → D ≠ 0) ∧ (n = m → (D = 0 ↔ a.take k = b.take k)))) (fun i _ _ => n - (intOf i).toNat)
      case atStart => exact ⟨0, D0, rfl, rfl, Nat.zero_le _, rfl, Lib.hid ⟨fun h h2 => h (hD.out.1 h2), fun h => ⟨fun _ => by simp, fun _ => hD.out.2 h⟩⟩⟩
      case round =>
        obtain ⟨k, D, rfl, rfl, hk, rfl, HD⟩ := hrel
        clear hD D0
        by_cases hlt : k < n
        · by_cases hk1 : k < n
          · obtain ⟨b0, o0, rfl, hc1, -⟩ := H.out.at (k := k) (by rw [HN.out]; exact hk1)
            generalize hxa : a[k]'(by rw [HN.out]; exact hk1) = X at *
            have XA := Lib.hid hxa
            clear hxa
            by_cases hk2 : k < m
            · obtain ⟨b1, o1, rfl, hc2, -⟩ := H'.out.at (k := k) (by rw [HM.out]; exact hk2)
              generalize hyb : b[k]'(by rw [HM.out]; exact hk2) = Y at *
              have YB := Lib.hid hyb
              clear hyb
              go_wp2
              go_roundw
              case rel =>
                refine ⟨k + 1, D ||| (X ^^^ Y), by simp, orxor _ _ _, by omega, trivial, Lib.hid ⟨fun hne h0 => HD.out.1 hne ((or_xor_zero _ _ _).1 h0).1, fun heq => ?_⟩⟩
                rw [or_xor_zero, take_eq_succ (by rw [HN.out]; exact hk1) (by rw [HM.out]; exact hk2), HD.out.2 heq, XA.out, YB.out]
              case measure => simp [intOf]; omega
            · go_wp2
              go_roundw
              case rel =>
                refine ⟨k + 1, D ||| (X ^^^ 0), by simp, orx0 _ _, by omega, trivial, Lib.hid ⟨fun hne h0 => HD.out.1 hne ((or_xor_zero _ _ _).1 h0).1, fun heq => ?_⟩⟩
                omega
              case measure => simp [intOf]; omega
          · exact absurd hlt hk1
        · obtain rfl : n = k := by omega
          cases r with
          | true =>
            have e : a = b := by have := HR.out; simpa using this
            have : D = 0 := by
              subst e
              exact (HD.out.2 (by rw [← HN.out, ← HM.out])).2 rfl
            subst this
            go_wp2
            go_ret
            exact ⟨rfl, rfl⟩
          | false =>
            have e : a ≠ b := by have := HR.out; simpa using this
            have h0 : D ≠ 0 := by
              by_cases hnm : n = m
              · intro h0
                have h1 := (HD.out.2 hnm).1 h0
                rw [List.take_of_length_le (by rw [HN.out]; omega), List.take_of_length_le (by rw [HM.out]; omega)] at h1
                exact e h1
              · exact HD.out.1 hnm
            have hz : (D.toNat : Int) ≠ 0 := by
              intro h; apply h0; rw [← UInt8.toNat_inj]; simpa using h
            have hz2 : ((D.toNat : Int) == 0) = false := beq_eq_false_iff_ne.2 hz
            clear e h0
            go_wp2
            go_ret
            exact ⟨rfl, rfl⟩
    · subst hnm2
      have hq1 : max (m : Int) (m : Int) = (m : Int) := by omega
      have hq2 : m ≤ m := Nat.le_refl m
      have hq3 : m ≤ m := Nat.le_refl m
      go_wp2
      go_loopw [19, 5] (fun i d wr => ∃ (k : Nat) (D : UInt8), i = .int .i64 (k : Int) ∧ d = .int .u8 (D.toNat : Int) ∧ k ≤ m ∧ w = wr ∧ Hid ((m ≠ m → D ≠ 0) ∧ (m = m → (D = 0 ↔ a.take k = b.take k)))) (fun i _ _ => m - (intOf i).toNat)
      case atStart => exact ⟨0, D0, rfl, rfl, Nat.zero_le _, rfl, Lib.hid ⟨fun h => absurd rfl h, fun h => ⟨fun _ => by simp, fun _ => hD.out.2 (by first | rfl | trivial)⟩⟩⟩
      case round =>
        obtain ⟨k, D, rfl, rfl, hk, rfl, HD⟩ := hrel
        clear hD D0
        by_cases hlt : k < m
        · by_cases hk1 : k < m
          · obtain ⟨b0, o0, rfl, hc1, -⟩ := H.out.at (k := k) (by rw [HN.out]; exact hk1)
            generalize hxa : a[k]'(by rw [HN.out]; exact hk1) = X at *
            have XA := Lib.hid hxa
            clear hxa
            by_cases hk2 : k < m
            · obtain ⟨b1, o1, rfl, hc2, -⟩ := H'.out.at (k := k) (by rw [HM.out]; exact hk2)
              generalize hyb : b[k]'(by rw [HM.out]; exact hk2) = Y at *
              have YB := Lib.hid hyb
              clear hyb
              go_wp2
              go_roundw
              case rel =>
                refine ⟨k + 1, D ||| (X ^^^ Y), by simp, orxor _ _ _, by omega, trivial, Lib.hid ⟨fun hne h0 => HD.out.1 hne ((or_xor_zero _ _ _).1 h0).1, fun heq => ?_⟩⟩
                rw [or_xor_zero, take_eq_succ (by rw [HN.out]; exact hk1) (by rw [HM.out]; exact hk2), HD.out.2 (by first | rfl | trivial), XA.out, YB.out]
              case measure => simp [intOf]; omega
            · exact absurd hlt (by omega)
          · exact absurd hlt hk1
        · obtain rfl : m = k := by omega
          cases r with
          | true =>
            have e : a = b := by have := HR.out; simpa using this
            have : D = 0 := by
              subst e
              exact (HD.out.2 (by first | rfl | trivial)).2 rfl
            subst this
            go_wp2
            go_ret
            exact ⟨rfl, rfl⟩
          | false =>
            have e : a ≠ b := by have := HR.out; simpa using this
            have h0 : D ≠ 0 := by
              by_cases hnm : m = m
              · intro h0
                have h1 := (HD.out.2 hnm).1 h0
                rw [List.take_of_length_le (by rw [HN.out]; omega), List.take_of_length_le (by rw [HM.out]; omega)] at h1
                exact e h1
              · exact HD.out.1 hnm
            have hz : (D.toNat : Int) ≠ 0 := by
              intro h; apply h0; rw [← UInt8.toNat_inj]; simpa using h
            have hz2 : ((D.toNat : Int) == 0) = false := beq_eq_false_iff_ne.2 hz
            clear e h0
            go_wp2
            go_ret
            exact ⟨rfl, rfl⟩
    · have hq1 : max (n : Int) (m : Int) = (m : Int) := by omega
      have hq2 : n ≤ m := by omega
      have hq3 : m ≤ m := Nat.le_refl m
      go_wp2
      go_loopw [19, 5] (fun i d wr => ∃ (k : Nat) (D : UInt8), i = .int .i64 (k : Int) ∧ d = .int .u8 (D.toNat : Int) ∧ k ≤ m ∧ w = wr ∧ Hid ((n ≠ m → D ≠ 0) ∧ (n = m → (D = 0 ↔ a.take k = b.take k)))) (fun i _ _ => m - (intOf i).toNat)
      case atStart => exact ⟨0, D0, rfl, rfl, Nat.zero_le _, rfl, Lib.hid ⟨fun h h2 => h (hD.out.1 h2), fun h => ⟨fun _ => by simp, fun _ => hD.out.2 h⟩⟩⟩
      case round =>
        obtain ⟨k, D, rfl, rfl, hk, rfl, HD⟩ := hrel
        clear hD D0
        by_cases hlt : k < m
        · by_cases hk1 : k < n
          · obtain ⟨b0, o0, rfl, hc1, -⟩ := H.out.at (k := k) (by rw [HN.out]; exact hk1)
            generalize hxa : a[k]'(by rw [HN.out]; exact hk1) = X at *
            have XA := Lib.hid hxa
            clear hxa
            by_cases hk2 : k < m
            · obtain ⟨b1, o1, rfl, hc2, -⟩ := H'.out.at (k := k) (by rw [HM.out]; exact hk2)
              generalize hyb : b[k]'(by rw [HM.out]; exact hk2) = Y at *
              have YB := Lib.hid hyb
              clear hyb
              go_wp2
              go_roundw
              case rel =>
                refine ⟨k + 1, D ||| (X ^^^ Y), by simp, orxor _ _ _, by omega, trivial, Lib.hid ⟨fun hne h0 => HD.out.1 hne ((or_xor_zero _ _ _).1 h0).1, fun heq => ?_⟩⟩
                rw [or_xor_zero, take_eq_succ (by rw [HN.out]; exact hk1) (by rw [HM.out]; exact hk2), HD.out.2 heq, XA.out, YB.out]
              case measure => simp [intOf]; omega
            · exact absurd hlt (by omega)
          · have hk2 : k < m := by omega
            obtain ⟨b1, o1, rfl, hc2, -⟩ := H'.out.at (k := k) (by rw [HM.out]; exact hk2)
            generalize hyb : b[k]'(by rw [HM.out]; exact hk2) = Y at *
            clear hyb
            go_wp2
            go_roundw
            case rel =>
                refine ⟨k + 1, D ||| (0 ^^^ Y), by simp, or0x _ _, by omega, trivial, Lib.hid ⟨fun hne h0 => HD.out.1 hne ((or_xor_zero _ _ _).1 h0).1, fun heq => ?_⟩⟩
                omega
            case measure => simp [intOf]; omega
        · obtain rfl : m = k := by omega
          cases r with
          | true =>
            have e : a = b := by have := HR.out; simpa using this
            have : D = 0 := by
              subst e
              exact (HD.out.2 (by rw [← HN.out, ← HM.out])).2 rfl
            subst this
            go_wp2
            go_ret
            exact ⟨rfl, rfl⟩
          | false =>
            have e : a ≠ b := by have := HR.out; simpa using this
            have h0 : D ≠ 0 := by
              by_cases hnm : n = m
              · intro h0
                have h1 := (HD.out.2 hnm).1 h0
                rw [List.take_of_length_le (by rw [HN.out]; omega), List.take_of_length_le (by rw [HM.out]; omega)] at h1
                exact e h1
              · exact HD.out.1 hnm
            have hz : (D.toNat : Int) ≠ 0 := by
              intro h; apply h0; rw [← UInt8.toNat_inj]; simpa using h
            have hz2 : ((D.toNat : Int) == 0) = false := beq_eq_false_iff_ne.2 hz
            clear e h0
            go_wp2
            go_ret
            exact ⟨rfl, rfl⟩
end Go.Proofs.YthgfkmjdibhifaaDoor
