/- The walk of PadApart. -/
import Derived.Test.YtjnmpeehadgeoaaPadZ
namespace Go.Proofs.Ytjnmpeehadgeoaa
open Go.RowKit

theorem RdB.take {w : World} {A : Option Addr} {xs : List UInt8} (h : RdB w A xs) (k : Nat) : RdB w A (xs.take k) := by
  rcases h with h | ⟨b, o, rfl, h⟩
  · have : xs = [] := by simpa using h
    subst this; simp only [List.take_nil]; exact Rd.nil _ _
  · refine Rd.mk fun i hi => ?_
    have hi' : i < k ∧ i < xs.length := by have : i < min k xs.length := (by simpa using hi); omega
    rw [h i (by simpa using hi'.2), List.getElem?_map, List.getElem?_map, List.getElem?_take, if_pos hi'.1]

theorem Rd.drewN {w : World} {A : Option Addr} {xs : List Value} (h : Rd w A xs) (n : Nat) : Rd (w.drewN n) A xs := h
theorem RdB.drewN {w : World} {A : Option Addr} {xs : List UInt8} (h : RdB w A xs) (n : Nat) : RdB (w.drewN n) A xs := h

theorem pad_inj {a b : List UInt8} (ha : nameL a = true) (hb : nameL b = true) : (padF a 16 == padF b 16) = (a == b) := by
  obtain ⟨_, p2, _⟩ := pad_size (u := 16) ha (.inl rfl)
  obtain ⟨_, q2, _⟩ := pad_size (u := 16) hb (.inl rfl)
  have h1 := (strip_pad a 16 (.inl rfl) p2).1
  have h2 := (strip_pad b 16 (.inl rfl) q2).1
  rw [Bool.eq_iff_iff, beq_iff_eq, beq_iff_eq]
  constructor
  · intro h; rw [← h1, ← h2, h]
  · intro h; rw [h]

theorem pad_begin {a : List UInt8} (ha : nameL a = true) : (padF a 32).take (padF a 16).length = padF a 16 ∧ (padF a 16).length ≤ (padF a 32).length := by
  obtain ⟨p1, p2, p3, p4, p5, p6⟩ := pad_size (u := 16) ha (.inl rfl)
  obtain ⟨q1, q2, q3, q4, q5, q6⟩ := pad_size (u := 32) ha (.inr rfl)
  have hle : (padF a 16).length ≤ (padF a 32).length := by omega
  refine ⟨?_, hle⟩
  have e1 : padF a 16 = a ++ List.replicate ((padF a 16).length - a.length) 0 := by
    have : padF a 16 = fillF a (sizeF a.length 16) := by unfold padF; rw [p2]; rfl
    rw [← p1] at this
    conv => lhs; rw [this]
    unfold fillF; simp
  have e2 : padF a 32 = a ++ List.replicate ((padF a 32).length - a.length) 0 := by
    have : padF a 32 = fillF a (sizeF a.length 32) := by unfold padF; rw [q2]; rfl
    rw [← q1] at this
    conv => lhs; rw [this]
    unfold fillF; simp
  generalize (padF a 16).length = x at *
  generalize (padF a 32).length = z at *
  rw [e1, e2, List.take_append, List.take_of_length_le (by omega), List.take_replicate]
  congr 2
  omega

set_option maxHeartbeats 1600000 in
theorem padApart_walk (s t : ByteArray) (w : World) (hs : s.size ≤ maxLen) (ht : t.size ≤ maxLen) :
    Calls Try.prog 6 #[.string s, .string t] w fun e w' => e = .returned (.bool true) ∧ Below w.heap.size w w' := by
  obtain ⟨a, rfl⟩ : ∃ l, s = str l := ⟨_, (str_of s).symm⟩
  obtain ⟨b, rfl⟩ : ∃ l, t = str l := ⟨_, (str_of t).symm⟩
  have hsz := str_size a
  have hsz2 := str_size b
  unfold maxLen at hs ht
  rw [hsz] at hs
  rw [hsz2] at ht
  have hb := Below.refl w.heap.size w
  cases hna : nameL a with
  | false =>
    rw [← refName_eq] at hna
    go_enter Try.func6, Try.ntmps6
    go_wp2_with (first | (go_at_call 7; refine (awake_acc w _ hb).mono ?_; clear hb; rintro e w1 ⟨rfl, hb⟩) | (go_at_call 11; refine (refName_any _ _ (by omega)).mono ?_; rintro e w' ⟨rfl, rfl⟩))
    go_ret
    exact ⟨rfl, hb⟩
  | true =>
    cases hnb : nameL b with
    | false =>
      rw [← refName_eq] at hna hnb
      go_enter Try.func6, Try.ntmps6
      go_wp2_with (first | (go_at_call 7; refine (awake_acc w _ hb).mono ?_; clear hb; rintro e w1 ⟨rfl, hb⟩) | (go_at_call 11; refine (refName_any _ _ (by omega)).mono ?_; rintro e w' ⟨rfl, rfl⟩))
      go_ret
      exact ⟨rfl, hb⟩
    | true =>
      obtain ⟨-, p2, p3, p4, -⟩ := pad_size (u := 16) hna (.inl rfl)
      obtain ⟨-, q2, q3, -⟩ := pad_size (u := 16) hnb (.inl rfl)
      obtain ⟨-, r2, r3, -⟩ := pad_size (u := 32) hna (.inr rfl)
      have hst := strip_pad a 32 (.inr rfl) r2
      have hbg := pad_begin hna
      have hin := pad_inj hna hnb
      have hla := (nameL_len hna).2
      have hlb := (nameL_len hnb).2
      have hla1 := (nameL_len hna).1
      have C1 : Hid (codeF a 16 = 0) := by unfold Hid codeF; rw [p2]; rfl
      have C2 : Hid (codeF b 16 = 0) := by unfold Hid codeF; rw [q2]; rfl
      have C3 : Hid (codeF a 32 = 0) := by unfold Hid codeF; rw [r2]; rfl
      rw [← refName_eq] at hna hnb
      clear p2 q2 r2
      generalize hxe : padF a 16 = x at *
      generalize hye : padF b 16 = y at *
      generalize hze : padF a 32 = z at *
      have XE := Lib.hid hxe
      have YE := Lib.hid hye
      have ZE := Lib.hid hze
      clear hxe hye hze
      generalize hxl : x.length = nx at *
      generalize hyl : y.length = ny at *
      generalize hzl : z.length = nz at *
      have HX := Lib.hid hxl
      have HY := Lib.hid hyl
      have HZ := Lib.hid hzl
      have HT := Lib.hid hbg.1
      have hge := hbg.2
      have HS := Lib.hid hst
      have HI := Lib.hid hin
      clear hxl hyl hzl hbg hst hin
      go_enter Try.func6, Try.ntmps6
      go_wp2_with (first | (go_at_call 7; refine (awake_acc w _ hb).mono ?_; clear hb; rintro e w1 ⟨rfl, hb⟩) | (go_at_call 11; refine (refName_any _ _ (by omega)).mono ?_; rintro e w' ⟨rfl, rfl⟩))
      refine (padFill_any (str a) 16 _ (by omega)).mono ?_
      rintro e w2 ⟨v, rfl, hown, hbel⟩
      rw [str_data, XE.out, HX.out] at hown
      simp only [str_data]
      rw [C1.out]
      obtain ⟨A1, n1, rfl, _, _, hr, _⟩ := own_rd hown
      have hb2 := hb.trans (hbel.mono hb.size)
      have R1 := Lib.hid hr
      clear hown hbel hb hr
      go_wp2_with fail
      refine (padFill_any (str b) 16 _ (by omega)).mono ?_
      rintro e w3 ⟨v, rfl, hown, hbel⟩
      rw [str_data, YE.out, HY.out] at hown
      simp only [str_data]
      rw [C2.out]
      obtain ⟨A2, n2, rfl, _, _, hr, _⟩ := own_rd hown
      have hb3 := hb2.trans (hbel.mono hb2.size)
      have R2 := Lib.hid hr
      have R1' := Lib.hid (Rd.keep R1.out hbel)
      clear hown hbel hb2 hr R1
      go_wp2_with fail
      refine (padFill_any (str a) 32 _ (by omega)).mono ?_
      rintro e w4 ⟨v, rfl, hown, hbel⟩
      rw [str_data, ZE.out, HZ.out] at hown
      simp only [str_data]
      rw [C3.out]
      obtain ⟨A3, n3, rfl, hn3, _, hr, _⟩ := own_rd hown
      have hb4 := hb3.trans (hbel.mono hb3.size)
      have R3 := Lib.hid hr
      obtain ⟨b3, o3, rfl, _⟩ := Rd.lt R3.out (by have hZ := HZ.out; intro hnil; have : z = [] := (by simpa using hnil); subst this; simp at hZ; omega)
      have R1 := Lib.hid (Rd.keep R1'.out hbel)
      have R2' := Lib.hid (Rd.keep R2.out hbel)
      clear hown hbel hb3 hr R1' R2
      go_wp2_with fail
      refine (strip_any _ _ _ z _ HZ.out R3.out (by omega)).mono ?_
      rintro e w5 ⟨rfl, hbel⟩
      rw [HS.out.1, HS.out.2]
      have hb5 := hb4.trans (hbel.mono hb4.size)
      have s1 := fun nq => run_str (w5.drewN nq) (P := Try.prog) (n := nx) (c := n1) Try.underlying23 Try.underlying5 (Rd.drewN (Rd.keep R1.out hbel) nq) HX.out Try.underlying9
      have s2 := fun nq => run_str (w5.drewN nq) (P := Try.prog) (n := ny) (c := n2) Try.underlying23 Try.underlying5 (Rd.drewN (Rd.keep R2'.out hbel) nq) HY.out Try.underlying9
      have s3 := fun nq => run_str (w5.drewN nq) (P := Try.prog) (n := nx) (c := n3) Try.underlying23 Try.underlying5 (RdB.drewN (RdB.take (Rd.keep R3.out hbel) nx) nq) (by rw [HT.out]; exact HX.out) Try.underlying9
      simp only [HT.out] at s3
      have hin : ((str x).toList == (str y).toList) = ((str a).toList == (str b).toList) := by
        rw [str_toList, str_toList, str_toList, str_toList]; exact HI.out
      clear hb4 hbel R1 R2' R3
      go_wp2_with fail
      have d1 : decide (nx ≤ nz) = true := decide_eq_true hge
      have d2 : decide ((nx : Int) ≤ (nz : Int)) = true := decide_eq_true (by omega)
      have d3 : (nx : Int) ≤ nz := by omega
      have d4 : (nx : Int) ≤ n3 := by omega
      go_quiet (fail)
      go_wp2
      go_ret
      exact ⟨rfl, ⟨hb5.os, hb5.tape, hb5.output, hb5.size, hb5.block⟩⟩
end Go.Proofs.Ytjnmpeehadgeoaa
