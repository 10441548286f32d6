/- The walk of OctetsDigits. -/
import Derived.Test.YtnopoiidekklfaaOctK
namespace Go.Proofs.Ytnopoiidekklfaa
open Go.RowKit

theorem hex_byte (c : UInt8) : isHex (hexD (c.toNat / 16)) = true ∧ isHex (hexD (c.toNat % 16)) = true ∧ UInt8.ofNat (16 * hexV (hexD (c.toNat / 16)) + hexV (hexD (c.toNat % 16))) = c :=
  byte_all (p := fun c => isHex (hexD (c.toNat / 16)) = true ∧ isHex (hexD (c.toNat % 16)) = true ∧ UInt8.ofNat (16 * hexV (hexD (c.toNat / 16)) + hexV (hexD (c.toNat % 16))) = c) (by decide +kernel) c
theorem hex_sign (c : UInt8) : isHex c = true → hexV c < 16 ∧ hexD (hexV c) = c :=
  byte_all (p := fun c => isHex c = true → hexV c < 16 ∧ hexD (hexV c) = c) (by decide +kernel) c

theorem hexF_cons (c : UInt8) (l : List UInt8) : hexF (c :: l) = hexD (c.toNat / 16) :: hexD (c.toNat % 16) :: hexF l := by simp [hexF]
theorem hexF_all (b : List UInt8) : (hexF b).all isHex = true := by
  induction b with
  | nil => rfl
  | cons c l ih => rw [hexF_cons, List.all_cons, List.all_cons, (hex_byte c).1, (hex_byte c).2.1, ih]; rfl
theorem ok_hex (b : List UInt8) : okH (hexF b) = true := by
  unfold okH; rw [hexF_length, hexF_all]; simp
theorem unh_hex (b : List UInt8) : unhF (hexF b) = b := by
  unfold unhF; rw [ok_hex, if_pos rfl]
  induction b with
  | nil => rfl
  | cons c l ih => rw [hexF_cons, pairs, (hex_byte c).2.2, ih]
theorem hex_pairs : ∀ s : List UInt8, s.length % 2 = 0 → s.all isHex = true → hexF (pairs s) = s
  | [], _, _ => rfl
  | [_], h, _ => by simp at h
  | a :: b :: r, h, h2 => by
    rw [List.all_cons, List.all_cons, Bool.and_eq_true, Bool.and_eq_true] at h2
    obtain ⟨ha, hb, hr⟩ := h2
    have ih := hex_pairs r (by simp at h; omega) hr
    obtain ⟨ha1, ha2⟩ := hex_sign a ha
    obtain ⟨hb1, hb2⟩ := hex_sign b hb
    rw [pairs, hexF_cons, UInt8.toNat_ofNat_of_lt' (by simp [UInt8.size]; omega), show (16 * hexV a + hexV b) / 16 = hexV a by omega, show (16 * hexV a + hexV b) % 16 = hexV b by omega, ha2, hb2, ih]
theorem hex_unh {s : List UInt8} (h : okH s = true) : hexF (unhF s) = s := by
  unfold unhF; rw [h, if_pos rfl]
  unfold okH at h
  rw [Bool.and_eq_true, beq_iff_eq] at h
  exact hex_pairs s h.1 h.2
theorem unhF_length (s : List UInt8) : (unhF s).length ≤ s.length := by
  unfold unhF; split
  · rw [pairs_length]; omega
  · exact Nat.zero_le _

theorem str_refl (x : List UInt8) : ((str x).toList == (str x).toList) = true := by simp

set_option maxHeartbeats 1600000 in
theorem octetsDigits_walk (A : Option Addr) (m c : Nat) (b : List UInt8) (t : ByteArray) (w : World) (hm : b.length = m) (h : RdB w A b) (ht : t.size ≤ maxLen) :
    Calls Try.prog 6 #[.slice A m c, .string t] w fun e w' => e = .returned (.bool true) ∧ Below w.heap.size w w' := by
  obtain ⟨s, rfl⟩ : ∃ l, t = str l := ⟨_, (str_of t).symm⟩
  have hsz := str_size s
  unfold maxLen at ht
  rw [hsz] at ht
  have HM := Lib.hid hm
  have H := Lib.hid h
  have hb := Below.refl w.heap.size w
  clear hm h
  by_cases h300 : 300 < m
  · go_enter Try.func6, Try.ntmps6
    go_wp2_with (go_at_call 8; refine (awake_acc w _ hb).mono ?_; clear hb; rintro e w1 ⟨rfl, hb⟩)
    go_ret
    exact ⟨rfl, hb⟩
  by_cases h600 : 600 < s.length
  · go_enter Try.func6, Try.ntmps6
    go_wp2_with (go_at_call 8; refine (awake_acc w _ hb).mono ?_; clear hb; rintro e w1 ⟨rfl, hb⟩)
    go_ret
    exact ⟨rfl, hb⟩
  have hlh : (hexF b).length ≤ 600 := by rw [hexF_length, HM.out]; omega
  have hlx := unhF_length s
  have OK := Lib.hid (ok_hex b)
  have UH := Lib.hid (unh_hex b)
  have HU : Hid (okH s = true → hexF (unhF s) = s) := Lib.hid hex_unh
  generalize hx : unhF s = x at *
  have HX := Lib.hid hx
  clear hx
  have e1 := str_refl x
  have e2 := str_refl (hexF b)
  have e3 := str_refl b
  have e4 := str_refl s
  generalize hlen : x.length = nx at *
  have HN := Lib.hid hlen
  clear hlen
  cases hok : okH s with
  | true =>
    have OS := Lib.hid hok
    have HS := Lib.hid (HU.out hok)
    clear hok HU
    go_enter Try.func6, Try.ntmps6
    go_upto_region 3 with (go_at_call 8; refine (awake_acc w _ hb).mono ?_; clear hb; rintro e w1 ⟨rfl, hb⟩)
    go_upto_region 5 with (first | (go_at_call 20; refine (unhex_any s _ (by omega)).mono ?_; rintro e w2 ⟨v, rfl, hown, hbel⟩; rw [OS.out]; rw [HX.out, HN.out] at hown; obtain ⟨A1, n1, rfl, _, _, hr, _⟩ := own_rd hown; have R1 := Lib.hid hr; clear hr hown; have hb2 := hb.trans (hbel.mono hb.size); clear hbel hb) | (go_at_call 21; refine (refUnhex_any s _ (by omega)).mono ?_; rintro e w3 ⟨v, rfl, hown, hbel⟩; rw [OS.out]; rw [HX.out, HN.out] at hown; obtain ⟨A3, n3, rfl, _, _, hr, _⟩ := own_rd hown; have R3 := Lib.hid hr; have R13 := Lib.hid (Rd.keep R1.out hbel); clear hr hown; have hb3 := hb2.trans (hbel.mono hb2.size); clear hbel hb2 R1))
    go_upto_region 6 with ((go_at_call 9; refine (hex_any A m c b _ HM.out (H.out.keep hb3) (by omega)).mono ?_; rintro e w4 ⟨rfl, hbel⟩; have R14 := Lib.hid (Rd.keep R13.out hbel); have R34 := Lib.hid (Rd.keep R3.out hbel); have hb4 := hb3.trans (hbel.mono hb3.size); clear hbel hb3 R13 R3))
    go_upto_region 7 with ((go_at_call 20; refine (unhex_any (hexF b) _ (by omega)).mono ?_; rintro e w5 ⟨v, rfl, hown, hbel⟩; rw [OK.out]; rw [UH.out, HM.out] at hown; obtain ⟨A5, n5, rfl, _, _, hr, _⟩ := own_rd hown; have R5 := Lib.hid hr; have R15 := Lib.hid (Rd.keep R14.out hbel); have R35 := Lib.hid (Rd.keep R34.out hbel); clear hr hown; have hb5 := hb4.trans (hbel.mono hb4.size); clear hbel hb4 R14 R34; have hs1 := run_str w5 (P := Try.prog) (n := nx) (c := n1) Try.underlying22 Try.underlying5 (xs := x) R15.out HN.out Try.underlying9; have hs3 := run_str w5 (P := Try.prog) (n := nx) (c := n3) Try.underlying22 Try.underlying5 (xs := x) R35.out HN.out Try.underlying9))
    go_wp2_with (first | (go_at_call 22; refine (refHex_any A m c b _ HM.out (H.out.keep hb5) (by omega)).mono ?_; rintro e w6 ⟨rfl, hbel⟩; have R16 := Lib.hid (Rd.keep R15.out hbel); have R56 := Lib.hid (Rd.keep R5.out hbel); have hb6 := hb5.trans (hbel.mono hb5.size); clear hbel hb5 R15 R35 R5 hs1 hs3; have hs5 := run_str w6 (P := Try.prog) (n := m) (c := n5) Try.underlying22 Try.underlying5 (xs := b) R56.out HM.out Try.underlying9; have hsb := run_str w6 (P := Try.prog) (n := m) (c := c) Try.underlying22 Try.underlying5 (xs := b) (H.out.keep hb6) HM.out Try.underlying9) | (go_at_call 9; refine (hex_any A1 nx n1 x _ HN.out R16.out (by omega)).mono ?_; rintro e w7 ⟨rfl, hbel⟩; rw [HS.out]; have hb7 := hb6.trans (hbel.mono hb6.size)))
    go_ret
    exact ⟨rfl, hb7⟩
  | false =>
    have OS := Lib.hid hok
    clear hok HU
    go_enter Try.func6, Try.ntmps6
    go_upto_region 3 with (go_at_call 8; refine (awake_acc w _ hb).mono ?_; clear hb; rintro e w1 ⟨rfl, hb⟩)
    go_upto_region 5 with (first | (go_at_call 20; refine (unhex_any s _ (by omega)).mono ?_; rintro e w2 ⟨v, rfl, hown, hbel⟩; rw [OS.out]; rw [HX.out, HN.out] at hown; obtain ⟨A1, n1, rfl, _, _, hr, _⟩ := own_rd hown; have R1 := Lib.hid hr; clear hr hown; have hb2 := hb.trans (hbel.mono hb.size); clear hbel hb) | (go_at_call 21; refine (refUnhex_any s _ (by omega)).mono ?_; rintro e w3 ⟨v, rfl, hown, hbel⟩; rw [OS.out]; rw [HX.out, HN.out] at hown; obtain ⟨A3, n3, rfl, _, _, hr, _⟩ := own_rd hown; have R3 := Lib.hid hr; have R13 := Lib.hid (Rd.keep R1.out hbel); clear hr hown; have hb3 := hb2.trans (hbel.mono hb2.size); clear hbel hb2 R1))
    go_upto_region 6 with ((go_at_call 9; refine (hex_any A m c b _ HM.out (H.out.keep hb3) (by omega)).mono ?_; rintro e w4 ⟨rfl, hbel⟩; have R14 := Lib.hid (Rd.keep R13.out hbel); have R34 := Lib.hid (Rd.keep R3.out hbel); have hb4 := hb3.trans (hbel.mono hb3.size); clear hbel hb3 R13 R3))
    go_upto_region 7 with ((go_at_call 20; refine (unhex_any (hexF b) _ (by omega)).mono ?_; rintro e w5 ⟨v, rfl, hown, hbel⟩; rw [OK.out]; rw [UH.out, HM.out] at hown; obtain ⟨A5, n5, rfl, _, _, hr, _⟩ := own_rd hown; have R5 := Lib.hid hr; have R15 := Lib.hid (Rd.keep R14.out hbel); have R35 := Lib.hid (Rd.keep R34.out hbel); clear hr hown; have hb5 := hb4.trans (hbel.mono hb4.size); clear hbel hb4 R14 R34; have hs1 := run_str w5 (P := Try.prog) (n := nx) (c := n1) Try.underlying22 Try.underlying5 (xs := x) R15.out HN.out Try.underlying9; have hs3 := run_str w5 (P := Try.prog) (n := nx) (c := n3) Try.underlying22 Try.underlying5 (xs := x) R35.out HN.out Try.underlying9))
    go_wp2_with (first | (go_at_call 22; refine (refHex_any A m c b _ HM.out (H.out.keep hb5) (by omega)).mono ?_; rintro e w6 ⟨rfl, hbel⟩; have R16 := Lib.hid (Rd.keep R15.out hbel); have R56 := Lib.hid (Rd.keep R5.out hbel); have hb6 := hb5.trans (hbel.mono hb5.size); clear hbel hb5 R15 R35 R5 hs1 hs3; have hs5 := run_str w6 (P := Try.prog) (n := m) (c := n5) Try.underlying22 Try.underlying5 (xs := b) R56.out HM.out Try.underlying9; have hsb := run_str w6 (P := Try.prog) (n := m) (c := c) Try.underlying22 Try.underlying5 (xs := b) (H.out.keep hb6) HM.out Try.underlying9))
    go_ret
    exact ⟨rfl, hb6⟩
end Go.Proofs.Ytnopoiidekklfaa
