/- Contracts of the reference's digit and Unhex. -/
import Derived.Test.YtnopoiidekklfaaOctU
namespace Go.Proofs.Ytnopoiidekklfaa
open Go.RowKit

def dig16 (c : UInt8) : Int := if isHex c then (hexV c : Int) else 16

theorem isHex_nat (c : UInt8) : isHex c = decide ((48 ≤ c.toNat ∧ c.toNat ≤ 57) ∨ (97 ≤ c.toNat ∧ c.toNat ≤ 102)) :=
  byte_all (p := fun c => isHex c = decide ((48 ≤ c.toNat ∧ c.toNat ≤ 57) ∨ (97 ≤ c.toNat ∧ c.toNat ≤ 102))) (by decide +kernel) c
theorem hexV_nat (c : UInt8) : hexV c = if c.toNat ≤ 57 then c.toNat - 48 else c.toNat - 87 :=
  byte_all (p := fun c => hexV c = if c.toNat ≤ 57 then c.toNat - 48 else c.toNat - 87) (by decide +kernel) c

set_option maxHeartbeats 400000 in
theorem digit_any (c : UInt8) (w : World) :
    Calls Try.prog 31 #[.int .u8 (c.toNat : Int)] w fun e w' => e = .returned (.int .i64 (dig16 c)) ∧ w = w' := by
  have hE := Lib.hid (show dig16 c = if (48 ≤ c.toNat ∧ c.toNat ≤ 57) then (c.toNat : Int) - 48 else if (97 ≤ c.toNat ∧ c.toNat ≤ 102) then (c.toNat : Int) - 87 else 16 by
    unfold dig16; rw [isHex_nat, hexV_nat]
    by_cases h1 : 48 ≤ c.toNat ∧ c.toNat ≤ 57
    · simp [h1]; omega
    · by_cases h2 : 97 ≤ c.toNat ∧ c.toNat ≤ 102
      · simp [h1, h2, show ¬ c.toNat ≤ 57 by omega]; omega
      · simp [h1, h2])
  have hc := UInt8.toNat_lt c
  generalize c.toNat = n at *
  go_enter Try.func31, Try.ntmps31
  go_wp2
  all_goals
    go_ret
    refine ⟨ret_int ?_, rfl⟩
    rw [hE.out]
    first | (rw [if_pos (by omega)]) | (rw [if_neg (by omega), if_pos (by omega)]) | (rw [if_neg (by omega), if_neg (by omega)])

set_option maxHeartbeats 1000000 in
theorem refUnhex_any (s : List UInt8) (w : World) (hm : s.length ≤ 70368744177664) :
    Calls Try.prog 21 #[.string (str s)] w (GivesBO (unhF s) (okH s) w) := by
  have hsz := str_size s
  have hix := Lib.hid (idx_str (P := Try.prog) Try.underlying9 s)
  go_enter Try.func21, Try.ntmps21
  go_wp2
  go_loopw [4, 5, 6, 7] (fun v i _ _ wr => ∃ (m k : Nat) (A : Option Addr) (c : Nat), m ≤ s.length ∧ i = .int .i64 (m : Int) ∧ v = .slice A k c ∧ Hid (m = 2 * k) ∧ Hid ((s.take m).all isHex = true) ∧ Hid (wr.ownsRow w.heap.size 5 1 v k ((pairs (s.take m)).map bV)) ∧ Below w.heap.size w wr) (fun _ i _ _ _ => s.length - (intOf i).toNat)
  case atStart => exact ⟨0, 0, none, 0, Nat.zero_le _, rfl, rfl, rfl, rfl, World.ownsRow_nil _ _ _ _, Below.refl _ w⟩
  case round =>
    obtain ⟨m, k, A, c, hk, rfl, rfl, hmk, hall, hown, hbel⟩ := hrel
    by_cases hm1 : m + 1 < s.length
    · have hlt : m < s.length := by omega
      have hlt2 : (m : Int) + 1 < s.length := by omega
      have hk2 : k ≤ 70368744177664 := by have := hmk.out; omega
      have hx := hix.out m hlt
      have hx1 : ∀ wx, (Instr.index 9 (.string (str s)) (.int .i64 ((m : Int) + 1))).run Try.prog wx = .ok (.int .u8 ((s.getD (m + 1) 0).toNat : Int)) wx := hix.out (m + 1) (by omega)
      have htk : Hid (s.take (m + 2) = s.take m ++ [s.getD m 0, s.getD (m + 1) 0]) := by
        unfold Hid; rw [take_snoc s (m + 1) 0 hm1, take_snoc s m 0 hlt, List.append_assoc]; rfl
      have n0 := Lib.hid (fun h => okH_no (l := s) m hlt h)
      have n1 := Lib.hid (fun h => okH_no (l := s) (m + 1) hm1 h)
      have hlen : Hid ((s.take m).length % 2 = 0) := by unfold Hid; rw [List.length_take]; have := hmk.out; omega
      generalize s.getD m 0 = a at *
      generalize s.getD (m + 1) 0 = b at *
      have v1 : IntKind.i64.wrap ((m : Int) + 1) = (m : Int) + 1 := IntWalk.i64_in _ (by omega)
      cases ha : isHex a with
      | false =>
        have hF := Lib.hid (n0.out ha)
        have e1 : dig16 a = 16 := by unfold dig16; rw [ha]; rfl
        clear n0 n1 ha htk hall hlen hown
        go_wp2
        go_quiet ((go_at_call 31; exact quiet_eq (digit_any _ _)))
        go_wp2
        go_ret2
        rw [hF.out.1, hF.out.2]
        exact GivesBO.no ⟨hbel.os, hbel.tape, hbel.output, hbel.size, hbel.block⟩
      | true =>
        have e1 : dig16 a = hexV a := by unfold dig16; rw [ha]; rfl
        have la := hexV_lt a ha
        cases hb : isHex b with
        | false =>
          have hF := Lib.hid (n1.out hb)
          have e2 : dig16 b = 16 := by unfold dig16; rw [hb]; rfl
          clear n0 n1 ha hb htk hall hlen hown
          go_wp2
          go_quiet ((go_at_call 31; exact quiet_eq (digit_any _ _)))
          go_wp2
          go_ret2
          rw [hF.out.1, hF.out.2]
          exact GivesBO.no ⟨hbel.os, hbel.tape, hbel.output, hbel.size, hbel.block⟩
        | true =>
          have e2 : dig16 b = hexV b := by unfold dig16; rw [hb]; rfl
          have lb := hexV_lt b hb
          have HA := Lib.hid ha
          have HB := Lib.hid hb
          have d1 : ((hexV a : Int) == 16) = false := beq_eq_false_iff_ne.2 (by omega)
          have d2 : ((hexV b : Int) == 16) = false := beq_eq_false_iff_ne.2 (by omega)
          have hj : (16 * (hexV a : Int) + (hexV b : Int)) % 256 = 16 * (hexV a : Int) + (hexV b : Int) := by omega
          have hsrc := Lib.hid fun (wx : World) => RdB.src (P := Try.prog) (c := 1) (A := some ⟨wx.heap.size, 0, none⟩) (w := wx.alloc (.cells #[.int .u8 (16 * (hexV a : Int) + (hexV b : Int))] 5)) (xs := [UInt8.ofNat (16 * hexV a + hexV b)]) (n := 1) Try.underlying22 (Rd.mk (fun i hi => by simp at hi; subst hi; rw [Nat.add_zero, cell_one_at]; simp only [List.map_cons, List.map_nil, List.getElem?_cons_zero, bV]; rw [ofNat_hex la lb])) rfl
          clear n0 n1 ha hb
          go_wp2
          go_quiet ((go_at_call 31; exact quiet_eq (digit_any _ _)))
          go_wp2_with (at_builtin; go_loud (refine wpList_app' TB w.heap.size ((own_drewN hown.out _).alloc _) _ (hsrc.out _) rfl rfl rfl rfl (by unfold maxLen; omega) (by omega) (by have := hbel.size; simp; omega) ((below_drewN hbel _).alloc hbel.size _) (fun A1 c1 w1 hown1 hg hbel1 => ?_)))
          go_roundw
          case rel =>
            refine ⟨m + 2, k + 1, A1, c1, by omega, by go_num, rfl, ?_, ?_, ?_, hbel1⟩
            · have := hmk.out; unfold Hid; omega
            · unfold Hid; rw [htk.out, List.all_append, hall.out]; simp [HA.out, HB.out]
            · unfold Hid; rw [htk.out, pairs_snoc a b _ hlen.out, List.map_append]; exact hown1
          case measure => simp [intOf]; omega
    · have hlt2 : ¬ (m : Int) + 1 < s.length := by omega
      by_cases hodd : s.length % 2 = 1
      · have ho : okH s = false := by unfold okH; rw [hodd]; rfl
        have hu : unhF s = [] := by unfold unhF; rw [ho]; rfl
        have HU := Lib.hid hu
        have HO := Lib.hid ho
        have b1 : ((s.length : Int) % 2 == 1) = true := by rw [beq_iff_eq]; omega
        clear ho hu
        go_wp2
        go_ret2
        rw [HU.out, HO.out]
        exact GivesBO.no hbel
      · have e : m = s.length := by have := hmk.out; omega
        subst e
        have ho : okH s = true := by
          unfold okH
          have h1 := hall.out
          rw [List.take_length] at h1
          rw [h1, show s.length % 2 = 0 by omega]; rfl
        have hu : unhF s = pairs s := by unfold unhF; rw [ho]; rfl
        have HU := Lib.hid hu
        have HO := Lib.hid ho
        have b1 : ((s.length : Int) % 2 == 1) = false := by rw [beq_eq_false_iff_ne]; omega
        clear ho hu
        go_wp2
        go_ret2
        rw [HU.out, HO.out]
        have h1 := hown.out
        rw [List.take_length] at h1
        refine ⟨_, rfl, ?_, hbel⟩
        rw [pairs_length, show s.length / 2 = k by have := hmk.out; omega]
        exact h1
end Go.Proofs.Ytnopoiidekklfaa
