/- AES: the reference's S. -/
import Derived.Test.YtaacnbponodagaaAesJ
import Derived.Test.YtaacnbponodagaaStM
namespace Go.Proofs.Ytaacnbponodagaa
open Go.RowKit Go.Proofs.Ytaacnbponodagaa.PA Go.Proofs.YtaacnbponodagaaW.PrintWords

set_option maxRecDepth 8000 in
set_option maxHeartbeats 1600000 in
theorem inverse_any (a : UInt8) (w : World) : Calls Try.prog 24 #[.int .i64 (a.toNat : Int)] w fun e w' => e = .returned (.int .i64 ((qV 7 a).toNat : Int)) ∧ Below w.heap.size w w' := by
  have hS := St.start w
  have h0 := pV_zero a
  have HSQ := Lib.hid (fun k hk => f_sq k hk a)
  have HML := Lib.hid (fun k hk => f_ml k hk a)
  go_enter Try.func24, Try.ntmps24
  go_wp2
  go_loopw [3, 4] (fun vp vd wr => ∃ k : Nat, k ≤ 8 ∧ vp = .int .i64 (((if k < 8 then pV k a else qV 7 a) : UInt8).toNat : Int) ∧ vd = .int .i64 ((128 / 2 ^ k : Nat) : Int) ∧ St (Kp w) w wr []) (fun _ vd _ => (intOf vd).toNat)
  case atStart => exact ⟨0, by omega, by rw [if_pos (by decide), h0]; rfl, rfl, hS⟩
  case round =>
    clear hS h0
    obtain ⟨k, hk, rfl, rfl, hS⟩ := hrel
    by_cases h8 : k < 8
    · rw [if_pos h8]
      have hsq := Lib.hid (HSQ.out k h8)
      by_cases h7 : k < 7
      · have hml := Lib.hid (HML.out k h7)
        generalize pV k a = p at *
        generalize qV k a = q at *
        generalize hr9 : pV (k + 1) a = r at *
        have HR9 := Lib.hid hr9
        clear hr9
        have hc : k = 0 ∨ k = 1 ∨ k = 2 ∨ k = 3 ∨ k = 4 ∨ k = 5 ∨ k = 6 := by omega
        rcases hc with rfl | rfl | rfl | rfl | rfl | rfl | rfl
        · skip
          go_wp2_with (first | ((with_reducible show Calls _ 20 #[.int .i64 (p.toNat : Int), _] _ _); refine (turnkeyref07_times.calls 10 _ _ _ _ hsq.out).mono ?_; rintro e w_ ⟨rfl, hb_⟩; replace hS := hS.ext hb_.below; clear hb_) | ((with_reducible show Calls _ 20 #[.int .i64 (q.toNat : Int), _] _ _); refine (turnkeyref07_times.calls 10 _ _ _ _ hml.out).mono ?_; rintro e w_ ⟨rfl, hb_⟩; replace hS := hS.ext hb_.below; clear hb_))
          go_roundw
          case rel => exact ⟨1, by decide, by rw [if_pos (show 1 < 8 by decide)]; exact congrArg (fun z : UInt8 => Value.int .i64 (z.toNat : Int)) HR9.out.symm, rfl, hS⟩
          case measure => simp [intOf]
        · skip
          go_wp2_with (first | ((with_reducible show Calls _ 20 #[.int .i64 (p.toNat : Int), _] _ _); refine (turnkeyref07_times.calls 10 _ _ _ _ hsq.out).mono ?_; rintro e w_ ⟨rfl, hb_⟩; replace hS := hS.ext hb_.below; clear hb_) | ((with_reducible show Calls _ 20 #[.int .i64 (q.toNat : Int), _] _ _); refine (turnkeyref07_times.calls 10 _ _ _ _ hml.out).mono ?_; rintro e w_ ⟨rfl, hb_⟩; replace hS := hS.ext hb_.below; clear hb_))
          go_roundw
          case rel => exact ⟨2, by decide, by rw [if_pos (show 2 < 8 by decide)]; exact congrArg (fun z : UInt8 => Value.int .i64 (z.toNat : Int)) HR9.out.symm, rfl, hS⟩
          case measure => simp [intOf]
        · skip
          go_wp2_with (first | ((with_reducible show Calls _ 20 #[.int .i64 (p.toNat : Int), _] _ _); refine (turnkeyref07_times.calls 10 _ _ _ _ hsq.out).mono ?_; rintro e w_ ⟨rfl, hb_⟩; replace hS := hS.ext hb_.below; clear hb_) | ((with_reducible show Calls _ 20 #[.int .i64 (q.toNat : Int), _] _ _); refine (turnkeyref07_times.calls 10 _ _ _ _ hml.out).mono ?_; rintro e w_ ⟨rfl, hb_⟩; replace hS := hS.ext hb_.below; clear hb_))
          go_roundw
          case rel => exact ⟨3, by decide, by rw [if_pos (show 3 < 8 by decide)]; exact congrArg (fun z : UInt8 => Value.int .i64 (z.toNat : Int)) HR9.out.symm, rfl, hS⟩
          case measure => simp [intOf]
        · skip
          go_wp2_with (first | ((with_reducible show Calls _ 20 #[.int .i64 (p.toNat : Int), _] _ _); refine (turnkeyref07_times.calls 10 _ _ _ _ hsq.out).mono ?_; rintro e w_ ⟨rfl, hb_⟩; replace hS := hS.ext hb_.below; clear hb_) | ((with_reducible show Calls _ 20 #[.int .i64 (q.toNat : Int), _] _ _); refine (turnkeyref07_times.calls 10 _ _ _ _ hml.out).mono ?_; rintro e w_ ⟨rfl, hb_⟩; replace hS := hS.ext hb_.below; clear hb_))
          go_roundw
          case rel => exact ⟨4, by decide, by rw [if_pos (show 4 < 8 by decide)]; exact congrArg (fun z : UInt8 => Value.int .i64 (z.toNat : Int)) HR9.out.symm, rfl, hS⟩
          case measure => simp [intOf]
        · skip
          go_wp2_with (first | ((with_reducible show Calls _ 20 #[.int .i64 (p.toNat : Int), _] _ _); refine (turnkeyref07_times.calls 10 _ _ _ _ hsq.out).mono ?_; rintro e w_ ⟨rfl, hb_⟩; replace hS := hS.ext hb_.below; clear hb_) | ((with_reducible show Calls _ 20 #[.int .i64 (q.toNat : Int), _] _ _); refine (turnkeyref07_times.calls 10 _ _ _ _ hml.out).mono ?_; rintro e w_ ⟨rfl, hb_⟩; replace hS := hS.ext hb_.below; clear hb_))
          go_roundw
          case rel => exact ⟨5, by decide, by rw [if_pos (show 5 < 8 by decide)]; exact congrArg (fun z : UInt8 => Value.int .i64 (z.toNat : Int)) HR9.out.symm, rfl, hS⟩
          case measure => simp [intOf]
        · skip
          go_wp2_with (first | ((with_reducible show Calls _ 20 #[.int .i64 (p.toNat : Int), _] _ _); refine (turnkeyref07_times.calls 10 _ _ _ _ hsq.out).mono ?_; rintro e w_ ⟨rfl, hb_⟩; replace hS := hS.ext hb_.below; clear hb_) | ((with_reducible show Calls _ 20 #[.int .i64 (q.toNat : Int), _] _ _); refine (turnkeyref07_times.calls 10 _ _ _ _ hml.out).mono ?_; rintro e w_ ⟨rfl, hb_⟩; replace hS := hS.ext hb_.below; clear hb_))
          go_roundw
          case rel => exact ⟨6, by decide, by rw [if_pos (show 6 < 8 by decide)]; exact congrArg (fun z : UInt8 => Value.int .i64 (z.toNat : Int)) HR9.out.symm, rfl, hS⟩
          case measure => simp [intOf]
        · skip
          go_wp2_with (first | ((with_reducible show Calls _ 20 #[.int .i64 (p.toNat : Int), _] _ _); refine (turnkeyref07_times.calls 10 _ _ _ _ hsq.out).mono ?_; rintro e w_ ⟨rfl, hb_⟩; replace hS := hS.ext hb_.below; clear hb_) | ((with_reducible show Calls _ 20 #[.int .i64 (q.toNat : Int), _] _ _); refine (turnkeyref07_times.calls 10 _ _ _ _ hml.out).mono ?_; rintro e w_ ⟨rfl, hb_⟩; replace hS := hS.ext hb_.below; clear hb_))
          go_roundw
          case rel => exact ⟨7, by decide, by rw [if_pos (show 7 < 8 by decide)]; exact congrArg (fun z : UInt8 => Value.int .i64 (z.toNat : Int)) HR9.out.symm, rfl, hS⟩
          case measure => simp [intOf]
      · have hk7 : k = 7 := by omega
        subst hk7
        generalize pV 7 a = p at *
        generalize qV 7 a = q at *
        go_wp2_with (first | ((with_reducible show Calls _ 20 #[.int .i64 (p.toNat : Int), _] _ _); refine (turnkeyref07_times.calls 10 _ _ _ _ hsq.out).mono ?_; rintro e w_ ⟨rfl, hb_⟩; replace hS := hS.ext hb_.below; clear hb_))
        go_roundw
        case rel => exact ⟨8, by decide, by rw [if_neg (by decide)], rfl, hS⟩
        case measure => simp [intOf]
    · have hk8 : k = 8 := by omega
      subst hk8
      rw [if_neg (by decide)]
      go_wp2
      go_ret
      exact ⟨rfl, hS.below⟩

set_option maxRecDepth 8000 in
set_option maxHeartbeats 1600000 in
theorem S_any (a : UInt8) (w : World) : Calls Try.prog 19 #[.int .i64 (a.toNat : Int)] w fun e w' => e = .returned (.int .i64 ((sb a).toNat : Int)) ∧ Below w.heap.size w w' := by
  have hS := St.start w
  have hend := Lib.hid (sS_end a)
  go_enter Try.func19, Try.ntmps19
  go_wp2_with (first | (go_at_call 24; refine (inverse_any a _).mono ?_; rintro e w_ ⟨rfl, hb_⟩; replace hS := hS.ext hb_; clear hb_))
  generalize qV 7 a = b at *
  go_loopw [3, 4, 5] (fun vb vs vi wr => ∃ k : Nat, k ≤ 5 ∧ vi = .int .i64 (k : Int) ∧ vb = .int .i64 (((sS b k).1).toNat : Int) ∧ vs = .int .i64 (((sS b k).2).toNat : Int) ∧ St (Kp w) w wr []) (fun _ _ vi _ => 5 - (intOf vi).toNat)
  case atStart => exact ⟨0, by omega, rfl, rfl, rfl, hS⟩
  case round =>
    clear hS
    obtain ⟨k, hk, rfl, rfl, rfl, hS⟩ := hrel
    by_cases h5 : k < 5
    · have hn1 := Lib.hid (show (sS b (k + 1)).1 = UInt8.ofNat ((sS b k).1.toNat * 2 % 256 + (sS b k).1.toNat / 128) from rfl)
      have hn2 := Lib.hid (show (sS b (k + 1)).2 = (sS b k).2 ^^^ (sS b k).1 from rfl)
      generalize (sS b k).1 = x at *
      generalize (sS b k).2 = s at *
      obtain ⟨r, hr, hrot⟩ : ∃ r, UInt8.ofNat (x.toNat * 2 % 256 + x.toNat / 128) = r ∧ (x.toNat : Int) * 2 % 256 + (x.toNat : Int) / 128 = (r.toNat : Int) := ⟨_, rfl, sS_rot x⟩
      obtain ⟨u, hu, hxx⟩ : ∃ u, s ^^^ x = u ∧ bits .xor .i64 (s.toNat : Int) (x.toNat : Int) = (u.toNat : Int) := ⟨_, rfl, xor64 s x⟩
      have HR := Lib.hid hr
      have HU := Lib.hid hu
      clear hr hu
      have hx256 : x.toNat < 256 := x.toNat_lt
      go_wp2
      go_roundw
      case rel => exact ⟨k + 1, by omega, by go_num, by rw [hn1.out, HR.out], by rw [hn2.out, HU.out], hS⟩
      case measure => simp [intOf]; omega
    · have hk5 : k = 5 := by omega
      rw [hk5, hend.out]
      go_wp2
      go_ret
      exact ⟨rfl, hS.below⟩
end Go.Proofs.Ytaacnbponodagaa
