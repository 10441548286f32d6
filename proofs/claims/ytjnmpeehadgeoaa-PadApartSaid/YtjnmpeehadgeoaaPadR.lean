/- Contracts of the reference for pad: Name, Size, Fill. -/
import Derived.Test.YtjnmpeehadgeoaaPadB
namespace Go.Proofs.Ytjnmpeehadgeoaa
open Go.RowKit

def okC (c : UInt8) : Bool := c != 0 && c != 47
def refName (l : List UInt8) : Bool := l.all okC && (decide (1 ≤ l.length) && decide (l.length ≤ 96) && l != [46] && l != [46, 46])

set_option maxHeartbeats 400000 in
theorem refName_any (l : List UInt8) (w : World) (hl : l.length ≤ 9223372036854775807) :
    Calls Try.prog 11 #[.string (str l)] w fun e w' => e = .returned (.bool (refName l)) ∧ w = w' := by
  have hsz := str_size l
  have hix := Lib.hid (idx_str (P := Try.prog) Try.underlying9 l)
  go_enter Try.func11, Try.ntmps11
  go_wp2
  go_loop [3] (fun i => ∃ k : Nat, k ≤ l.length ∧ i = .int .i64 k ∧ Hid ((l.take k).all okC = true)) (fun i => l.length - (intOf i).toNat)
  case atStart => exact ⟨0, Nat.zero_le _, rfl, rfl⟩
  case round =>
    obtain ⟨k, hk, rfl, hall⟩ := hrel
    by_cases hlt : k < l.length
    · have hx := hix.out k hlt
      have hsn := Lib.hid (take_snoc l k 0 hlt)
      have hdr := Lib.hid (all_split okC l k 0 hlt)
      generalize l.getD k 0 = c at *
      have B0 := byte_beq c 0 (z := 0) rfl
      have B1 := byte_beq c 47 (z := 47) rfl
      cases h0 : (c == 0) with
      | true =>
        rw [h0] at B0
        have hF : Hid (refName l = false) := by
          have := hdr.out
          unfold Hid refName
          rw [this, show okC c = false by unfold okC bne; rw [h0]; rfl]; simp
        clear h0 B1 hdr hsn hall
        go_wp2
        go_ret
        rw [hF.out]
        exact ⟨rfl, rfl⟩
      | false =>
        rw [h0] at B0
        cases h1 : (c == 47) with
        | true =>
          rw [h1] at B1
          have hF : Hid (refName l = false) := by
            have := hdr.out
            unfold Hid refName
            rw [this, show okC c = false by unfold okC bne; rw [h0, h1]; rfl]; simp
          clear h0 h1 hdr hsn hall
          go_wp2
          go_ret
          rw [hF.out]
          exact ⟨rfl, rfl⟩
        | false =>
          rw [h1] at B1
          have hc : Hid (okC c = true) := by unfold Hid okC bne; rw [h0, h1]; rfl
          clear h0 h1 hdr
          go_wp2
          go_round
          case rel => exact ⟨k + 1, by omega, by go_num, by unfold Hid; rw [hsn.out, List.all_append, hall.out]; simp [hc.out]⟩
          case measure => simp [intOf]; omega
    · have hA : Hid (l.all okC = true) := by
        have := hall.out
        rw [List.take_of_length_le (by omega)] at this
        exact this
      clear hall
      go_wp2
      all_goals
        go_ret
        refine ⟨ret_bool ?_, rfl⟩
        have := hA.out
        (try simp only [str_toList] at *)
        simp only [refName, this]
        clear this hA hix
        simp_all <;> first | (intros; omega) | (rw [decide_eq_true (show 1 ≤ l.length by omega), decide_eq_true (show l.length ≤ 96 by omega)]; rfl)

theorem idx_neg_iff (l : List UInt8) (c : UInt8) : Lib.indexByte l c < 0 ↔ ∀ x ∈ l, x ≠ c := by
  induction l with
  | nil => simp [Lib.indexByte]
  | cons x l ih =>
    have hge := Lib.indexByte_ge l c
    by_cases hx : x = c
    · subst hx; simp [Lib.indexByte]
    · have h1 : (x == c) = false := beq_eq_false_iff_ne.2 hx
      simp only [Lib.indexByte, h1, Bool.false_eq_true, if_false, List.mem_cons, forall_eq_or_imp, ne_eq, hx, not_false_eq_true, true_and]
      rw [show (∀ a ∈ l, ¬ a = c) ↔ Lib.indexByte l c < 0 from ih.symm]
      by_cases h2 : Lib.indexByte l c = -1
      · rw [h2]; simp
      · have : (Lib.indexByte l c == -1) = false := beq_eq_false_iff_ne.2 h2
        rw [this]; simp; omega

theorem refName_eq (l : List UInt8) : refName l = nameL l := by
  rw [Bool.eq_iff_iff]
  simp only [refName, nameL, Bool.and_eq_true, List.all_eq_true, decide_eq_true_eq, bne_iff_ne, okC, idx_neg_iff]
  constructor
  · rintro ⟨h1, ⟨⟨h2, h3⟩, h4⟩, h5⟩
    exact ⟨⟨⟨⟨⟨List.length_pos_iff.1 h2, h4⟩, h5⟩, h3⟩, fun x hx => (h1 x hx).1⟩, fun x hx => (h1 x hx).2⟩
  · rintro ⟨⟨⟨⟨⟨h1, h4⟩, h5⟩, h3⟩, h6⟩, h7⟩
    exact ⟨fun x hx => ⟨h6 x hx, h7 x hx⟩, ⟨⟨List.length_pos_iff.2 h1, h3⟩, h4⟩, h5⟩

set_option maxHeartbeats 400000 in
theorem refSize_no (n u : Int) (w : World) (h : sizeF n u = 0) :
    Calls Try.prog 13 #[.int .i64 n, .int .i64 u] w fun e w' => e = .returned (.int .i64 0) ∧ w = w' := by
  by_cases h1 : n < 1
  · clear h
    go_enter Try.func13, Try.ntmps13
    go_wp2
    go_ret
    exact ⟨rfl, rfl⟩
  · by_cases h2 : 96 < n
    · clear h
      go_enter Try.func13, Try.ntmps13
      go_wp2
      go_ret
      exact ⟨rfl, rfl⟩
    · have hu : ¬ (u = 16 ∨ u = 32) := by
        intro hu
        unfold sizeF at h
        rw [if_neg (by omega)] at h
        rcases hu with rfl | rfl <;> omega
      have b3 : (u != 16) = true := bne_iff_ne.2 (by omega)
      have b4 : (u != 32) = true := bne_iff_ne.2 (by omega)
      clear h hu
      go_enter Try.func13, Try.ntmps13
      go_wp2
      go_ret
      exact ⟨rfl, rfl⟩

theorem sizeF_mul {n u : Int} (h1 : 1 ≤ n) (h2 : n ≤ 96) (hu : u = 16 ∨ u = 32) {k : Nat} (hk : u * k < n + u) (hn : ¬ u * k < n) : u * k = sizeF n u := by
  unfold sizeF
  rw [if_neg (by omega)]
  rcases hu with rfl | rfl <;> omega

set_option maxHeartbeats 400000 in
theorem refSize_16 (n : Int) (w : World) (h1 : 1 ≤ n) (h2 : n ≤ 96) :
    Calls Try.prog 13 #[.int .i64 n, .int .i64 16] w fun e w' => e = .returned (.int .i64 (sizeF n 16)) ∧ w = w' := by
  go_enter Try.func13, Try.ntmps13
  go_wp2
  go_loop [5] (fun i => ∃ k : Nat, 1 ≤ k ∧ i = .int .i64 (16 * (k : Int)) ∧ 16 * (k : Int) < n + 16) (fun i => (200 - intOf i).toNat)
  case atStart => exact ⟨1, by omega, by simp, by omega⟩
  case round =>
    obtain ⟨k, hk, rfl, hkn⟩ := hrel
    by_cases hlt : 16 * (k : Int) < n
    · go_wp2
      go_round
      case rel => exact ⟨k + 1, by omega, by congr 1, by omega⟩
      case measure => simp [intOf]; omega
    · have HE := Lib.hid (sizeF_mul h1 h2 (u := 16) (by decide) hkn hlt)
      go_wp2
      go_ret
      exact ⟨ret_int HE.out, rfl⟩

set_option maxHeartbeats 400000 in
theorem refSize_32 (n : Int) (w : World) (h1 : 1 ≤ n) (h2 : n ≤ 96) :
    Calls Try.prog 13 #[.int .i64 n, .int .i64 32] w fun e w' => e = .returned (.int .i64 (sizeF n 32)) ∧ w = w' := by
  go_enter Try.func13, Try.ntmps13
  go_wp2
  go_loop [5] (fun i => ∃ k : Nat, 1 ≤ k ∧ i = .int .i64 (32 * (k : Int)) ∧ 32 * (k : Int) < n + 32) (fun i => (200 - intOf i).toNat)
  case atStart => exact ⟨1, by omega, by simp, by omega⟩
  case round =>
    obtain ⟨k, hk, rfl, hkn⟩ := hrel
    by_cases hlt : 32 * (k : Int) < n
    · go_wp2
      go_round
      case rel => exact ⟨k + 1, by omega, by congr 1, by omega⟩
      case measure => simp [intOf]; omega
    · have HE := Lib.hid (sizeF_mul h1 h2 (u := 32) (by decide) hkn hlt)
      go_wp2
      go_ret
      exact ⟨ret_int HE.out, rfl⟩

theorem refSize_any (n u : Int) (w : World) :
    Calls Try.prog 13 #[.int .i64 n, .int .i64 u] w fun e w' => e = .returned (.int .i64 (sizeF n u)) ∧ w = w' := by
  by_cases h : sizeF n u = 0
  · rw [h]; exact refSize_no n u w h
  · have h1 : 1 ≤ n := by unfold sizeF at h; split at h <;> omega
    have h2 : n ≤ 96 := by unfold sizeF at h; split at h <;> omega
    have h3 : u = 16 ∨ u = 32 := by unfold sizeF at h; split at h <;> omega
    rcases h3 with rfl | rfl
    · exact refSize_16 n w h1 h2
    · exact refSize_32 n w h1 h2

theorem concat_str (a b : List UInt8) : str a ++ str b = str (a ++ b) := by
  apply ByteArray.ext
  simp [str]

theorem fillF_take {l : List UInt8} {n : Int} (k : Nat) (h1 : (l.length : Int) + k = n) : l ++ List.replicate k 0 = fillF l n := by
  unfold fillF; congr 2; omega

set_option maxHeartbeats 400000 in
theorem refFill_any (l : List UInt8) (u : Int) (w : World) (hl : l.length ≤ 70368744177664) :
    Calls Try.prog 9 #[.string (str l), .int .i64 u] w fun e w' => e = .returned (.tuple #[.string (str (padF l u)), .bool (okF l u)]) ∧ w = w' := by
  have hsz := str_size l
  cases hn : nameL l with
  | false =>
    have e1 : okF l u = false := by unfold okF; rw [hn]; rfl
    have e2 : padF l u = [] := by unfold padF; rw [e1]; rfl
    rw [e1, e2]; clear e1 e2
    rw [← refName_eq] at hn
    go_enter Try.func9, Try.ntmps9
    go_wp2_with (go_at_call 11; refine (refName_any _ _ (by omega)).mono ?_; rintro e w' ⟨rfl, rfl⟩)
    go_ret2
    exact ⟨rfl, rfl⟩
  | true =>
    have hnl := nameL_len hn
    cases hu : (u == 16 || u == 32) with
    | false =>
      have e1 : okF l u = false := by unfold okF; rw [hu]; simp
      have e2 : padF l u = [] := by unfold padF; rw [e1]; rfl
      rw [e1, e2]; clear e1 e2
      rw [← refName_eq] at hn
      simp only [Bool.or_eq_false_iff] at hu
      obtain ⟨h16, h32⟩ := hu
      have b1 : (u != 16) = true := by unfold bne; rw [h16]; rfl
      have b2 : (u != 32) = true := by unfold bne; rw [h32]; rfl
      clear h16 h32
      go_enter Try.func9, Try.ntmps9
      go_wp2_with (go_at_call 11; refine (refName_any _ _ (by omega)).mono ?_; rintro e w' ⟨rfl, rfl⟩)
      go_ret2
      exact ⟨rfl, rfl⟩
    | true =>
      have e1 : okF l u = true := by unfold okF; rw [hn, hu]; rfl
      have HS := Lib.hid (ok_size e1)
      have e2 : padF l u = fillF l (sizeF l.length u) := by unfold padF; rw [e1]; rfl
      rw [e1, e2]; clear e1 e2
      rw [← refName_eq] at hn
      have hu' : u = 16 ∨ u = 32 := by simpa using hu
      clear hu
      rcases hu' with rfl | rfl
      · go_enter Try.func9, Try.ntmps9
        go_wp2_with (first | (go_at_call 11; refine (refName_any _ _ (by omega)).mono ?_; rintro e w' ⟨rfl, rfl⟩) | (go_at_call 13; refine (refSize_any _ _ _).mono ?_; rintro e w' ⟨rfl, rfl⟩))
        clear hsz
        go_loop [0] (fun s => ∃ k : Nat, s = .string (str (l ++ List.replicate k 0)) ∧ (k = 0 ∨ (l.length : Int) + k ≤ sizeF l.length 16)) (fun s => match s with | .string b => (200 - (b.size : Int)).toNat | _ => 0)
        case atStart => exact ⟨0, by simp, .inl rfl⟩
        case round =>
          obtain ⟨k, rfl, hk⟩ := hrel
          have hz : (str (l ++ List.replicate k 0)).size = l.length + k := by rw [str_size]; simp
          by_cases hlt : ((l.length + k : Nat) : Int) < sizeF l.length 16
          · have HS' := HS.out.2.1
            go_wp2
            go_round
            case rel => exact ⟨k + 1, by rw [show ({ data := #[0] } : ByteArray) = str [0] from rfl, concat_str, List.append_assoc, List.replicate_succ'], .inr (by omega)⟩
            case measure =>
              have hz2 : (str (l ++ List.replicate k 0) ++ ({ data := #[0] } : ByteArray)).size = l.length + k + 1 := by
                rw [show ({ data := #[0] } : ByteArray) = str [0] from rfl, concat_str, str_size]; simp; omega
              simp [hz, hz2]; omega
          · have HE := Lib.hid (fillF_take (l := l) (n := sizeF l.length 16) k (by have := HS.out; omega))
            go_wp2
            go_ret2
            rw [HE.out]
            exact ⟨rfl, rfl⟩
      · go_enter Try.func9, Try.ntmps9
        go_wp2_with (first | (go_at_call 11; refine (refName_any _ _ (by omega)).mono ?_; rintro e w' ⟨rfl, rfl⟩) | (go_at_call 13; refine (refSize_any _ _ _).mono ?_; rintro e w' ⟨rfl, rfl⟩))
        clear hsz
        go_loop [0] (fun s => ∃ k : Nat, s = .string (str (l ++ List.replicate k 0)) ∧ (k = 0 ∨ (l.length : Int) + k ≤ sizeF l.length 32)) (fun s => match s with | .string b => (200 - (b.size : Int)).toNat | _ => 0)
        case atStart => exact ⟨0, by simp, .inl rfl⟩
        case round =>
          obtain ⟨k, rfl, hk⟩ := hrel
          have hz : (str (l ++ List.replicate k 0)).size = l.length + k := by rw [str_size]; simp
          by_cases hlt : ((l.length + k : Nat) : Int) < sizeF l.length 32
          · have HS' := HS.out.2.1
            go_wp2
            go_round
            case rel => exact ⟨k + 1, by rw [show ({ data := #[0] } : ByteArray) = str [0] from rfl, concat_str, List.append_assoc, List.replicate_succ'], .inr (by omega)⟩
            case measure =>
              have hz2 : (str (l ++ List.replicate k 0) ++ ({ data := #[0] } : ByteArray)).size = l.length + k + 1 := by
                rw [show ({ data := #[0] } : ByteArray) = str [0] from rfl, concat_str, str_size]; simp; omega
              simp [hz, hz2]; omega
          · have HE := Lib.hid (fillF_take (l := l) (n := sizeF l.length 32) k (by have := HS.out; omega))
            go_wp2
            go_ret2
            rw [HE.out]
            exact ⟨rfl, rfl⟩
end Go.Proofs.Ytjnmpeehadgeoaa
