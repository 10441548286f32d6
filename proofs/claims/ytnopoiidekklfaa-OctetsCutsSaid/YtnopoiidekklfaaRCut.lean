/- the reference's Fill, Cut and All. -/
import Derived.Test.YtnopoiidekklfaaPcs
import Derived.Test.YtnopoiidekklfaaSet
namespace Go.Proofs.Ytnopoiidekklfaa
open Go.RowKit

set_option maxHeartbeats 400000 in
theorem refFill_any (A : Option Addr) (n c : Nat) (xs : List UInt8) (size : Int) (w : World) (hn : xs.length = n) (h : RdB w A xs) (hb : n ≤ 70368744177664) (hsz : size ≤ 70368744177664) :
    Calls Try.prog 19 #[.slice A n c, .int .i64 size] w (GivesB (fillF xs size) w) := by
  have HN := Lib.hid hn; clear hn
  have H := Lib.hid h; clear h
  have hsrc0 := Lib.hid fun o => RdB.src (c := c) (Try.underlying22) (H.out.keep ((Below.refl _ w).alloc (Nat.le_refl _) o)) HN.out
  go_enter Try.func19, Try.ntmps19
  go_wp2_with (at_builtin; go_loud (refine wpList_app' TB w.heap.size (World.ownsRow_made w #[] 0 (Nat.le_refl _) (Nat.zero_le _) rfl) _ (hsrc0.out _) rfl rfl rfl rfl (by unfold maxLen; omega) (by omega) (by simp) ((Below.refl _ w).alloc (Nat.le_refl _) _) (fun A1 c1 w1 hown hg hbel => ?_)); rw [Nat.zero_add, List.nil_append] at hown; rw [Nat.zero_add])
  go_loopw [5] (fun v wr => ∃ (k : Nat) (A' : Option Addr) (c' : Nat), v = .slice A' (n + k) c' ∧ (k = 0 ∨ n + k ≤ size.toNat) ∧ wr.ownsRow w.heap.size 5 1 v (n + k) ((xs ++ List.replicate k 0).map bV) ∧ Below w.heap.size w wr) (fun v _ => match v with | .slice _ l _ => size.toNat - l | _ => 0)
  case atStart => exact ⟨0, A1, c1, by simp, .inl rfl, by simpa using hown, hbel⟩
  case round =>
    clear hown hbel hg
    obtain ⟨k, A', c', rfl, hk, hown, hbel⟩ := hrel
    by_cases hlt : ((n + k : Nat) : Int) < size
    · have hsrc := Lib.hid fun (wx : World) => RdB.src (P := Try.prog) (c := 1) (A := some ⟨wx.heap.size, 0, none⟩) (w := wx.alloc (.cells #[.int .u8 0] 5)) (xs := [0]) (n := 1) Try.underlying22 (Rd.mk (fun i hi => by simp at hi; subst hi; simp [bV])) rfl
      go_wp2_with (at_builtin; go_loud (refine wpList_app' TB w.heap.size (hown.alloc _) _ (hsrc.out _) rfl rfl rfl rfl (by unfold maxLen; omega) (by omega) (by have := hbel.size; simp; omega) (hbel.alloc hbel.size _) (fun A1 c1 w1 hown1 hg hbel1 => ?_)))
      go_roundw
      case rel =>
        refine ⟨k + 1, A1, c1, rfl, .inr (by omega), ?_, ?_⟩
        · rw [List.replicate_succ', ← List.append_assoc, List.map_append]; exact hown1
        · exact hbel1
      case measure => simp; omega
    · go_wp2
      go_ret
      refine ⟨_, rfl, ?_, hbel⟩
      have e : fillF xs size = xs ++ List.replicate k 0 := by
        unfold fillF; congr 2; have := HN.out; omega
      rw [e, List.length_append, List.length_replicate, HN.out]
      exact hown

set_option maxHeartbeats 800000 in
theorem all_any (A : Option Addr) (n c : Nat) (vs : List Value) (xss : List (List UInt8)) (w : World) (hn : xss.length = n) (h : RdBB w A vs xss) (hb : xss.flatten.length ≤ 70368744177664) (hn2 : n ≤ 70368744177664) :
    Calls Try.prog 18 #[.slice A n c] w (GivesB xss.flatten w) := by
  have HN := Lib.hid hn; clear hn
  have H := Lib.hid h; clear h
  go_enter Try.func18, Try.ntmps18
  go_wp2
  go_loopw [3, 4] (fun v i wr => ∃ (k l : Nat) (A1 : Option Addr) (c1 : Nat), i = .int .i64 (k : Int) ∧ v = .slice A1 l c1 ∧ k ≤ n ∧ Hid ((xss.take k).flatten.length = l) ∧ wr.ownsRow w.heap.size 5 1 (.slice A1 l c1) l ((xss.take k).flatten.map bV) ∧ Below w.heap.size w wr) (fun _ i _ => n - (intOf i).toNat)
  case atStart => exact ⟨0, 0, none, 0, rfl, rfl, Nat.zero_le _, Lib.hid (by simp), by simp [World.ownsRow_nil], Below.refl _ _⟩
  case round =>
    obtain ⟨k, l, A1, c1, rfl, rfl, hk, HL, hown, hbel⟩ := hrel
    by_cases hlt : k < n
    · obtain ⟨b, o, Ai, ci, rfl, hc, hr⟩ := (H.out.keep hbel).at (i := k) (by rw [HN.out]; exact hlt)
      have hfl : (xss.take (k + 1)).flatten = (xss.take k).flatten ++ xss[k]'(by rw [HN.out]; exact hlt) := by
        rw [List.take_succ_eq_append_getElem (by rw [HN.out]; exact hlt), List.flatten_append]; simp
      have hle : (xss.take (k + 1)).flatten.length ≤ xss.flatten.length := by
        conv => rhs; rw [← List.take_append_drop (k + 1) xss, List.flatten_append, List.length_append]
        omega
      generalize hx : xss[k]'(by rw [HN.out]; exact hlt) = x at *
      clear hx
      rw [hfl, List.length_append, HL.out] at hle
      have HFL := Lib.hid hfl
      clear hfl
      have hsrc := Lib.hid (RdB.src (P := Try.prog) (c := ci) Try.underlying22 hr rfl)
      go_wp2_with (at_builtin; go_loud (refine wpList_app' TB w.heap.size hown _ hsrc.out rfl rfl rfl rfl (by unfold maxLen; omega) (by omega) (by have := hbel.size; omega) hbel (fun A2 c2 w1 hown1 hg hbel1 => ?_)))
      go_roundw
      case rel =>
        refine ⟨k + 1, l + x.length, A2, c2, by simp, rfl, by omega, Lib.hid (by rw [HFL.out, List.length_append, HL.out]), ?_, hbel1⟩
        rw [HFL.out, List.map_append]; exact hown1
      case measure => simp [intOf]; omega
    · obtain rfl : k = n := by omega
      rw [List.take_of_length_le (by rw [HN.out]; omega)] at hown HL
      have HO := Lib.hid hown
      clear hown
      go_wp2
      go_ret
      exact ⟨_, rfl, by rw [HL.out]; exact HO.out, hbel⟩
end Go.Proofs.Ytnopoiidekklfaa
