/- Contracts of slices.Clone at bytes and octets.Fill. -/
import Derived.Test.YthmdnpaebdlefaaBase
namespace Go.Proofs.Ythmdnpaebdlefaa
open Go.RowKit
theorem TB : ElemT Try.prog 29 5 (.int .u8 0) 1 := ⟨Try.underlying29, by kernel_rfl, rfl⟩

/-- What a function that gives a new slice of bytes comes to. -/
def GivesB (xs : List UInt8) (w : World) (e : Ending) (w' : World) : Prop :=
  ∃ v, e = .returned v ∧ w'.ownsRow w.heap.size 5 1 v xs.length (xs.map bV) ∧ Below w.heap.size w w'

set_option maxHeartbeats 400000 in
theorem clone_any (A : Option Addr) (n c : Nat) (xs : List UInt8) (w : World) (hn : xs.length = n) (h : RdB w A xs) (hb : n ≤ 70368744177664) :
    Calls Try.prog 28 #[.slice A n c] w (GivesB xs w) := by
  have he := fun wx => Lib.run_eql_slice_nil (P := Try.prog) wx 29 5 A n c 0 0 Try.underlying29
  have H := Lib.hid h; clear h
  have HN := Lib.hid hn; clear hn
  cases A with
  | none =>
    go_enter Try.func28, Try.ntmps28
    go_wp2
    go_ret
    have : xs = [] := by
      rcases H.out with h | ⟨b, o, h, _⟩
      · simpa using h
      · cases h
    subst this
    exact ⟨_, rfl, World.ownsRow_nil _ _ _ _, Below.refl _ _⟩
  | some a =>
    have hsrc := Lib.hid fun o => RdB.src (c := c) (Try.underlying29) (H.out.keep ((Below.refl _ w).alloc (Nat.le_refl _) o)) HN.out
    go_enter Try.func28, Try.ntmps28
    go_wp2_with (at_builtin; go_loud (refine wpList_app' TB w.heap.size (World.ownsRow_made w #[] 0 (Nat.le_refl _) (Nat.zero_le _) rfl) _ (hsrc.out _) rfl rfl rfl rfl (by unfold maxLen; omega) (by omega) (by simp) ((Below.refl _ w).alloc (Nat.le_refl _) _) (fun A1 c1 w1 hown hg hbel => ?_)); rw [Nat.zero_add, List.nil_append] at hown)
    go_ret
    refine ⟨_, rfl, ?_, ?_⟩
    · rw [HN.out]; exact hown
    · exact hbel

def fillF (xs : List UInt8) (size : Int) : List UInt8 := xs ++ List.replicate (size.toNat - xs.length) 0

theorem fillF_length (xs : List UInt8) (size : Int) : (fillF xs size).length = max xs.length size.toNat := by
  simp [fillF]; omega

set_option maxHeartbeats 400000 in
theorem fill_any (A : Option Addr) (n c : Nat) (xs : List UInt8) (size : Int) (w : World) (hn : xs.length = n) (h : RdB w A xs) (hb : n ≤ 70368744177664) (hsz : size ≤ 70368744177664) :
    Calls Try.prog 17 #[.slice A n c, .int .i64 size] w (GivesB (fillF xs size) w) := by
  have HN := Lib.hid hn; clear hn
  have H := Lib.hid h; clear h
  go_enter Try.func17, Try.ntmps17
  go_wp2_with (go_at_call 28; refine (clone_any A n c xs _ HN.out H.out hb).mono ?_; rintro e w1 ⟨v, rfl, hown, hbel⟩)
  go_loopw [5] (fun v wr => ∃ (k : Nat) (A' : Option Addr) (c' : Nat), v = .slice A' (n + k) c' ∧ (k = 0 ∨ n + k ≤ size.toNat) ∧ wr.ownsRow w.heap.size 5 1 v (n + k) ((xs ++ List.replicate k 0).map bV) ∧ Below w.heap.size w wr) (fun v _ => match v with | .slice _ l _ => size.toNat - l | _ => 0)
  case atStart =>
    obtain ⟨A', c', rfl, _⟩ := own_rd hown
    rw [HN.out] at hown ⊢
    exact ⟨0, A', c', by simp, .inl rfl, by simpa using hown, hbel⟩
  case round =>
    clear hown hbel
    obtain ⟨k, A', c', rfl, hk, hown, hbel⟩ := hrel
    by_cases hlt : ((n + k : Nat) : Int) < size
    · have hsrc := Lib.hid fun (wx : World) => RdB.src (P := Try.prog) (c := 1) (A := some ⟨wx.heap.size, 0, none⟩) (w := wx.alloc (.cells #[.int .u8 0] 5)) (xs := [0]) (n := 1) Try.underlying29 (Rd.mk (fun i hi => by simp at hi; subst hi; simp [bV])) rfl
      go_wp2_with (at_builtin; go_loud (refine wpList_app' TB w.heap.size (hown.alloc _) _ (hsrc.out _) rfl rfl rfl rfl (by unfold maxLen; omega) (by omega) (by have := hbel.size; simp; omega) (hbel.alloc hbel.size _) (fun A1 c1 w1 hown1 hg hbel1 => ?_)))
      go_roundw
      case rel =>
        refine ⟨k + 1, A1, c1, rfl, .inr (by omega), ?_, ?_⟩
        · rw [List.replicate_succ', ← List.append_assoc, List.map_append]; exact hown1
        · exact hbel1
      case measure => simp; omega
    · go_wp2
      go_ret
      refine ⟨_, rfl, ?_, hbel⟩
      have e : fillF xs size = xs ++ List.replicate k 0 := by
        unfold fillF; congr 2; have := HN.out; omega
      rw [e, List.length_append, List.length_replicate, HN.out]
      exact hown
end Go.Proofs.Ythmdnpaebdlefaa
