/- Contracts of slices.Clone at bytes and octets.Fill. -/
import Derived.Test.YthamhaomfdgdjaaBase
namespace Go.Proofs.Ythamhaomfdgdjaa
open Go.RowKit
theorem TB : ElemT Try.prog 26 5 (.int .u8 0) 1 := ⟨Try.underlying26, by kernel_rfl, rfl⟩

/-- What a function that gives a new slice of bytes comes to. -/
def GivesB (xs : List UInt8) (w : World) (e : Ending) (w' : World) : Prop :=
  ∃ v, e = .returned v ∧ w'.ownsRow w.heap.size 5 1 v xs.length (xs.map bV) ∧ Below w.heap.size w w'

set_option maxHeartbeats 400000 in
theorem clone_any (A : Option Addr) (n c : Nat) (xs : List UInt8) (w : World) (hn : xs.length = n) (h : RdB w A xs) (hb : n ≤ 70368744177664) :
    Calls Try.prog 33 #[.slice A n c] w (GivesB xs w) := by
  have he := fun wx => Lib.run_eql_slice_nil (P := Try.prog) wx 26 5 A n c 0 0 Try.underlying26
  have H := Lib.hid h; clear h
  have HN := Lib.hid hn; clear hn
  cases A with
  | none =>
    go_enter Try.func33, Try.ntmps33
    go_wp2
    go_ret
    have : xs = [] := by
      rcases H.out with h | ⟨b, o, h, _⟩
      · simpa using h
      · cases h
    subst this
    exact ⟨_, rfl, World.ownsRow_nil _ _ _ _, Below.refl _ _⟩
  | some a =>
    have hsrc := Lib.hid fun o => RdB.src (c := c) (Try.underlying26) (H.out.keep ((Below.refl _ w).alloc (Nat.le_refl _) o)) HN.out
    go_enter Try.func33, Try.ntmps33
    go_wp2_with (at_builtin; go_loud (refine wpList_app' TB w.heap.size (World.ownsRow_made w #[] 0 (Nat.le_refl _) (Nat.zero_le _) rfl) _ (hsrc.out _) rfl rfl rfl rfl (by unfold maxLen; omega) (by omega) (by simp) ((Below.refl _ w).alloc (Nat.le_refl _) _) (fun A1 c1 w1 hown hg hbel => ?_)); rw [Nat.zero_add, List.nil_append] at hown)
    go_ret
    refine ⟨_, rfl, ?_, ?_⟩
    · rw [HN.out]; exact hown
    · exact hbel

def fillF (xs : List UInt8) (size : Int) : List UInt8 := xs ++ List.replicate (size.toNat - xs.length) 0

theorem fillF_length (xs : List UInt8) (size : Int) : (fillF xs size).length = max xs.length size.toNat := by
  simp [fillF]; omega

end Go.Proofs.Ythamhaomfdgdjaa
