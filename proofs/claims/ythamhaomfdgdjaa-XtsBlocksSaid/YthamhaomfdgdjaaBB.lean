/- Slices of slices of bytes. -/
import Derived.Test.YthamhaomfdgdjaaBase
namespace Go.Proofs.Ythamhaomfdgdjaa
open Go.RowKit

/-- The slices of bytes behind A read as xss. -/
def RdBB (w : World) (A : Option Addr) (vs : List Value) (xss : List (List UInt8)) : Prop :=
  Rd w A vs ∧ vs.length = xss.length ∧ ∀ (i : Nat) (xs : List UInt8), xss[i]? = some xs → ∃ (Ai : Option Addr) (ci : Nat), vs[i]? = some (.slice Ai xs.length ci) ∧ RdB w Ai xs

theorem RdBB.keep {w w' : World} {A : Option Addr} {vs : List Value} {xss : List (List UInt8)} (h : RdBB w A vs xss) (hb : Below w.heap.size w w') : RdBB w' A vs xss :=
  ⟨h.1.keep hb, h.2.1, fun i xs hi => by obtain ⟨Ai, ci, hv, hr⟩ := h.2.2 i xs hi; exact ⟨Ai, ci, hv, hr.keep hb⟩⟩

theorem RdB.drewN {w : World} {A : Option Addr} {xs : List UInt8} (h : RdB w A xs) (n : Nat) : RdB (w.drewN n) A xs := h
theorem RdBB.drewN {w : World} {A : Option Addr} {vs : List Value} {xss : List (List UInt8)} (h : RdBB w A vs xss) (n : Nat) : RdBB (w.drewN n) A vs xss := h

/-- The i-th piece: where it is read, and what it is as a string. -/
theorem RdBB.at {w : World} {A : Option Addr} {vs : List Value} {xss : List (List UInt8)} (h : RdBB w A vs xss) {i : Nat} (hi : i < xss.length) :
    ∃ (b o : Nat) (Ai : Option Addr) (ci : Nat), A = some ⟨b, o, none⟩ ∧ w.cell? ⟨b, o + i, none⟩ = some (.slice Ai xss[i].length ci) ∧ RdB w Ai xss[i] := by
  obtain ⟨Ai, ci, hv, hr⟩ := h.2.2 i xss[i] (List.getElem?_eq_getElem hi)
  have hiv : i < vs.length := by rw [h.2.1]; exact hi
  rcases h.1 with h1 | ⟨b, o, hA, h1⟩
  · rw [h1] at hiv; simp at hiv
  · exact ⟨b, o, Ai, ci, hA, (h1 i hiv).trans hv, hr⟩

theorem str_beq (a b : List UInt8) : ((str a).toList == (str b).toList) = (a == b) := by rw [str_toList, str_toList]

end Go.Proofs.Ythamhaomfdgdjaa
