/- the reference's Pieces. -/
import Derived.Test.YthmdnpaebdlefaaBB
import Derived.Test.YthmdnpaebdlefaaCut
namespace Go.Proofs.Ythmdnpaebdlefaa
open Go.RowKit

theorem Each.rd {w : World} {base : Nat} {vs : List Value} {xss : List (List UInt8)} (h : Each w base vs xss) {A : Option Addr} (hA : Rd w A vs) : RdBB w A vs xss :=
  ⟨hA, h.1, fun i xs hi => by
    obtain ⟨v, hv, hr⟩ := h.2 i xs hi
    obtain ⟨Ai, ci, rfl, _, _, hrd, _⟩ := own_rd hr
    exact ⟨Ai, ci, hv, hrd⟩⟩

end Go.Proofs.Ythmdnpaebdlefaa
