/- the reference's Pieces, All. -/
import Derived.Test.YtnopoiidekklfaaCut
import Derived.Test.YtnopoiidekklfaaOctV
namespace Go.Proofs.Ytnopoiidekklfaa
open Go.RowKit

/-- The slices of bytes behind A read as xss. -/
def RdBB (w : World) (A : Option Addr) (vs : List Value) (xss : List (List UInt8)) : Prop :=
  Rd w A vs ∧ vs.length = xss.length ∧ ∀ (i : Nat) (xs : List UInt8), xss[i]? = some xs → ∃ (Ai : Option Addr) (ci : Nat), vs[i]? = some (.slice Ai xs.length ci) ∧ RdB w Ai xs

theorem Each.rd {w : World} {base : Nat} {vs : List Value} {xss : List (List UInt8)} (h : Each w base vs xss) {A : Option Addr} (hA : Rd w A vs) : RdBB w A vs xss :=
  ⟨hA, h.1, fun i xs hi => by
    obtain ⟨v, hv, hr⟩ := h.2 i xs hi
    obtain ⟨Ai, ci, rfl, _, _, hrd, _⟩ := own_rd hr
    exact ⟨Ai, ci, hv, hrd⟩⟩

theorem RdBB.keep {w w' : World} {A : Option Addr} {vs : List Value} {xss : List (List UInt8)} (h : RdBB w A vs xss) (hb : Below w.heap.size w w') : RdBB w' A vs xss :=
  ⟨h.1.keep hb, h.2.1, fun i xs hi => by obtain ⟨Ai, ci, hv, hr⟩ := h.2.2 i xs hi; exact ⟨Ai, ci, hv, hr.keep hb⟩⟩

theorem RdB.drewN {w : World} {A : Option Addr} {xs : List UInt8} (h : RdB w A xs) (n : Nat) : RdB (w.drewN n) A xs := h
theorem RdBB.drewN {w : World} {A : Option Addr} {vs : List Value} {xss : List (List UInt8)} (h : RdBB w A vs xss) (n : Nat) : RdBB (w.drewN n) A vs xss := h

/-- The i-th piece: where it is read, and what it is as a string. -/
theorem RdBB.at {w : World} {A : Option Addr} {vs : List Value} {xss : List (List UInt8)} (h : RdBB w A vs xss) {i : Nat} (hi : i < xss.length) :
    ∃ (b o : Nat) (Ai : Option Addr) (ci : Nat), A = some ⟨b, o, none⟩ ∧ w.cell? ⟨b, o + i, none⟩ = some (.slice Ai xss[i].length ci) ∧ RdB w Ai xss[i] := by
  obtain ⟨Ai, ci, hv, hr⟩ := h.2.2 i xss[i] (List.getElem?_eq_getElem hi)
  have hiv : i < vs.length := by rw [h.2.1]; exact hi
  rcases h.1 with h1 | ⟨b, o, hA, h1⟩
  · rw [h1] at hiv; simp at hiv
  · exact ⟨b, o, Ai, ci, hA, (h1 i hiv).trans hv, hr⟩

theorem str_beq (a b : List UInt8) : ((str a).toList == (str b).toList) = (a == b) := by rw [str_toList, str_toList]

set_option maxHeartbeats 1000000 in
theorem pieces_any (A A' : Option Addr) (n n' c c' : Nat) (vs vs' : List Value) (xss yss : List (List UInt8)) (w : World) (hn : xss.length = n) (hn' : yss.length = n') (h : RdBB w A vs xss) (h' : RdBB w A' vs' yss) (hb : n ≤ 70368744177664) (hb' : n' ≤ 70368744177664) :
    Calls Try.prog 16 #[.slice A n c, .slice A' n' c'] w fun e w' => e = .returned (.bool (xss == yss)) ∧ ∃ m, w' = w.drewN m := by
  have HN := Lib.hid hn; clear hn
  have HN' := Lib.hid hn'; clear hn'
  have H := Lib.hid h; clear h
  have H' := Lib.hid h'; clear h'
  generalize hR : (xss == yss) = r
  have HR := Lib.hid hR
  clear hR
  by_cases hne : n = n'
  case neg =>
    have e : (xss == yss) = false := by
      rw [beq_eq_false_iff_ne]; intro e; have := HN.out; have := HN'.out; rw [e] at *; omega
    have hi : ((n : Int) != (n' : Int)) = true := by rw [bne_iff_ne]; omega
    obtain rfl : r = false := HR.out.symm.trans e
    clear e
    go_enter Try.func16, Try.ntmps16
    go_wp2
    go_ret
    exact ⟨rfl, 0, rfl⟩
  subst hne
  go_enter Try.func16, Try.ntmps16
  go_wp2
  go_loopw [5] (fun i wr => ∃ k m : Nat, i = .int .i64 (k : Int) ∧ k ≤ n ∧ Hid (wr = w.drewN m) ∧ Hid (xss.take k = yss.take k)) (fun i _ => n - (intOf i).toNat)
  case atStart => exact ⟨0, 0, rfl, Nat.zero_le _, Lib.hid rfl, Lib.hid (by simp)⟩
  case round =>
    obtain ⟨k, m, rfl, hk, HWR, HT⟩ := hrel
    have H2 : RdBB wr A vs xss := by rw [HWR.out]; exact H.out
    have H2' : RdBB wr A' vs' yss := by rw [HWR.out]; exact H'.out
    by_cases hlt : k < n
    · obtain ⟨b, o, Ai, ci, hA, hc, hr⟩ := H2.at (i := k) (by rw [HN.out]; exact hlt)
      obtain ⟨b', o', Ai', ci', hA', hc', hr'⟩ := H2'.at (i := k) (by rw [HN'.out]; exact hlt)
      generalize hx : xss[k]'(by rw [HN.out]; exact hlt) = x at *
      generalize hy : yss[k]'(by rw [HN'.out]; exact hlt) = y at *
      have HX := Lib.hid hx
      have HY := Lib.hid hy
      clear hx hy
      subst hA hA'
      clear H2 H2'
      have hs1 := fun q => run_str (wr.drewN q) (P := Try.prog) (c := ci) Try.underlying22 Try.underlying5 (RdB.drewN hr q) rfl Try.underlying9
      have hs2 := fun q => run_str (wr.drewN q) (P := Try.prog) (c := ci') Try.underlying22 Try.underlying5 (RdB.drewN hr' q) rfl Try.underlying9
      cases hxy : (x == y) with
      | false =>
        have hne : ((str x).toList == (str y).toList) = false := by rw [str_beq, hxy]
        have e : (xss == yss) = false := by
          rw [beq_eq_false_iff_ne]; intro e; subst e
          have : x = y := HX.out.symm.trans HY.out
          rw [this] at hxy; simp at hxy
        obtain rfl : r = false := HR.out.symm.trans e
        clear e hxy
        go_wp2
        go_quiet (fail)
        go_wp2
        go_ret
        exact ⟨rfl, m + nq, by rw [HWR.out, World.drewN_drewN]⟩
      | true =>
        have hne : ((str x).toList == (str y).toList) = true := by rw [str_beq, hxy]
        have HXY := Lib.hid (eq_of_beq hxy)
        clear hxy
        go_wp2
        go_quiet (fail)
        go_wp2
        go_roundw
        case rel =>
          refine ⟨k + 1, m + nq, by simp, by omega, Lib.hid (by rw [HWR.out, World.drewN_drewN]), Lib.hid ?_⟩
          rw [List.take_succ_eq_append_getElem (by rw [HN.out]; exact hlt), List.take_succ_eq_append_getElem (by rw [HN'.out]; exact hlt), HT.out, HX.out, HY.out, HXY.out]
        case measure => simp [intOf]; omega
    · obtain rfl : k = n := by omega
      have e : (xss == yss) = true := by
        rw [beq_iff_eq]
        have := HT.out
        rwa [List.take_of_length_le (by rw [HN.out]; exact Nat.le_refl _), List.take_of_length_le (by rw [HN'.out]; exact Nat.le_refl _)] at this
      obtain rfl : r = true := HR.out.symm.trans e
      clear e
      go_wp2
      go_ret
      exact ⟨rfl, m, HWR.out⟩
end Go.Proofs.Ytnopoiidekklfaa
