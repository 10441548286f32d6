/- octets.Cut. -/
import Derived.Test.YtfmfpckpldlahaaDoorChk
import Derived.Test.YtfmfpckpldlahaaDoorReg
namespace Go.Proofs.YtfmfpckpldlahaaDoor
open Go.RowKit Go.Shelf
attribute [local go_sem] Oper.semAt_some

theorem TBB : ElemT Tryd.prog 40 22 (.slice none 0 0) 24 := ⟨Tryd.underlying40, by kernel_rfl, rfl⟩

/-- The values vs are slices of bytes of their own that hold xss. -/
def Each (W : World) (base : Nat) (vs : List Value) (xss : List (List UInt8)) : Prop :=
  vs.length = xss.length ∧ ∀ (i : Nat) (xs : List UInt8), xss[i]? = some xs → ∃ v, vs[i]? = some v ∧ W.ownsRow base 5 1 v xs.length (xs.map bV)

theorem Each.map {W W' : World} {base : Nat} {vs : List Value} {xss : List (List UInt8)} (h : Each W base vs xss) (hk : ∀ v n xs, W.ownsRow base 5 1 v n xs → W'.ownsRow base 5 1 v n xs) : Each W' base vs xss :=
  ⟨h.1, fun i xs hi => by obtain ⟨v, hv, hr⟩ := h.2 i xs hi; exact ⟨v, hv, hk _ _ _ hr⟩⟩

theorem Each.push {W : World} {base : Nat} {vs : List Value} {xss : List (List UInt8)} (h : Each W base vs xss) {v : Value} {xs : List UInt8} (hv : W.ownsRow base 5 1 v xs.length (xs.map bV)) : Each W base (vs ++ [v]) (xss ++ [xs]) := by
  refine ⟨by simp [h.1], fun i ys hi => ?_⟩
  by_cases hlt : i < xss.length
  · rw [List.getElem?_append_left hlt] at hi
    obtain ⟨u, hu, hr⟩ := h.2 i ys hi
    exact ⟨u, by rw [List.getElem?_append_left (by rw [h.1]; exact hlt)]; exact hu, hr⟩
  · rw [List.getElem?_append_right (by omega)] at hi
    have : i - xss.length = 0 := by
      have := (List.getElem?_eq_some_iff.1 hi).1
      simp at this; omega
    rw [this] at hi
    obtain rfl : xs = ys := by simpa using hi
    exact ⟨v, by rw [List.getElem?_append_right (by rw [h.1]; omega), h.1, this]; rfl, hv⟩

theorem Each.nil (W : World) (base : Nat) : Each W base [] [] := ⟨rfl, fun i xs h => by simp at h⟩
theorem Each.base {W : World} {b b' : Nat} {vs : List Value} {xss : List (List UInt8)} (h : Each W b vs xss) (hb : b' ≤ b) : Each W b' vs xss :=
  ⟨h.1, fun i xs hi => by obtain ⟨v, hv, hr⟩ := h.2 i xs hi; exact ⟨v, hv, ownsRow_base hr hb⟩⟩
theorem Each.below {W W' : World} {b : Nat} {vs : List Value} {xss : List (List UInt8)} (h : Each W b vs xss) (hb : Below W.heap.size W W') : Each W' b vs xss := h.map fun _ _ _ hr => ownsRow_below hr hb

/-- A row of another type isn't the row that is written. -/
theorem own_kept_ne {w w1 : World} {base base2 size size2 n n2 : Nat} {e e2 : TypeId} {v v2 : Value} {xs xs2 : List Value} (h : w.ownsRow base e size v n xs) (h2 : w.ownsRow base2 e2 size2 v2 n2 xs2) (hne : e ≠ e2) (hg : w.grownBy w1 v2.ownBlock) : w1.ownsRow base e size v n xs := by
  refine h.kept hg ?_
  rcases h.2 with ⟨rfl, _⟩ | ⟨g, cap, cur, rfl, _, hgb, _⟩
  · exact .inl rfl
  · refine .inr fun e' => ?_
    rcases h2.2 with ⟨rfl, _⟩ | ⟨g2, cap2, cur2, rfl, _, hgb2, _⟩
    · simp [Value.ownBlock] at e'
    · obtain rfl : g = g2 := by simpa [Value.ownBlock] using e'
      rw [hgb] at hgb2
      simp at hgb2
      exact hne hgb2.2

theorem own_kept_box {w w1 : World} {base size n B : Nat} {e t : TypeId} {v u : Value} {xs : List Value} (h : w.ownsRow base e size v n xs) (h2 : Boxed w B t u) (hne : e ≠ t) (hg : w.grownBy w1 (some B)) : w1.ownsRow base e size v n xs := by
  refine h.kept hg ?_
  rcases h.2 with ⟨rfl, _⟩ | ⟨g, cap, cur, rfl, _, hgb, _⟩
  · exact .inl rfl
  · refine .inr fun e' => ?_
    obtain rfl : g = B := by simpa [Value.ownBlock] using e'
    rw [show w.heap[g]? = _ from h2] at hgb
    simp at hgb
    exact hne hgb.2.symm

/-- What a function that gives pieces comes to. -/
def GivesBB (xss : List (List UInt8)) (w : World) (e : Ending) (w' : World) : Prop :=
  ∃ v vs, e = .returned v ∧ w'.ownsRow w.heap.size 22 1 v xss.length vs ∧ Each w' w.heap.size vs xss ∧ Below w.heap.size w w'

def pieceF (xs : List UInt8) (s j : Nat) : List UInt8 := (xs.drop (j * s)).take s
def cutF (xs : List UInt8) (size : Int) : List (List UInt8) := if size < 1 then [] else (List.range (nCh xs.length size.toNat)).map (pieceF xs size.toNat)

theorem piece_rd {w : World} {A : Option Addr} {xs : List UInt8} (h : RdB w A xs) {b off : Nat} (hA : A = some ⟨b, off, none⟩ ∨ xs.length = 0) (s j : Nat) : RdB w (some ⟨b, off + j * s, none⟩) (pieceF xs s j) := by
  by_cases hx : xs = []
  · subst hx; unfold pieceF; simp only [List.drop_nil, List.take_nil]; exact Rd.nil _ _
  · rcases hA with rfl | h0
    · rcases h with h | ⟨b', o', hA, h⟩
      · exact absurd (by simpa using h) hx
      · cases hA
        refine Rd.mk fun i hi => ?_
        unfold pieceF at hi ⊢
        simp only [List.length_map, List.length_take, List.length_drop] at hi
        rw [Nat.add_assoc, h (j * s + i) (by rw [List.length_map]; omega), List.getElem?_map, List.getElem?_map, List.getElem?_take, if_pos (by omega), List.getElem?_drop]
    · exact absurd (List.length_eq_zero_iff.1 h0) hx

theorem piece_len (xs : List UInt8) (s j : Nat) : (pieceF xs s j).length = min s (xs.length - j * s) := by simp [pieceF]

theorem each_own (n₀ : Nat) {W W' : World} {row : Option Nat} {vs : List Value} {xss : List (List UInt8)} (h : Each W n₀ vs xss) (hg : W.grownBy W' row) (hrow : ∀ r, row = some r → ∃ o : Obj, W.heap[r]? = some o ∧ o.isCells = false) : Each W' n₀ vs xss :=
  h.map fun v n xs hr => hr.kept hg (by
    rcases hr.2 with ⟨rfl, _⟩ | ⟨g, cap, cur, rfl, _, hgb, _⟩
    · exact .inl rfl
    · refine .inr fun e' => ?_
      obtain ⟨o, ho, hc⟩ := hrow g (by simpa [Value.ownBlock] using e'.symm)
      rw [hgb] at ho; cases ho; cases hc)

/-- One operation of a region in a round, run to its end. -/
theorem step_run {F : Fence} {n : Nat} {P : Program} {o : Oper} {a : Act} {w w1 : World} {v : Value} {K : Act → World → Prop} {Q : Exit → Act → World → Prop} {ops : Array Oper} (hw : Region.wanted o (yielded ops a.tmps) = true)
    (hF : ∀ f, o.about P w a.eval = some f → F.fn f) (hs : o.semAt F.round a.eval = execOp a.eval o) (hr : (execOp a.eval o).run P w = .ok (.value v) w1) {N : Option Tmp} (hN : o.dst = N) {a' : Act} (ha : a.put N v = a') (h : K a' w1) :
    if Region.wanted o (yielded ops a.tmps) = true then Oper.wpIn F n P o a w K Q else (∀ f, o.about P w a.eval = some f → F.fn f) ∧ K (a.put o.dst undef) w := by
  subst ha hN
  rw [if_pos hw]
  unfold Oper.wpIn
  refine ⟨hF, ?_⟩
  rw [hs, hr]
  exact h

end Go.Proofs.YtfmfpckpldlahaaDoor
