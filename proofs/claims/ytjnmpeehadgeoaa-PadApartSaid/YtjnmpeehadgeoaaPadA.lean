/- Contracts of pad.Name, pad.Size and pad.Fill. -/
import Derived.Test.YtjnmpeehadgeoaaOctA
import Derived.Test.YtjnmpeehadgeoaaIdx
namespace Go.Proofs.Ytjnmpeehadgeoaa
open Go.RowKit

def nameL (l : List UInt8) : Bool := l != [] && l != [46] && l != [46, 46] && decide (l.length ≤ 96) && decide (Lib.indexByte l 0 < 0) && decide (Lib.indexByte l 47 < 0)
def sizeF (n u : Int) : Int := if n < 1 ∨ n > 96 ∨ (u ≠ 16 ∧ u ≠ 32) then 0 else (n + u - 1) / u * u

set_option maxHeartbeats 400000 in
theorem size_any (n u : Int) (w : World) :
    Calls Try.prog 12 #[.int .i64 n, .int .i64 u] w fun e w' => e = .returned (.int .i64 (sizeF n u)) ∧ w = w' := by
  by_cases h1 : n < 1
  · have e : sizeF n u = 0 := by unfold sizeF; rw [if_pos (.inl h1)]
    rw [e]; clear e
    go_enter Try.func12, Try.ntmps12
    go_wp2
    go_ret
    exact ⟨rfl, rfl⟩
  · by_cases h2 : 96 < n
    · have e : sizeF n u = 0 := by unfold sizeF; rw [if_pos (.inr (.inl h2))]
      rw [e]; clear e
      go_enter Try.func12, Try.ntmps12
      go_wp2
      go_ret
      exact ⟨rfl, rfl⟩
    · by_cases h3 : u = 16
      · subst h3
        have e : sizeF n 16 = (n + 16 - 1) / 16 * 16 := by unfold sizeF; rw [if_neg (by omega)]
        rw [e]; clear e
        go_enter Try.func12, Try.ntmps12
        go_wp2
        go_ret
        exact ⟨rfl, rfl⟩
      · by_cases h4 : u = 32
        · subst h4
          have e : sizeF n 32 = (n + 32 - 1) / 32 * 32 := by unfold sizeF; rw [if_neg (by omega)]
          rw [e]; clear e h3
          go_enter Try.func12, Try.ntmps12
          go_wp2
          go_ret
          exact ⟨rfl, rfl⟩
        · have e : sizeF n u = 0 := by unfold sizeF; rw [if_pos (.inr (.inr ⟨h3, h4⟩))]
          rw [e]; clear e
          have b3 : (u != 16) = true := bne_iff_ne.2 h3
          have b4 : (u != 32) = true := bne_iff_ne.2 h4
          clear h3 h4
          go_enter Try.func12, Try.ntmps12
          go_wp2
          go_ret
          exact ⟨rfl, rfl⟩

set_option maxHeartbeats 400000 in
theorem name_any (s : ByteArray) (w : World) :
    Calls Try.prog 10 #[.string s] w fun e w' => e = .returned (.bool (nameL s.data.toList)) ∧ w = w' := by
  go_enter Try.func10, Try.ntmps10
  go_wp2_with (go_at_call 17; refine (indexByte_any _ _ _).mono ?_; rintro e w' ⟨rfl, rfl⟩)
  all_goals
    go_ret
    refine ⟨ret_bool ?_, rfl⟩
    simp only [toList_data] at *
    generalize hl : s.data.toList = l at *
    have hsz : s.size = l.length := by rw [← hl, Array.length_toList]; rfl
    clear hl
    simp only [nameL]
    simp_all <;> (intros; omega)

/-- A string's bytes as a new slice. -/
theorem bytes_of (w : World) (s : ByteArray) : RdB (Lib.bytesWorld w 5 s) (some ⟨w.heap.size, 0, none⟩) s.data.toList := by
  refine Rd.mk fun i hi => ?_
  have hi' : i < s.size := by rw [size_len]; simpa using hi
  rw [Nat.zero_add, Lib.bytesWorld_cell w _ s i hi']
  have h2 : i < s.data.toList.length := by simpa using hi
  rw [List.getElem?_map, List.getElem?_eq_getElem h2]
  simp [bV, List.getD_eq_getElem?_getD, List.getElem?_eq_getElem h2]

def GivesBE (xs : List UInt8) (c : Int) (w : World) (e : Ending) (w' : World) : Prop :=
  ∃ v, e = .returned (.tuple #[v, .int .i64 c]) ∧ w'.ownsRow w.heap.size 5 1 v xs.length (xs.map bV) ∧ Below w.heap.size w w'

def okF (l : List UInt8) (u : Int) : Bool := nameL l && (u == 16 || u == 32)
def padF (l : List UInt8) (u : Int) : List UInt8 := if okF l u then fillF l (sizeF l.length u) else []
def codeF (l : List UInt8) (u : Int) : Int := if okF l u then 0 else 2

theorem nameL_len {l : List UInt8} (h : nameL l = true) : 1 ≤ l.length ∧ l.length ≤ 96 := by
  simp only [nameL, Bool.and_eq_true, decide_eq_true_eq, bne_iff_ne] at h
  exact ⟨List.length_pos_iff.2 h.1.1.1.1.1, h.1.1.2⟩

theorem ok_size {l : List UInt8} {u : Int} (h : okF l u = true) : sizeF l.length u ≠ 0 ∧ sizeF l.length u ≤ 128 ∧ (l.length : Int) ≤ sizeF l.length u := by
  simp only [okF, Bool.and_eq_true, Bool.or_eq_true, beq_iff_eq] at h
  have := nameL_len h.1
  unfold sizeF
  rw [if_neg (by omega)]
  rcases h.2 with rfl | rfl <;> omega

theorem no_size {l : List UInt8} {u : Int} (h : okF l u = false) : sizeF l.length u = 0 ∨ nameL l = false := by
  cases hn : nameL l with
  | false => exact .inr rfl
  | true =>
    refine .inl ?_
    simp only [okF, hn, Bool.true_and, Bool.or_eq_false_iff, beq_eq_false_iff_ne] at h
    unfold sizeF
    rw [if_pos (by omega)]

set_option maxHeartbeats 400000 in
theorem padFill_any (s : ByteArray) (u : Int) (w : World) (hs : s.size ≤ 70368744177664) :
    Calls Try.prog 8 #[.string s, .int .i64 u] w (GivesBE (padF s.data.toList u) (codeF s.data.toList u) w) := by
  have hl := size_len s
  cases ho : okF s.data.toList u with
  | false =>
    have e1 : padF s.data.toList u = [] := by unfold padF; rw [ho]; rfl
    have e2 : codeF s.data.toList u = 2 := by unfold codeF; rw [ho]; rfl
    rw [e1, e2]; clear e1 e2
    have h2 := no_size ho
    rw [← hl] at h2
    clear hl ho
    by_cases hz : sizeF s.size u = 0
    · have b1 : (sizeF (s.size : Int) u == 0) = true := beq_iff_eq.2 hz
      clear h2 hz
      go_enter Try.func8, Try.ntmps8
      go_wp2_with (first | (go_at_call 12; refine (size_any _ _ _).mono ?_; rintro e w' ⟨rfl, rfl⟩) | (go_at_call 10; refine (name_any _ _).mono ?_; rintro e w' ⟨rfl, rfl⟩))
      go_ret2
      exact ⟨_, rfl, World.ownsRow_nil _ _ _ _, Below.refl _ _⟩
    · have b1 : (sizeF (s.size : Int) u == 0) = false := beq_eq_false_iff_ne.2 hz
      have b2 : nameL s.data.toList = false := h2.resolve_left hz
      clear h2 hz
      go_enter Try.func8, Try.ntmps8
      go_wp2_with (first | (go_at_call 12; refine (size_any _ _ _).mono ?_; rintro e w' ⟨rfl, rfl⟩) | (go_at_call 10; refine (name_any _ _).mono ?_; rintro e w' ⟨rfl, rfl⟩))
      go_ret2
      exact ⟨_, rfl, World.ownsRow_nil _ _ _ _, Below.refl _ _⟩
  | true =>
    have e1 : padF s.data.toList u = fillF s.data.toList (sizeF s.size u) := by unfold padF; rw [ho, ← hl]; rfl
    have e2 : codeF s.data.toList u = 0 := by unfold codeF; rw [ho]; rfl
    rw [e1, e2]; clear e1 e2
    obtain ⟨h2, h3, _⟩ := ok_size ho
    rw [← hl] at h2 h3
    have b1 : (sizeF (s.size : Int) u == 0) = false := beq_eq_false_iff_ne.2 h2
    have b2 : nameL s.data.toList = true := by simp only [okF, Bool.and_eq_true] at ho; exact ho.1
    have HL := Lib.hid hl
    clear h2 ho hl
    have hconv := fun wx => Lib.run_convert_string_bytes (P := Try.prog) wx 9 23 5 s Try.underlying9 Try.underlying23 Try.underlying5
    go_enter Try.func8, Try.ntmps8
    go_wp2_with (first | (go_at_call 12; refine (size_any _ _ _).mono ?_; rintro e w' ⟨rfl, rfl⟩) | (go_at_call 10; refine (name_any _ _).mono ?_; rintro e w' ⟨rfl, rfl⟩) | (go_at_call 16; refine (fill_any _ _ _ s.data.toList _ _ HL.out.symm (bytes_of _ s) hs (by omega)).mono ?_; rintro e w' ⟨v, rfl, hown, hbel⟩))
    go_ret2
    rw [Lib.bytesWorld_size] at hown hbel
    exact ⟨_, rfl, ownsRow_base hown (by omega), (below_bytes (Below.refl _ w) (Nat.le_refl _) _ s).trans (hbel.mono (by omega))⟩
end Go.Proofs.Ytjnmpeehadgeoaa
