/- An argument that is a struct or an array of whole numbers, bools and strings, opened: its cells have the shape of its type. -/
import Derived.Test.YthamhaomfdgdjaaEqF
import Derived.OpenShut
import Derived.WideKeyArr2
namespace Go.Proofs.Ythamhaomfdgdjaa
open Go.RowKit Go.WideShapes

def wfC : Value → Bool
  | .int k n => (Lit.int k n).wf
  | _ => true
def mtchW (ls : List Leaf) (vs : List Value) : Prop := mtch ls vs = true ∧ ∀ v ∈ vs, wfC v = true
theorem mtchW_append {la lb : List Leaf} {va vb : List Value} (h1 : mtchW la va) (h2 : mtchW lb vb) : mtchW (la ++ lb) (va ++ vb) :=
  ⟨mtch_append h1.1 h2.1, fun v hv => (List.mem_append.1 hv).elim (h1.2 v) (h2.2 v)⟩
theorem mtchW_split (n : Nat) {ls : List Leaf} {vs : List Value} (h : mtchW ls vs) : mtchW (ls.take n) (vs.take n) ∧ mtchW (ls.drop n) (vs.drop n) :=
  ⟨⟨(mtch_split n h.1).1, fun v hv => h.2 v (List.mem_of_mem_take hv)⟩, ⟨(mtch_split n h.1).2, fun v hv => h.2 v (List.mem_of_mem_drop hv)⟩⟩
/-- Cut after the first part. -/
theorem mtchW_cut {la lb : List Leaf} {vs : List Value} (h : mtchW (la ++ lb) vs) : ∃ va vb, vs = va ++ vb ∧ mtchW la va ∧ mtchW lb vb := by
  have h' := mtchW_split la.length h
  rw [List.take_left, List.drop_left] at h'
  exact ⟨_, _, (List.take_append_drop _ _).symm, h'.1, h'.2⟩
theorem mtchW_cons {l : Leaf} {lb : List Leaf} {vs : List Value} (h : mtchW (l :: lb) vs) : ∃ v vb, vs = v :: vb ∧ l.fits v = true ∧ wfC v = true ∧ mtchW lb vb := by
  cases vs with
  | nil => cases h.1
  | cons v vb =>
    have h1 := h.1
    simp only [mtch, Bool.and_eq_true] at h1
    exact ⟨v, vb, rfl, h1.1, h.2 v (List.mem_cons_self ..), h1.2, fun u hu => h.2 u (List.mem_cons_of_mem _ hu)⟩
theorem mtchW_nil {vs : List Value} (h : mtchW [] vs) : vs = [] := by
  cases vs with
  | nil => rfl
  | cons v vb => cases h.1
theorem fitsW_int {k : IntKind} {v : Value} (h : (Leaf.int k).fits v = true) (hw : wfC v = true) : ∃ n, v = .int k n ∧ (Lit.int k n).wf = true := by
  cases v <;> simp [Leaf.fits] at h
  subst h; exact ⟨_, rfl, hw⟩
theorem mtchW_int {k : IntKind} {lb : List Leaf} {vs : List Value} (h : mtchW (.int k :: lb) vs) : ∃ n vb, vs = .int k n :: vb ∧ (Lit.int k n).wf = true ∧ mtchW lb vb := by
  obtain ⟨v, vb, rfl, h1, h2, h3⟩ := mtchW_cons h
  obtain ⟨n, rfl, hn⟩ := fitsW_int h1 h2
  exact ⟨n, vb, rfl, hn, h3⟩
theorem mtchW_bytes : ∀ (n : Nat) {vs : List Value}, mtchW (List.replicate n (.int .u8)) vs → ∃ bs : List UInt8, bs.length = n ∧ vs = bs.map bV
  | 0, vs, h => ⟨[], rfl, mtchW_nil h⟩
  | n + 1, vs, h => by
    rw [List.replicate_succ] at h
    obtain ⟨z, vb, rfl, hz, h'⟩ := mtchW_int h
    obtain ⟨bs, hl, rfl⟩ := mtchW_bytes n h'
    have hb : 0 ≤ z ∧ z ≤ 255 := by simpa [Lit.wf, IntKind.min, IntKind.max, IntKind.signed, IntKind.bits] using hz
    refine ⟨UInt8.ofNat z.toNat :: bs, by simp [hl], ?_⟩
    rw [List.map_cons]
    congr 1
    unfold bV
    congr 1
    rw [UInt8.toNat_ofNat']
    omega

section
variable (P : Program)
def lfF (f : TypeId → Option (List Leaf)) : List Field → Nat → Option (List Leaf)
  | [], _ => some []
  | x :: r, off => if x.offset == off then (f x.type).bind fun a => if P.cellsOf x.type == a.length then (lfF f r (off + a.length)).map (a ++ ·) else none else none
def lfT : Nat → TypeId → Option (List Leaf)
  | 0, _ => none
  | d + 1, t =>
    match P.underlying t with
    | some (.int k) => some [.int k]
    | some .bool => some [.bool]
    | some .string => some [.str]
    | some (.struct fs) => (lfF P (lfT d) fs.toList 0).bind fun ls => if P.cellsOf t == ls.length then some ls else none
    | some (.array n e) => (lfT d e).bind fun a => if P.cellsOf e == a.length && P.cellsOf t == n * a.length then some ((List.replicate n a).flatten) else none
    | _ => none
end
variable {P : Program}

theorem fields_mtch {f : TypeId → Option (List Leaf)} {cs : List Value} : ∀ (l : List Field) (off : Nat) (ls : List Leaf), lfF P f l off = some ls → (∀ x ∈ l, ∀ a, f x.type = some a → mtchW a ((cs.drop x.offset).take (P.cellsOf x.type))) → mtchW ls ((cs.drop off).take ls.length)
  | [], off, ls, h, _ => by
    cases h
    exact ⟨by simp [mtch], by simp⟩
  | x :: r, off, ls, h, hx => by
    unfold lfF at h
    split at h
    · rename_i ho
      have ho' : x.offset = off := by simpa using ho
      cases hf : f x.type with
      | none => rw [hf] at h; cases h
      | some a =>
        rw [hf] at h
        simp only [Option.bind_some] at h
        split at h
        · rename_i hc
          have hc' : P.cellsOf x.type = a.length := by simpa using hc
          cases hr : lfF P f r (off + a.length) with
          | none => rw [hr] at h; cases h
          | some lr =>
            rw [hr] at h
            simp only [Option.map_some, Option.some.injEq] at h
            subst h
            have h1 := hx x (List.mem_cons_self ..) a hf
            have h2 := fields_mtch r (off + a.length) lr hr fun y hy => hx y (List.mem_cons_of_mem _ hy)
            rw [ho', hc'] at h1
            rw [List.length_append, List.take_add, List.drop_drop]
            exact mtchW_append h1 h2
        · cases h
    · cases h
theorem arr_mtch {a : List Leaf} : ∀ (n : Nat) (cs : List Value), (∀ i, i < n → mtchW a ((cs.drop (i * a.length)).take a.length)) → mtchW ((List.replicate n a).flatten) (cs.take (n * a.length))
  | 0, cs, _ => ⟨by simp [mtch], by simp⟩
  | n + 1, cs, h => by
    have h0 := h 0 (Nat.succ_pos _)
    have ih := arr_mtch n (cs.drop a.length) fun i hi => by
      have := h (i + 1) (by omega)
      rw [List.drop_drop, show a.length + i * a.length = (i + 1) * a.length by rw [Nat.succ_mul, Nat.add_comm]]
      exact this
    rw [Nat.zero_mul, List.drop_zero] at h0
    rw [List.replicate_succ, List.flatten_cons, Nat.succ_mul, Nat.add_comm (n * a.length), List.take_add]
    exact mtchW_append h0 ih
theorem trod_mtch {H : Type} {enc : TypeId × Value → H} {w : World} {base : Nat} {spare : Nat → Bool} {held : Bool} : ∀ (d : Nat) (t : TypeId) (ls : List Leaf) (fuel : Nat) (cs : List Value) (x : DataW H × List MemPlace), lfT P d t = some ls → DataW.trod enc P w base spare held fuel t cs = some x → mtchW ls cs
  | 0, _, _, _, _, _, h, _ => by cases h
  | d + 1, t, ls, fuel, cs, x, h, hd => by
    unfold lfT at h
    split at h
    · rename_i k hu
      cases h
      obtain ⟨n, rfl, -, hw⟩ := DataW.trod_int hu hd
      exact ⟨by simp [mtch, Leaf.fits], by simpa [wfC] using hw⟩
    · rename_i hu
      cases h
      obtain ⟨n, rfl, -⟩ := DataW.trod_bool hu hd
      exact ⟨by simp [mtch, Leaf.fits], by simp [wfC]⟩
    · rename_i hu
      cases h
      obtain ⟨n, rfl, -⟩ := DataW.trod_string hu hd
      exact ⟨by simp [mtch, Leaf.fits], by simp [wfC]⟩
    · rename_i fs hu
      obtain ⟨xs, m, -, -, hl, hn, hx⟩ := DataW.trod_struct hu hd
      cases hf : lfF P (lfT P d) fs.toList 0 with
      | none => rw [hf] at h; cases h
      | some l2 =>
        rw [hf] at h
        simp only [Option.bind_some] at h
        split at h
        · rename_i hc
          have hc' : P.cellsOf t = l2.length := by simpa using hc
          cases h
          have := fields_mtch (cs := cs) fs.toList 0 ls hf fun y hy a ha => by
            obtain ⟨i, hi, rfl⟩ := List.mem_iff_getElem.1 hy
            have hi' : i < fs.size := by simpa using hi
            have h1 := hx i fs[i] (by simp [hi'])
            rw [List.getElem?_eq_getElem (by omega)] at h1
            simp only [Array.getElem_toList] at ha ⊢
            exact trod_mtch d _ a _ _ _ ha h1
          rw [List.drop_zero, List.take_of_length_le (by omega)] at this
          exact this
        · cases h
    · rename_i n e hu
      obtain ⟨xs, m, -, -, hl, hn, hx⟩ := DataW.trod_array hu hd
      cases hf : lfT P d e with
      | none => rw [hf] at h; cases h
      | some a =>
        rw [hf] at h
        simp only [Option.bind_some] at h
        split at h
        · rename_i hc
          simp only [Bool.and_eq_true, beq_iff_eq] at hc
          cases h
          have := arr_mtch (a := a) n cs fun i hi => by
            have h1 := hx i hi
            rw [List.getElem?_eq_getElem (by omega), hc.1] at h1
            exact trod_mtch d _ a _ _ _ hf h1
          rw [List.take_of_length_le (by omega)] at this
          exact this
        · cases h
    · cases h
/-- The cells of a struct or an array. -/
theorem cells_of_trod {H : Type} {enc : TypeId × Value → H} {W : World} {base b0 : Nat} {sp : Nat → Bool} {held : Bool} {r : Reach} {t : TypeId} {v : Value} {dd : DataW H} {ps : List MemPlace} (d : Nat) {ls : List Leaf}
    (ha : (P.underlying t).map (fun u => match u with | .struct _ | .array _ _ => true | _ => false) = some true) (hl : lfT P d t = some ls) (hv : Value.okWide P W r b0 t v) (hd : DataW.Trod enc P W base sp held t v dd ps) :
    ∃ cs : List Value, v = .agg cs.toArray ∧ mtchW ls cs := by
  have : ∃ cs, v = .agg cs := by
    cases hu : P.underlying t with
    | none => rw [hu] at ha; cases ha
    | some u =>
      simp only [Value.okWide, hu] at hv
      cases u <;> simp [hu] at ha
      all_goals
        obtain ⟨cs, h1, _⟩ := hv
        exact ⟨cs, h1⟩
  obtain ⟨cs, rfl⟩ := this
  obtain ⟨fuel, hf⟩ := hd
  exact ⟨cs.toList, by simp, trod_mtch d t ls fuel _ _ hl hf⟩
end Go.Proofs.Ythamhaomfdgdjaa
