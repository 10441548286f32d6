/- Structs and arrays built of parts; parts of rows. No function of the program. -/
import Derived.Test.YthamhaomfdgdjaaEqF
namespace Go.Proofs.Ythamhaomfdgdjaa
open Go.RowKit

theorem splice_length (L : List Value) (off : Nat) (vs : List Value) (h : off + vs.length ≤ L.length) : (splice L off vs).length = L.length := by simp [splice]; omega
theorem foldl_splice : ∀ (vs : List Value) (Z : List Value) (off k : Nat), off + k + vs.length ≤ Z.length →
    (vs.zipIdx k).foldl (fun (cs : Array Value) (c : Value × Nat) => cs.setIfInBounds (off + c.2) c.1) Z.toArray = (splice Z (off + k) vs).toArray
  | [], Z, off, k, _ => by simp [splice]
  | v :: vs, Z, off, k, h => by
    have h' : off + (k + 1) + vs.length ≤ (Z.set (off + k) v).length := by simp at h ⊢; omega
    rw [List.zipIdx_cons, List.foldl_cons]
    have e1 : Z.toArray.setIfInBounds (off + k) v = (Z.set (off + k) v).toArray := by simp
    show List.foldl _ (Z.toArray.setIfInBounds (off + k) v) _ = _
    rw [e1, foldl_splice vs _ off (k + 1) h']
    congr 1
    unfold splice
    have hlt : off + k < Z.length := by simp at h; omega
    rw [show off + (k + 1) = off + k + 1 by omega, List.take_add_one, List.take_set_of_le (by omega), List.getElem?_set_self hlt, List.length_cons, List.drop_set_of_lt (by omega)]
    simp [List.append_assoc, Nat.add_comm, Nat.add_left_comm]
theorem fill_cons {place : Nat → Option (Nat × Nat)} {i off size : Nat} {v : Value} {Z vs : List Value} {rest : List (Nat × Value)} (hp : place i = some (off, size)) (hv : v.cells = vs.toArray) (hs : vs.length = size) (hm : off + size ≤ Z.length) :
    Instr.fill place Z.toArray ((i, v) :: rest) = Instr.fill place (splice Z off vs).toArray rest := by
  subst hs
  have h1 : ¬ (v.cells.size ≠ vs.length || off + v.cells.size > Z.toArray.size) = true := by
    rw [hv]; simp; omega
  rw [Instr.fill]
  simp only [hp]
  rw [if_neg h1, hv]
  have h2 := foldl_splice vs Z off 0 (by omega)
  have h3 : (vs.toArray.zipIdx).foldl (fun (cs : Array Value) (c : Value × Nat) => cs.setIfInBounds (off + c.2) c.1) Z.toArray = (splice Z off vs).toArray := by
    have h4 : (vs.toArray.zipIdx).foldl (fun (cs : Array Value) (c : Value × Nat) => cs.setIfInBounds (off + c.2) c.1) Z.toArray = (vs.zipIdx 0).foldl (fun (cs : Array Value) (c : Value × Nat) => cs.setIfInBounds (off + c.2) c.1) Z.toArray := by
      rw [← Array.foldl_toList]; simp
    rw [h4, h2]; rfl
  rw [h3]

/-- A struct's cells at first, and the places and sizes of its fields. -/
def bhead (P : Program) (t : TypeId) : Option (List Value × List (Nat × Nat)) :=
  match P.info? t, P.underlying t with
  | some it, some (.struct fields) =>
    match it.zero, fields.toList.mapM (fun f => (P.info? f.type).map fun i => (f.offset, i.size)) with
    | some z, some places => some (z.cells.toList, places)
    | _, _ => none
  | _, _ => none
theorem built_head {P : Program} {t : TypeId} {Z : List Value} {places : List (Nat × Nat)} (h : bhead P t = some (Z, places)) (parts : List (Nat × Value)) : P.built t parts = Instr.fill (places.toArray[·]?) Z.toArray parts := by
  unfold bhead at h
  unfold Program.built
  cases hi : P.info? t with
  | none => rw [hi] at h; cases h
  | some it =>
    rw [hi] at h
    cases hu : P.underlying t with
    | none => rw [hu] at h; cases h
    | some d =>
      rw [hu] at h
      cases d <;> try (cases h; done)
      rename_i fs
      simp only at h ⊢
      cases hz : it.zero with
      | none => rw [hz] at h; cases h
      | some z =>
        rw [hz] at h
        cases hp : fs.toList.mapM (fun f => (P.info? f.type).map fun i => (f.offset, i.size)) with
        | none => rw [hp] at h; cases h
        | some pl =>
          rw [hp] at h
          simp only [Option.some.injEq, Prod.mk.injEq] at h
          obtain ⟨rfl, rfl⟩ := h
          simp

theorem splice_cover1 (Z a : List Value) (h : a.length = Z.length) : splice Z 0 a = a := splice_all Z a h
theorem splice_next {Z a b : List Value} {off : Nat} (ha : a.length = off) (h : off + b.length ≤ Z.length) : splice (a ++ Z.drop off) off b = a ++ b ++ Z.drop (off + b.length) := by
  subst ha
  unfold splice
  rw [List.take_left, List.drop_append, List.drop_of_length_le (by omega : a.length ≤ a.length + b.length), List.nil_append, List.drop_drop]
  rw [show a.length + (a.length + b.length - a.length) = a.length + b.length by omega, List.append_assoc]
theorem splice_first (Z a : List Value) : splice Z 0 a = a ++ Z.drop a.length := by unfold splice; simp

section
variable {P : Program} {K : Nat → Prop} {w0 w w' : World} {H : List Ent} {f : Ent → List Ent} {ops : Array Oper} {rest : List Oper} {o : Oper} {a : Act} {Q : Exit → Act → World → Prop}
theorem R_build {t : TypeId} {parts : Array (Nat × Operand)} {L : List Value} (ho : o.op = .build t parts) (hb : P.built t (parts.map fun (i, x) => (i, a.eval x)).toList = some L.toArray) : (execOp a.eval o).run P w = .ok (.value (.agg L.toArray)) w := by
  simp [execOp, ho, run_build w t _ _ hb]
theorem S_build {t : TypeId} {parts : Array (Nat × Operand)} {L : List Value} (hgd : o.guard = none) (ho : o.op = .build t parts) (hb : P.built t (parts.map fun (i, x) => (i, a.eval x)).toList = some L.toArray) (h : wpList P ops Q rest (a.put o.dst (.agg L.toArray)) w) : wpList P ops Q (o :: rest) a w :=
  S_val hgd (R_build ho hb) h
/-- A struct of two fields, both given. -/
theorem built2 {t : TypeId} {Z : List Value} {o1 n0 n1 : Nat} {u v : Value} {A B : List Value} (hh : bhead P t = some (Z, [(0, n0), (o1, n1)])) (hA : u.cells = A.toArray) (hB : v.cells = B.toArray) (ha : A.length = n0) (hb : B.length = n1) (h1 : n0 = o1) (hz : Z.length = o1 + n1) :
    P.built t [(0, u), (1, v)] = some (A ++ B).toArray := by
  subst h1
  rw [built_head hh, fill_cons (off := 0) (size := n0) rfl hA ha (by omega), fill_cons (off := n0) (size := n1) rfl hB hb (by rw [splice_length _ _ _ (by omega)]; omega), Instr.fill, splice_first, ha, splice_next ha (by omega), hb, List.drop_of_length_le (by omega), List.append_nil]
theorem built1 {t : TypeId} {Z : List Value} {n0 : Nat} {u : Value} {A : List Value} (hh : bhead P t = some (Z, [(0, n0)])) (hA : u.cells = A.toArray) (ha : A.length = n0) (hz : Z.length = n0) :
    P.built t [(0, u)] = some A.toArray := by
  rw [built_head hh, fill_cons (off := 0) (size := n0) rfl hA ha (by omega), Instr.fill, splice_first, ha, List.drop_of_length_le (by omega), List.append_nil]
/-- [n]T(x): the address of a slice's array. -/
theorem R_s2a {t e : TypeId} {n l c : Nat} {x : Operand} {A : Option Addr} (ho : o.op = .sliceToArrayPointer t x) (hx : a.eval x = .slice A l c) (ht : P.underlying t = some (.array n e)) (hl : n ≤ l) : (execOp a.eval o).run P w = .ok (.value (.pointer A)) w := by
  have : ¬ l < n := by omega
  simp [execOp, ho, hx, Instr.arrayAt, run_underlying ht, this]
theorem S_s2a {t e : TypeId} {n l c : Nat} {x : Operand} {A : Option Addr} (hgd : o.guard = none) (ho : o.op = .sliceToArrayPointer t x) (hx : a.eval x = .slice A l c) (ht : P.underlying t = some (.array n e)) (hl : n ≤ l) (h : wpList P ops Q rest (a.put o.dst (.pointer A)) w) : wpList P ops Q (o :: rest) a w :=
  S_val hgd (R_s2a ho hx ht hl) h
/-- An array read out of a slice's memory. -/
theorem R_ldRdPart {ty : TypeId} {x : Operand} {A : Option Addr} {m : Nat} {xs : List Value} (hr : Rd w A xs) (ho : o.op = .load ty x) (hx : a.eval x = .pointer A) (ht : agg? P ty = some true) (hs : (P.info? ty).map (·.size) = some m) (hm : m ≤ xs.length) (h0 : 0 < m) : (execOp a.eval o).run P w = .ok (.value (.agg (xs.take m).toArray)) w := by
  rcases hr with h | ⟨b, off, rfl, h⟩
  · rw [h] at hm; simp at hm; omega
  · have hl : (loadCells ⟨b, off, none⟩ m).run P w = .ok (xs.take m).toArray w := by
      have := run_loadCells_list (P := P) w ⟨b, off, none⟩ (xs.take m) (fun j v hv => by
        have hj : j < m := by have := (List.getElem?_eq_some_iff.1 hv).1; rw [List.length_take] at this; omega
        rw [addr_add, h j (by omega)]
        rwa [List.getElem?_take, if_pos hj] at hv)
      rwa [List.length_take, Nat.min_eq_left (by omega)] at this
    simp [execOp, ho, hx, Instr.loadAt, Instr.sureAddr, loadVar, run_isAgg ht, run_sizeOf hs, hl]
theorem R_ldRdAll {ty : TypeId} {x : Operand} {A : Option Addr} {m : Nat} {xs : List Value} (hr : Rd w A xs) (hm : xs.length = m) (h0 : 0 < m) (ho : o.op = .load ty x) (hx : a.eval x = .pointer A) (ht : agg? P ty = some true) (hs : (P.info? ty).map (·.size) = some m) : (execOp a.eval o).run P w = .ok (.value (.agg xs.toArray)) w := by
  have := R_ldRdPart hr ho hx ht hs (by omega) h0
  rwa [List.take_of_length_le (by omega)] at this
theorem S_ldRdPart {ty : TypeId} {x : Operand} {A : Option Addr} {m : Nat} {xs : List Value} (hr : Rd w A xs) (hgd : o.guard = none) (ho : o.op = .load ty x) (hx : a.eval x = .pointer A) (ht : agg? P ty = some true) (hs : (P.info? ty).map (·.size) = some m) (hm : m ≤ xs.length) (h0 : 0 < m) (h : wpList P ops Q rest (a.put o.dst (.agg (xs.take m).toArray)) w) : wpList P ops Q (o :: rest) a w :=
  S_val hgd (R_ldRdPart hr ho hx ht hs hm h0) h
end
end Go.Proofs.Ythamhaomfdgdjaa
