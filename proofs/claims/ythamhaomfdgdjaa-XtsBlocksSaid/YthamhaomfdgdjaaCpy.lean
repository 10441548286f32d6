/- copy of what fits; make as a whole block. -/
import Derived.Test.YthamhaomfdgdjaaStM
namespace Go.Proofs.Ythamhaomfdgdjaa
open Go.RowKit
section
variable {P : Program} {K : Nat → Prop} {w0 w w' w1 : World} {H : List Ent} {f : Ent → List Ent} {ops : Array Oper} {rest : List Oper} {o oi : Oper} {a : Act} {Q : Exit → Act → World → Prop} {md : Region.Mode} {N : Nat} {m : List Nat} {fuel i : Nat} {l : Array Bool} {T : Option Tmp}

theorem S_makeB (hS : St K w0 w H) {t e : TypeId} {z : Value} {bytes : Nat} (TT : ElemT P t e z bytes) {l c : Operand} {kl kc : IntKind} {i j : Int} (n : Nat) (hgd : o.guard = none) (ho : o.op = .makeSlice t l c) (hl : a.eval l = .int kl i) (hc : a.eval c = .int kc j) (hi : i = (n : Int)) (hj : j = (n : Int)) (hz : z.cells = #[z]) (hb : bytes * n ≤ 140737488355328) (hm : n ≤ maxLen)
    (h : ∀ b w', St K w0 w' (.blk b e (List.replicate n z) :: H) → wpList P ops Q rest (a.put o.dst (.slice (some ⟨b, 0, none⟩) n n)) w') : wpList P ops Q (o :: rest) a w :=
  S_val hgd (R_make TT n ho hl hc hi hj hz hb hm) (h _ _ (hS.alloc (List.replicate n z) e))

/-- copy: of as many as fit. -/
theorem run_copyN {b : Nat} {e : TypeId} {L : List Value} (hg : w.heap[b]? = some (.cells L.toArray e (0, 0))) {t tx ty el : TypeId} {off dl dc : Nat} {A : Option Addr} {sl sc : Nat} {xs : List Value} (hu : P.underlying t = some (.slice el)) (hsz : (P.info? el).map (·.size) = some 1)
    (hr : Rd w A xs) (hsl : xs.length = min sl dl) (hfit : off + xs.length ≤ L.length) (h1 : ∀ u ∈ xs, u.oneCell' = true) (h0 : 0 < xs.length) :
    (Builtin.copy_ #[t, tx] ty #[.slice (some ⟨b, off, none⟩) dl dc, .slice A sl sc]).run P w = .ok (goInt xs.length) (w.setRow b (splice L off xs).toArray) := by
  obtain ⟨e1, -⟩ := hr.at (i := 0) h0
  have hrow := run_copy_row (P := P) w t tx ty el b off dl dc ⟨ab A, ao A, none⟩ sl sc L.toArray e xs hu hsz hg hsl (fun j u hu => by
    have hj : j < xs.length := (List.getElem?_eq_some_iff.1 hu).1
    rw [addr_add, (hr.at hj).2, hu]) (by simpa using hfit) h1
  rw [e1]
  simpa [splice] using hrow

theorem S_copyN (hS : St K w0 w H) {s x : Operand} {t tx el : TypeId} {b off dl dc : Nat} {e : TypeId} {L : List Value} {A : Option Addr} {sl sc : Nat} {xs : List Value} (hgd : o.guard = none)
    (ho : o.op = .call { callee := .builtin .copy, args := #[s, x], argTypes := #[t, tx] }) (hu : P.underlying t = some (.slice el)) (hsz : (P.info? el).map (·.size) = some 1) (hd : a.eval s = .slice (some ⟨b, off, none⟩) dl dc) (hat : At H (.blk b e L) f)
    (hx : a.eval x = .slice A sl sc) (hr : Rd w A xs) (hsl : xs.length = min sl dl) (hfit : off + xs.length ≤ L.length) (h1 : ∀ u ∈ xs, u.oneCell' = true) (h0 : 0 < xs.length)
    (h : ∀ w', St K w0 w' (f (.blk b e (splice L off xs))) → wpList P ops Q rest (a.put o.dst (goInt (xs.length : Int))) w') : wpList P ops Q (o :: rest) a w :=
  S_val hgd (exec_copy ho hd hx (run_copyN (hS.get hat) hu hsz hr hsl hfit h1 h0)) (h _ (hS.setRow hat (splice L off xs)))

theorem K_copyN (hS : St K w0 w H) (hz : N ≤ w.heap.size) {s x : Operand} {t tx el : TypeId} {b off dl dc : Nat} {e : TypeId} {L : List Value} {A : Option Addr} {sl sc : Nat} {xs : List Value} (l' : Array Bool) (hi : ops[i]? = some oi) (hN : oi.dst = T) (hc : (l.setIfInBounds i true == l') = true) (hw : Region.wanted oi (yielded ops a.tmps) = true)
    (ho : oi.op = .call { callee := .builtin .copy, args := #[s, x], argTypes := #[t, tx] }) (hu : P.underlying t = some (.slice el)) (hsz : (P.info? el).map (·.size) = some 1) (hd : a.eval s = .slice (some ⟨b, off, none⟩) dl dc) (hat : At H (.blk b e L) f) (hb : N ≤ b ∨ b ∈ m)
    (hx : a.eval x = .slice A sl sc) (hr : Rd w A xs) (hsl : xs.length = min sl dl) (hfit : off + xs.length ≤ L.length) (h1 : ∀ u ∈ xs, u.oneCell' = true) (h0 : 0 < xs.length)
    (h : ∀ w1, St K w0 w1 (f (.blk b e (splice L off xs))) → N ≤ w1.heap.size → ∀ a', a.put T (goInt (xs.length : Int)) = a' → wpE (KeepS (SN N m)) P md ops Q fuel l' a' w1) : wpE1 (KeepS (SN N m)) P md ops Q fuel l a w i :=
  K_val l' hi hN hc hw (exec_copy ho hd hx (run_copyN (hS.get hat) hu hsz hr hsl hfit h1 h0)) (KeepS.grown (setRow_grownBy w b _) hz (fun g e => by cases e; exact hb)) (h _ (hS.setRow hat (splice L off xs)) (Nat.le_trans hz (setRow_grownBy w b _).size))
end
end Go.Proofs.Ythamhaomfdgdjaa
