/- make inside a region whose order is open (allocations only). -/
import Derived.Test.YthamhaomfdgdjaaStR
namespace Go.Proofs.Ythamhaomfdgdjaa
open Go.RowKit
section
variable {P : Program} {K : Nat → Prop} {w0 w w' : World} {H : List Ent} {ops : Array Oper} {a : Act} {Q : Exit → Act → World → Prop}
theorem R_make {o : Oper} {t e : TypeId} {z : Value} {bytes : Nat} (TT : ElemT P t e z bytes) {lo c : Operand} {kl kc : IntKind} {p q : Int} (n : Nat) (ho : o.op = .makeSlice t lo c) (hl : a.eval lo = .int kl p) (hcv : a.eval c = .int kc q) (hp : p = (n : Int)) (hq : q = (n : Int)) (hzc : z.cells = #[z]) (hb : bytes * n ≤ 140737488355328) (hm : n ≤ maxLen) :
    (execOp a.eval o).run P w = .ok (.value (.slice (some ⟨w.heap.size, 0, none⟩) n n)) (w.alloc (.cells (rep n z) e)) := by
  subst hp hq
  simp [execOp, ho, hl, hcv, run_make_rep TT w kl kc n hzc (by omega) (by unfold maxLen at hm; omega)]
theorem E_mk {R : World → World → Prop} {md : Region.Mode} {i : Nat} {N : Option Tmp} {oi : Oper} {fuel : Nat} {l : Array Bool} (hS : St K w0 w H) (hR : ∀ o, R w (w.alloc o)) {t e : TypeId} {z : Value} {bytes : Nat} (TT : ElemT P t e z bytes) {lo c : Operand} {kl kc : IntKind} {p q : Int} (n : Nat) (l' : Array Bool) (hi : ops[i]? = some oi) (hN : oi.dst = N) (hc : oneC md ops l l' i = true) (hw : Region.wanted oi (yielded ops a.tmps) = true)
    (ho : oi.op = .makeSlice t lo c) (hl : a.eval lo = .int kl p) (hcv : a.eval c = .int kc q) (hp : p = (n : Int)) (hq : q = (n : Int)) (hzc : z.cells = #[z]) (hb : bytes * n ≤ 140737488355328) (hm : n ≤ maxLen)
    (h : ∀ b w1, St K w0 w1 (.own e 1 (.slice (some ⟨b, 0, none⟩) n n) n (List.replicate n z) :: H) → ∀ a', a.put N (.slice (some ⟨b, 0, none⟩) n n) = a' → wpE R P md ops Q fuel l' a' w1) : wpE R P md ops Q (fuel + 1) l a w :=
  E_run l' hi hN hc hw (R_make TT n ho hl hcv hp hq hzc hb hm) (hR _) rfl (h _ _ (hS.allocOwn (List.replicate n z) e n (by simp) hm) _ rfl)
theorem E_mk1 {R : World → World → Prop} {md : Region.Mode} {i : Nat} {N : Option Tmp} {oi : Oper} {fuel : Nat} {l : Array Bool} (hS : St K w0 w H) (hR : ∀ o, R w (w.alloc o)) {t e : TypeId} {z : Value} {bytes : Nat} (TT : ElemT P t e z bytes) {lo c : Operand} {kl kc : IntKind} {p q : Int} (n : Nat) (l' : Array Bool) (hi : ops[i]? = some oi) (hN : oi.dst = N) (hc : (l.setIfInBounds i true == l') = true) (hw : Region.wanted oi (yielded ops a.tmps) = true)
    (ho : oi.op = .makeSlice t lo c) (hl : a.eval lo = .int kl p) (hcv : a.eval c = .int kc q) (hp : p = (n : Int)) (hq : q = (n : Int)) (hzc : z.cells = #[z]) (hb : bytes * n ≤ 140737488355328) (hm : n ≤ maxLen)
    (h : ∀ b w1, St K w0 w1 (.own e 1 (.slice (some ⟨b, 0, none⟩) n n) n (List.replicate n z) :: H) → ∀ a', a.put N (.slice (some ⟨b, 0, none⟩) n n) = a' → wpE R P md ops Q fuel l' a' w1) : wpE1 R P md ops Q fuel l a w i :=
  E_run1 l' hi hN hc hw (R_make TT n ho hl hcv hp hq hzc hb hm) (hR _) rfl (h _ _ (hS.allocOwn (List.replicate n z) e n (by simp) hm) _ rfl)
end
end Go.Proofs.Ythamhaomfdgdjaa
