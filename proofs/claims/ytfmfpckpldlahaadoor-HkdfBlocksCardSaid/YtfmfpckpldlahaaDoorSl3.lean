/- x[:n:n] of a slice. -/
import Derived.Test.YtfmfpckpldlahaaDoorStR
namespace Go.Proofs.YtfmfpckpldlahaaDoor
open Go.RowKit
section
variable {P : Program} {w : World} {ops : Array Oper} {rest : List Oper} {o : Oper} {a : Act} {Q : Exit → Act → World → Prop}
theorem R_slice3 {t e : TypeId} {x hi mx : Operand} {A : Option Addr} {n c h : Nat} {q q' : IntKind} (ho : o.op = .slice t x none (some hi) (some mx)) (hx : a.eval x = .slice A n c) (hh : a.eval hi = .int q (h : Int)) (hm : a.eval mx = .int q' (h : Int)) (ht : P.underlying t = some (.slice e)) (hs : (P.info? e).map (·.size) = some 1) (hhc : h ≤ c) :
    (execOp a.eval o).run P w = .ok (.value (.slice A h h)) w := by
  have k1 : (0 : Int) ≤ (h : Int) ∧ (h : Int) ≤ (c : Int) := by omega
  have k2 : (0 : Int) ≤ (h : Int) ∧ (h : Int) ≤ (h : Int) := by omega
  have b1 : (Instr.sliceBounds true n c none (some (.int q (h : Int))) (some (.int q' (h : Int)))).run P w = .ok (0, h, h) w := by
    simp [Instr.sliceBounds, Instr.sliceBound, asIntOf, k1, k2, hhc]
  have hc0 : (if h = 0 then A else A.map (·.add 0)) = A := cutA_zero (c := h) A
  have h1 : (Instr.sliceAt t (.slice A n c) none (some (.int q (h : Int))) (some (.int q' (h : Int)))).run P w = .ok (.slice A h h) w := by
    simp only [Instr.sliceAt, Sem.run_bind, run_underlying ht, Result.andThen_ok]
    simp only [Instr.slice, Sem.run_bind, run_underlying ht, Result.andThen_ok, b1, run_sizeOf hs, Sem.run_pure, Nat.mul_one, Nat.sub_zero]
    rw [hc0]
  simp [execOp, ho, hx, hh, hm, h1]
theorem S_slice3 {t e : TypeId} {x hi mx : Operand} {A : Option Addr} {n c h : Nat} {q q' : IntKind} (hgd : o.guard = none) (ho : o.op = .slice t x none (some hi) (some mx)) (hx : a.eval x = .slice A n c) (hh : a.eval hi = .int q (h : Int)) (hm : a.eval mx = .int q' (h : Int)) (ht : P.underlying t = some (.slice e)) (hs : (P.info? e).map (·.size) = some 1) (hhc : h ≤ c)
    (hK : wpList P ops Q rest (a.put o.dst (.slice A h h)) w) : wpList P ops Q (o :: rest) a w :=
  S_val hgd (R_slice3 ho hx hh hm ht hs hhc) hK
end
end Go.Proofs.YtfmfpckpldlahaaDoor
