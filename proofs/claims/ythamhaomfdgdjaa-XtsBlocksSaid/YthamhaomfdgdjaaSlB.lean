/- Slices of arrays within a block, with bounds that are variables. -/
import Derived.Test.YthamhaomfdgdjaaSt
namespace Go.Proofs.Ythamhaomfdgdjaa
open Go.RowKit
variable {P : Program} {ops : Array Oper} {rest : List Oper} {o : Oper} {a : Act} {w : World} {Q : Exit → Act → World → Prop}

theorem run_boundsB {N l h : Nat} {lo hi : Option Value} (hlo : SB lo 0 l) (hhi : SB hi N h) (hlh : l ≤ h) (hhc : h ≤ N) (w : World) : (Instr.sliceBounds false N N lo hi none).run P w = .ok (l, h, N) w := by
  rcases hlo with ⟨rfl, rfl⟩ | ⟨q, rfl⟩ <;> rcases hhi with ⟨rfl, rfl⟩ | ⟨q', rfl⟩
  · simp [Instr.sliceBounds]
  · have k1 : (0 : Int) ≤ (h : Int) ∧ (h : Int) ≤ (N : Int) := by omega
    simp [Instr.sliceBounds, Instr.sliceBound, asIntOf, k1, hhc]
  · have k1 : (0 : Int) ≤ (l : Int) ∧ (l : Int) ≤ (h : Int) := by omega
    simp [Instr.sliceBounds, Instr.sliceBound, asIntOf, k1, hlh]
  · have k1 : (0 : Int) ≤ (h : Int) ∧ (h : Int) ≤ (N : Int) := by omega
    have k2 : (0 : Int) ≤ (l : Int) ∧ (l : Int) ≤ (h : Int) := by omega
    simp [Instr.sliceBounds, Instr.sliceBound, asIntOf, k1, k2, hhc, hlh]
theorem R_sliceB {t e : TypeId} {x : Operand} {lo hi : Option Operand} {b off N l h : Nat} (ho : o.op = .slice t x lo hi none) (hx : a.eval x = .pointer (some ⟨b, off, none⟩)) (ht : P.underlying t = some (.array N e)) (hs : (P.info? e).map (·.size) = some 1) (hlo : SB (lo.map a.eval) 0 l) (hhi : SB (hi.map a.eval) N h) (hlh : l ≤ h) (hhc : h ≤ N) :
    (execOp a.eval o).run P w = .ok (.value (.slice (cutA (some ⟨b, off, none⟩) N l) (h - l) (N - l))) w := by
  have hsa : (Instr.sureAddr (.pointer (some ⟨b, off, none⟩))).run P w = .ok ⟨b, off, none⟩ w := rfl
  have h1 : (Instr.sliceAt t (.pointer (some ⟨b, off, none⟩)) (lo.map a.eval) (hi.map a.eval) none).run P w = .ok (.slice (cutA (some ⟨b, off, none⟩) N l) (h - l) (N - l)) w := by
    simp only [Instr.sliceAt, Sem.run_bind, run_underlying ht, Result.andThen_ok, hsa, run_boundsB hlo hhi hlh hhc w, run_sizeOf hs, Sem.run_pure, Nat.mul_one, cutA]
    by_cases hN : N = l
    · rw [if_pos hN, if_pos hN]
    · rw [if_neg hN, if_neg hN]; rfl
  simp [execOp, ho, hx, h1]
theorem S_sliceB {t e : TypeId} {x : Operand} {lo hi : Option Operand} {b off N l h : Nat} (hgd : o.guard = none) (ho : o.op = .slice t x lo hi none) (hx : a.eval x = .pointer (some ⟨b, off, none⟩)) (ht : P.underlying t = some (.array N e)) (hs : (P.info? e).map (·.size) = some 1) (hlo : SB (lo.map a.eval) 0 l) (hhi : SB (hi.map a.eval) N h) (hlh : l ≤ h) (hhc : h ≤ N)
    (hK : wpList P ops Q rest (a.put o.dst (.slice (cutA (some ⟨b, off, none⟩) N l) (h - l) (N - l))) w) : wpList P ops Q (o :: rest) a w :=
  S_val hgd (R_sliceB ho hx ht hs hlo hhi hlh hhc) hK
end Go.Proofs.Ythamhaomfdgdjaa
