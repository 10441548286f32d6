/- An array of integers is the same as itself. -/
import Derived.Test.YtfmfpckpldlahaaDoorBase
import Derived.Laws.StructEq
import Derived.Laws.Tables
import Derived.KernelRfl
namespace Go.Proofs.YtfmfpckpldlahaaDoor
open Go.RowKit

theorem part_int {P : Program} {e : TypeId} {q : IntKind} {cs : Array Value} {i : Nat} {v : Value} (w : World) (he : P.underlying e = some (.int q)) (hs : (P.info? e).map (·.size) = some 1) (hv : cs[i]? = some v) :
    (Go.part e cs i).run P w = .ok v w := by
  cases hq : P.info? e with
  | none => simp [hq] at hs
  | some x =>
    have hx : x.size = 1 := by simpa [hq] using hs
    simp [Go.part, run_underlying he, Go.sizeOf, typeInfo, hq, hx, isAgg, hv, go_sem]

theorem run_equalIn_same {P : Program} {t e : TypeId} {n d : Nat} {q k : IntKind} (w : World) (ht : P.underlying t = some (.array n e)) (he : P.underlying e = some (.int q)) (hs : (P.info? e).map (·.size) = some 1) (xs : List Int) (hx : xs.length = n) :
    (Op.equalIn (d + 2) t (.agg (xs.map (Value.int k)).toArray) (.agg (xs.map (Value.int k)).toArray)).run P w = .ok true w := by
  have hsz : (Go.sizeOf e).run P w = .ok 1 w := by
    cases hq : P.info? e with
    | none => simp [hq] at hs
    | some x => simp [Go.sizeOf, typeInfo, hq, show x.size = 1 by simpa [hq] using hs]
  rw [Op.equalIn]
  simp only [Sem.run_bind, run_underlying ht, Result.andThen_ok, hsz]
  rw [Std.Legacy.Range.forIn_eq_forIn_range']
  have key : ∀ (l : List Nat), (∀ i ∈ l, i < xs.length) → (Sem.run P (forIn l ((none, ()) : Option Bool × Unit) fun i __s => do
            let a ← Go.part e (List.map (Value.int k) xs).toArray (i * 1)
            let b ← Go.part e (List.map (Value.int k) xs).toArray (i * 1)
            let r ← Op.equalIn (d + 1) e a b
            if (!r) = true then pure (ForInStep.done (some false, ())) else pure (ForInStep.yield (none, ()))) w) = .ok (none, ()) w := by
    intro l
    induction l with
    | nil => intro _; simp
    | cons i l ih =>
      intro h
      have hi := h i (by simp)
      have hp : (Go.part e (List.map (Value.int k) xs).toArray (i * 1)).run P w = .ok (.int k xs[i]) w := part_int w he hs (by simp [hi])
      simp only [List.forIn_cons, Sem.run_bind, hp, Result.andThen_ok, run_equalIn_int w d e k q _ _ he, beq_self_eq_true, Bool.not_true, Bool.false_eq_true, if_false, Sem.run_pure]
      exact ih fun j hj => h j (by simp [hj])
  rw [key _ (fun i hi => by
    have := List.mem_range'.1 hi
    obtain ⟨j, hj, rfl⟩ := this
    simp [Std.Legacy.Range.size] at hj ⊢
    omega)]
  rfl
theorem run_eql_same {P : Program} {t e : TypeId} {n : Nat} {q k : IntKind} (w : World) (ht : P.underlying t = some (.array n e)) (he : P.underlying e = some (.int q)) (hs : (P.info? e).map (·.size) = some 1) (xs : List Int) (hx : xs.length = n) :
    (binOp .eql t (.agg (xs.map (Value.int k)).toArray) (.agg (xs.map (Value.int k)).toArray)).run P w = .ok (.bool true) w := by
  rw [run_eql_struct, run_equalIn_same (d := 9998) w ht he hs xs hx]
  rfl
end Go.Proofs.YtfmfpckpldlahaaDoor
