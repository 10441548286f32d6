/- An argument that is an array of integers, opened. -/
import Derived.Test.YthamhaomfdgdjaaBase
import Derived.OpenShut
import Derived.WideKeyArr2
namespace Go.Proofs.Ythamhaomfdgdjaa
open Go.RowKit Go.WideShapes

theorem ints_of_arr {H : Type} {enc : TypeId × Value → H} {P : Program} {W : World} {base b0 : Nat} {sp : Nat → Bool} {held : Bool} {r : Reach} {t e : TypeId} {n : Nat} {q : IntKind} {v : Value} {d : DataW H} {ps : List MemPlace}
    (hu : P.underlying t = some (.array n e)) (he : P.underlying e = some (.int q)) (h1 : P.cellsOf e = 1) (hn : P.cellsOf t = n) (hv : Value.okWide P W r b0 t v) (hd : DataW.Trod enc P W base sp held t v d ps) :
    ∃ zs : List Int, v = .agg (zs.map (Value.int q)).toArray ∧ zs.length = n ∧ ∀ z ∈ zs, (Lit.int q z).wf = true := by
  have : ∃ cs, v = .agg cs ∧ cs.size = n := by
    simp only [Value.okWide, hu] at hv
    obtain ⟨cs, h1, h2, _⟩ := hv
    exact ⟨cs, h1, by rw [h2, hn]⟩
  obtain ⟨cs, rfl, hs⟩ := this
  obtain ⟨fuel, hf⟩ := hd
  obtain ⟨xs, m, rfl, -, -, hl, hx⟩ := DataW.trod_array hu hf
  have key : ∀ i, i < n → ∃ z, cs.toList[i]? = some (.int q z) ∧ (Lit.int q z).wf = true := by
    intro i hi
    have h := hx i hi
    rw [List.getElem?_eq_getElem (by omega), h1, Nat.mul_one] at h
    obtain ⟨z, ez, _, wz⟩ := DataW.trod_int he h
    refine ⟨z, ?_, wz⟩
    have e0 : ((Value.agg cs).cells.toList.drop i).take 1 = [.int q z] := ez
    have hi' : i < cs.toList.length := by rw [Array.length_toList, hs]; exact hi
    have e2 : (cs.toList.drop i).take 1 = [cs.toList[i]] := by
      rw [List.drop_eq_getElem_cons hi', List.take_succ_cons, List.take_zero]
    have e3 : [cs.toList[i]] = [Value.int q z] := e2.symm.trans e0
    rw [List.getElem?_eq_getElem hi']
    simpa using e3
  refine ⟨cs.toList.map fun v => match v with | .int _ z => z | _ => 0, ?_, by simp [hs], ?_⟩
  · congr 1
    rw [← Array.toList_inj]
    apply List.ext_getElem?
    intro i
    by_cases hi : i < n
    · obtain ⟨z, hz, _⟩ := key i hi
      rw [hz]; simp [hz]
    · simp [Array.getElem?_eq_none (show cs.size ≤ i by omega)]
  · intro z hz
    obtain ⟨v, hv, rfl⟩ := List.mem_map.1 hz
    obtain ⟨i, hi, rfl⟩ := List.mem_iff_getElem.1 hv
    obtain ⟨z, hz, wz⟩ := key i (by rw [Array.length_toList, hs] at hi; exact hi)
    rw [List.getElem?_eq_getElem hi] at hz
    have := Option.some.inj hz
    rw [this]; exact wz
end Go.Proofs.Ythamhaomfdgdjaa
