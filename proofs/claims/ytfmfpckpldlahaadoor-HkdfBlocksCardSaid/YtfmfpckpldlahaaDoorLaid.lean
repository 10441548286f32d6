/- What the listed variable of the constants holds. -/
import Derived.Test.YtfmfpckpldlahaaDoorRows
import Derived.Test.YtfmfpckpldlahaaDoorShK
import Derived.ProofKit
import Derived.LaidMore
import Derived.OpenShut
import Derived.Stop.Joined
namespace Go.Proofs.YtfmfpckpldlahaaDoor
open Go.Proofs.YtfmfpckpldlahaaDoor.Pure Go.ChangeShapes Go.WideShapes Go.ChangeAt Go.WideMaps Go.WideElems Go.RowKit

theorem arr_of_laid {H : Type} {enc : TypeId × Value → H} {P : Program} {W : World} {base : Nat} {sp : Nat → Bool} {held : Bool} {fuel : Nat} {t e : TypeId} {n : Nat} {q : IntKind} {cs : Array Value} {zs : List Int} {ps : List MemPlace}
    (hu : P.underlying t = some (.array n e)) (he : P.underlying e = some (.int q)) (h1 : P.cellsOf e = 1) (hn : P.cellsOf t = n) (h : DataW.trod enc P W base sp held fuel t cs.toList = some (.agg (zs.map fun z => .lit (.int q z)), ps)) :
    cs = (zs.map (Value.int q)).toArray := by
  obtain ⟨xs, m, rfl, hx, hl, hxl, hel⟩ := DataW.trod_array hu h
  simp only [Prod.mk.injEq, DataW.agg.injEq] at hx
  have hz : zs.length = n := by
    have := congrArg List.length hx.1
    simp only [List.length_map] at this
    omega
  rw [← Array.toList_inj]
  apply List.ext_getElem?
  intro i
  by_cases hi : i < n
  · have h2 := hel i hi
    rw [List.getElem?_eq_getElem (by omega), h1, Nat.mul_one] at h2
    obtain ⟨z, ez, e2, _⟩ := DataW.trod_int he h2
    have hi' : i < cs.toList.length := by rw [hl, hn]; exact hi
    have e3 : (cs.toList.drop i).take 1 = [cs.toList[i]] := by
      rw [List.drop_eq_getElem_cons hi', List.take_succ_cons, List.take_zero]
    rw [e3] at ez
    have e4 : cs.toList[i] = .int q z := by simpa using ez
    have e5 : (xs.map (·.1))[i]? = (zs.map fun z => DataW.lit (Lit.int q z))[i]? := by rw [hx.1]
    rw [List.getElem?_map, List.getElem?_map, List.getElem?_eq_getElem (by omega), List.getElem?_eq_getElem (by omega), Option.map_some, Option.map_some, e2] at e5
    have e6 : z = zs[i]'(by omega) := by simpa using e5
    rw [List.getElem?_eq_getElem hi', e4, List.toList_toArray, List.getElem?_map, List.getElem?_eq_getElem (by omega), e6]; rfl
  · rw [List.getElem?_eq_none (by rw [hl, hn]; omega), List.getElem?_eq_none (by simp; omega)]

theorem g_consts : Tryd.prog.globalNamed "turnkey/sha512.constants" = some 0 := by kernel_rfl
theorem t_consts : (Tryd.prog.globals[0]?).map (·.type) = some 63 := by kernel_rfl
theorem gk_var {W : World} {cs : Array Value} (hv : W.var? Tryd.prog "turnkey/sha512.constants" = some cs) (h : cs = (ks.map wV).toArray) : GK W := by
  subst h
  unfold World.var? at hv
  rw [g_consts] at hv
  simp only [Option.bind_some] at hv
  unfold GK
  split at hv
  · rename_i c t f hc
    cases hv
    exact ⟨t, f, hc⟩
  · cases hv
theorem ks_lits : (Rows.laid_turnkey_sha512_constants : DataW Unit) = .agg ((ks.map tn).map fun z => .lit (.int .u64 z)) := by rfl
theorem gk_of_laid {W : World} (h : laidMetH Tryd.prog [("turnkey/sha512.constants", Rows.laid_turnkey_sha512_constants)] W) : GK W := by
  rw [MakeChecks.laidMetH_plain _ _ _ (by kernel_rfl)] at h
  obtain ⟨ps, ⟨g0, t0, cs0, f0, p0, q0, hg0, ht0, hv0, hd0, -, -⟩, -, -⟩ := h
  obtain rfl := Option.some.inj (g_consts.symm.trans hg0)
  obtain rfl := Option.some.inj (t_consts.symm.trans ht0)
  rw [ks_lits] at hd0
  refine gk_var hv0 ?_
  rw [arr_of_laid Tryd.underlying63 Tryd.underlying45 (by kernel_rfl) (by kernel_rfl) hd0, List.map_map]
  rfl
end Go.Proofs.YtfmfpckpldlahaaDoor
