/- A plain walk through an operation, a region, is one within a round of a loop over a function. -/
import Derived.RangeFuncBox
import Derived.RangeFuncNested
import Derived.WalkKit
import Derived.OwnWalkIn
import Derived.TacticsInMore
import Derived.Test.YthamhaomfdgdjaaReg
import Derived.Test.YthamhaomfdgdjaaStR
namespace Go.Proofs.Ythamhaomfdgdjaa
open Go.RowKit
variable {P : Program} {md : Region.Mode} {ops : Array Oper} {Q : Exit → Act → World → Prop} {R : World → World → Prop} {n l : Nat}

theorem rows_in {row : String} {args : Array Value} {w : World} {S : Value → World → Prop} (h : Rows P row args w S) : RowsIn (Fence.wide.inRound l) n P row args w S := fun c cs _ =>
  let ⟨v, w', r, s⟩ := h c cs
  ⟨v, w', r, stepsIn_wide.2 s⟩
theorem upon_in {o : Oper} {a : Act} {K : Act → World → Prop} {r : Result Next} (h : o.upon P a K Q r) : o.uponIn (Fence.wide.inRound l) n P a K Q r := by
  have hd : ((Fence.wide.inRound l).depth.isSome = true → 1 ≤ n) := fun hd => by simp [Fence.wide, Fence.inRound] at hd
  cases r with
  | ok x w' =>
    cases x <;> simp only [Oper.upon, Oper.uponIn] at h ⊢ <;>
      first
        | exact h
        | exact ⟨hd, CallsIn.inRound l (callsIn_wide.2 h)⟩
        | exact ⟨hd, rows_in h⟩
  | halt x w' => cases x <;> simp only [Oper.upon, Oper.uponIn] at h ⊢ <;> exact h
def noDefer (ops : Array Oper) : Bool := ops.toList.all fun o => match o.op with | .defer _ => false | _ => true
theorem noDefer_at (hn : noDefer ops = true) {i : Nat} {o : Oper} (hi : ops[i]? = some o) : ∀ c, o.op ≠ .defer c := fun c hc => by
  have := List.all_eq_true.1 hn o (by rw [← Array.getElem?_toList] at hi; exact List.mem_of_getElem? hi)
  rw [hc] at this
  cases this
theorem wp_in {o : Oper} {a : Act} {w : World} {K : Act → World → Prop} (hd : ∀ c, o.op ≠ .defer c) (h : o.wp P a w K Q) : o.wpIn (Fence.wide.inRound l) n P a w K Q := by
  unfold Oper.wpIn
  refine ⟨fun _ _ => trivial, ?_⟩
  rw [Oper.semAt_eq _ _ _ hd]
  exact upon_in h
theorem wpOp_in (hQ : ¬ LetsOut Q) (hn : noDefer ops = true) {i : Nat} {a : Act} {w : World} {K K' : Act → World → Prop} (hK : ∀ a w, K a w → K' a w) (h : wpOp P ops Q i K a w) : wpOpIn (Fence.wide.inRound l) n P ops Q i K' a w := by
  refine wpOpIn_mono hK ?_
  unfold wpOp at h
  unfold wpOpIn
  split
  · rename_i ho; simp only [ho] at h; exact h
  · rename_i o ho
    simp only [ho] at h
    split
    · rename_i hw; simp only [hw, if_true] at h; exact wp_in (noDefer_at hn ho) (h.resolve_right fun h => hQ h.2)
    · rename_i hw; simp only [hw] at h; exact ⟨fun _ _ => trivial, h⟩
theorem wpAny_in (hQ : ¬ LetsOut Q) (hn : noDefer ops = true) : ∀ (fuel : Nat) (listed : Array Bool) (a : Act) (w : World), wpAny P md ops Q fuel listed a w → wpAnyIn (Fence.wide.inRound l) n P md ops Q fuel listed a w
  | 0, _, _, _, h => h
  | fuel + 1, _, _, _, h => ⟨h.1, fun i hi => wpOp_in hQ hn (fun a' w' h' => wpAny_in hQ hn fuel _ a' w' h') (h.2 i hi)⟩
/-- E_start, within a round. -/
theorem E_startR (hR : Pre R) (hQ : ¬ LetsOut Q) (hn : noDefer ops = true) {id m : Nat} {a : Act} {w : World} (lv : Array Bool) (hm : P.follows .mixedOrders = true) (hs : ops.size = m) (hl : Array.replicate m false = lv)
    (h : ∀ w1, R w w1 → w1 = w.drew → wpE R P .any ops Q m lv a w1) : (Code.region id ops true).wpIn (Fence.wide.inRound l) n P Q a w := by
  subst hs
  subst hl
  exact wpIn_region_any hm (wpAny_in hQ hn _ _ _ _ (wpAny_of_E _ _ _ _ (h w.drew (hR.drew w) rfl)))
theorem wpList_in (hQ : ¬ LetsOut Q) : ∀ (os : List Oper) (a : Act) (w : World), (∀ o ∈ os, ∀ c, o.op ≠ .defer c) → wpList P ops Q os a w → wpListIn (Fence.wide.inRound l) n P ops Q os a w
  | [], _, _, _, h => h
  | o :: os, a, w, hn, h => by
    have ih := fun a w h => wpList_in hQ os a w (fun o' ho => hn o' (List.mem_cons_of_mem _ ho)) h
    unfold wpList at h
    unfold wpListIn
    split
    · rename_i hw
      simp only [hw, if_true] at h
      exact Oper.wpIn_mono ih (wp_in (hn o (List.mem_cons_self ..)) (h.resolve_right fun h => hQ h.2))
    · rename_i hw
      simp only [hw] at h
      exact ⟨fun _ _ => trivial, ih _ _ h⟩
theorem noDefer_mem (hn : noDefer ops = true) : ∀ o ∈ ops.toList, ∀ c, o.op ≠ .defer c := fun o ho c hc => by
  have := List.all_eq_true.1 hn o ho
  rw [hc] at this
  cases this
/-- A region that draws no order, within a round. -/
theorem R_list (hQ : ¬ LetsOut Q) (hn : noDefer ops = true) {id : Nat} {a : Act} {w : World} (h : wpList P ops Q ops.toList a w) : (Code.region id ops false).wpIn (Fence.wide.inRound l) n P Q a w :=
  wpIn_region_list (wpList_in hQ _ _ _ (noDefer_mem hn) h)
theorem R_lit (hQ : ¬ LetsOut Q) {os : List Oper} (hn : noDefer os.toArray = true) {id : Nat} {a : Act} {w : World} (h : wpList P os.toArray Q os a w) : (Code.region id os.toArray false).wpIn (Fence.wide.inRound l) n P Q a w :=
  R_list hQ hn (by simpa using h)
theorem letsOut_then {K : Act → World → Prop} (h : ¬ LetsOut Q) : ¬ LetsOut (Exit.then K Q) := fun ⟨a, w, h2⟩ => h ⟨a, w, h2⟩
end Go.Proofs.Ythamhaomfdgdjaa
