/- Contracts of strings.Builder: WriteByte, String. -/
import Derived.Test.YtmpkbjkdmbgmhaaBase
import Derived.Test.YtmpkbjkdmbgmhaaShelf
import Derived.Shelf.Strings.Builder1
namespace Go.Proofs.Ytmpkbjkdmbgmhaa
open Go.RowKit

set_option maxHeartbeats 1000000 in
theorem copyCheck_any (B b : Nat) (bs : List Value) (w : World) (h : Lib.IsBuilder 41 5 B b bs w) :
    Calls Try.prog 27 #[.pointer (some ⟨b, 0, none⟩)] w fun e w' => e = .returned (.tuple #[]) ∧ (Lib.BuilderAt 41 5 B b (.pointer (some ⟨b, 0, none⟩)) bs w' ∧ Below B w w') := by
  have hsz : (Try.prog.info? 41).map (·.size) = some 2 := by kernel_rfl
  obtain ⟨j, hj, hjs⟩ := Option.map_eq_some_iff.1 hsz
  have L70 := Try.underlying39
  have L164 := Try.underlying58
  have hlies : liesAt Try.prog Try.prog.depth 41 (2 / Try.prog.cellsOf 41) 0 41 1 = true := by kernel_rfl
  rcases h with h | h
  · have h0 := h.cell0
    have hsh := h.shape
    have hfz := h.frozen0
    have HB := Lib.hid h
    clear h
    go_enter Try.func27, Try.ntmps27
    go_wp2
    rw [Lib.run_to_unsafe w ⟨b, 0, none⟩ L70 L164 hj (by rw [hjs]; decide) hsh (Nat.zero_lt_succ 1)]
    simp only [Result.andThen]
    rw [Oper.upon_value]
    go_wp2
    rw [run_callFunc_extern Try.func28 (by kernel_rfl) (by kernel_rfl) (by kernel_rfl) (e := Extern.AbiNoEscape.same) (by kernel_rfl)]
    rw [Lib.run_noEscape]
    simp only [Result.andThen]
    rw [Oper.upon_value]
    go_wp2
    rw [Lib.run_from_unsafe w ⟨b, 0, none⟩ L164 L70 hj hsh hlies]
    simp only [Result.andThen]
    rw [Oper.upon_value]
    go_wp2
    go_end0
    exact ⟨rfl, HB.out.used _, (Below.refl B w).setCell (p := ⟨b, 0, none⟩) HB.out.1 _⟩
  · have h0 := h.cell0
    have HB := Lib.hid h
    clear h
    go_enter Try.func27, Try.ntmps27
    go_wp2
    rw [Lib.run_neq_ptr_same w _ L70 hj]
    go_wp2
    go_end0
    exact ⟨rfl, HB.out, Below.refl B _⟩

/-- A builder that holds l. -/
def IsB (B b : Nat) (l : List UInt8) (w : World) : Prop := Lib.IsBuilder 41 5 B b (l.map bV) w

theorem TBb : ElemT Try.prog 23 5 (.int .u8 0) 1 := ⟨Try.underlying23, by kernel_rfl, rfl⟩

theorem blt_after {w1 w2 : World} {b : Nat} {cs : Array Value} {T : TypeId} {o : Obj} {v : Value} (hbk : w1.heap[b]? = some (.cells cs T (0, 0))) (hne : v.ownBlock ≠ some b) (hg : (w1.alloc o).grownBy w2 v.ownBlock) : w2.heap[b]? = some (.cells cs T (0, 0)) := by
  have hlt : b < w1.heap.size := (Array.getElem?_eq_some_iff.1 hbk).1
  rw [hg.block b (by simp; omega) (fun e => hne e.symm), Below.heap_alloc w1 _ b hlt]
  exact hbk

set_option maxHeartbeats 1000000 in
theorem writeByte_any (B b : Nat) (l : List UInt8) (d : UInt8) (w : World) (h : IsB B b l w) (hlen : l.length + 1 ≤ 140737488355328) (hBw : B ≤ w.heap.size) :
    Calls Try.prog 25 #[.pointer (some ⟨b, 0, none⟩), .int .u8 (d.toNat : Int)] w fun e w' => e = .returned .nilIface ∧ IsB B b (l ++ [d]) w' ∧ Below B w w' := by
  have H := Lib.hid h
  clear h
  go_enter Try.func25, Try.ntmps25
  go_wp2_with (go_at_call 27; refine (copyCheck_any B b _ _ H.out).mono ?_)
  rintro e w1 ⟨rfl, h1, hb1⟩
  obtain ⟨hB, v, hbk, hown, hne⟩ := h1
  have c0 : w1.cell? ⟨b, 0, none⟩ = some (.pointer (some ⟨b, 0, none⟩)) := by rw [Lib.cell_of_heap hbk]; rfl
  have c1 : w1.cell? ⟨b, 1, none⟩ = some v := by rw [Lib.cell_of_heap hbk]; rfl
  have HO := Lib.hid hown
  have HK := Lib.hid hbk
  have HE := Lib.hid hne
  have hll : (l.map bV).length = l.length := List.length_map _
  have HL := Lib.hid hll
  clear hown hbk hne hll
  have hsrc := Lib.hid fun (wx : World) => RdB.src (P := Try.prog) (c := 1) (A := some ⟨wx.heap.size, 0, none⟩) (w := wx.alloc (.cells #[.int .u8 (d.toNat : Int)] 5)) (xs := [d]) (n := 1) Try.underlying23 (Rd.mk (fun i hi => by simp at hi; subst hi; simp [bV])) rfl
  go_wp2_with (at_builtin; go_loud (refine wpList_app' TBb B (HO.out.alloc _) _ (hsrc.out _) rfl rfl rfl rfl (by have := HL.out; unfold maxLen; omega) (by have := HL.out; omega) (by have := hb1.size; simp; omega) (hb1.alloc (by have := hb1.size; omega) _) (fun A1 n1 w2 hown' hgrow hb2 => ?_)); have hb3 := blt_after HK.out HE.out hgrow; have d0 : w2.cell? ⟨b, 0, none⟩ = some (.pointer (some ⟨b, 0, none⟩)) := (by rw [Lib.cell_of_heap hb3]; rfl); have d1 : w2.cell? ⟨b, 1, none⟩ = some v := (by rw [Lib.cell_of_heap hb3]; rfl); have f1 : w2.frozen? ⟨b, 1, none⟩ = false := Lib.frozen_of_heap hb3 1; have HO' := Lib.hid hown'; have HK3 := Lib.hid hb3; clear hown' hb3 hsrc hgrow)
  go_ret
  refine ⟨rfl, .inr ?_, hb2.setCell (p := ⟨b, 1, none⟩) hB _⟩
  have e : (l ++ [d]).map bV = l.map bV ++ [bV d] := by simp
  exact Lib.BuilderAt.put (T := 41) (e := 5) hB HK3.out (bs' := (l ++ [d]).map bV) (by rw [e]; simpa using HO'.out) (by decide)

theorem string_any (B b : Nat) (l : List UInt8) (w : World) (h : IsB B b l w) (hBw : B ≤ w.heap.size) :
    Calls Try.prog 20 #[.pointer (some ⟨b, 0, none⟩)] w fun e w' => e = .returned (.string (str l)) ∧ Below B w w' :=
  Try.Builder_String_any B b l w h hBw
end Go.Proofs.Ytmpkbjkdmbgmhaa
