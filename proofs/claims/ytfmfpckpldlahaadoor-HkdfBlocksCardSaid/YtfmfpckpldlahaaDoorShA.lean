/- awake, and what the laws need besides. -/
import Derived.Test.YtfmfpckpldlahaaDoorSum
import Derived.Test.YtfmfpckpldlahaaDoorArrEq
import Derived.Lib.SmallJoins
namespace Go.Proofs.YtfmfpckpldlahaaDoor
open Go.RowKit Go.Proofs.YtfmfpckpldlahaaDoor.Pure Go.Proofs.YtfmfpckpldlahaaDoor.PB Go.Proofs.YtfmfpckpldlahaaDoorW.PrintWords

theorem rd_litF (wx : World) (xs : List UInt8) (fr : Nat × Nat) : RdB (wx.alloc (.cells (xs.map bV).toArray 5 fr)) (some ⟨wx.heap.size, 0, none⟩) xs := by
  refine Rd.mk fun i hi => ?_
  rw [Nat.zero_add, cell_of_row _ wx.heap.size i _ 5 fr (heap_alloc_new wx _)]
  exact List.getElem?_toArray
theorem lit1_bbA (w : World) (A : Option Addr) (l c : Nat) (d : List UInt8) (hl : d.length = l) (h : RdB w A d) : RdBB (w.alloc (.cells #[.slice A l c] 22)) (some ⟨w.heap.size, 0, none⟩) [.slice A l c] [d] := by
  refine ⟨Rd.mk fun i hi => ?_, rfl, fun i xs hi => ?_⟩
  · have : i = 0 := by simpa using hi
    subst this
    rw [Nat.zero_add, cell_of_row _ w.heap.size 0 _ 22 (0, 0) (heap_alloc_new w _)]; rfl
  · match i, hi with
    | 0, hi => cases hi; exact ⟨A, c, by rw [hl]; rfl, h.keep ((Below.refl _ w).alloc (Nat.le_refl _) _)⟩
    | i + 1, hi => simp at hi
theorem litE (wx : World) (xs : List UInt8) (fr : Nat × Nat) (n : Nat) (hn : xs.length = n) :
    RdBB ((wx.alloc (.cells (xs.map bV).toArray 5 fr)).alloc (.cells #[.slice (some ⟨wx.heap.size, 0, none⟩) n n] 22)) (some ⟨wx.heap.size + 1, 0, none⟩) [.slice (some ⟨wx.heap.size, 0, none⟩) n n] [xs] := by
  have := lit1_bbA (wx.alloc (.cells (xs.map bV).toArray 5 fr)) (some ⟨wx.heap.size, 0, none⟩) n n xs hn (rd_litF wx xs fr)
  rw [World.size_alloc] at this
  exact this
theorem below2 {w0 w : World} {B : Nat} (h : Below B w0 w) (hB : B ≤ w.heap.size) (a b : Obj) : Below B w0 ((w.alloc a).alloc b) := (h.alloc hB a).alloc (by rw [World.size_alloc]; omega) b

theorem sumF_length (xs : List UInt8) : (sumF xs).length = 64 := by
  unfold sumF
  rw [outF_length, hP_length]
theorem sumA_size (xs : List UInt8) : ((sumF xs).map bV).toArray.size = 64 := by rw [List.size_toArray, List.length_map, sumF_length]
theorem sumA_one (xs : List UInt8) : ((sumF xs).map bV).toArray.all (·.oneCell') = true := by simp [bV, Value.oneCell']
end Go.Proofs.YtfmfpckpldlahaaDoor
