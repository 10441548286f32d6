/- awake, and what the laws need besides. -/
import Derived.Test.YtiihcgiakmienaaDoorSum
import Derived.Test.YtiihcgiakmienaaDoorRHex
import Derived.Test.YtiihcgiakmienaaDoorArrEq
import Derived.Lib.SmallJoins
namespace Go.Proofs.YtiihcgiakmienaaDoor
open Go.RowKit Go.Proofs.YtiihcgiakmienaaDoor.Pure Go.Proofs.YtiihcgiakmienaaDoor.PB Go.Proofs.YtiihcgiakmienaaDoorW.PrintWords

theorem rd_litF (wx : World) (xs : List UInt8) (fr : Nat × Nat) : RdB (wx.alloc (.cells (xs.map bV).toArray 5 fr)) (some ⟨wx.heap.size, 0, none⟩) xs := by
  refine Rd.mk fun i hi => ?_
  rw [Nat.zero_add, cell_of_row _ wx.heap.size i _ 5 fr (heap_alloc_new wx _)]
  exact List.getElem?_toArray
theorem lit1_bbA (w : World) (A : Option Addr) (l c : Nat) (d : List UInt8) (hl : d.length = l) (h : RdB w A d) : RdBB (w.alloc (.cells #[.slice A l c] 24)) (some ⟨w.heap.size, 0, none⟩) [.slice A l c] [d] := by
  refine ⟨Rd.mk fun i hi => ?_, rfl, fun i xs hi => ?_⟩
  · have : i = 0 := by simpa using hi
    subst this
    rw [Nat.zero_add, cell_of_row _ w.heap.size 0 _ 24 (0, 0) (heap_alloc_new w _)]; rfl
  · match i, hi with
    | 0, hi => cases hi; exact ⟨A, c, by rw [hl]; rfl, h.keep ((Below.refl _ w).alloc (Nat.le_refl _) _)⟩
    | i + 1, hi => simp at hi
theorem litE (wx : World) (xs : List UInt8) (fr : Nat × Nat) (n : Nat) (hn : xs.length = n) :
    RdBB ((wx.alloc (.cells (xs.map bV).toArray 5 fr)).alloc (.cells #[.slice (some ⟨wx.heap.size, 0, none⟩) n n] 24)) (some ⟨wx.heap.size + 1, 0, none⟩) [.slice (some ⟨wx.heap.size, 0, none⟩) n n] [xs] := by
  have := lit1_bbA (wx.alloc (.cells (xs.map bV).toArray 5 fr)) (some ⟨wx.heap.size, 0, none⟩) n n xs hn (rd_litF wx xs fr)
  rw [World.size_alloc] at this
  exact this
theorem below2 {w0 w : World} {B : Nat} (h : Below B w0 w) (hB : B ≤ w.heap.size) (a b : Obj) : Below B w0 ((w.alloc a).alloc b) := (h.alloc hB a).alloc (by rw [World.size_alloc]; omega) b

theorem sumF_length (xs : List UInt8) : (sumF xs).length = 64 := by
  unfold sumF
  rw [outF_length, hP_length]
theorem sumA_size (xs : List UInt8) : ((sumF xs).map bV).toArray.size = 64 := by rw [List.size_toArray, List.length_map, sumF_length]
theorem sumA_one (xs : List UInt8) : ((sumF xs).map bV).toArray.all (·.oneCell') = true := by simp [bV, Value.oneCell']
theorem abc4 : hexF ((sumF [97, 98, 99]).take 4) = [100, 100, 97, 102, 51, 53, 97, 49] := by decide +kernel
set_option maxRecDepth 100000 in
set_option maxHeartbeats 1600000 in
theorem awake_any (w : World) (hG : GK w) : Calls Tryd.prog 5 #[] w fun e w' => e = .returned (.bool true) ∧ Below w.heap.size w w' := by
  have HG := Lib.hid hG
  clear hG
  have kc := fun (wx : World) (C : Array Value) (n c g : Nat) (hg : g = wx.heap.size) => Joins.run_convert_bytes_const_at (P := Tryd.prog) wx 24 5 C n c g hg Tryd.underlying24 Tryd.underlying5
  have c4 : ((str [100, 100, 97, 102, 51, 53, 97, 49]).toList == [100, 100, 97, 102, 51, 53, 97, 49]) = true := by rw [str_toList]; rfl
  go_enter Tryd.func5, Tryd.ntmps5
  go_wp2_with fail
  have hb0 := below2 (Below.refl w.heap.size w) (Nat.le_refl _) (.cells ([97, 98, 99].map bV).toArray 5 (3, 4)) (.cells #[.slice (some ⟨w.heap.size, 0, none⟩) 3 3] 24)
  refine (sum_any _ 1 1 _ [[97, 98, 99]] _ rfl (litE w [97, 98, 99] (3, 4) 3 rfl) (HG.out.keep hb0) (by decide) (by decide)).mono ?_
  rintro e w2 ⟨rfl, hbel⟩
  rw [show [[97, 98, 99]].flatten = ([97, 98, 99] : List UInt8) from rfl]
  have hb2 := hb0.trans (hbel.mono hb0.size)
  clear hb0 hbel
  have HE := Lib.hid abc4
  have HZ := Lib.hid (sumA_size [97, 98, 99])
  have HO := Lib.hid (sumA_one [97, 98, 99])
  have HL := Lib.hid (sumF_length [97, 98, 99])
  generalize sumF [97, 98, 99] = sm at *
  go_wp2_with (first | (go_loud (refine wpList_store_row rfl 26 _ _ rfl w2.heap.size (sm.map bV).toArray rfl rfl _ _ (heap_alloc_new w2 _) (by rw [HZ.out]; kernel_rfl) (by rw [HZ.out]; rfl) HO.out ?_)))
  have hB := (Blk.new w2 [.int .u8 0, .int .u8 0, .int .u8 0, .int .u8 0, .int .u8 0, .int .u8 0, .int .u8 0, .int .u8 0, .int .u8 0, .int .u8 0, .int .u8 0, .int .u8 0, .int .u8 0, .int .u8 0, .int .u8 0, .int .u8 0, .int .u8 0, .int .u8 0, .int .u8 0, .int .u8 0, .int .u8 0, .int .u8 0, .int .u8 0, .int .u8 0, .int .u8 0, .int .u8 0, .int .u8 0, .int .u8 0, .int .u8 0, .int .u8 0, .int .u8 0, .int .u8 0, .int .u8 0, .int .u8 0, .int .u8 0, .int .u8 0, .int .u8 0, .int .u8 0, .int .u8 0, .int .u8 0, .int .u8 0, .int .u8 0, .int .u8 0, .int .u8 0, .int .u8 0, .int .u8 0, .int .u8 0, .int .u8 0, .int .u8 0, .int .u8 0, .int .u8 0, .int .u8 0, .int .u8 0, .int .u8 0, .int .u8 0, .int .u8 0, .int .u8 0, .int .u8 0, .int .u8 0, .int .u8 0, .int .u8 0, .int .u8 0, .int .u8 0, .int .u8 0] 26).setRow (sm.map bV)
  have hb3 : Below w.heap.size w ((w2.alloc (.cells #[.int .u8 0, .int .u8 0, .int .u8 0, .int .u8 0, .int .u8 0, .int .u8 0, .int .u8 0, .int .u8 0, .int .u8 0, .int .u8 0, .int .u8 0, .int .u8 0, .int .u8 0, .int .u8 0, .int .u8 0, .int .u8 0, .int .u8 0, .int .u8 0, .int .u8 0, .int .u8 0, .int .u8 0, .int .u8 0, .int .u8 0, .int .u8 0, .int .u8 0, .int .u8 0, .int .u8 0, .int .u8 0, .int .u8 0, .int .u8 0, .int .u8 0, .int .u8 0, .int .u8 0, .int .u8 0, .int .u8 0, .int .u8 0, .int .u8 0, .int .u8 0, .int .u8 0, .int .u8 0, .int .u8 0, .int .u8 0, .int .u8 0, .int .u8 0, .int .u8 0, .int .u8 0, .int .u8 0, .int .u8 0, .int .u8 0, .int .u8 0, .int .u8 0, .int .u8 0, .int .u8 0, .int .u8 0, .int .u8 0, .int .u8 0, .int .u8 0, .int .u8 0, .int .u8 0, .int .u8 0, .int .u8 0, .int .u8 0, .int .u8 0, .int .u8 0] 26)).setRow w2.heap.size (sm.map bV).toArray) := (hb2.alloc hb2.size _).trans (below_setRow hb2.size)
  obtain ⟨w3, hw3⟩ : ∃ w3, (w2.alloc (.cells #[.int .u8 0, .int .u8 0, .int .u8 0, .int .u8 0, .int .u8 0, .int .u8 0, .int .u8 0, .int .u8 0, .int .u8 0, .int .u8 0, .int .u8 0, .int .u8 0, .int .u8 0, .int .u8 0, .int .u8 0, .int .u8 0, .int .u8 0, .int .u8 0, .int .u8 0, .int .u8 0, .int .u8 0, .int .u8 0, .int .u8 0, .int .u8 0, .int .u8 0, .int .u8 0, .int .u8 0, .int .u8 0, .int .u8 0, .int .u8 0, .int .u8 0, .int .u8 0, .int .u8 0, .int .u8 0, .int .u8 0, .int .u8 0, .int .u8 0, .int .u8 0, .int .u8 0, .int .u8 0, .int .u8 0, .int .u8 0, .int .u8 0, .int .u8 0, .int .u8 0, .int .u8 0, .int .u8 0, .int .u8 0, .int .u8 0, .int .u8 0, .int .u8 0, .int .u8 0, .int .u8 0, .int .u8 0, .int .u8 0, .int .u8 0, .int .u8 0, .int .u8 0, .int .u8 0, .int .u8 0, .int .u8 0, .int .u8 0, .int .u8 0, .int .u8 0] 26)).setRow w2.heap.size (sm.map bV).toArray = w3 := ⟨_, rfl⟩
  rw [hw3] at hB hb3 ⊢
  have hR : RdB w3 (some ⟨w2.heap.size, 0, none⟩) sm := hB.rd
  refine (refHex_any _ 4 64 (sm.take 4) _ (by rw [List.length_take, HL.out]; rfl) (RdB.take hR 4) (by decide)).mono ?_
  rintro e w4 ⟨rfl, hb4⟩
  rw [HE.out]
  go_wp2
  go_ret
  exact ⟨rfl, hb3.trans (hb4.mono hb3.size)⟩

theorem awake_acc (w0 w : World) (hG : GK w) (hb : Below w0.heap.size w0 w) : Calls Tryd.prog 5 #[] w fun e w' => e = .returned (.bool true) ∧ Below w0.heap.size w0 w' :=
  (awake_any w hG).mono fun _ _ ⟨h1, h2⟩ => ⟨h1, hb.trans (h2.mono hb.size)⟩
end Go.Proofs.YtiihcgiakmienaaDoor
