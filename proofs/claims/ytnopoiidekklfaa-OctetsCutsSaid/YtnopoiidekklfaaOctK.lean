/- awake of chapter 01. -/
import Derived.Test.YtnopoiidekklfaaPcs
import Derived.Lib.SmallJoins
namespace Go.Proofs.Ytnopoiidekklfaa
open Go.RowKit

theorem rd_lit (wx : World) (xs : List UInt8) (fr : Nat × Nat) : RdB (wx.alloc (.cells (xs.map bV).toArray 5 fr)) (some ⟨wx.heap.size, 0, none⟩) xs := by
  refine Rd.mk fun i hi => ?_
  rw [Nat.zero_add, cell_of_row _ wx.heap.size i _ 5 fr (heap_alloc_new wx _)]
  exact List.getElem?_toArray

theorem rd_litV (wx : World) (vs : List Value) (t : TypeId) : Rd (wx.alloc (.cells vs.toArray t)) (some ⟨wx.heap.size, 0, none⟩) vs := by
  refine Rd.mk fun i hi => ?_
  rw [Nat.zero_add, cell_of_row _ wx.heap.size i _ t (0, 0) (heap_alloc_new wx _)]
  exact List.getElem?_toArray

theorem Below.of4 (x : World) (a b c d : Obj) : Below x.heap.size x ((((x.alloc a).alloc b).alloc c).alloc d) :=
  ((((Below.refl _ x).alloc (Nat.le_refl _) a).alloc (by simp) b).alloc (by simp; omega) c).alloc (by simp; omega) d

theorem lit3 (w : World) (f1 f2 f3 : Nat × Nat) : RdBB ((((w.alloc (.cells #[.int .u8 97, .int .u8 98] 5 f1)).alloc (.cells #[.int .u8 99, .int .u8 100] 5 f2)).alloc (.cells #[.int .u8 101] 5 f3)).alloc
      (.cells #[.slice (some ⟨w.heap.size, 0, none⟩) 2 2, .slice (some ⟨w.heap.size + 1, 0, none⟩) 2 2, .slice (some ⟨w.heap.size + 1 + 1, 0, none⟩) 1 1] 22))
    (some ⟨w.heap.size + 1 + 1 + 1, 0, none⟩) [.slice (some ⟨w.heap.size, 0, none⟩) 2 2, .slice (some ⟨w.heap.size + 1, 0, none⟩) 2 2, .slice (some ⟨w.heap.size + 1 + 1, 0, none⟩) 1 1] [[97, 98], [99, 100], [101]] := by
  have hA := rd_lit w [97, 98] f1
  have hB := rd_lit (w.alloc (.cells #[.int .u8 97, .int .u8 98] 5 f1)) [99, 100] f2
  have hC := rd_lit ((w.alloc (.cells #[.int .u8 97, .int .u8 98] 5 f1)).alloc (.cells #[.int .u8 99, .int .u8 100] 5 f2)) [101] f3
  have hD := rd_litV (((w.alloc (.cells #[.int .u8 97, .int .u8 98] 5 f1)).alloc (.cells #[.int .u8 99, .int .u8 100] 5 f2)).alloc (.cells #[.int .u8 101] 5 f3)) [.slice (some ⟨w.heap.size, 0, none⟩) 2 2, .slice (some ⟨w.heap.size + 1, 0, none⟩) 2 2, .slice (some ⟨w.heap.size + 1 + 1, 0, none⟩) 1 1] 22
  rw [World.size_alloc] at hB
  rw [World.size_alloc, World.size_alloc] at hC
  rw [World.size_alloc, World.size_alloc, World.size_alloc] at hD
  have hk : ∀ (x : World) (o : Obj), Below x.heap.size x (x.alloc o) := fun x o => (Below.refl _ x).alloc (Nat.le_refl _) o
  refine ⟨hD, rfl, fun i xs hi => ?_⟩
  match i, hi with
  | 0, hi => cases hi; exact ⟨_, 2, rfl, ((hA.keep (hk _ _)).keep (hk _ _)).keep (hk _ _)⟩
  | 1, hi => cases hi; exact ⟨_, 2, rfl, (hB.keep (hk _ _)).keep (hk _ _)⟩
  | 2, hi => cases hi; exact ⟨_, 1, rfl, hC.keep (hk _ _)⟩
  | i + 3, hi => simp at hi

set_option maxHeartbeats 1600000 in
theorem awake_any (w : World) : Calls Try.prog 8 #[] w fun e w' => e = .returned (.bool true) ∧ Below w.heap.size w w' := by
  have kc := fun (wx : World) (C : Array Value) (n c g : Nat) (hg : g = wx.heap.size) => Joins.run_convert_bytes_const_at (P := Try.prog) wx 22 5 C n c g hg Try.underlying22 Try.underlying5
  have c1 : layK 258 (sizeK 3) = [0, 1, 2] := by decide +kernel
  have c2 : cutF [97, 98, 99, 100, 101] 2 = [[97, 98], [99, 100], [101]] := by decide +kernel
  have c3 : hexF [0, 255] = [48, 48, 102, 102] := by decide +kernel
  have C1 := Lib.hid c1
  have C2 := Lib.hid c2
  have C3 := Lib.hid c3
  clear c1 c2 c3
  have c4 : ((str [0, 1, 2]).toList == [0, 1, 2]) = true := by rw [str_toList]; rfl
  have c5 : ((str [48, 48, 102, 102]).toList == [48, 48, 102, 102]) = true := by rw [str_toList]; rfl
  go_enter Try.func8, Try.ntmps8
  go_wp2_with (first | (go_at_call 10; refine (lay_any 258 3 _).mono ?_; rintro e w1 ⟨v, rfl, hown, hbel⟩; rw [C1.out] at hown; obtain ⟨A1, n1, rfl, _, _, hrd, _⟩ := own_rd hown; have hst := run_str w1 (P := Try.prog) (n := 3) (c := n1) Try.underlying22 Try.underlying5 (xs := [0, 1, 2]) hrd rfl Try.underlying9) | (go_at_call 14; refine (cut_any _ 5 5 2 [97, 98, 99, 100, 101] _ rfl (rd_lit w1 [97, 98, 99, 100, 101] _) (by decide) (by decide) (by decide)).mono ?_; rintro e w2 ⟨v2, vs2, rfl, hown2, heach2, hbel2⟩; rw [C2.out] at hown2 heach2; obtain ⟨A2, n2, rfl, _, _, hrd2, _⟩ := own_rd hown2; have hP := Lib.hid (heach2.rd hrd2); clear hown2 heach2 hrd2 hown hrd) | (go_at_call 16; refine (pieces_any _ _ 3 3 _ _ _ _ [[97, 98], [99, 100], [101]] [[97, 98], [99, 100], [101]] _ rfl rfl (hP.out.keep (Below.of4 _ _ _ _ _)) (lit3 w2 _ _ _) (by decide) (by decide)).mono ?_; rintro e w3 ⟨rfl, mq, hw3⟩; rw [show (([[97, 98], [99, 100], [101]] : List (List UInt8)) == [[97, 98], [99, 100], [101]]) = true by decide]; have hbel3 : Below w2.heap.size w2 w3 := (by rw [hw3]; exact below_drewN (Below.of4 _ _ _ _ _) mq); clear hw3) | (go_at_call 9; refine (hex_any _ 2 2 [0, 255] _ rfl (rd_lit _ [0, 255] (0, 0)) (by decide)).mono ?_; rintro e w4 ⟨rfl, hbel4⟩; rw [C3.out]))
  go_ret
  refine ⟨rfl, ?_⟩
  have hb2 := (hbel.alloc hbel.size _).trans (hbel2.mono (by have := hbel.size; rw [World.size_alloc]; omega))
  have hb3 := hb2.trans (hbel3.mono hb2.size)
  exact (hb3.alloc hb3.size _).trans (hbel4.mono (by have := hb3.size; rw [World.size_alloc]; omega))

theorem awake_acc (w0 w : World) (hb : Below w0.heap.size w0 w) : Calls Try.prog 8 #[] w fun e w' => e = .returned (.bool true) ∧ Below w0.heap.size w0 w' :=
  (awake_any w).mono fun _ _ ⟨h1, h2⟩ => ⟨h1, hb.trans (h2.mono hb.size)⟩
end Go.Proofs.Ytnopoiidekklfaa
