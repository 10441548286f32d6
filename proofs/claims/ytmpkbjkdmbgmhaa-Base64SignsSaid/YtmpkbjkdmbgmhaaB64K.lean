/- awake of chapter 02, and Base64Lengths. -/
import Derived.Test.YtmpkbjkdmbgmhaaLen
import Derived.Lib.SmallJoins
namespace Go.Proofs.Ytmpkbjkdmbgmhaa
open Go.RowKit

theorem rd_litF (wx : World) (xs : List UInt8) (fr : Nat × Nat) : RdB (wx.alloc (.cells (xs.map bV).toArray 5 fr)) (some ⟨wx.heap.size, 0, none⟩) xs := by
  refine Rd.mk fun i hi => ?_
  rw [Nat.zero_add, cell_of_row _ wx.heap.size i _ 5 fr (heap_alloc_new wx _)]
  exact List.getElem?_toArray

theorem i64b {n : Int} (h : (Lit.int .i64 n).wf = true) : -9223372036854775808 ≤ n ∧ n ≤ 9223372036854775807 := by
  simpa [Lit.wf, IntKind.min, IntKind.max, IntKind.signed, IntKind.bits] using h

theorem litE (wx : World) (xs : List UInt8) (fr : Nat × Nat) (n : Nat) (hn : xs.length = n) :
    RdBB ((wx.alloc (.cells (xs.map bV).toArray 5 fr)).alloc (.cells #[.slice (some ⟨wx.heap.size, 0, none⟩) n n] 23)) (some ⟨wx.heap.size + 1, 0, none⟩) [.slice (some ⟨wx.heap.size, 0, none⟩) n n] [xs] := by
  have := lit1_bb (wx.alloc (.cells (xs.map bV).toArray 5 fr)) (some ⟨wx.heap.size, 0, none⟩) n n xs hn (rd_litF wx xs fr)
  rw [World.size_alloc] at this
  exact this

theorem below2 {w0 w : World} {B : Nat} (h : Below B w0 w) (hB : B ≤ w.heap.size) (a b : Obj) : Below B w0 ((w.alloc a).alloc b) := (h.alloc hB a).alloc (by rw [World.size_alloc]; omega) b

set_option maxHeartbeats 1600000 in
theorem awake_any (w : World) : Calls Try.prog 7 #[] w fun e w' => e = .returned (.bool true) ∧ Below w.heap.size w w' := by
  have kc := fun (wx : World) (C : Array Value) (n c g : Nat) (hg : g = wx.heap.size) => Joins.run_convert_bytes_const_at (P := Try.prog) wx 23 5 C n c g hg Try.underlying23 Try.underlying5
  have C1 := Lib.hid (show okD [90, 109, 57] = false by decide +kernel)
  have C2 := Lib.hid (show encF [102, 111, 111, 98, 97, 114] = [90, 109, 57, 118, 89, 109, 70, 121] by decide +kernel)
  have C3 := Lib.hid (show encF [102, 111] = [90, 109, 56] by decide +kernel)
  have c4 : ((str [90, 109, 57, 118, 89, 109, 70, 121]).toList == [90, 109, 57, 118, 89, 109, 70, 121]) = true := by rw [str_toList]; rfl
  have c5 : ((str [90, 109, 56]).toList == [90, 109, 56]) = true := by rw [str_toList]; rfl
  go_enter Try.func7, Try.ntmps7
  go_wp2_with (go_at_call 8; refine (decode_any [90, 109, 57] _ (by decide)).mono ?_; rintro e w1 ⟨v, rfl, hown, hbel⟩; rw [C1.out]; clear hown)
  refine (encode_any _ 1 1 _ [[102, 111, 111, 98, 97, 114]] _ rfl (litE w1 [102, 111, 111, 98, 97, 114] (6, 7) 6 rfl) (by decide) (by decide)).mono ?_
  rintro e w2 ⟨rfl, hbel2⟩
  rw [show [[102, 111, 111, 98, 97, 114]].flatten = ([102, 111, 111, 98, 97, 114] : List UInt8) from rfl, C2.out]
  have hb2 := (below2 hbel hbel.size _ _).trans (hbel2.mono (by have := hbel.size; rw [World.size_alloc, World.size_alloc]; omega))
  clear hbel hbel2
  go_wp2_with fail
  refine (encode_any _ 1 1 _ [[102, 111]] _ rfl (litE w2 [102, 111] (2, 3) 2 rfl) (by decide) (by decide)).mono ?_
  rintro e w3 ⟨rfl, hbel3⟩
  rw [show [[102, 111]].flatten = ([102, 111] : List UInt8) from rfl, C3.out]
  go_wp2
  go_ret
  exact ⟨rfl, (below2 hb2 hb2.size _ _).trans (hbel3.mono (by have := hb2.size; rw [World.size_alloc, World.size_alloc]; omega))⟩

theorem awake_acc (w0 w : World) (hb : Below w0.heap.size w0 w) : Calls Try.prog 7 #[] w fun e w' => e = .returned (.bool true) ∧ Below w0.heap.size w0 w' :=
  (awake_any w).mono fun _ _ ⟨h1, h2⟩ => ⟨h1, hb.trans (h2.mono hb.size)⟩

set_option maxHeartbeats 1600000 in
theorem base64Lengths_walk (n : Int) (w : World) (h1 : -9223372036854775808 ≤ n) (h2 : n ≤ 9223372036854775807) :
    Calls Try.prog 6 #[.int .i64 n] w fun e w' => e = .returned (.bool true) ∧ Below w.heap.size w w' := by
  have hb := Below.refl w.heap.size w
  by_cases hn0 : n < 0
  · go_enter Try.func6, Try.ntmps6
    go_wp2_with (go_at_call 7; refine (awake_acc w _ hb).mono ?_; clear hb; rintro e w1 ⟨rfl, hb⟩)
    go_ret
    exact ⟨rfl, hb⟩
  by_cases hn1 : 1152921504606846976 < n
  · go_enter Try.func6, Try.ntmps6
    go_wp2_with (go_at_call 7; refine (awake_acc w _ hb).mono ?_; clear hb; rintro e w1 ⟨rfl, hb⟩)
    go_ret
    exact ⟨rfl, hb⟩
  have l3 : lenF (n + 3) = lenF n + 4 := by unfold lenF; split <;> split <;> omega
  have l1 : lenF n < lenF (n + 1) := by unfold lenF; split <;> split <;> (try split) <;> (try split) <;> omega
  have l0 : n ≤ lenF n := by unfold lenF; split <;> (try split) <;> omega
  have lb : 0 ≤ lenF n ∧ lenF n ≤ 4611686018427387904 := by unfold lenF; split <;> (try split) <;> omega
  go_enter Try.func6, Try.ntmps6
  go_wp2_with (first | (go_at_call 7; refine (awake_acc w _ hb).mono ?_; clear hb; rintro e w1 ⟨rfl, hb⟩) | (go_at_call 13; refine (len_any _ _ (by omega)).mono ?_; rintro e w' ⟨rfl, rfl⟩))
  go_ret
  exact ⟨rfl, hb⟩
end Go.Proofs.Ytmpkbjkdmbgmhaa
