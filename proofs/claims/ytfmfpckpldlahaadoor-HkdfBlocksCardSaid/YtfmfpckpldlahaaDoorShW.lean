/- The words of a block. -/
import Derived.Test.YtfmfpckpldlahaaDoorSha3
import Derived.Test.YtfmfpckpldlahaaDoorMake
import Derived.Laws.Rows
import Derived.Outline
import Derived.Laws.Tables
namespace Go.Proofs.YtfmfpckpldlahaaDoor
open Go.RowKit Go.Proofs.YtfmfpckpldlahaaDoor.Pure

def wV (x : W) : Value := .int .u64 (tn x)

theorem below_setRow {B g : Nat} {w : World} {cs : Array Value} (h : B ≤ g) : Below B w (w.setRow g cs) :=
  ⟨rfl, rfl, rfl, by simp [World.setRow], fun k hk => by
    have : g ≠ k := by omega
    simp [World.setRow, Array.getElem?_modify, this]⟩

/-- The words as far as k bytes have gone in. -/
def wst (p : List UInt8) : Nat → List W
  | 0 => List.replicate 16 0
  | k + 1 => (wst p k).set (k / 8) ((wst p k).getD (k / 8) 0 <<< 8 ||| BitVec.ofNat 64 (p.getD k 0).toNat)
theorem wst_length (p : List UInt8) : ∀ k, (wst p k).length = 16
  | 0 => by simp [wst]
  | k + 1 => by rw [wst, List.length_set, wst_length p k]

set_option maxRecDepth 100000 in
set_option maxHeartbeats 1600000 in
theorem words_any (A : Option Addr) (n c : Nat) (p : List UInt8) (w : World) (hn : p.length = n) (hr : RdB w A p) (h1 : n = 128) (hc : n ≤ c) :
    Calls Tryd.prog 33 #[.slice A n c] w fun e w' => e = .returned (.agg ((wst p 128).map wV).toArray) ∧ Below w.heap.size w w' := by
  have HN := Lib.hid hn; have H := Lib.hid hr; have H1 := Lib.hid h1
  have h64 : 128 ≤ n := by omega
  have h64' : 128 ≤ c := by omega
  clear hn hr h1
  go_enter Tryd.func33, Tryd.ntmps33
  go_wp2
  have B1 : Blk ((w.alloc (.cells #[.int .u64 0, .int .u64 0, .int .u64 0, .int .u64 0, .int .u64 0, .int .u64 0, .int .u64 0, .int .u64 0, .int .u64 0, .int .u64 0, .int .u64 0, .int .u64 0, .int .u64 0, .int .u64 0, .int .u64 0, .int .u64 0] 61)).alloc (.cells #[.int .u64 0, .int .u64 0, .int .u64 0, .int .u64 0, .int .u64 0, .int .u64 0, .int .u64 0, .int .u64 0, .int .u64 0, .int .u64 0, .int .u64 0, .int .u64 0, .int .u64 0, .int .u64 0, .int .u64 0, .int .u64 0] 61)) (w.heap.size + 1) 61 ((wst p 0).map wV) := by
    have := Blk.new (w.alloc (.cells #[.int .u64 0, .int .u64 0, .int .u64 0, .int .u64 0, .int .u64 0, .int .u64 0, .int .u64 0, .int .u64 0, .int .u64 0, .int .u64 0, .int .u64 0, .int .u64 0, .int .u64 0, .int .u64 0, .int .u64 0, .int .u64 0] 61)) [.int .u64 0, .int .u64 0, .int .u64 0, .int .u64 0, .int .u64 0, .int .u64 0, .int .u64 0, .int .u64 0, .int .u64 0, .int .u64 0, .int .u64 0, .int .u64 0, .int .u64 0, .int .u64 0, .int .u64 0, .int .u64 0] 61
    rw [World.size_alloc] at this
    exact this
  have hB : Below w.heap.size w ((w.alloc (.cells #[.int .u64 0, .int .u64 0, .int .u64 0, .int .u64 0, .int .u64 0, .int .u64 0, .int .u64 0, .int .u64 0, .int .u64 0, .int .u64 0, .int .u64 0, .int .u64 0, .int .u64 0, .int .u64 0, .int .u64 0, .int .u64 0] 61)).alloc (.cells #[.int .u64 0, .int .u64 0, .int .u64 0, .int .u64 0, .int .u64 0, .int .u64 0, .int .u64 0, .int .u64 0, .int .u64 0, .int .u64 0, .int .u64 0, .int .u64 0, .int .u64 0, .int .u64 0, .int .u64 0, .int .u64 0] 61)) := ((Below.refl _ w).alloc (Nat.le_refl _) _).alloc (by rw [World.size_alloc]; omega) _
  have B0 : Blk ((w.alloc (.cells #[.int .u64 0, .int .u64 0, .int .u64 0, .int .u64 0, .int .u64 0, .int .u64 0, .int .u64 0, .int .u64 0, .int .u64 0, .int .u64 0, .int .u64 0, .int .u64 0, .int .u64 0, .int .u64 0, .int .u64 0, .int .u64 0] 61)).alloc (.cells #[.int .u64 0, .int .u64 0, .int .u64 0, .int .u64 0, .int .u64 0, .int .u64 0, .int .u64 0, .int .u64 0, .int .u64 0, .int .u64 0, .int .u64 0, .int .u64 0, .int .u64 0, .int .u64 0, .int .u64 0, .int .u64 0] 61)) w.heap.size 61 [.int .u64 0, .int .u64 0, .int .u64 0, .int .u64 0, .int .u64 0, .int .u64 0, .int .u64 0, .int .u64 0, .int .u64 0, .int .u64 0, .int .u64 0, .int .u64 0, .int .u64 0, .int .u64 0, .int .u64 0, .int .u64 0] := (Blk.new w [.int .u64 0, .int .u64 0, .int .u64 0, .int .u64 0, .int .u64 0, .int .u64 0, .int .u64 0, .int .u64 0, .int .u64 0, .int .u64 0, .int .u64 0, .int .u64 0, .int .u64 0, .int .u64 0, .int .u64 0, .int .u64 0] 61).alloc _
  obtain ⟨W0, hW0⟩ : ∃ W0, (w.alloc (.cells #[.int .u64 0, .int .u64 0, .int .u64 0, .int .u64 0, .int .u64 0, .int .u64 0, .int .u64 0, .int .u64 0, .int .u64 0, .int .u64 0, .int .u64 0, .int .u64 0, .int .u64 0, .int .u64 0, .int .u64 0, .int .u64 0] 61)).alloc (.cells #[.int .u64 0, .int .u64 0, .int .u64 0, .int .u64 0, .int .u64 0, .int .u64 0, .int .u64 0, .int .u64 0, .int .u64 0, .int .u64 0, .int .u64 0, .int .u64 0, .int .u64 0, .int .u64 0, .int .u64 0, .int .u64 0] 61) = W0 := ⟨_, rfl⟩
  rw [hW0] at B1 B0 hB ⊢
  clear hW0
  have C1 := Lib.hid B1; have C0 := Lib.hid B0; have D := Lib.hid hB
  clear B1 B0 hB
  go_loopw [9] (fun i wr => ∃ k : Nat, i = .int .i64 (k : Int) ∧ k ≤ 128 ∧ Hid (Blk wr (w.heap.size + 1) 61 ((wst p k).map wV)) ∧ Hid (∃ z, Blk wr w.heap.size 61 z ∧ z.length = 16) ∧ Hid (Below w.heap.size w wr)) (fun i _ => 128 - (intOf i).toNat)
  case atStart => exact ⟨0, rfl, by decide, C1, Lib.hid ⟨_, C0.out, rfl⟩, D⟩
  case round =>
    obtain ⟨k, rfl, hk, K1, K0, KB⟩ := hrel
    by_cases hlt : k < 128
    · obtain ⟨b, o, rfl, hc, hbl⟩ := (H.out.keep KB.out).at (k := k) (by have := HN.out; have := H1.out; omega)
      have hq : (k : Int) / 8 = ((k / 8 : Nat) : Int) := by omega
      have hq1 : k / 8 < 16 := by omega
      have hP := Lib.hid (show p.getD k 0 = p[k]'(by have := HN.out; have := H1.out; omega) by rw [List.getD_eq_getElem?_getD, List.getElem?_eq_getElem]; rfl)
      generalize hx : p[k]'(by have := HN.out; have := H1.out; omega) = x at *
      clear hx
      have hcell : wr.cell? ⟨w.heap.size + 1, k / 8, none⟩ = some (.int .u64 (tn ((wst p k).getD (k / 8) 0))) := by
        rw [K1.out.cell, List.getElem?_map, List.getElem?_eq_getElem (by rw [wst_length]; exact hq1), List.getD_eq_getElem?_getD, List.getElem?_eq_getElem (by rw [wst_length]; exact hq1)]; rfl
      have hfr := K1.out.frozen (k / 8)
      have WS := Lib.hid (show wst p (k + 1) = (wst p k).set (k / 8) ((wst p k).getD (k / 8) 0 <<< 8 ||| BitVec.ofNat 64 x.toNat) by rw [wst, hP.out])
      have hW := Lib.hid (K1.out.set (k / 8) (wV ((wst p k).getD (k / 8) 0 <<< 8 ||| BitVec.ofNat 64 x.toNat)))
      have V := Lib.hid (show ∀ y : W, Go.bits .or .u64 (IntKind.u64.wrap (tn y * 256)) (x.toNat : Int) = tn (y <<< 8 ||| BitVec.ofNat 64 x.toNat) from fun y => by
        have e1 : IntKind.u64.wrap (tn y * (256 : Int)) = tn (y <<< 8) := by
          have h8 := shlW y 8
          first | exact h8 | (rw [wrapW] at h8; exact h8)
        have e2 : (x.toNat : Int) = tn (BitVec.ofNat 64 x.toNat) := (tn_of (by have := UInt8.toNat_lt x; omega)).symm
        rw [e1, e2, orW])
      generalize (wst p k).getD (k / 8) 0 = y at *
      generalize k / 8 = q at *
      have hq2 : (q : Int) < 16 := by omega
      have hx255 : (x.toNat : Int) ≤ 255 := by have := UInt8.toNat_lt x; omega
      go_wp2
      go_roundw
      case rel => exact ⟨k + 1, by simp, by omega, Lib.hid (by rw [WS.out, List.map_set]; have := hW.out; unfold wV at this ⊢; rw [V.out]; exact this), Lib.hid (by obtain ⟨z, hz, hl⟩ := K0.out; exact ⟨z, hz.setOther (by simp) _, hl⟩), Lib.hid (KB.out.setCell (by simp) _)⟩
      case measure => simp [intOf]; omega
    · have hkB : k = 128 := by omega
      have hl : ((wst p k).map wV).length = 16 := by rw [List.length_map, wst_length]
      have hwl : (wst p k).length = 16 := wst_length p k
      have HE := Lib.hid (show wst p k = wst p 128 by rw [hkB])
      generalize wst p k = ws at *
      have HL := Lib.hid hl
      have HWL := Lib.hid hwl
      clear hl hwl hkB
      obtain ⟨z, hz, hzl⟩ := K0.out
      have HZ := Lib.hid hz
      have HZL := Lib.hid hzl
      clear hz hzl K0
      go_wp2_with (first | (refine wpList_load_row rfl _ _ rfl (w.heap.size + 1) rfl _ _ _ _ K1.out Tryd.underlying61 rfl (by rw [List.size_toArray, HL.out]; kernel_rfl) ?_) | (go_loud (refine wpList_store_row rfl _ _ _ rfl w.heap.size _ rfl rfl _ _ HZ.out (by rw [List.size_toArray, HL.out]; kernel_rfl) (by rw [List.size_toArray, List.size_toArray, HL.out, HZL.out]) (by simp [wV, Value.oneCell']) ?_)))
      refine bodyPost_ret (results_cell_row rfl _ _ w.heap.size 61 (ws.map wV).toArray (0, 0) _ rfl (setRow_heap _ _ _ _ _ _ HZ.out) Tryd.underlying61 rfl (by rw [List.size_toArray, HL.out]; kernel_rfl)) rfl ?_
      exact ⟨by rw [← HE.out], KB.out.trans (below_setRow (Nat.le_refl _))⟩
end Go.Proofs.YtfmfpckpldlahaaDoor
