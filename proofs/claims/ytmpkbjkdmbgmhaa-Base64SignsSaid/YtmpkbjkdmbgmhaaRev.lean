/- slices.Reverse at up to three bytes. -/
import Derived.Test.YtmpkbjkdmbgmhaaCat
namespace Go.Proofs.Ytmpkbjkdmbgmhaa
open Go.RowKit

set_option maxHeartbeats 1600000 in
theorem reverse3_any (B : Nat) (A : Option Addr) (n c : Nat) (xs : List UInt8) (w : World) (hn : xs.length = n) (h3 : n ≤ 3) (h : w.ownsRow B 5 1 (.slice A n c) n (xs.map bV)) :
    Calls Try.prog 22 #[.slice A n c] w fun e w' => (∃ v, e = .returned v) ∧ w'.ownsRow B 5 1 (.slice A n c) n (xs.reverse.map bV) ∧ Below B w w' := by
  have HN := Lib.hid hn
  have H := Lib.hid h
  clear hn h
  by_cases h1 : n ≤ 1
  · have e : xs.reverse = xs := by
      match xs, HN.out with
      | [], _ => rfl
      | [a], _ => rfl
      | _ :: _ :: _, h => simp at h; omega
    have HE := Lib.hid e
    clear e
    have hlt : ¬ (0 : Int) < (n : Int) - 1 := by omega
    go_enter Try.func22, Try.ntmps22
    go_wp2
    go_loopw [2, 3] (fun i j wr => i = .int .i64 0 ∧ j = .int .i64 ((n : Int) - 1) ∧ w = wr) (fun _ _ _ => 0)
    case atStart => exact ⟨rfl, rfl, rfl⟩
    case round =>
      obtain ⟨rfl, rfl, rfl⟩ := hrel
      go_wp2
      go_end0
      exact ⟨⟨_, rfl⟩, by rw [HE.out]; exact H.out, Below.refl _ _⟩
  · obtain ⟨g, c', e, hg1, hg2, hg3, hcell, hset⟩ := own_at H.out (by omega)
    cases e
    obtain ⟨x, y, hx, hy, hre⟩ : ∃ x y : UInt8, xs[0]? = some x ∧ xs[n - 1]? = some y ∧ xs.reverse = (xs.set 0 y).set (n - 1) x := by
      match xs, HN.out with
      | [], h => simp at h; omega
      | [a], h => simp at h; omega
      | [a, b], h => simp at h; subst h; exact ⟨a, b, rfl, rfl, rfl⟩
      | [a, b, d], h => simp at h; subst h; exact ⟨a, d, rfl, rfl, rfl⟩
      | _ :: _ :: _ :: _ :: _, h => simp at h; omega
    obtain ⟨hc0, hf0⟩ := hcell 0 (by omega)
    obtain ⟨hcn, hfn⟩ := hcell (n - 1) (by omega)
    rw [List.getElem?_map, hx] at hc0
    rw [List.getElem?_map, hy] at hcn
    replace hc0 : w.cell? ⟨g, 0, none⟩ = some (.int .u8 (x.toNat : Int)) := hc0
    replace hcn : w.cell? ⟨g, n - 1, none⟩ = some (.int .u8 (y.toNat : Int)) := hcn
    have r1 := hset 0 (bV y) (by omega)
    obtain ⟨g2, c2, e2, -, -, -, hcell2, hset2⟩ := own_at r1 (by omega)
    cases e2
    have r2 := hset2 (n - 1) (bV x) (by omega)
    rw [set_bV, set_bV, ← hre] at r2
    have R2 := Lib.hid r2
    have hc1 := (hcell2 (n - 1) (by omega)).1
    have hf1 := (hcell2 (n - 1) (by omega)).2
    have HB2 := Lib.hid (below_set (below_set (Below.refl B w) hg1 (k := 0) (bV y)) hg1 (k := n - 1) (bV x))
    clear hset hset2 hcell hcell2 hx hy hre r1 r2 hc1 hf1
    have hlt : (0 : Int) < (n : Int) - 1 := by omega
    have hn1 : ((n : Int) - 1).toNat = n - 1 := by omega
    have hne : ¬ n - 1 = 0 := by omega
    obtain ⟨q, rfl⟩ : ∃ q, n = q + 1 := ⟨n - 1, by omega⟩
    rw [Nat.add_sub_cancel] at *
    go_enter Try.func22, Try.ntmps22
    go_wp2
    go_loopw [2, 3] (fun i j wr => (i = .int .i64 0 ∧ j = .int .i64 (q : Int) ∧ w = wr) ∨ (i = .int .i64 1 ∧ j = .int .i64 ((q : Int) - 1) ∧ Hid (wr.ownsRow B 5 1 (.slice (some ⟨g, 0, none⟩) (q + 1) c) (q + 1) (xs.reverse.map bV)) ∧ Hid (Below B w wr))) (fun i _ _ => 1 - (intOf i).toNat)
    case atStart => exact .inl ⟨rfl, by simp, rfl⟩
    case round =>
      rcases hrel with ⟨rfl, rfl, rfl⟩ | ⟨rfl, rfl, hR, hBl⟩
      · have hq0 : (0 : Int) < (q : Int) := by omega
        have hq1 : 0 < q := by omega
        clear hlt hn1
        go_wp2
        go_region
        go_wp2
        go_roundw
        case rel => exact .inr ⟨by simp, by simp, R2, Lib.hid HB2.out.drew⟩
        case measure => simp [intOf]
      · have hq0 : ¬ (1 : Int) < (q : Int) - 1 := by omega
        clear hlt hn1
        go_wp2
        go_end0
        exact ⟨⟨_, rfl⟩, by simpa using hR.out, hBl.out⟩
end Go.Proofs.Ytmpkbjkdmbgmhaa
