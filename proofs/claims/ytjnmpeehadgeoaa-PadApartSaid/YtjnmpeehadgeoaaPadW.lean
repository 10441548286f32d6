/- The walk of awake, and of the four statements on pad. -/
import Derived.Test.YtjnmpeehadgeoaaPadS
import Derived.Test.YtjnmpeehadgeoaaMake
namespace Go.Proofs.Ytjnmpeehadgeoaa
open Go.RowKit

theorem map_bV_rep (n : Nat) : (List.replicate n (0 : UInt8)).map bV = List.replicate n (.int .u8 0) := by simp [bV]

theorem rd_rep (w : World) (n : Nat) : RdB (w.alloc (.cells (rep n (.int .u8 0)) 5)) (some ⟨w.heap.size, 0, none⟩) (List.replicate n 0) := by
  refine Rd.mk fun i hi => ?_
  rw [Nat.zero_add, map_bV_rep]
  rw [cell_of_row _ w.heap.size i (rep n (.int .u8 0)) 5 (0, 0) (heap_alloc_new w _)]
  exact List.getElem?_toArray

set_option maxHeartbeats 800000 in
theorem awake_any (w : World) : Calls Try.prog 7 #[] w fun e w' => e = .returned (.bool true) ∧ Below w.heap.size w w' := by
  have hmk : ∀ wx, (Instr.makeSlice 23 (.int .i64 16) (.int .i64 16)).run Try.prog wx = .ok (.slice (some ⟨wx.heap.size, 0, none⟩) 16 16) (wx.alloc (.cells (rep 16 (.int .u8 0)) 5)) := fun wx => run_make_rep TB wx .i64 .i64 16 rfl (by decide) (by decide)
  have c1 : codeF (str [97, 98, 99]).data.toList 16 = 0 := by decide +kernel
  have c2 : padF (str [97, 98, 99]).data.toList 16 = [97, 98, 99, 0, 0, 0, 0, 0, 0, 0, 0, 0, 0, 0, 0, 0] := by decide +kernel
  have c3 : stripOk (List.replicate 16 0) = false := by decide +kernel
  have C2 := Lib.hid c2
  have C3 := Lib.hid c3
  clear c2 c3
  have c4 : ((str [97, 98, 99, 0, 0, 0, 0, 0, 0, 0, 0, 0, 0, 0, 0, 0]).toList == [97, 98, 99, 0, 0, 0, 0, 0, 0, 0, 0, 0, 0, 0, 0, 0]) = true := by rw [str_toList]; rfl
  go_enter Try.func7, Try.ntmps7
  go_wp2_with (first | (go_at_call 8; refine (padFill_any (str [97, 98, 99]) 16 _ (by rw [str_size]; decide)).mono ?_; rintro e w1 ⟨v, rfl, hown, hbel⟩; rw [C2.out] at hown; replace hown : w1.ownsRow w.heap.size 5 1 v 16 (List.map bV [97, 98, 99, 0, 0, 0, 0, 0, 0, 0, 0, 0, 0, 0, 0, 0]) := hown; obtain ⟨A1, n1, rfl, _, _, hrd, _⟩ := own_rd hown) | (go_at_call 14; refine (strip_any _ _ _ (List.replicate 16 0) _ rfl (rd_rep _ 16) (by decide)).mono ?_; rintro e w2 ⟨rfl, hbel2⟩; rw [C3.out]; have hbel3 := ((Below.refl _ w1).alloc (Nat.le_refl _) _).trans (hbel2.mono (by simp)); have hst := run_str w2 (P := Try.prog) (n := 16) (c := n1) Try.underlying23 Try.underlying5 (Rd.keep hrd hbel3) rfl Try.underlying9))
  go_ret
  exact ⟨rfl, hbel.trans (hbel3.mono hbel.size)⟩

theorem strip_pad (l : List UInt8) (u : Int) (hu : u = 16 ∨ u = 32) (h : okF l u = true) : stripF (padF l u) = l ∧ stripOk (padF l u) = true := by
  have hne : padF l u ≠ [] := by
    intro e
    have h1 : (padF l u).length = 0 := by rw [e]; rfl
    unfold padF at h1
    rw [h, if_pos rfl, fillF_length] at h1
    have := ok_size h
    omega
  obtain ⟨_, h2⟩ := pad_head (l := l) rfl hne
  have h3 : hitF (padF l u) u = true := by unfold hitF; rw [h2, h]; simp
  obtain ⟨h4, h5⟩ := strip_hit hu h3
  exact ⟨h4.trans h2, h5⟩

theorem awake_acc (w0 w : World) (hb : Below w0.heap.size w0 w) : Calls Try.prog 7 #[] w fun e w' => e = .returned (.bool true) ∧ Below w0.heap.size w0 w' :=
  (awake_any w).mono fun _ _ ⟨h1, h2⟩ => ⟨h1, hb.trans (h2.mono hb.size)⟩

set_option maxHeartbeats 800000 in
/-- PadStrips: the walk -/
theorem padStrips_walk (A : Option Addr) (n c : Nat) (b : List UInt8) (w : World) (hn : b.length = n) (h : RdB w A b) :
    Calls Try.prog 4 #[.slice A n c] w fun e w' => e = .returned (.bool true) ∧ Below w.heap.size w w' := by
  have HN := Lib.hid hn
  have H := Lib.hid h
  have hb := Below.refl w.heap.size w
  clear hn h
  by_cases h300 : 300 < n
  · go_enter Try.func4, Try.ntmps4
    go_wp2_with (go_at_call 7; refine (awake_acc w _ hb).mono ?_; clear hb; rintro e w1 ⟨rfl, hb⟩)
    go_ret
    exact ⟨rfl, hb⟩
  · have hsrc := Lib.hid fun (wx : World) (hbx : Below w.heap.size w wx) => RdB.src (c := c) (Try.underlying23) (H.out.keep hbx) HN.out
    have e1 : ((str (stripF b)).toList == (str (stripF b)).toList) = true := by simp
    go_enter Try.func4, Try.ntmps4
    go_wp2_with (first | (go_at_call 7; refine (awake_acc w _ hb).mono ?_; clear hb; rintro e w1 ⟨rfl, hb⟩) | (at_builtin; go_loud (refine wpList_app' TB w.heap.size (World.ownsRow_made _ #[] 0 hb.size (Nat.zero_le _) rfl) _ (hsrc.out _ (hb.alloc hb.size _)) rfl rfl rfl rfl (by unfold maxLen; omega) (by omega) (by have := hb.size; simp; omega) (hb.alloc hb.size _) (fun A1 c1 w1 hown hg hb1 => ?_)); rw [Nat.zero_add, List.nil_append] at hown; rw [Nat.zero_add]; have HO := Lib.hid hown; clear hown hb; have hb := hb1; clear hb1 hg) | (go_at_call 14; refine (strip_any _ _ _ b _ HN.out (by obtain ⟨A', c', e, _, _, h, _⟩ := own_rd HO.out; cases e; exact h) (by omega)).mono ?_; rintro e w2 ⟨rfl, hbel2⟩; replace hb := hb.trans (hbel2.mono hb.size); clear hbel2; have hst := run_str w2 (P := Try.prog) (n := n) (c := c) Try.underlying23 Try.underlying5 (H.out.keep hb) HN.out Try.underlying9) | (go_at_call 15; refine (refStrip_any _ _ (by have := HN.out; omega)).mono ?_; rintro e w' ⟨rfl, rfl⟩))
    all_goals
      go_ret
      exact ⟨rfl, hb⟩
end Go.Proofs.Ytjnmpeehadgeoaa
