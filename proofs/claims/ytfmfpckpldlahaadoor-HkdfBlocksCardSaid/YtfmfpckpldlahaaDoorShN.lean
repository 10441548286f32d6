/- The word of a round. -/
import Derived.Test.YtfmfpckpldlahaaDoorShW
namespace Go.Proofs.YtfmfpckpldlahaaDoor
open Go.RowKit Go.Proofs.YtfmfpckpldlahaaDoor.Pure Go.Proofs.YtfmfpckpldlahaaDoor.PB Go.Proofs.YtfmfpckpldlahaaDoorW.PrintWords

theorem Pre.grown (row : Option Nat) : Pre (fun w w' => w.grownBy w' row) := ⟨fun w => World.grownBy.refl w row, World.grownBy.trans, fun _ => ⟨rfl, rfl, rfl, Nat.le_refl _, fun _ _ _ => rfl⟩⟩
theorem drawn_grown {w w' : World} (h : Drawn0 w w') (row : Option Nat) : w.grownBy w' row := grown_of_below h.below row
theorem Blk.grown {w w' : World} {b : Nat} {e : TypeId} {L : List Value} {row : Option Nat} (h : Blk w b e L) (hg : w.grownBy w' row) (hr : some b ≠ row) : Blk w' b e L := by
  have := h.lt
  unfold Blk at *
  rw [hg.block b this hr]; exact h

theorem addWw (x y : W) : IntKind.u64.wrap (tn x + tn y) = tn (x + y) := by
  have h := addW x y
  first | exact h | (rw [wrapW]; exact h)

/-- The window behind a round's word. -/
def nxt (ws : List W) (t : Nat) : List W :=
  if 16 ≤ t then ws.set (t % 16) (ws.getD (t % 16) 0 + (smallF (ws.getD ((t + 14) % 16) 0) 19 61 6 + ws.getD ((t + 9) % 16) 0 + smallF (ws.getD ((t + 1) % 16) 0) 1 8 7)) else ws
theorem nxt_length (ws : List W) (t : Nat) : (nxt ws t).length = ws.length := by unfold nxt; split <;> simp

theorem Blk.word {w : World} {b : Nat} {e : TypeId} {ws : List W} (h : Blk w b e (ws.map wV)) (i : Nat) (hi : i < ws.length) : w.cell? ⟨b, i, none⟩ = some (.int .u64 (tn (ws.getD i 0))) := by
  rw [h.cell, List.getElem?_map, List.getElem?_eq_getElem hi, List.getD_eq_getElem?_getD, List.getElem?_eq_getElem hi]; rfl

set_option maxHeartbeats 3200000 in
theorem next_any (b : Nat) (ws : List W) (t : Nat) (w : World) (hl : ws.length = 16) (ht : t < 1000) (hB : Blk w b 61 (ws.map wV)) :
    Calls Tryd.prog 35 #[.pointer (some ⟨b, 0, none⟩), .int .i64 (t : Int)] w fun e w' => e = .returned (wV ((nxt ws t).getD (t % 16) 0)) ∧ Blk w' b 61 ((nxt ws t).map wV) ∧ w.grownBy w' (some b) := by
  have HB := Lib.hid hB; have HL := Lib.hid hl
  have hq0 : t % 16 < 16 := Nat.mod_lt _ (by decide)
  have m0 : Int.tmod (t : Int) 16 = ((t % 16 : Nat) : Int) := (Int.ofNat_tmod t 16).symm
  have e0 : (t : Int) % 16 = ((t % 16 : Nat) : Int) := by omega
  by_cases h16 : 16 ≤ t
  · have NX := Lib.hid (show nxt ws t = ws.set (t % 16) (ws.getD (t % 16) 0 + (smallF (ws.getD ((t + 14) % 16) 0) 19 61 6 + ws.getD ((t + 9) % 16) 0 + smallF (ws.getD ((t + 1) % 16) 0) 1 8 7)) by unfold nxt; rw [if_pos h16])
    have NG := Lib.hid (show (nxt ws t).getD (t % 16) 0 = ws.getD (t % 16) 0 + (smallF (ws.getD ((t + 14) % 16) 0) 19 61 6 + ws.getD ((t + 9) % 16) 0 + smallF (ws.getD ((t + 1) % 16) 0) 1 8 7) by
      rw [NX.out, List.getD_eq_getElem?_getD, List.getElem?_set_self (by omega)]; rfl)
    have hq1 : (t + 14) % 16 < 16 := Nat.mod_lt _ (by decide)
    have hq2 : (t + 9) % 16 < 16 := Nat.mod_lt _ (by decide)
    have hq3 : (t + 1) % 16 < 16 := Nat.mod_lt _ (by decide)
    have m1 : Int.tmod (IntKind.i64.wrap ((t : Int) + 14)) 16 = (((t + 14) % 16 : Nat) : Int) := by rw [i64_wrap, show wrap64 ((t : Int) + 14) = ((t + 14 : Nat) : Int) from w_add t 14 (by omega)]; exact (Int.ofNat_tmod (t + 14) 16).symm
    have m2 : Int.tmod (IntKind.i64.wrap ((t : Int) + 9)) 16 = (((t + 9) % 16 : Nat) : Int) := by rw [i64_wrap, show wrap64 ((t : Int) + 9) = ((t + 9 : Nat) : Int) from w_add t 9 (by omega)]; exact (Int.ofNat_tmod (t + 9) 16).symm
    have m3 : Int.tmod (IntKind.i64.wrap ((t : Int) + 1)) 16 = (((t + 1) % 16 : Nat) : Int) := by rw [i64_wrap, show wrap64 ((t : Int) + 1) = ((t + 1 : Nat) : Int) from w_add t 1 (by omega)]; exact (Int.ofNat_tmod (t + 1) 16).symm
    have e1 : ((t : Int) + 14) % 16 = (((t + 14) % 16 : Nat) : Int) := by omega
    have e2 : ((t : Int) + 9) % 16 = (((t + 9) % 16 : Nat) : Int) := by omega
    have e3 : ((t : Int) + 1) % 16 = (((t + 1) % 16 : Nat) : Int) := by omega
    have C0 := Lib.hid (fun w' (hk : w.grownBy w' none) => (HB.out.grown hk (by simp)).word (t % 16) (by omega))
    have C1 := Lib.hid (fun w' (hk : w.grownBy w' none) => (HB.out.grown hk (by simp)).word ((t + 14) % 16) (by omega))
    have C2 := Lib.hid (fun w' (hk : w.grownBy w' none) => (HB.out.grown hk (by simp)).word ((t + 9) % 16) (by omega))
    have C3 := Lib.hid (fun w' (hk : w.grownBy w' none) => (HB.out.grown hk (by simp)).word ((t + 1) % 16) (by omega))
    have hbl : ((t % 16 : Nat) : Int) < 16 := by omega
    have hbl1 : (((t + 14) % 16 : Nat) : Int) < 16 := by omega
    have hbl2 : (((t + 9) % 16 : Nat) : Int) < 16 := by omega
    have hbl3 : (((t + 1) % 16 : Nat) : Int) < 16 := by omega
    have hge : ((16 : Int) ≤ (t : Int)) := by omega
    generalize hj0 : t % 16 = j0 at *
    generalize hj1 : (t + 14) % 16 = j1 at *
    generalize hj2 : (t + 9) % 16 = j2 at *
    generalize hj3 : (t + 1) % 16 = j3 at *
    generalize hv0 : ws.getD j0 0 = V0 at *
    generalize hv1 : ws.getD j1 0 = V1 at *
    generalize hv2 : ws.getD j2 0 = V2 at *
    generalize hv3 : ws.getD j3 0 = V3 at *
    clear hj0 hj1 hj2 hj3 hv0 hv1 hv2 hv3 hB
    go_enter Tryd.func35, Tryd.ntmps35
    go_wp2
    refine L_start (hR := (Pre.grown none)) (L := 34) #[false, false, false, false, false, false, false, false, false, false, false, false, false, false, false, false, false, false, false, false, false, false, false, false, false, false, false, false, false, false, false, false, false, false, false] (by kernel_rfl) rfl rfl (fun w_r21 hx_r21 he_r21 => ?_)
    clear he_r21
    have G := Lib.hid hx_r21
    clear hx_r21
    refine L_take (hR := (Pre.grown none)) (L := 34) (i := 0) (N := (some 7)) (v := ?vr21_0) (a' := ?ar21_0) #[true, false, false, false, false, false, false, false, false, false, false, false, false, false, false, false, false, false, false, false, false, false, false, false, false, false, false, false, false, false, false, false, false, false, false] rfl rfl (y := 0) (r := []) (by kernel_rfl) (by kernel_rfl) (fun _ _ _ h => h) (by rfl) ?hyr21_0 ?har21_0 ?_
    case hyr21_0 =>
      intro w' hx
      go_simp
      with_reducible rfl
    case har21_0 => (simp only [Act.put, List.setIfInBounds_toArray, List.set_cons_zero, List.set_cons_succ]; rfl)
    refine L_take (hR := (Pre.grown none)) (L := 34) (i := 1) (N := (some 8)) (v := ?vr21_1) (a' := ?ar21_1) #[true, true, false, false, false, false, false, false, false, false, false, false, false, false, false, false, false, false, false, false, false, false, false, false, false, false, false, false, false, false, false, false, false, false, false] rfl rfl (y := 1) (r := []) (by kernel_rfl) (by kernel_rfl) (fun _ _ _ h => h) (by rfl) ?hyr21_1 ?har21_1 ?_
    case hyr21_1 =>
      intro w' hx
      go_simp
      with_reducible rfl
    case har21_1 => (simp only [Act.put, List.setIfInBounds_toArray, List.set_cons_zero, List.set_cons_succ]; rfl)
    refine L_take (hR := (Pre.grown none)) (L := 34) (i := 2) (N := (some 9)) (v := ?vr21_2) (a' := ?ar21_2) #[true, true, true, false, false, false, false, false, false, false, false, false, false, false, false, false, false, false, false, false, false, false, false, false, false, false, false, false, false, false, false, false, false, false, false] rfl rfl (y := 2) (r := []) (by kernel_rfl) (by kernel_rfl) (fun _ _ _ h => h) (by rfl) ?hyr21_2 ?har21_2 ?_
    case hyr21_2 =>
      intro w' hx
      go_simp
      with_reducible rfl
    case har21_2 => (simp only [Act.put, List.setIfInBounds_toArray, List.set_cons_zero, List.set_cons_succ]; rfl)
    refine L_take (hR := (Pre.grown none)) (L := 34) (i := 3) (N := (some 10)) (v := ?vr21_3) (a' := ?ar21_3) #[true, true, true, true, false, false, false, false, false, false, false, false, false, false, false, false, false, false, false, false, false, false, false, false, false, false, false, false, false, false, false, false, false, false, false] rfl rfl (y := 3) (r := []) (by kernel_rfl) (by kernel_rfl) (fun _ _ _ h => h) (by rfl) ?hyr21_3 ?har21_3 ?_
    case hyr21_3 =>
      intro w' hx
      go_simp
      with_reducible rfl
    case har21_3 => (simp only [Act.put, List.setIfInBounds_toArray, List.set_cons_zero, List.set_cons_succ]; rfl)
    refine L_take (hR := (Pre.grown none)) (L := 34) (i := 4) (N := (some 11)) (v := ?vr21_4) (a' := ?ar21_4) #[true, true, true, true, true, false, false, false, false, false, false, false, false, false, false, false, false, false, false, false, false, false, false, false, false, false, false, false, false, false, false, false, false, false, false] rfl rfl (y := 4) (r := []) (by kernel_rfl) (by kernel_rfl) (fun _ _ _ h => h) (by rfl) ?hyr21_4 ?har21_4 ?_
    case hyr21_4 =>
      intro w' hx
      go_simp
      with_reducible rfl
    case har21_4 => (simp only [Act.put, List.setIfInBounds_toArray, List.set_cons_zero, List.set_cons_succ]; rfl)
    refine L_take (hR := (Pre.grown none)) (L := 34) (i := 5) (N := (some 12)) (v := ?vr21_5) (a' := ?ar21_5) #[true, true, true, true, true, true, false, false, false, false, false, false, false, false, false, false, false, false, false, false, false, false, false, false, false, false, false, false, false, false, false, false, false, false, false] rfl rfl (y := 5) (r := []) (by kernel_rfl) (by kernel_rfl) (fun _ _ _ h => h) (by rfl) ?hyr21_5 ?har21_5 ?_
    case hyr21_5 =>
      intro w' hx
      have hc := C0.out w' (G.out.trans hx)
      go_simp
      with_reducible rfl
    case har21_5 => (simp only [Act.put, List.setIfInBounds_toArray, List.set_cons_zero, List.set_cons_succ]; rfl)
    refine L_take (hR := (Pre.grown none)) (L := 34) (i := 6) (N := (some 13)) (v := ?vr21_6) (a' := ?ar21_6) #[true, true, true, true, true, true, true, false, false, false, false, false, false, false, false, false, false, false, false, false, false, false, false, false, false, false, false, false, false, false, false, false, false, false, false] rfl rfl (y := 6) (r := []) (by kernel_rfl) (by kernel_rfl) (fun _ _ _ h => h) (by rfl) ?hyr21_6 ?har21_6 ?_
    case hyr21_6 =>
      intro w' hx
      go_simp
      with_reducible rfl
    case har21_6 => (simp only [Act.put, List.setIfInBounds_toArray, List.set_cons_zero, List.set_cons_succ]; rfl)
    refine L_take (hR := (Pre.grown none)) (L := 34) (i := 7) (N := (some 14)) (v := ?vr21_7) (a' := ?ar21_7) #[true, true, true, true, true, true, true, true, false, false, false, false, false, false, false, false, false, false, false, false, false, false, false, false, false, false, false, false, false, false, false, false, false, false, false] rfl rfl (y := 7) (r := []) (by kernel_rfl) (by kernel_rfl) (fun _ _ _ h => h) (by rfl) ?hyr21_7 ?har21_7 ?_
    case hyr21_7 =>
      intro w' hx
      go_simp
      with_reducible rfl
    case har21_7 => (simp only [Act.put, List.setIfInBounds_toArray, List.set_cons_zero, List.set_cons_succ]; rfl)
    refine L_take (hR := (Pre.grown none)) (L := 34) (i := 8) (N := (some 15)) (v := ?vr21_8) (a' := ?ar21_8) #[true, true, true, true, true, true, true, true, true, false, false, false, false, false, false, false, false, false, false, false, false, false, false, false, false, false, false, false, false, false, false, false, false, false, false] rfl rfl (y := 8) (r := []) (by kernel_rfl) (by kernel_rfl) (fun _ _ _ h => h) (by rfl) ?hyr21_8 ?har21_8 ?_
    case hyr21_8 =>
      intro w' hx
      go_simp
      with_reducible rfl
    case har21_8 => (simp only [Act.put, List.setIfInBounds_toArray, List.set_cons_zero, List.set_cons_succ]; rfl)
    refine L_take (hR := (Pre.grown none)) (L := 34) (i := 9) (N := (some 16)) (v := ?vr21_9) (a' := ?ar21_9) #[true, true, true, true, true, true, true, true, true, true, false, false, false, false, false, false, false, false, false, false, false, false, false, false, false, false, false, false, false, false, false, false, false, false, false] rfl rfl (y := 9) (r := []) (by kernel_rfl) (by kernel_rfl) (fun _ _ _ h => h) (by rfl) ?hyr21_9 ?har21_9 ?_
    case hyr21_9 =>
      intro w' hx
      go_simp
      with_reducible rfl
    case har21_9 => (simp only [Act.put, List.setIfInBounds_toArray, List.set_cons_zero, List.set_cons_succ]; rfl)
    refine L_take (hR := (Pre.grown none)) (L := 34) (i := 10) (N := (some 17)) (v := ?vr21_10) (a' := ?ar21_10) #[true, true, true, true, true, true, true, true, true, true, true, false, false, false, false, false, false, false, false, false, false, false, false, false, false, false, false, false, false, false, false, false, false, false, false] rfl rfl (y := 10) (r := []) (by kernel_rfl) (by kernel_rfl) (fun _ _ _ h => h) (by rfl) ?hyr21_10 ?har21_10 ?_
    case hyr21_10 =>
      intro w' hx
      go_simp
      with_reducible rfl
    case har21_10 => (simp only [Act.put, List.setIfInBounds_toArray, List.set_cons_zero, List.set_cons_succ]; rfl)
    refine L_take (hR := (Pre.grown none)) (L := 34) (i := 11) (N := (some 18)) (v := ?vr21_11) (a' := ?ar21_11) #[true, true, true, true, true, true, true, true, true, true, true, true, false, false, false, false, false, false, false, false, false, false, false, false, false, false, false, false, false, false, false, false, false, false, false] rfl rfl (y := 11) (r := []) (by kernel_rfl) (by kernel_rfl) (fun _ _ _ h => h) (by rfl) ?hyr21_11 ?har21_11 ?_
    case hyr21_11 =>
      intro w' hx
      go_simp
      with_reducible rfl
    case har21_11 => (simp only [Act.put, List.setIfInBounds_toArray, List.set_cons_zero, List.set_cons_succ]; rfl)
    refine L_take (hR := (Pre.grown none)) (L := 34) (i := 12) (N := (some 19)) (v := ?vr21_12) (a' := ?ar21_12) #[true, true, true, true, true, true, true, true, true, true, true, true, true, false, false, false, false, false, false, false, false, false, false, false, false, false, false, false, false, false, false, false, false, false, false] rfl rfl (y := 12) (r := []) (by kernel_rfl) (by kernel_rfl) (fun _ _ _ h => h) (by rfl) ?hyr21_12 ?har21_12 ?_
    case hyr21_12 =>
      intro w' hx
      have hc := C1.out w' (G.out.trans hx)
      go_simp
      with_reducible rfl
    case har21_12 => (simp only [Act.put, List.setIfInBounds_toArray, List.set_cons_zero, List.set_cons_succ]; rfl)
    refine L_take (hR := (Pre.grown none)) (L := 34) (i := 14) (N := (some 21)) (v := ?vr21_14) (a' := ?ar21_14) #[true, true, true, true, true, true, true, true, true, true, true, true, true, false, true, false, false, false, false, false, false, false, false, false, false, false, false, false, false, false, false, false, false, false, false] rfl rfl (y := 14) (r := []) (by kernel_rfl) (by kernel_rfl) (fun _ _ _ h => h) (by rfl) ?hyr21_14 ?har21_14 ?_
    case hyr21_14 =>
      intro w' hx
      go_simp
      with_reducible rfl
    case har21_14 => (simp only [Act.put, List.setIfInBounds_toArray, List.set_cons_zero, List.set_cons_succ]; rfl)
    refine L_take (hR := (Pre.grown none)) (L := 34) (i := 15) (N := (some 22)) (v := ?vr21_15) (a' := ?ar21_15) #[true, true, true, true, true, true, true, true, true, true, true, true, true, false, true, true, false, false, false, false, false, false, false, false, false, false, false, false, false, false, false, false, false, false, false] rfl rfl (y := 15) (r := []) (by kernel_rfl) (by kernel_rfl) (fun _ _ _ h => h) (by rfl) ?hyr21_15 ?har21_15 ?_
    case hyr21_15 =>
      intro w' hx
      go_simp
      with_reducible rfl
    case har21_15 => (simp only [Act.put, List.setIfInBounds_toArray, List.set_cons_zero, List.set_cons_succ]; rfl)
    refine L_take (hR := (Pre.grown none)) (L := 34) (i := 16) (N := (some 23)) (v := ?vr21_16) (a' := ?ar21_16) #[true, true, true, true, true, true, true, true, true, true, true, true, true, false, true, true, true, false, false, false, false, false, false, false, false, false, false, false, false, false, false, false, false, false, false] rfl rfl (y := 16) (r := []) (by kernel_rfl) (by kernel_rfl) (fun _ _ _ h => h) (by rfl) ?hyr21_16 ?har21_16 ?_
    case hyr21_16 =>
      intro w' hx
      go_simp
      with_reducible rfl
    case har21_16 => (simp only [Act.put, List.setIfInBounds_toArray, List.set_cons_zero, List.set_cons_succ]; rfl)
    refine L_take (hR := (Pre.grown none)) (L := 34) (i := 17) (N := (some 24)) (v := ?vr21_17) (a' := ?ar21_17) #[true, true, true, true, true, true, true, true, true, true, true, true, true, false, true, true, true, true, false, false, false, false, false, false, false, false, false, false, false, false, false, false, false, false, false] rfl rfl (y := 17) (r := []) (by kernel_rfl) (by kernel_rfl) (fun _ _ _ h => h) (by rfl) ?hyr21_17 ?har21_17 ?_
    case hyr21_17 =>
      intro w' hx
      go_simp
      with_reducible rfl
    case har21_17 => (simp only [Act.put, List.setIfInBounds_toArray, List.set_cons_zero, List.set_cons_succ]; rfl)
    refine L_take (hR := (Pre.grown none)) (L := 34) (i := 18) (N := (some 25)) (v := ?vr21_18) (a' := ?ar21_18) #[true, true, true, true, true, true, true, true, true, true, true, true, true, false, true, true, true, true, true, false, false, false, false, false, false, false, false, false, false, false, false, false, false, false, false] rfl rfl (y := 18) (r := []) (by kernel_rfl) (by kernel_rfl) (fun _ _ _ h => h) (by rfl) ?hyr21_18 ?har21_18 ?_
    case hyr21_18 =>
      intro w' hx
      go_simp
      with_reducible rfl
    case har21_18 => (simp only [Act.put, List.setIfInBounds_toArray, List.set_cons_zero, List.set_cons_succ]; rfl)
    refine L_take (hR := (Pre.grown none)) (L := 34) (i := 19) (N := (some 26)) (v := ?vr21_19) (a' := ?ar21_19) #[true, true, true, true, true, true, true, true, true, true, true, true, true, false, true, true, true, true, true, true, false, false, false, false, false, false, false, false, false, false, false, false, false, false, false] rfl rfl (y := 19) (r := []) (by kernel_rfl) (by kernel_rfl) (fun _ _ _ h => h) (by rfl) ?hyr21_19 ?har21_19 ?_
    case hyr21_19 =>
      intro w' hx
      go_simp
      with_reducible rfl
    case har21_19 => (simp only [Act.put, List.setIfInBounds_toArray, List.set_cons_zero, List.set_cons_succ]; rfl)
    refine L_take (hR := (Pre.grown none)) (L := 34) (i := 20) (N := (some 27)) (v := ?vr21_20) (a' := ?ar21_20) #[true, true, true, true, true, true, true, true, true, true, true, true, true, false, true, true, true, true, true, true, true, false, false, false, false, false, false, false, false, false, false, false, false, false, false] rfl rfl (y := 20) (r := []) (by kernel_rfl) (by kernel_rfl) (fun _ _ _ h => h) (by rfl) ?hyr21_20 ?har21_20 ?_
    case hyr21_20 =>
      intro w' hx
      have hc := C2.out w' (G.out.trans hx)
      go_simp
      with_reducible rfl
    case har21_20 => (simp only [Act.put, List.setIfInBounds_toArray, List.set_cons_zero, List.set_cons_succ]; rfl)
    refine L_take (hR := (Pre.grown none)) (L := 34) (i := 22) (N := (some 29)) (v := ?vr21_22) (a' := ?ar21_22) #[true, true, true, true, true, true, true, true, true, true, true, true, true, false, true, true, true, true, true, true, true, false, true, false, false, false, false, false, false, false, false, false, false, false, false] rfl rfl (y := 22) (r := []) (by kernel_rfl) (by kernel_rfl) (fun _ _ _ h => h) (by rfl) ?hyr21_22 ?har21_22 ?_
    case hyr21_22 =>
      intro w' hx
      go_simp
      with_reducible rfl
    case har21_22 => (simp only [Act.put, List.setIfInBounds_toArray, List.set_cons_zero, List.set_cons_succ]; rfl)
    refine L_take (hR := (Pre.grown none)) (L := 34) (i := 23) (N := (some 30)) (v := ?vr21_23) (a' := ?ar21_23) #[true, true, true, true, true, true, true, true, true, true, true, true, true, false, true, true, true, true, true, true, true, false, true, true, false, false, false, false, false, false, false, false, false, false, false] rfl rfl (y := 23) (r := []) (by kernel_rfl) (by kernel_rfl) (fun _ _ _ h => h) (by rfl) ?hyr21_23 ?har21_23 ?_
    case hyr21_23 =>
      intro w' hx
      go_simp
      with_reducible rfl
    case har21_23 => (simp only [Act.put, List.setIfInBounds_toArray, List.set_cons_zero, List.set_cons_succ]; rfl)
    refine L_take (hR := (Pre.grown none)) (L := 34) (i := 24) (N := (some 31)) (v := ?vr21_24) (a' := ?ar21_24) #[true, true, true, true, true, true, true, true, true, true, true, true, true, false, true, true, true, true, true, true, true, false, true, true, true, false, false, false, false, false, false, false, false, false, false] rfl rfl (y := 24) (r := []) (by kernel_rfl) (by kernel_rfl) (fun _ _ _ h => h) (by rfl) ?hyr21_24 ?har21_24 ?_
    case hyr21_24 =>
      intro w' hx
      go_simp
      with_reducible rfl
    case har21_24 => (simp only [Act.put, List.setIfInBounds_toArray, List.set_cons_zero, List.set_cons_succ]; rfl)
    refine L_take (hR := (Pre.grown none)) (L := 34) (i := 25) (N := (some 32)) (v := ?vr21_25) (a' := ?ar21_25) #[true, true, true, true, true, true, true, true, true, true, true, true, true, false, true, true, true, true, true, true, true, false, true, true, true, true, false, false, false, false, false, false, false, false, false] rfl rfl (y := 25) (r := []) (by kernel_rfl) (by kernel_rfl) (fun _ _ _ h => h) (by rfl) ?hyr21_25 ?har21_25 ?_
    case hyr21_25 =>
      intro w' hx
      go_simp
      with_reducible rfl
    case har21_25 => (simp only [Act.put, List.setIfInBounds_toArray, List.set_cons_zero, List.set_cons_succ]; rfl)
    refine L_take (hR := (Pre.grown none)) (L := 34) (i := 26) (N := (some 33)) (v := ?vr21_26) (a' := ?ar21_26) #[true, true, true, true, true, true, true, true, true, true, true, true, true, false, true, true, true, true, true, true, true, false, true, true, true, true, true, false, false, false, false, false, false, false, false] rfl rfl (y := 26) (r := []) (by kernel_rfl) (by kernel_rfl) (fun _ _ _ h => h) (by rfl) ?hyr21_26 ?har21_26 ?_
    case hyr21_26 =>
      intro w' hx
      go_simp
      with_reducible rfl
    case har21_26 => (simp only [Act.put, List.setIfInBounds_toArray, List.set_cons_zero, List.set_cons_succ]; rfl)
    refine L_take (hR := (Pre.grown none)) (L := 34) (i := 27) (N := (some 34)) (v := ?vr21_27) (a' := ?ar21_27) #[true, true, true, true, true, true, true, true, true, true, true, true, true, false, true, true, true, true, true, true, true, false, true, true, true, true, true, true, false, false, false, false, false, false, false] rfl rfl (y := 27) (r := []) (by kernel_rfl) (by kernel_rfl) (fun _ _ _ h => h) (by rfl) ?hyr21_27 ?har21_27 ?_
    case hyr21_27 =>
      intro w' hx
      go_simp
      with_reducible rfl
    case har21_27 => (simp only [Act.put, List.setIfInBounds_toArray, List.set_cons_zero, List.set_cons_succ]; rfl)
    refine L_take (hR := (Pre.grown none)) (L := 34) (i := 28) (N := (some 35)) (v := ?vr21_28) (a' := ?ar21_28) #[true, true, true, true, true, true, true, true, true, true, true, true, true, false, true, true, true, true, true, true, true, false, true, true, true, true, true, true, true, false, false, false, false, false, false] rfl rfl (y := 28) (r := []) (by kernel_rfl) (by kernel_rfl) (fun _ _ _ h => h) (by rfl) ?hyr21_28 ?har21_28 ?_
    case hyr21_28 =>
      intro w' hx
      have hc := C3.out w' (G.out.trans hx)
      go_simp
      with_reducible rfl
    case har21_28 => (simp only [Act.put, List.setIfInBounds_toArray, List.set_cons_zero, List.set_cons_succ]; rfl)
    refine L_take (hR := (Pre.grown none)) (L := 34) (i := 32) (N := (some 39)) (v := ?vr21_32) (a' := ?ar21_32) #[true, true, true, true, true, true, true, true, true, true, true, true, true, false, true, true, true, true, true, true, true, false, true, true, true, true, true, true, true, false, false, false, true, false, false] rfl rfl (y := 33) (r := [32]) (by kernel_rfl) (by kernel_rfl) (fun _ _ _ h => h) (by rfl) ?hyr21_32 ?har21_32 ?_
    case hyr21_32 =>
      intro w' hx
      go_simp
      with_reducible rfl
    case har21_32 => (simp only [Act.put, List.setIfInBounds_toArray, List.set_cons_zero, List.set_cons_succ]; rfl)
    refine L_call (i := 13) (N := (some 20)) (args := ?gr21_13) #[true, true, true, true, true, true, true, true, true, true, true, true, true, true, true, true, true, true, true, true, true, false, true, true, true, true, true, true, true, false, false, false, true, false, false] rfl rfl (by kernel_rfl) (by rfl) Tryd.func39 (by kernel_rfl) rfl rfl ?hgr21_13 ?_
    case hgr21_13 => (simp only [List.map_toArray, List.map_cons, List.map_nil]; go_simp; with_reducible rfl)
    refine (PB.sha512_small.calls _ _ _ _ _ _ (small1 V1)).mono ?_
    rintro e w2 ⟨rfl, hd⟩
    refine ⟨_, rfl, .inr (drawn_grown hd none), ?_⟩
    replace G := Lib.hid (G.out.trans (drawn_grown hd none))
    clear hd
    rintro _ rfl
    simp only [Act.put, List.setIfInBounds_toArray, List.set_cons_zero, List.set_cons_succ]
    refine L_take (hR := (Pre.grown none)) (L := 34) (i := 21) (N := (some 28)) (v := ?vr21_21) (a' := ?ar21_21) #[true, true, true, true, true, true, true, true, true, true, true, true, true, true, true, true, true, true, true, true, true, true, true, true, true, true, true, true, true, false, false, false, true, false, false] rfl rfl (y := 21) (r := []) (by kernel_rfl) (by kernel_rfl) (fun _ _ _ h => h) (by rfl) ?hyr21_21 ?har21_21 ?_
    case hyr21_21 =>
      intro w' hx
      go_simp
      with_reducible rfl
    case har21_21 => (simp only [Act.put, List.setIfInBounds_toArray, List.set_cons_zero, List.set_cons_succ]; rfl)
    refine L_call (i := 29) (N := (some 36)) (args := ?gr21_29) #[true, true, true, true, true, true, true, true, true, true, true, true, true, true, true, true, true, true, true, true, true, true, true, true, true, true, true, true, true, true, false, false, true, false, false] rfl rfl (by kernel_rfl) (by rfl) Tryd.func39 (by kernel_rfl) rfl rfl ?hgr21_29 ?_
    case hgr21_29 => (simp only [List.map_toArray, List.map_cons, List.map_nil]; go_simp; with_reducible rfl)
    refine (PB.sha512_small.calls _ _ _ _ _ _ (small2 V3)).mono ?_
    rintro e w3 ⟨rfl, hd⟩
    refine ⟨_, rfl, .inr (drawn_grown hd none), ?_⟩
    replace G := Lib.hid (G.out.trans (drawn_grown hd none))
    clear hd
    rintro _ rfl
    simp only [Act.put, List.setIfInBounds_toArray, List.set_cons_zero, List.set_cons_succ]
    refine L_take (hR := (Pre.grown none)) (L := 34) (i := 30) (N := (some 37)) (v := ?vr21_30) (a' := ?ar21_30) #[true, true, true, true, true, true, true, true, true, true, true, true, true, true, true, true, true, true, true, true, true, true, true, true, true, true, true, true, true, true, true, false, true, false, false] rfl rfl (y := 30) (r := []) (by kernel_rfl) (by kernel_rfl) (fun _ _ _ h => h) (by rfl) ?hyr21_30 ?har21_30 ?_
    case hyr21_30 =>
      intro w' hx
      go_simp
      with_reducible rfl
    case har21_30 => (simp only [Act.put, List.setIfInBounds_toArray, List.set_cons_zero, List.set_cons_succ]; rfl)
    refine L_take (hR := (Pre.grown none)) (L := 34) (i := 31) (N := (some 38)) (v := ?vr21_31) (a' := ?ar21_31) #[true, true, true, true, true, true, true, true, true, true, true, true, true, true, true, true, true, true, true, true, true, true, true, true, true, true, true, true, true, true, true, true, true, false, false] rfl rfl (y := 31) (r := []) (by kernel_rfl) (by kernel_rfl) (fun _ _ _ h => h) (by rfl) ?hyr21_31 ?har21_31 ?_
    case hyr21_31 =>
      intro w' hx
      go_simp
      with_reducible rfl
    case har21_31 => (simp only [Act.put, List.setIfInBounds_toArray, List.set_cons_zero, List.set_cons_succ]; rfl)
    refine L_take (hR := (Pre.grown none)) (L := 34) (i := 33) (N := (some 40)) (v := ?vr21_33) (a' := ?ar21_33) #[true, true, true, true, true, true, true, true, true, true, true, true, true, true, true, true, true, true, true, true, true, true, true, true, true, true, true, true, true, true, true, true, true, true, false] rfl rfl (y := 33) (r := []) (by kernel_rfl) (by kernel_rfl) (fun _ _ _ h => h) (by rfl) ?hyr21_33 ?har21_33 ?_
    case hyr21_33 =>
      intro w' hx
      go_simp
      with_reducible rfl
    case har21_33 => (simp only [Act.put, List.setIfInBounds_toArray, List.set_cons_zero, List.set_cons_succ]; rfl)
    have hfr := (HB.out.grown G.out (by simp)).frozen j0
    have hc0 := C0.out w3 G.out
    have EV := Lib.hid (show IntKind.u64.wrap (tn V0 + IntKind.u64.wrap (IntKind.u64.wrap (tn (smallF V1 19 61 6) + tn V2) + tn (smallF V3 1 8 7))) = tn (V0 + (smallF V1 19 61 6 + V2 + smallF V3 1 8 7)) by rw [addWw, addWw, addWw])
    have H2 := Lib.hid ((HB.out.grown G.out (by simp)).set j0 (wV (V0 + (smallF V1 19 61 6 + V2 + smallF V3 1 8 7))))
    have H3 := Lib.hid (show w3.grownBy (w3.setCell ⟨b, j0, none⟩ (wV (V0 + (smallF V1 19 61 6 + V2 + smallF V3 1 8 7)))) (some b) from grownBy_setCells b [wV (V0 + (smallF V1 19 61 6 + V2 + smallF V3 1 8 7))] j0 w3)
    refine L_stor (i := 34) (w1 := w3.setCell ⟨b, j0, none⟩ (wV (V0 + (smallF V1 19 61 6 + V2 + smallF V3 1 8 7)))) #[true, true, true, true, true, true, true, true, true, true, true, true, true, true, true, true, true, true, true, true, true, true, true, true, true, true, true, true, true, true, true, true, true, true, true] rfl rfl (by kernel_rfl) (by rfl) ?hrst (.inl rfl) ?_
    case hrst => (unfold wV; rw [← EV.out]; go_simp)
    refine L_done (by kernel_rfl) ?_
    obtain ⟨w4, hw4⟩ : ∃ w4, w3.setCell ⟨b, j0, none⟩ (wV (V0 + (smallF V1 19 61 6 + V2 + smallF V3 1 8 7))) = w4 := ⟨_, rfl⟩
    have H2' := H2.out
    have H3' := H3.out
    rw [hw4] at H2' H3'
    rw [hw4]
    clear hw4 H2 H3
    have BX : Blk w4 b 61 ((nxt ws t).map wV) := by rw [NX.out, List.map_set]; exact H2'
    have hcell := BX.word j0 (by rw [nxt_length]; have := HL.out; omega)
    rw [NG.out] at hcell
    have BX' := Lib.hid BX
    have G4 := Lib.hid ((show w.grownBy w3 (some b) from ⟨G.out.os, G.out.tape, G.out.output, G.out.size, fun k hk _ => G.out.block k hk (by simp)⟩).trans H3')
    clear BX H2' H3' C0 C1 C2 C3 EV hc0 hfr
    go_wp2
    go_ret
    exact ⟨by rw [NG.out]; rfl, BX'.out, G4.out⟩
  · have NX := Lib.hid (show nxt ws t = ws by unfold nxt; rw [if_neg h16])
    have hcell := hB.word (t % 16) (by omega)
    have hlt : ((t : Int) < 16) := by omega
    have hbl : ((t % 16 : Nat) : Int) < 16 := by omega
    rw [NX.out]
    generalize ws.getD (t % 16) 0 = V0 at *
    generalize t % 16 = j0 at *
    clear hB
    go_enter Tryd.func35, Tryd.ntmps35
    go_wp2
    go_ret
    exact ⟨rfl, HB.out, World.grownBy.refl _ _⟩
end Go.Proofs.YtfmfpckpldlahaaDoor
