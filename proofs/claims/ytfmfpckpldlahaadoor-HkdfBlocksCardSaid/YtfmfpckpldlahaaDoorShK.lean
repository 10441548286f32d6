/- A block is taken. -/
import Derived.Test.YtfmfpckpldlahaaDoorShT
import Derived.Deep.DeepCutAuto
import Derived.Deep.CutBlock
namespace Go.Proofs.YtfmfpckpldlahaaDoor
open Go.RowKit Go.Proofs.YtfmfpckpldlahaaDoor.Pure Go.Proofs.YtfmfpckpldlahaaDoor.PB Go.Proofs.YtfmfpckpldlahaaDoorW.PrintWords

/-- The variable of the constants. -/
def GK (w : World) : Prop := ∃ tt fr, w.heap[0]? = some (.cells (ks.map wV).toArray tt fr)
theorem GK.keep {w w' : World} (h : GK w) (hb : Below w.heap.size w w') : GK w' := by
  obtain ⟨tt, fr, h⟩ := h
  exact ⟨tt, fr, by rw [hb.block _ (Array.getElem?_eq_some_iff.1 h).1]; exact h⟩

theorem xl_cell {w : World} {b : Nat} {e : TypeId} {s : S8} (h : Blk w b e ((xl s).map wV)) :
    w.cell? ⟨b, 0, none⟩ = some (.int .u64 (tn s.a)) ∧ w.cell? ⟨b, 1, none⟩ = some (.int .u64 (tn s.b)) ∧ w.cell? ⟨b, 2, none⟩ = some (.int .u64 (tn s.c)) ∧ w.cell? ⟨b, 3, none⟩ = some (.int .u64 (tn s.d)) ∧ w.cell? ⟨b, 4, none⟩ = some (.int .u64 (tn s.e)) ∧ w.cell? ⟨b, 5, none⟩ = some (.int .u64 (tn s.f)) ∧ w.cell? ⟨b, 6, none⟩ = some (.int .u64 (tn s.g)) ∧ w.cell? ⟨b, 7, none⟩ = some (.int .u64 (tn s.h)) :=
  ⟨h.cell 0, h.cell 1, h.cell 2, h.cell 3, h.cell 4, h.cell 5, h.cell 6, h.cell 7⟩
theorem Blk.setRow {w : World} {b : Nat} {e : TypeId} {L : List Value} (h : Blk w b e L) (cs : List Value) : Blk (w.setRow b cs.toArray) b e cs := setRow_heap w b _ _ e _ h
theorem Blk.setRowOther {w : World} {b g : Nat} {e : TypeId} {L : List Value} (h : Blk w b e L) (hg : g ≠ b) (cs : Array Value) : Blk (w.setRow g cs) b e L := by
  unfold Blk at *
  simp [World.setRow, Array.getElem?_modify, hg, h]

theorem run_index_agg {P : Program} {t e : TypeId} {n : Nat} {q : IntKind} {cs : Array Value} {i : Nat} {v : Value} (w : World) (h : P.underlying t = some (.array n e)) (he : P.underlying e = some (.int q)) (hs : (P.info? e).map (·.size) = some 1) (hi : i < n) (hv : cs[i]? = some v) :
    (Instr.index t (.agg cs) (.int .i64 (i : Int))).run P w = .ok v w := by
  have h1 : 0 ≤ (i : Int) ∧ (i : Int) < (n : Int) := by omega
  cases hq : P.info? e with
  | none => simp [hq] at hs
  | some x =>
    have hx : x.size = 1 := by simpa [hq] using hs
    simp [Instr.index, run_underlying h, run_underlying he, asIntOf, h1, hi, hv, Go.sizeOf, typeInfo, hq, hx, isAgg, Go.part, go_sem]
theorem grown_row {w w' : World} (h : w.grownBy w' none) (row : Option Nat) : w.grownBy w' row := ⟨h.os, h.tape, h.output, h.size, fun k hk _ => h.block k hk (by simp)⟩

/-- The value as far as i words are added. -/
def vs (v x : List W) : Nat → List W
  | 0 => v
  | i + 1 => (vs v x i).set i (v.getD i 0 + x.getD i 0)
theorem vs_length (v x : List W) : ∀ i, (vs v x i).length = v.length
  | 0 => rfl
  | i + 1 => by rw [vs, List.length_set, vs_length v x i]
theorem vs_getD (v x : List W) : ∀ i j, i ≤ j → (vs v x i).getD j 0 = v.getD j 0
  | 0, _, _ => rfl
  | i + 1, j, h => by
    rw [vs, List.getD_eq_getElem?_getD, List.getElem?_set_ne (by omega), ← List.getD_eq_getElem?_getD, vs_getD v x i j (by omega)]
theorem vs_all (v : List W) (hv : v.length = 8) (s : S8) : vs v (xl s) 8 = [v.getD 0 0 + s.a, v.getD 1 0 + s.b, v.getD 2 0 + s.c, v.getD 3 0 + s.d, v.getD 4 0 + s.e, v.getD 5 0 + s.f, v.getD 6 0 + s.g, v.getD 7 0 + s.h] := by
  match v, hv with
  | [_, _, _, _, _, _, _, _], _ => rfl

theorem xl_s8 (v : List W) (h : v.length = 8) : xl (s8 v) = v := by
  match v, h with
  | [_, _, _, _, _, _, _, _], _ => rfl

set_option maxRecDepth 100000 in
set_option maxHeartbeats 6400000 in
theorem take_any (bv : Nat) (v : List W) (A : Option Addr) (n c : Nat) (p : List UInt8) (w : World) (hv : v.length = 8) (hV : Blk w bv 49 (v.map wV)) (hG : GK w) (hn : p.length = n) (hr : RdB w A p) (h1 : n = 128) (hc : n ≤ c) :
    Calls Tryd.prog 26 #[.pointer (some ⟨bv, 0, none⟩), .slice A n c] w fun e w' => (∃ u, e = .returned u) ∧ Blk w' bv 49 ((oneF v p).map wV) ∧ w.grownBy w' (some bv) := by
  have HV := Lib.hid hV; have HG := Lib.hid hG; have HN := Lib.hid hn; have HR := Lib.hid hr; have H1 := Lib.hid h1; have HL := Lib.hid hv
  have hlt := hV.lt
  clear hV hG hn hr h1 hv
  go_enter Tryd.func26, Tryd.ntmps26
  go_wp2_with fail
  refine (words_any A n c p _ HN.out HR.out H1.out hc).mono ?_
  rintro e w1 ⟨rfl, hb1⟩
  have HB1 := Lib.hid hb1
  have hle1 := hb1.size
  have hwl : ((wst p 128).map wV).length = 16 := by rw [List.length_map, wst_length]
  have HWL := Lib.hid hwl
  have HWS := Lib.hid (show ((wst p 128).map wV).toArray.size = 16 by rw [List.size_toArray, List.length_map, wst_length])
  have HVS := Lib.hid (show (v.map wV).toArray.size = 8 by rw [List.size_toArray, List.length_map, HL.out])
  have HVL := Lib.hid (show (v.map wV).length = 8 by rw [List.length_map, HL.out])
  have HW0 := Lib.hid (show wst p 128 = wn p 0 from rfl)
  clear hb1 hwl
  generalize wst p 128 = w0 at *
  have hne1 : w1.heap.size ≠ bv := by omega
  have hg2 := Lib.hid (fun (X : World) (o : Obj) (h : X.heap.size = w1.heap.size + 1) => (show (X.alloc o).heap[w1.heap.size + 1]? = some o by rw [← h]; exact heap_alloc_new X o))
  have HV1 := Lib.hid (HV.out.below HB1.out hlt)
  have HG1 := Lib.hid (HG.out.keep HB1.out)
  go_upto_region 2 with (first | (refine wpList_store_row rfl 61 _ _ rfl w1.heap.size _ rfl rfl _ _ (heap_alloc_new w1 _) (by rw [HWS.out]; kernel_rfl) (by rw [HWS.out]; rfl) (by simp [wV, Value.oneCell']) ?_) | (refine wpList_load_row rfl 49 _ rfl bv rfl _ _ _ _ ((HV1.out.alloc _).setRowOther hne1 _) Tryd.underlying49 rfl (by rw [HVS.out]; kernel_rfl) ?_) | (refine wpList_store_row rfl 49 _ _ rfl (w1.heap.size + 1) _ rfl rfl _ _ (hg2.out _ _ (by simp [World.setRow])) (by rw [HVS.out]; kernel_rfl) (by rw [HVS.out]; rfl) (by simp [wV, Value.oneCell']) ?_) | (with_reducible fail))
  obtain ⟨W0, hW0⟩ : ∃ W0, ((((w1.alloc (.cells #[.int .u64 0, .int .u64 0, .int .u64 0, .int .u64 0, .int .u64 0, .int .u64 0, .int .u64 0, .int .u64 0, .int .u64 0, .int .u64 0, .int .u64 0, .int .u64 0, .int .u64 0, .int .u64 0, .int .u64 0, .int .u64 0] 61)).setRow w1.heap.size (w0.map wV).toArray).alloc (.cells #[.int .u64 0, .int .u64 0, .int .u64 0, .int .u64 0, .int .u64 0, .int .u64 0, .int .u64 0, .int .u64 0] 49)).setRow (w1.heap.size + 1) (v.map wV).toArray) = W0 := ⟨_, rfl⟩
  rw [hW0]
  have BW0 := Lib.hid (show Blk W0 w1.heap.size 61 ((wn p 0).map wV) by rw [← hW0, ← HW0.out]; exact (((Blk.new w1 [.int .u64 0, .int .u64 0, .int .u64 0, .int .u64 0, .int .u64 0, .int .u64 0, .int .u64 0, .int .u64 0, .int .u64 0, .int .u64 0, .int .u64 0, .int .u64 0, .int .u64 0, .int .u64 0, .int .u64 0, .int .u64 0] 61).setRow (w0.map wV)).alloc _).setRowOther (by omega) _)
  have BX0 := Lib.hid (show Blk W0 (w1.heap.size + 1) 49 ((xl (s8 v)).map wV) by
    rw [← hW0, xl_s8 v HL.out]
    have : Blk (((w1.alloc (.cells #[.int .u64 0, .int .u64 0, .int .u64 0, .int .u64 0, .int .u64 0, .int .u64 0, .int .u64 0, .int .u64 0, .int .u64 0, .int .u64 0, .int .u64 0, .int .u64 0, .int .u64 0, .int .u64 0, .int .u64 0, .int .u64 0] 61)).setRow w1.heap.size (w0.map wV).toArray).alloc (.cells #[.int .u64 0, .int .u64 0, .int .u64 0, .int .u64 0, .int .u64 0, .int .u64 0, .int .u64 0, .int .u64 0] 49)) (w1.heap.size + 1) 49 [.int .u64 0, .int .u64 0, .int .u64 0, .int .u64 0, .int .u64 0, .int .u64 0, .int .u64 0, .int .u64 0] := hg2.out _ _ (by simp [World.setRow])
    exact this.setRow (v.map wV))
  have D0 := Lib.hid (show Below w1.heap.size w1 W0 by
    rw [← hW0]
    exact ((((Below.refl _ w1).alloc (Nat.le_refl _) _).trans (below_setRow (Nat.le_refl _))).alloc (by simp [World.setRow]) _).trans (below_setRow (by omega)))
  have G0 := HG1.out.keep D0.out
  obtain ⟨gt, gf, hgk⟩ := G0
  have HGK := Lib.hid hgk
  clear hgk hW0 hg2 hne1
  have HKS := Lib.hid (show (ks.map wV).toArray.size = 80 by rfl)
  go_wp2_with (refine wpList_load_row rfl 63 _ rfl 0 rfl _ _ _ _ HGK.out Tryd.underlying63 rfl (by rw [HKS.out]; kernel_rfl) ?_)
  have HS := Lib.hid (show ∀ t : Nat, t < 80 → ∀ wx, (Instr.index 63 (.agg (ks.map wV).toArray) (.int .i64 (t : Int))).run Tryd.prog wx = .ok (.int .u64 (tn (ks.getD t 0))) wx from fun t ht wx => run_index_agg wx Tryd.underlying63 Tryd.underlying45 (by kernel_rfl) ht (by
    have hl : t < ks.length := ht
    rw [List.getElem?_toArray, List.getElem?_map, List.getElem?_eq_getElem hl, List.getD_eq_getElem?_getD, List.getElem?_eq_getElem hl]; rfl))
  generalize (ks.map wV).toArray = KA at *
  have hne : w1.heap.size ≠ w1.heap.size + 1 := by omega
  go_loopw [19] (fun i wr => ∃ t : Nat, i = .int .i64 (t : Int) ∧ t ≤ 80 ∧ Hid (Blk wr w1.heap.size 61 ((wn p t).map wV)) ∧ Hid (Blk wr (w1.heap.size + 1) 49 ((xl (rnds (s8 v) (sch p 64) t)).map wV)) ∧ Hid (Below w1.heap.size w1 wr)) (fun i _ => 80 - (intOf i).toNat)
  case atStart => exact ⟨0, rfl, by decide, BW0, BX0, D0⟩
  case round =>
    obtain ⟨t, rfl, ht, BW, BX, DR⟩ := hrel
    by_cases hlt2 : t < 80
    · have hidx := HS.out t hlt2
      have HN1 := Lib.hid (show xl (rnds (s8 v) (sch p 64) (t + 1)) = _ from rnd_eq (rnds (s8 v) (sch p 64) t) (ks.getD t 0) ((sch p 64).getD t 0))
      have HN2 := Lib.hid (nxt_val p t hlt2)
      have HN3 := Lib.hid (show wn p (t + 1) = nxt (wn p t) t from rfl)
      have HWN := Lib.hid (wn_length p t)
      generalize rnds (s8 v) (sch p 64) t = s at *
      generalize ks.getD t 0 = K at *
      generalize (sch p 64).getD t 0 = X at *
      have C := Lib.hid (fun w' (hk : wr.grownBy w' (some w1.heap.size)) => xl_cell (BX.out.grown hk (by simp)))
      go_upto_region 5 with (fail)
      refine E_start (hR := (Pre.grown (some w1.heap.size))) #[false, false, false, false, false, false] (by kernel_rfl) rfl rfl (fun w_p1 hx_p1 he_p1 => ?_)
      replace he_p1 := Lib.hid he_p1
      have G := Lib.hid hx_p1
      have E1 := Lib.hid he_p1
      clear hx_p1 he_p1
      refine E_take (hR := (Pre.grown (some w1.heap.size))) (i := 0) (N := (some 23)) (v := ?vp1_0) (a' := ?ap1_0) #[true, false, false, false, false, false] rfl rfl (by kernel_rfl) (fun _ _ _ h => h) (by rfl) ?hyp1_0 ?hap1_0 ?_
      case hyp1_0 =>
        intro w' hx
        go_simp
        with_reducible rfl
      case hap1_0 => (simp only [Act.put, List.setIfInBounds_toArray, List.set_cons_zero, List.set_cons_succ]; rfl)
      refine E_take (hR := (Pre.grown (some w1.heap.size))) (i := 1) (N := (some 24)) (v := ?vp1_1) (a' := ?ap1_1) #[true, true, false, false, false, false] rfl rfl (by kernel_rfl) (fun _ _ _ h => h) (by rfl) ?hyp1_1 ?hap1_1 ?_
      case hyp1_1 =>
        intro w' hx
        have hc0 := (C.out w' (G.out.trans hx)).1
        go_simp
        with_reducible rfl
      case hap1_1 => (simp only [Act.put, List.setIfInBounds_toArray, List.set_cons_zero, List.set_cons_succ]; rfl)
      refine E_take (hR := (Pre.grown (some w1.heap.size))) (i := 2) (N := (some 25)) (v := ?vp1_2) (a' := ?ap1_2) #[true, true, true, false, false, false] rfl rfl (by kernel_rfl) (fun _ _ _ h => h) (by rfl) ?hyp1_2 ?hap1_2 ?_
      case hyp1_2 =>
        intro w' hx
        go_simp
        with_reducible rfl
      case hap1_2 => (simp only [Act.put, List.setIfInBounds_toArray, List.set_cons_zero, List.set_cons_succ]; rfl)
      refine E_take (hR := (Pre.grown (some w1.heap.size))) (i := 3) (N := (some 26)) (v := ?vp1_3) (a' := ?ap1_3) #[true, true, true, true, false, false] rfl rfl (by kernel_rfl) (fun _ _ _ h => h) (by rfl) ?hyp1_3 ?hap1_3 ?_
      case hyp1_3 =>
        intro w' hx
        have hc0 := (C.out w' (G.out.trans hx)).2.2.2.2.1
        go_simp
        with_reducible rfl
      case hap1_3 => (simp only [Act.put, List.setIfInBounds_toArray, List.set_cons_zero, List.set_cons_succ]; rfl)
      refine E_take (hR := (Pre.grown (some w1.heap.size))) (i := 4) (N := (some 8)) (v := ?vp1_4) (a' := ?ap1_4) #[true, true, true, true, true, false] rfl rfl (by kernel_rfl) (fun _ _ _ h => h) (by rfl) ?hyp1_4 ?hap1_4 ?_
      case hyp1_4 =>
        intro w' hx
        go_simp
        with_reducible rfl
      case hap1_4 => (simp only [Act.put, List.setIfInBounds_toArray, List.set_cons_zero, List.set_cons_succ]; rfl)
      refine E_take (hR := (Pre.grown (some w1.heap.size))) (i := 5) (N := (some 9)) (v := ?vp1_5) (a' := ?ap1_5) #[true, true, true, true, true, true] rfl rfl (by kernel_rfl) (fun _ _ _ h => h) (by rfl) ?hyp1_5 ?hap1_5 ?_
      case hyp1_5 =>
        intro w' hx
        go_simp
        with_reducible rfl
      case hap1_5 => (simp only [Act.put, List.setIfInBounds_toArray, List.set_cons_zero, List.set_cons_succ]; rfl)
      refine E_done (by kernel_rfl) ?_
      have BW1 := Lib.hid (show Blk w_p1 w1.heap.size 61 ((wn p t).map wV) by rw [E1.out]; exact BW.out)
      clear E1
      go_upto_region 6 with (fail)
      refine E_start (hR := (Pre.grown (some w1.heap.size))) #[false, false, false, false, false, false, false, false, false, false, false, false, false, false, false, false, false, false, false, false, false, false] (by kernel_rfl) rfl rfl (fun w_q2 hx_q2 he_q2 => ?_)
      replace he_q2 := Lib.hid he_q2
      have E1 := Lib.hid he_q2
      have BW2 := Lib.hid (show Blk w_q2 w1.heap.size 61 ((wn p t).map wV) by rw [E1.out]; exact BW1.out)
      replace G := Lib.hid (G.out.trans hx_q2)
      clear hx_q2 he_q2 E1 BW1
      refine E_take (hR := (Pre.grown (some w1.heap.size))) (i := 0) (N := (some 27)) (v := ?vq2_0) (a' := ?aq2_0) #[true, false, false, false, false, false, false, false, false, false, false, false, false, false, false, false, false, false, false, false, false, false] rfl rfl (by kernel_rfl) (fun _ _ _ h => h) (by rfl) ?hyq2_0 ?haq2_0 ?_
      case hyq2_0 =>
        intro w' hx
        go_simp
        with_reducible rfl
      case haq2_0 => (simp only [Act.put, List.setIfInBounds_toArray, List.set_cons_zero, List.set_cons_succ]; rfl)
      refine E_take (hR := (Pre.grown (some w1.heap.size))) (i := 1) (N := (some 28)) (v := ?vq2_1) (a' := ?aq2_1) #[true, true, false, false, false, false, false, false, false, false, false, false, false, false, false, false, false, false, false, false, false, false] rfl rfl (by kernel_rfl) (fun _ _ _ h => h) (by rfl) ?hyq2_1 ?haq2_1 ?_
      case hyq2_1 =>
        intro w' hx
        have hc0 := (C.out w' (G.out.trans hx)).2.2.2.2.2.2.2
        go_simp
        with_reducible rfl
      case haq2_1 => (simp only [Act.put, List.setIfInBounds_toArray, List.set_cons_zero, List.set_cons_succ]; rfl)
      refine E_take (hR := (Pre.grown (some w1.heap.size))) (i := 2) (N := (some 29)) (v := ?vq2_2) (a' := ?aq2_2) #[true, true, true, false, false, false, false, false, false, false, false, false, false, false, false, false, false, false, false, false, false, false] rfl rfl (by kernel_rfl) (fun _ _ _ h => h) (by rfl) ?hyq2_2 ?haq2_2 ?_
      case hyq2_2 =>
        intro w' hx
        go_simp
        with_reducible rfl
      case haq2_2 => (simp only [Act.put, List.setIfInBounds_toArray, List.set_cons_zero, List.set_cons_succ]; rfl)
      refine E_take (hR := (Pre.grown (some w1.heap.size))) (i := 5) (N := (some 32)) (v := ?vq2_5) (a' := ?aq2_5) #[true, true, true, false, false, true, false, false, false, false, false, false, false, false, false, false, false, false, false, false, false, false] rfl rfl (by kernel_rfl) (fun _ _ _ h => h) (by rfl) ?hyq2_5 ?haq2_5 ?_
      case hyq2_5 =>
        intro w' hx
        go_simp
        with_reducible rfl
      case haq2_5 => (simp only [Act.put, List.setIfInBounds_toArray, List.set_cons_zero, List.set_cons_succ]; rfl)
      refine E_take (hR := (Pre.grown (some w1.heap.size))) (i := 6) (N := (some 33)) (v := ?vq2_6) (a' := ?aq2_6) #[true, true, true, false, false, true, true, false, false, false, false, false, false, false, false, false, false, false, false, false, false, false] rfl rfl (by kernel_rfl) (fun _ _ _ h => h) (by rfl) ?hyq2_6 ?haq2_6 ?_
      case hyq2_6 =>
        intro w' hx
        have hc0 := (C.out w' (G.out.trans hx)).2.2.2.2.2.2.1
        go_simp
        with_reducible rfl
      case haq2_6 => (simp only [Act.put, List.setIfInBounds_toArray, List.set_cons_zero, List.set_cons_succ]; rfl)
      refine E_take (hR := (Pre.grown (some w1.heap.size))) (i := 7) (N := (some 34)) (v := ?vq2_7) (a' := ?aq2_7) #[true, true, true, false, false, true, true, true, false, false, false, false, false, false, false, false, false, false, false, false, false, false] rfl rfl (by kernel_rfl) (fun _ _ _ h => h) (by rfl) ?hyq2_7 ?haq2_7 ?_
      case hyq2_7 =>
        intro w' hx
        go_simp
        with_reducible rfl
      case haq2_7 => (simp only [Act.put, List.setIfInBounds_toArray, List.set_cons_zero, List.set_cons_succ]; rfl)
      refine E_take (hR := (Pre.grown (some w1.heap.size))) (i := 8) (N := (some 35)) (v := ?vq2_8) (a' := ?aq2_8) #[true, true, true, false, false, true, true, true, true, false, false, false, false, false, false, false, false, false, false, false, false, false] rfl rfl (by kernel_rfl) (fun _ _ _ h => h) (by rfl) ?hyq2_8 ?haq2_8 ?_
      case hyq2_8 =>
        intro w' hx
        go_simp
        with_reducible rfl
      case haq2_8 => (simp only [Act.put, List.setIfInBounds_toArray, List.set_cons_zero, List.set_cons_succ]; rfl)
      refine E_take (hR := (Pre.grown (some w1.heap.size))) (i := 9) (N := (some 36)) (v := ?vq2_9) (a' := ?aq2_9) #[true, true, true, false, false, true, true, true, true, true, false, false, false, false, false, false, false, false, false, false, false, false] rfl rfl (by kernel_rfl) (fun _ _ _ h => h) (by rfl) ?hyq2_9 ?haq2_9 ?_
      case hyq2_9 =>
        intro w' hx
        have hc0 := (C.out w' (G.out.trans hx)).2.2.2.2.2.1
        go_simp
        with_reducible rfl
      case haq2_9 => (simp only [Act.put, List.setIfInBounds_toArray, List.set_cons_zero, List.set_cons_succ]; rfl)
      refine E_take (hR := (Pre.grown (some w1.heap.size))) (i := 10) (N := (some 37)) (v := ?vq2_10) (a' := ?aq2_10) #[true, true, true, false, false, true, true, true, true, true, true, false, false, false, false, false, false, false, false, false, false, false] rfl rfl (by kernel_rfl) (fun _ _ _ h => h) (by rfl) ?hyq2_10 ?haq2_10 ?_
      case hyq2_10 =>
        intro w' hx
        go_simp
        with_reducible rfl
      case haq2_10 => (simp only [Act.put, List.setIfInBounds_toArray, List.set_cons_zero, List.set_cons_succ]; rfl)
      refine E_take (hR := (Pre.grown (some w1.heap.size))) (i := 11) (N := (some 38)) (v := ?vq2_11) (a' := ?aq2_11) #[true, true, true, false, false, true, true, true, true, true, true, true, false, false, false, false, false, false, false, false, false, false] rfl rfl (by kernel_rfl) (fun _ _ _ h => h) (by rfl) ?hyq2_11 ?haq2_11 ?_
      case hyq2_11 =>
        intro w' hx
        have hc0 := (C.out w' (G.out.trans hx)).2.2.2.2.2.2.1
        go_simp
        with_reducible rfl
      case haq2_11 => (simp only [Act.put, List.setIfInBounds_toArray, List.set_cons_zero, List.set_cons_succ]; rfl)
      refine E_take (hR := (Pre.grown (some w1.heap.size))) (i := 12) (N := (some 39)) (v := ?vq2_12) (a' := ?aq2_12) #[true, true, true, false, false, true, true, true, true, true, true, true, true, false, false, false, false, false, false, false, false, false] rfl rfl (by kernel_rfl) (fun _ _ _ h => h) (by rfl) ?hyq2_12 ?haq2_12 ?_
      case hyq2_12 =>
        intro w' hx
        go_simp
        with_reducible rfl
      case haq2_12 => (simp only [Act.put, List.setIfInBounds_toArray, List.set_cons_zero, List.set_cons_succ]; rfl)
      refine E_take (hR := (Pre.grown (some w1.heap.size))) (i := 13) (N := (some 40)) (v := ?vq2_13) (a' := ?aq2_13) #[true, true, true, false, false, true, true, true, true, true, true, true, true, true, false, false, false, false, false, false, false, false] rfl rfl (by kernel_rfl) (fun _ _ _ h => h) (by rfl) ?hyq2_13 ?haq2_13 ?_
      case hyq2_13 =>
        intro w' hx
        go_simp
        with_reducible rfl
      case haq2_13 => (simp only [Act.put, List.setIfInBounds_toArray, List.set_cons_zero, List.set_cons_succ]; rfl)
      refine E_take (hR := (Pre.grown (some w1.heap.size))) (i := 14) (N := (some 41)) (v := ?vq2_14) (a' := ?aq2_14) #[true, true, true, false, false, true, true, true, true, true, true, true, true, true, true, false, false, false, false, false, false, false] rfl rfl (by kernel_rfl) (fun _ _ _ h => h) (by rfl) ?hyq2_14 ?haq2_14 ?_
      case hyq2_14 =>
        intro w' hx
        go_simp
        with_reducible rfl
      case haq2_14 => (simp only [Act.put, List.setIfInBounds_toArray, List.set_cons_zero, List.set_cons_succ]; rfl)
      refine E_take (hR := (Pre.grown (some w1.heap.size))) (i := 16) (N := (some 43)) (v := ?vq2_16) (a' := ?aq2_16) #[true, true, true, false, false, true, true, true, true, true, true, true, true, true, true, false, true, false, false, false, false, false] rfl rfl (by kernel_rfl) (fun _ _ _ h => h) (by rfl) ?hyq2_16 ?haq2_16 ?_
      case hyq2_16 =>
        intro w' hx
        go_simp
        with_reducible rfl
      case haq2_16 => (simp only [Act.put, List.setIfInBounds_toArray, List.set_cons_zero, List.set_cons_succ]; rfl)
      refine E_take (hR := (Pre.grown (some w1.heap.size))) (i := 18) (N := (some 45)) (v := ?vq2_18) (a' := ?aq2_18) #[true, true, true, false, false, true, true, true, true, true, true, true, true, true, true, false, true, false, true, false, false, false] rfl rfl (by kernel_rfl) (fun _ _ _ h => h) (by rfl) ?hyq2_18 ?haq2_18 ?_
      case hyq2_18 =>
        intro w' hx
        go_simp
        with_reducible rfl
      case haq2_18 => (simp only [Act.put, List.setIfInBounds_toArray, List.set_cons_zero, List.set_cons_succ]; rfl)
      refine E_call (i := 3) (N := (some 30)) (args := ?gq2_3) #[true, true, true, true, false, true, true, true, true, true, true, true, true, true, true, false, true, false, true, false, false, false] rfl rfl (by kernel_rfl) (by rfl) Tryd.func34 (by kernel_rfl) rfl rfl ?hgq2_3 ?_
      case hgq2_3 => (simp only [List.map_toArray, List.map_cons, List.map_nil]; go_simp; with_reducible rfl)
      refine (PB.sha512_great.calls _ _ _ _ _ _ (great1 s.e)).mono ?_
      rintro e w2 ⟨rfl, hd⟩
      refine ⟨_, rfl, drawn_grown hd _, ?_⟩
      replace G := Lib.hid (G.out.trans (drawn_grown hd _))
      replace BW2 := Lib.hid (BW2.out.grown (drawn_grown hd none) (by simp))
      clear hd
      rintro _ rfl
      simp only [Act.put, List.setIfInBounds_toArray, List.set_cons_zero, List.set_cons_succ]
      refine E_take (hR := (Pre.grown (some w1.heap.size))) (i := 4) (N := (some 31)) (v := ?vq2_4) (a' := ?aq2_4) #[true, true, true, true, true, true, true, true, true, true, true, true, true, true, true, false, true, false, true, false, false, false] rfl rfl (by kernel_rfl) (fun _ _ _ h => h) (by rfl) ?hyq2_4 ?haq2_4 ?_
      case hyq2_4 =>
        intro w' hx
        go_simp
        with_reducible rfl
      case haq2_4 => (simp only [Act.put, List.setIfInBounds_toArray, List.set_cons_zero, List.set_cons_succ]; rfl)
      refine E_take (hR := (Pre.grown (some w1.heap.size))) (i := 15) (N := (some 42)) (v := ?vq2_15) (a' := ?aq2_15) #[true, true, true, true, true, true, true, true, true, true, true, true, true, true, true, true, true, false, true, false, false, false] rfl rfl (by kernel_rfl) (fun _ _ _ h => h) (by rfl) ?hyq2_15 ?haq2_15 ?_
      case hyq2_15 =>
        intro w' hx
        go_simp
        with_reducible rfl
      case haq2_15 => (simp only [Act.put, List.setIfInBounds_toArray, List.set_cons_zero, List.set_cons_succ]; rfl)
      refine E_take (hR := (Pre.grown (some w1.heap.size))) (i := 17) (N := (some 44)) (v := ?vq2_17) (a' := ?aq2_17) #[true, true, true, true, true, true, true, true, true, true, true, true, true, true, true, true, true, true, true, false, false, false] rfl rfl (by kernel_rfl) (fun _ _ _ h => h) (by rfl) ?hyq2_17 ?haq2_17 ?_
      case hyq2_17 =>
        intro w' hx
        go_simp
        with_reducible rfl
      case haq2_17 => (simp only [Act.put, List.setIfInBounds_toArray, List.set_cons_zero, List.set_cons_succ]; rfl)
      refine E_call (i := 19) (N := (some 46)) (args := ?gq2_19) #[true, true, true, true, true, true, true, true, true, true, true, true, true, true, true, true, true, true, true, true, false, false] rfl rfl (by kernel_rfl) (by rfl) Tryd.func35 (by kernel_rfl) rfl rfl ?hgq2_19 ?_
      case hgq2_19 => (simp only [List.map_toArray, List.map_cons, List.map_nil]; go_simp; with_reducible rfl)
      refine (next_any w1.heap.size (wn p t) t _ HWN.out (by omega) BW2.out).mono ?_
      rintro e w3 ⟨rfl, hb3, hg3⟩
      rw [HN2.out]
      refine ⟨.int .u64 (tn X), rfl, hg3, ?_⟩
      replace G := Lib.hid (G.out.trans hg3)
      have BW3 := Lib.hid hb3
      clear hb3 hg3 BW2
      rintro _ rfl
      simp only [Act.put, List.setIfInBounds_toArray, List.set_cons_zero, List.set_cons_succ]
      refine E_take (hR := (Pre.grown (some w1.heap.size))) (i := 20) (N := (some 47)) (v := ?vq2_20) (a' := ?aq2_20) #[true, true, true, true, true, true, true, true, true, true, true, true, true, true, true, true, true, true, true, true, true, false] rfl rfl (by kernel_rfl) (fun _ _ _ h => h) (by rfl) ?hyq2_20 ?haq2_20 ?_
      case hyq2_20 =>
        intro w' hx
        go_simp
        with_reducible rfl
      case haq2_20 => (simp only [Act.put, List.setIfInBounds_toArray, List.set_cons_zero, List.set_cons_succ]; rfl)
      refine E_take (hR := (Pre.grown (some w1.heap.size))) (i := 21) (N := (some 10)) (v := ?vq2_21) (a' := ?aq2_21) #[true, true, true, true, true, true, true, true, true, true, true, true, true, true, true, true, true, true, true, true, true, true] rfl rfl (by kernel_rfl) (fun _ _ _ h => h) (by rfl) ?hyq2_21 ?haq2_21 ?_
      case hyq2_21 =>
        intro w' hx
        go_simp
        with_reducible rfl
      case haq2_21 => (simp only [Act.put, List.setIfInBounds_toArray, List.set_cons_zero, List.set_cons_succ]; rfl)
      refine E_done (by kernel_rfl) ?_
      simp only [addWw, xorW, andW, orW]
      have BX3 := Lib.hid (BX.out.grown G.out (by simp))
      have DR3 := Lib.hid (DR.out.grown G.out (DR.out.size) (fun k hk => by cases hk; exact Nat.le_refl _))
      have C3 := Lib.hid (fun w' (hk : w3.grownBy w' none) => xl_cell (BX3.out.grown hk (by simp)))
      clear C G
      go_upto_region 7 with (fail)
      refine E_start (hR := (Pre.grown none)) #[false, false, false, false, false, false, false, false, false, false, false, false, false, false, false, false] (by kernel_rfl) rfl rfl (fun w_r3 hx_r3 he_r3 => ?_)
      clear he_r3
      have G := Lib.hid hx_r3
      clear hx_r3
      refine E_take (hR := (Pre.grown none)) (i := 0) (N := (some 48)) (v := ?vr3_0) (a' := ?ar3_0) #[true, false, false, false, false, false, false, false, false, false, false, false, false, false, false, false] rfl rfl (by kernel_rfl) (fun _ _ _ h => h) (by rfl) ?hyr3_0 ?har3_0 ?_
      case hyr3_0 =>
        intro w' hx
        go_simp
        with_reducible rfl
      case har3_0 => (simp only [Act.put, List.setIfInBounds_toArray, List.set_cons_zero, List.set_cons_succ]; rfl)
      refine E_take (hR := (Pre.grown none)) (i := 2) (N := (some 50)) (v := ?vr3_2) (a' := ?ar3_2) #[true, false, true, false, false, false, false, false, false, false, false, false, false, false, false, false] rfl rfl (by kernel_rfl) (fun _ _ _ h => h) (by rfl) ?hyr3_2 ?har3_2 ?_
      case hyr3_2 =>
        intro w' hx
        go_simp
        with_reducible rfl
      case har3_2 => (simp only [Act.put, List.setIfInBounds_toArray, List.set_cons_zero, List.set_cons_succ]; rfl)
      refine E_take (hR := (Pre.grown none)) (i := 3) (N := (some 51)) (v := ?vr3_3) (a' := ?ar3_3) #[true, false, true, true, false, false, false, false, false, false, false, false, false, false, false, false] rfl rfl (by kernel_rfl) (fun _ _ _ h => h) (by rfl) ?hyr3_3 ?har3_3 ?_
      case hyr3_3 =>
        intro w' hx
        go_simp
        with_reducible rfl
      case har3_3 => (simp only [Act.put, List.setIfInBounds_toArray, List.set_cons_zero, List.set_cons_succ]; rfl)
      refine E_take (hR := (Pre.grown none)) (i := 4) (N := (some 52)) (v := ?vr3_4) (a' := ?ar3_4) #[true, false, true, true, true, false, false, false, false, false, false, false, false, false, false, false] rfl rfl (by kernel_rfl) (fun _ _ _ h => h) (by rfl) ?hyr3_4 ?har3_4 ?_
      case hyr3_4 =>
        intro w' hx
        have hc0 := (C3.out w' (G.out.trans hx)).2.1
        go_simp
        with_reducible rfl
      case har3_4 => (simp only [Act.put, List.setIfInBounds_toArray, List.set_cons_zero, List.set_cons_succ]; rfl)
      refine E_take (hR := (Pre.grown none)) (i := 5) (N := (some 53)) (v := ?vr3_5) (a' := ?ar3_5) #[true, false, true, true, true, true, false, false, false, false, false, false, false, false, false, false] rfl rfl (by kernel_rfl) (fun _ _ _ h => h) (by rfl) ?hyr3_5 ?har3_5 ?_
      case hyr3_5 =>
        intro w' hx
        go_simp
        with_reducible rfl
      case har3_5 => (simp only [Act.put, List.setIfInBounds_toArray, List.set_cons_zero, List.set_cons_succ]; rfl)
      refine E_take (hR := (Pre.grown none)) (i := 6) (N := (some 54)) (v := ?vr3_6) (a' := ?ar3_6) #[true, false, true, true, true, true, true, false, false, false, false, false, false, false, false, false] rfl rfl (by kernel_rfl) (fun _ _ _ h => h) (by rfl) ?hyr3_6 ?har3_6 ?_
      case hyr3_6 =>
        intro w' hx
        go_simp
        with_reducible rfl
      case har3_6 => (simp only [Act.put, List.setIfInBounds_toArray, List.set_cons_zero, List.set_cons_succ]; rfl)
      refine E_take (hR := (Pre.grown none)) (i := 7) (N := (some 55)) (v := ?vr3_7) (a' := ?ar3_7) #[true, false, true, true, true, true, true, true, false, false, false, false, false, false, false, false] rfl rfl (by kernel_rfl) (fun _ _ _ h => h) (by rfl) ?hyr3_7 ?har3_7 ?_
      case hyr3_7 =>
        intro w' hx
        go_simp
        with_reducible rfl
      case har3_7 => (simp only [Act.put, List.setIfInBounds_toArray, List.set_cons_zero, List.set_cons_succ]; rfl)
      refine E_take (hR := (Pre.grown none)) (i := 8) (N := (some 56)) (v := ?vr3_8) (a' := ?ar3_8) #[true, false, true, true, true, true, true, true, true, false, false, false, false, false, false, false] rfl rfl (by kernel_rfl) (fun _ _ _ h => h) (by rfl) ?hyr3_8 ?har3_8 ?_
      case hyr3_8 =>
        intro w' hx
        have hc0 := (C3.out w' (G.out.trans hx)).2.1
        go_simp
        with_reducible rfl
      case har3_8 => (simp only [Act.put, List.setIfInBounds_toArray, List.set_cons_zero, List.set_cons_succ]; rfl)
      refine E_take (hR := (Pre.grown none)) (i := 9) (N := (some 57)) (v := ?vr3_9) (a' := ?ar3_9) #[true, false, true, true, true, true, true, true, true, true, false, false, false, false, false, false] rfl rfl (by kernel_rfl) (fun _ _ _ h => h) (by rfl) ?hyr3_9 ?har3_9 ?_
      case hyr3_9 =>
        intro w' hx
        go_simp
        with_reducible rfl
      case har3_9 => (simp only [Act.put, List.setIfInBounds_toArray, List.set_cons_zero, List.set_cons_succ]; rfl)
      refine E_take (hR := (Pre.grown none)) (i := 10) (N := (some 58)) (v := ?vr3_10) (a' := ?ar3_10) #[true, false, true, true, true, true, true, true, true, true, true, false, false, false, false, false] rfl rfl (by kernel_rfl) (fun _ _ _ h => h) (by rfl) ?hyr3_10 ?har3_10 ?_
      case hyr3_10 =>
        intro w' hx
        go_simp
        with_reducible rfl
      case har3_10 => (simp only [Act.put, List.setIfInBounds_toArray, List.set_cons_zero, List.set_cons_succ]; rfl)
      refine E_take (hR := (Pre.grown none)) (i := 11) (N := (some 59)) (v := ?vr3_11) (a' := ?ar3_11) #[true, false, true, true, true, true, true, true, true, true, true, true, false, false, false, false] rfl rfl (by kernel_rfl) (fun _ _ _ h => h) (by rfl) ?hyr3_11 ?har3_11 ?_
      case hyr3_11 =>
        intro w' hx
        have hc0 := (C3.out w' (G.out.trans hx)).2.2.1
        go_simp
        with_reducible rfl
      case har3_11 => (simp only [Act.put, List.setIfInBounds_toArray, List.set_cons_zero, List.set_cons_succ]; rfl)
      refine E_take (hR := (Pre.grown none)) (i := 12) (N := (some 60)) (v := ?vr3_12) (a' := ?ar3_12) #[true, false, true, true, true, true, true, true, true, true, true, true, true, false, false, false] rfl rfl (by kernel_rfl) (fun _ _ _ h => h) (by rfl) ?hyr3_12 ?har3_12 ?_
      case hyr3_12 =>
        intro w' hx
        go_simp
        with_reducible rfl
      case har3_12 => (simp only [Act.put, List.setIfInBounds_toArray, List.set_cons_zero, List.set_cons_succ]; rfl)
      refine E_take (hR := (Pre.grown none)) (i := 13) (N := (some 61)) (v := ?vr3_13) (a' := ?ar3_13) #[true, false, true, true, true, true, true, true, true, true, true, true, true, true, false, false] rfl rfl (by kernel_rfl) (fun _ _ _ h => h) (by rfl) ?hyr3_13 ?har3_13 ?_
      case hyr3_13 =>
        intro w' hx
        go_simp
        with_reducible rfl
      case har3_13 => (simp only [Act.put, List.setIfInBounds_toArray, List.set_cons_zero, List.set_cons_succ]; rfl)
      refine E_call (i := 1) (N := (some 49)) (args := ?gr3_1) #[true, true, true, true, true, true, true, true, true, true, true, true, true, true, false, false] rfl rfl (by kernel_rfl) (by rfl) Tryd.func34 (by kernel_rfl) rfl rfl ?hgr3_1 ?_
      case hgr3_1 => (simp only [List.map_toArray, List.map_cons, List.map_nil]; go_simp; with_reducible rfl)
      refine (PB.sha512_great.calls _ _ _ _ _ _ (great2 s.a)).mono ?_
      rintro e w4 ⟨rfl, hd⟩
      refine ⟨_, rfl, drawn_grown hd none, ?_⟩
      replace G := Lib.hid (G.out.trans (drawn_grown hd none))
      clear hd
      rintro _ rfl
      simp only [Act.put, List.setIfInBounds_toArray, List.set_cons_zero, List.set_cons_succ]
      refine E_take (hR := (Pre.grown none)) (i := 14) (N := (some 62)) (v := ?vr3_14) (a' := ?ar3_14) #[true, true, true, true, true, true, true, true, true, true, true, true, true, true, true, false] rfl rfl (by kernel_rfl) (fun _ _ _ h => h) (by rfl) ?hyr3_14 ?har3_14 ?_
      case hyr3_14 =>
        intro w' hx
        go_simp
        with_reducible rfl
      case har3_14 => (simp only [Act.put, List.setIfInBounds_toArray, List.set_cons_zero, List.set_cons_succ]; rfl)
      refine E_take (hR := (Pre.grown none)) (i := 15) (N := (some 11)) (v := ?vr3_15) (a' := ?ar3_15) #[true, true, true, true, true, true, true, true, true, true, true, true, true, true, true, true] rfl rfl (by kernel_rfl) (fun _ _ _ h => h) (by rfl) ?hyr3_15 ?har3_15 ?_
      case hyr3_15 =>
        intro w' hx
        go_simp
        with_reducible rfl
      case har3_15 => (simp only [Act.put, List.setIfInBounds_toArray, List.set_cons_zero, List.set_cons_succ]; rfl)
      refine E_done (by kernel_rfl) ?_
      simp only [addWw, xorW, andW, orW]
      have BX4 := Lib.hid (BX3.out.grown G.out (by simp))
      have BW4 := Lib.hid (BW3.out.grown G.out (by simp))
      have DR4 := Lib.hid (DR3.out.grown G.out DR3.out.size (fun k hk => by cases hk))
      clear C3 G BX3 BW3 DR3
      go_upto_region 8 with (fail)
      refine L_start (hR := (Pre.grown none)) (L := 2) #[false, false, false] (by kernel_rfl) rfl rfl (fun w_u4 hx_u4 he_u4 => ?_)
      replace he_u4 := Lib.hid he_u4
      have BX5 := Lib.hid (show Blk w_u4 (w1.heap.size + 1) 49 ((xl s).map wV) by rw [he_u4]; exact BX4.out)
      have BW5 := Lib.hid (show Blk w_u4 w1.heap.size 61 ((nxt (wn p t) t).map wV) by rw [he_u4]; exact BW4.out)
      have DR5 := Lib.hid (show Below w1.heap.size w1 w_u4 by rw [he_u4]; exact DR4.out.drew)
      clear hx_u4 he_u4 BX4 BW4 DR4
      refine L_take (hR := (Pre.grown none)) (L := 2) (i := 0) (N := (some 63)) (v := ?vu4_0) (a' := ?au4_0) #[true, false, false] rfl rfl (y := 0) (r := []) (by kernel_rfl) (by kernel_rfl) (fun _ _ _ h => h) (by rfl) ?hyu4_0 ?hau4_0 ?_
      case hyu4_0 =>
        intro w' hx
        go_simp
        with_reducible rfl
      case hau4_0 => (simp only [Act.put, List.setIfInBounds_toArray, List.set_cons_zero, List.set_cons_succ]; rfl)
      refine L_take (hR := (Pre.grown none)) (L := 2) (i := 1) (N := (some 64)) (v := ?vu4_1) (a' := ?au4_1) #[true, true, false] rfl rfl (y := 1) (r := []) (by kernel_rfl) (by kernel_rfl) (fun _ _ _ h => h) (by rfl) ?hyu4_1 ?hau4_1 ?_
      case hyu4_1 =>
        intro w' hx
        go_simp
        with_reducible rfl
      case hau4_1 => (simp only [Act.put, List.setIfInBounds_toArray, List.set_cons_zero, List.set_cons_succ]; rfl)
      have hrc := run_copy_row (P := Tryd.prog) w_u4 46 46 3 45 (w1.heap.size + 1) 1 7 7 ⟨w1.heap.size + 1, 0, none⟩ 7 8 _ _ ([s.a, s.b, s.c, s.d, s.e, s.f, s.g].map wV) Tryd.underlying46 (by kernel_rfl) BX5.out rfl (fun j u hu => by
        have hj : j < 7 := by have := (List.getElem?_eq_some_iff.1 hu).1; simpa using this
        have hadd : (⟨w1.heap.size + 1, 0, none⟩ : Addr).add j = ⟨w1.heap.size + 1, j, none⟩ := by unfold Addr.add; split <;> simp_all
        rw [hadd, BX5.out.cell]
        match j, hj with
        | 0, _ => exact hu
        | 1, _ => exact hu
        | 2, _ => exact hu
        | 3, _ => exact hu
        | 4, _ => exact hu
        | 5, _ => exact hu
        | 6, _ => exact hu) (by simp [xl]) (by simp [wV, Value.oneCell'])
      have HRC := Lib.hid hrc
      clear hrc
      refine L_run (i := 2) (N := (some 65)) (v := goInt 7) (w1 := w_u4.setRow (w1.heap.size + 1) ([s.a, s.a, s.b, s.c, s.d, s.e, s.f, s.g].map wV).toArray) (a' := ?au4_2) #[true, true, true] rfl rfl (by kernel_rfl) (by rfl) (exec_copy rfl rfl rfl HRC.out) (.inl rfl) ?hau4_2 ?_
      case hau4_2 => (simp only [Act.put, List.setIfInBounds_toArray, List.set_cons_zero, List.set_cons_succ]; rfl)
      refine L_done (by kernel_rfl) ?_
      have BX6 := Lib.hid (BX5.out.setRow ([s.a, s.a, s.b, s.c, s.d, s.e, s.f, s.g].map wV))
      have BW6 := Lib.hid (BW5.out.setRowOther hne.symm ([s.a, s.a, s.b, s.c, s.d, s.e, s.f, s.g].map wV).toArray)
      have DR6 := Lib.hid (DR5.out.trans (below_setRow (g := w1.heap.size + 1) (cs := ([s.a, s.a, s.b, s.c, s.d, s.e, s.f, s.g].map wV).toArray) (by omega)))
      obtain ⟨w6, hw6⟩ : ∃ w6, w_u4.setRow (w1.heap.size + 1) ([s.a, s.a, s.b, s.c, s.d, s.e, s.f, s.g].map wV).toArray = w6 := ⟨_, rfl⟩
      rw [hw6] at BX6 BW6 DR6 ⊢
      clear hw6 BX5 BW5 DR5
      have c0 : w6.cell? ⟨w1.heap.size + 1, 0, none⟩ = some (.int .u64 (tn s.a)) := BX6.out.cell 0
      have c4 : w6.cell? ⟨w1.heap.size + 1, 4, none⟩ = some (.int .u64 (tn s.d)) := BX6.out.cell 4
      have f0 := BX6.out.frozen 0
      have f4 := BX6.out.frozen 4
      go_wp2
      go_roundw
      case rel => exact ⟨t + 1, by simp, by omega, Lib.hid (by rw [HN3.out]; exact (BW6.out.setOther (by simp) _).setOther (by simp) _), Lib.hid (by rw [HN1.out]; simp only [addW]; exact (BX6.out.set 0 (wV (oneV s K X + twoV s))).set 4 (wV (s.d + oneV s K X))), Lib.hid ((DR6.out.setCell (by simp) _).setCell (by simp) _)⟩
      case measure => simp [intOf]; omega
    · have htR : t = 80 := by omega
      have HE := Lib.hid (show oneF v p = vs v (xl (rnds (s8 v) (sch p 64) t)) 8 by rw [vs_all v HL.out, htR]; rfl)
      have HXL := Lib.hid (show (xl (rnds (s8 v) (sch p 64) t)).length = 8 from rfl)
      generalize xl (rnds (s8 v) (sch p 64) t) = x at *
      have BV := Lib.hid (HV1.out.below DR.out (by omega))
      have hltbv : bv < w1.heap.size := by omega
      clear BW htR
      go_wp2_with fail
      obtain ⟨wo, rfl⟩ : ∃ wo : World, wo = wr := ⟨_, rfl⟩
      go_loopw [76] (fun i wx => ∃ j : Nat, i = .int .i64 (j : Int) ∧ j ≤ 8 ∧ Hid (Blk wx bv 49 ((vs v x j).map wV)) ∧ Hid (Blk wx (w1.heap.size + 1) 49 (x.map wV)) ∧ Hid (w1.grownBy wx (some bv))) (fun i _ => 8 - (intOf i).toNat)
      case atStart => exact ⟨0, rfl, by decide, BV, BX, Lib.hid ⟨DR.out.os, DR.out.tape, DR.out.output, DR.out.size, fun k hk _ => DR.out.block k hk⟩⟩
      case round =>
        obtain ⟨j, rfl, hj, BVj, BXj, GJ⟩ := hrel
        by_cases hlt8 : j < 8
        · have hj8 : (j : Int) < 8 := by omega
          have HVS2 := Lib.hid (show vs v x (j + 1) = (vs v x j).set j (v.getD j 0 + x.getD j 0) from rfl)
          have HGV := Lib.hid (vs_getD v x j j (Nat.le_refl _))
          have C1 := Lib.hid (fun w' (hk : wr.grownBy w' none) => (BVj.out.grown hk (by simp)).word j (by rw [vs_length]; have := HL.out; omega))
          have C2 := Lib.hid (fun w' (hk : wr.grownBy w' none) => (BXj.out.grown hk (by simp)).word j (by have := HXL.out; omega))
          rw [HGV.out] at C1
          generalize v.getD j 0 = VJ at *
          generalize x.getD j 0 = XJ at *
          go_upto_region 15 with (fail)
          refine L_start (hR := (Pre.grown none)) (L := 11) #[false, false, false, false, false, false, false, false, false, false, false, false] (by kernel_rfl) rfl rfl (fun w_y5 hx_y5 he_y5 => ?_)
          clear he_y5
          have G := Lib.hid hx_y5
          clear hx_y5
          refine L_take (hR := (Pre.grown none)) (L := 11) (i := 0) (N := (some 79)) (v := ?vy5_0) (a' := ?ay5_0) #[true, false, false, false, false, false, false, false, false, false, false, false] rfl rfl (y := 0) (r := []) (by kernel_rfl) (by kernel_rfl) (fun _ _ _ h => h) (by rfl) ?hyy5_0 ?hay5_0 ?_
          case hyy5_0 =>
            intro w' hx
            go_simp
            with_reducible rfl
          case hay5_0 => (simp only [Act.put, List.setIfInBounds_toArray, List.set_cons_zero, List.set_cons_succ]; rfl)
          refine L_take (hR := (Pre.grown none)) (L := 11) (i := 1) (N := (some 80)) (v := ?vy5_1) (a' := ?ay5_1) #[true, true, false, false, false, false, false, false, false, false, false, false] rfl rfl (y := 1) (r := []) (by kernel_rfl) (by kernel_rfl) (fun _ _ _ h => h) (by rfl) ?hyy5_1 ?hay5_1 ?_
          case hyy5_1 =>
            intro w' hx
            go_simp
            with_reducible rfl
          case hay5_1 => (simp only [Act.put, List.setIfInBounds_toArray, List.set_cons_zero, List.set_cons_succ]; rfl)
          refine L_take (hR := (Pre.grown none)) (L := 11) (i := 2) (N := (some 81)) (v := ?vy5_2) (a' := ?ay5_2) #[true, true, true, false, false, false, false, false, false, false, false, false] rfl rfl (y := 2) (r := []) (by kernel_rfl) (by kernel_rfl) (fun _ _ _ h => h) (by rfl) ?hyy5_2 ?hay5_2 ?_
          case hyy5_2 =>
            intro w' hx
            go_simp
            with_reducible rfl
          case hay5_2 => (simp only [Act.put, List.setIfInBounds_toArray, List.set_cons_zero, List.set_cons_succ]; rfl)
          refine L_take (hR := (Pre.grown none)) (L := 11) (i := 3) (N := (some 82)) (v := ?vy5_3) (a' := ?ay5_3) #[true, true, true, true, false, false, false, false, false, false, false, false] rfl rfl (y := 3) (r := []) (by kernel_rfl) (by kernel_rfl) (fun _ _ _ h => h) (by rfl) ?hyy5_3 ?hay5_3 ?_
          case hyy5_3 =>
            intro w' hx
            go_simp
            with_reducible rfl
          case hay5_3 => (simp only [Act.put, List.setIfInBounds_toArray, List.set_cons_zero, List.set_cons_succ]; rfl)
          refine L_take (hR := (Pre.grown none)) (L := 11) (i := 4) (N := (some 83)) (v := ?vy5_4) (a' := ?ay5_4) #[true, true, true, true, true, false, false, false, false, false, false, false] rfl rfl (y := 4) (r := []) (by kernel_rfl) (by kernel_rfl) (fun _ _ _ h => h) (by rfl) ?hyy5_4 ?hay5_4 ?_
          case hyy5_4 =>
            intro w' hx
            have hc0 := C1.out w' (G.out.trans hx)
            go_simp
            with_reducible rfl
          case hay5_4 => (simp only [Act.put, List.setIfInBounds_toArray, List.set_cons_zero, List.set_cons_succ]; rfl)
          refine L_take (hR := (Pre.grown none)) (L := 11) (i := 5) (N := (some 84)) (v := ?vy5_5) (a' := ?ay5_5) #[true, true, true, true, true, true, false, false, false, false, false, false] rfl rfl (y := 5) (r := []) (by kernel_rfl) (by kernel_rfl) (fun _ _ _ h => h) (by rfl) ?hyy5_5 ?hay5_5 ?_
          case hyy5_5 =>
            intro w' hx
            go_simp
            with_reducible rfl
          case hay5_5 => (simp only [Act.put, List.setIfInBounds_toArray, List.set_cons_zero, List.set_cons_succ]; rfl)
          refine L_take (hR := (Pre.grown none)) (L := 11) (i := 6) (N := (some 85)) (v := ?vy5_6) (a' := ?ay5_6) #[true, true, true, true, true, true, true, false, false, false, false, false] rfl rfl (y := 6) (r := []) (by kernel_rfl) (by kernel_rfl) (fun _ _ _ h => h) (by rfl) ?hyy5_6 ?hay5_6 ?_
          case hyy5_6 =>
            intro w' hx
            go_simp
            with_reducible rfl
          case hay5_6 => (simp only [Act.put, List.setIfInBounds_toArray, List.set_cons_zero, List.set_cons_succ]; rfl)
          refine L_take (hR := (Pre.grown none)) (L := 11) (i := 7) (N := (some 86)) (v := ?vy5_7) (a' := ?ay5_7) #[true, true, true, true, true, true, true, true, false, false, false, false] rfl rfl (y := 7) (r := []) (by kernel_rfl) (by kernel_rfl) (fun _ _ _ h => h) (by rfl) ?hyy5_7 ?hay5_7 ?_
          case hyy5_7 =>
            intro w' hx
            have hc0 := C2.out w' (G.out.trans hx)
            go_simp
            with_reducible rfl
          case hay5_7 => (simp only [Act.put, List.setIfInBounds_toArray, List.set_cons_zero, List.set_cons_succ]; rfl)
          refine L_take (hR := (Pre.grown none)) (L := 11) (i := 8) (N := (some 87)) (v := ?vy5_8) (a' := ?ay5_8) #[true, true, true, true, true, true, true, true, true, false, false, false] rfl rfl (y := 8) (r := []) (by kernel_rfl) (by kernel_rfl) (fun _ _ _ h => h) (by rfl) ?hyy5_8 ?hay5_8 ?_
          case hyy5_8 =>
            intro w' hx
            go_simp
            with_reducible rfl
          case hay5_8 => (simp only [Act.put, List.setIfInBounds_toArray, List.set_cons_zero, List.set_cons_succ]; rfl)
          refine L_take (hR := (Pre.grown none)) (L := 11) (i := 9) (N := (some 88)) (v := ?vy5_9) (a' := ?ay5_9) #[true, true, true, true, true, true, true, true, true, true, false, false] rfl rfl (y := 10) (r := [9]) (by kernel_rfl) (by kernel_rfl) (fun _ _ _ h => h) (by rfl) ?hyy5_9 ?hay5_9 ?_
          case hyy5_9 =>
            intro w' hx
            go_simp
            with_reducible rfl
          case hay5_9 => (simp only [Act.put, List.setIfInBounds_toArray, List.set_cons_zero, List.set_cons_succ]; rfl)
          refine L_take (hR := (Pre.grown none)) (L := 11) (i := 10) (N := (some 89)) (v := ?vy5_10) (a' := ?ay5_10) #[true, true, true, true, true, true, true, true, true, true, true, false] rfl rfl (y := 10) (r := []) (by kernel_rfl) (by kernel_rfl) (fun _ _ _ h => h) (by rfl) ?hyy5_10 ?hay5_10 ?_
          case hyy5_10 =>
            intro w' hx
            go_simp
            with_reducible rfl
          case hay5_10 => (simp only [Act.put, List.setIfInBounds_toArray, List.set_cons_zero, List.set_cons_succ]; rfl)
          have hfr := (BVj.out.grown G.out (by simp)).frozen j
          have hc0 := C1.out w_y5 G.out
          have EV := Lib.hid (addWw VJ XJ)
          have H2 := Lib.hid ((BVj.out.grown G.out (by simp)).set j (wV (VJ + XJ)))
          have H2x := Lib.hid ((BXj.out.grown G.out (by simp)).setOther (p := ⟨bv, j, none⟩) (by simp; omega) (wV (VJ + XJ)))
          have H3 := Lib.hid ((GJ.out.trans (grown_row G.out (some bv))).trans (show w_y5.grownBy (w_y5.setCell ⟨bv, j, none⟩ (wV (VJ + XJ))) (some bv) from grownBy_setCells bv [wV (VJ + XJ)] j w_y5))
          refine L_stor (i := 11) (w1 := w_y5.setCell ⟨bv, j, none⟩ (wV (VJ + XJ))) #[true, true, true, true, true, true, true, true, true, true, true, true] rfl rfl (by kernel_rfl) (by rfl) ?hrst (.inl rfl) ?_
          case hrst => (unfold wV; rw [← EV.out]; go_simp)
          refine L_done (by kernel_rfl) ?_
          obtain ⟨w9, hw9⟩ : ∃ w9, w_y5.setCell ⟨bv, j, none⟩ (wV (VJ + XJ)) = w9 := ⟨_, rfl⟩
          rw [hw9] at H2 H2x H3 ⊢
          clear hw9 EV hc0 hfr G C1 C2
          go_wp2
          go_roundw
          case rel => exact ⟨j + 1, by simp, by omega, Lib.hid (by rw [HVS2.out, List.map_set]; exact H2.out), H2x, H3⟩
          case measure => simp [intOf]; omega
        · have hj8 : ¬ ((j : Int) < 8) := by omega
          have hje : j = 8 := by omega
          have HE2 := Lib.hid (show oneF v p = vs v x j by rw [HE.out, hje])
          clear hje
          go_wp2
          go_end0
          exact ⟨⟨_, rfl⟩, by rw [HE2.out]; exact BVj.out, (show w.grownBy w1 (some bv) from ⟨HB1.out.os, HB1.out.tape, HB1.out.output, HB1.out.size, fun k hk _ => HB1.out.block k hk⟩).trans GJ.out⟩
end Go.Proofs.YtfmfpckpldlahaaDoor
