/- AES: the reference's Encrypt. -/
import Derived.Test.YtaacnbponodagaaAesH
import Derived.Test.YtaacnbponodagaaAesI
import Derived.Test.YtaacnbponodagaaEqF
import Derived.Test.YtaacnbponodagaaAgg
namespace Go.Proofs.Ytaacnbponodagaa
open Go.RowKit

/-- A round's key, xored, octet by octet. -/
def fX (K b : List UInt8) (r j : Nat) : UInt8 := b.getD j 0 ^^^ K.getD (16 * r + j) 0
theorem fX_end {K b : List UInt8} (hK : K.length = 240) (hb : b.length = 16) {r : Nat} (hr : r ≤ 14) (o : List UInt8) : ov (fX K b r) o 16 = addF b (rk K r) := by
  rw [ov_end, ← add_range hb (rk_len hK hr)]
  apply List.map_congr_left
  intro j hj
  unfold fX
  rw [rk_getD (List.mem_range.1 hj)]
theorem mapGetI {xs : List UInt8} {i : Nat} (h : i < xs.length) : (xs.map iV)[i]? = some (.int .i64 ((xs.getD i 0).toNat : Int)) := mapGet 0 h
theorem one_iV (xs : List UInt8) : ∀ u ∈ xs.map iV, u.oneCell' = true := by
  intro u hu
  obtain ⟨x, _, rfl⟩ := List.mem_map.1 hu
  rfl
theorem zero_iV : (List.replicate 16 (0 : UInt8)).map iV = List.replicate 16 (.int .i64 0) := rfl
theorem St.rdpKm {w0 w w' : World} {H : List Ent} {N : Nat} {A : Option Addr} {xs : List Value} {b : Nat} (hS : St (Kp w0) w0 w H) (hb : w0.heap.size ≤ b) (hk : KeepS (SN N [b]) w w') (hN : w0.heap.size ≤ N) (hr : Rd w0 A xs) : Rd w' A xs :=
  Rd.keep hr ⟨hk.os.trans hS.os, hk.tape.trans hS.tape, hk.output.trans hS.output, Nat.le_trans hS.size hk.size, fun k h => (hk.block k ⟨Nat.lt_of_lt_of_le h hN, by simp; omega⟩).trans (hS.keep k h)⟩
theorem St.geOld {w0 w : World} {H : List Ent} {f : Ent → List Ent} {b : Nat} {e : TypeId} {L : List Value} (h : St (Kp w0) w0 w H) (hat : At H (.blk b e L) f) : w0.heap.size ≤ b := Nat.le_of_not_lt fun hl => h.off _ hat.mem _ rfl hl

theorem wr_add {k j : Nat} (hk : k < 4) (hj : j < 4) : IntKind.i64.wrap ((k : Int) + ((j : Nat) : Int)) = (k : Int) + ((j : Nat) : Int) := by rw [IntKind.wrap_i64]; omega
theorem tm_4 {k j u : Nat} (h : (k + j) % 4 = u) : ((k : Int) + ((j : Nat) : Int)).tmod 4 = (u : Int) := by rw [Int.tmod_eq_emod_of_nonneg (by omega)]; omega
theorem wr_q {c k q : Nat} (h : 4 * c + k = q) (hq : q < 16) : IntKind.i64.wrap (4 * (c : Int) + (k : Int)) = (q : Int) := by rw [IntKind.wrap_i64]; omega
theorem lt_16 {c k : Nat} (hc : c < 4) (hk : k < 4) : 4 * c + k < 16 := by omega
theorem r2_any (a : UInt8) (w : World) : Calls Try.prog 20 #[.int .i64 2, .int .i64 (a.toNat : Int)] w fun e w' => e = .returned (.int .i64 ((gm 2 a).toNat : Int)) ∧ Below w.heap.size w w' := rtimes_any 2 (by decide) a w
theorem r3_any (a : UInt8) (w : World) : Calls Try.prog 20 #[.int .i64 3, .int .i64 (a.toNat : Int)] w fun e w' => e = .returned (.int .i64 ((gm 3 a).toNat : Int)) ∧ Below w.heap.size w w' := rtimes_any 3 (by decide) a w

set_option maxRecDepth 8000 in
set_option maxHeartbeats 6400000 in
theorem refEnc_any (A : Option Addr) (c : Nat) (K b : List UInt8) (w : World) (hK : K.length = 240) (hr : Rd w A (K.map iV)) (hb : b.length = 16) :
    Calls Try.prog 10 #[.slice A 240 c, .agg (b.map bV).toArray] w fun e w' => e = .returned (.agg ((encF K b).map bV).toArray) ∧ Below w.heap.size w w' := by
  have hS := St.start w
  have HK := Lib.hid hK
  have HR := Lib.hid hr
  have HB := Lib.hid hb
  have hkl := Lib.hid (show (K.map iV).length = 240 by rw [List.length_map]; exact hK)
  have HER := Lib.hid (show ∀ r, r ≤ 14 → (encR K b r).length = 16 from fun r h => encR_len hK hb r h)
  have h0 := Lib.hid (show (ov (fX K b 0) (List.replicate 16 0) 0).map iV = (List.replicate 16 (0 : UInt8)).map iV by rw [ov_zero _ (by simp)])
  have h1 := Lib.hid (show ov (fX K b 0) (List.replicate 16 0) 16 = encR K b 0 from fX_end hK hb (by decide) _)
  clear hK hr hb
  go_enter Try.func10, Try.ntmps10
  go_wp2_with (first | ((with_reducible show wpList _ _ _ (⟨some 3, Op.box _ _, _, _, _, _⟩ :: _) _ _); go_loud (apply S_box hS; rfl; rfl; (focus ((conv => lhs; whnf) <;> rfl)); rfl; clear hS; intro b3 w_ hS)) | ((with_reducible show wpList _ _ _ (⟨some 4, Op.alloc _, _, _, _, _⟩ :: _) _ _); go_loud (refine S_alloc (z := .agg ([.int .u8 0, .int .u8 0, .int .u8 0, .int .u8 0, .int .u8 0, .int .u8 0, .int .u8 0, .int .u8 0, .int .u8 0, .int .u8 0, .int .u8 0, .int .u8 0, .int .u8 0, .int .u8 0, .int .u8 0, .int .u8 0] : List Value).toArray) (L := [.int .u8 0, .int .u8 0, .int .u8 0, .int .u8 0, .int .u8 0, .int .u8 0, .int .u8 0, .int .u8 0, .int .u8 0, .int .u8 0, .int .u8 0, .int .u8 0, .int .u8 0, .int .u8 0, .int .u8 0, .int .u8 0]) hS rfl rfl ?_ ?_ ?_; (show _ = _; kernel_rfl); (show _ = _; kernel_rfl); clear hS; intro b4 w_ hS)) | ((with_reducible show wpList _ _ _ (⟨some 5, Op.alloc _, _, _, _, _⟩ :: _) _ _); go_loud (refine S_alloc (z := .agg ([.int .i64 0, .int .i64 0, .int .i64 0, .int .i64 0, .int .i64 0, .int .i64 0, .int .i64 0, .int .i64 0, .int .i64 0, .int .i64 0, .int .i64 0, .int .i64 0, .int .i64 0, .int .i64 0, .int .i64 0, .int .i64 0] : List Value).toArray) (L := [.int .i64 0, .int .i64 0, .int .i64 0, .int .i64 0, .int .i64 0, .int .i64 0, .int .i64 0, .int .i64 0, .int .i64 0, .int .i64 0, .int .i64 0, .int .i64 0, .int .i64 0, .int .i64 0, .int .i64 0, .int .i64 0]) hS rfl rfl ?_ ?_ ?_; (show _ = _; kernel_rfl); (show _ = _; kernel_rfl); clear hS; intro b5 w_ hS)))
  change St _ _ _ [.blk b5 _ ((List.replicate 16 (0 : UInt8)).map iV), .blk b4 _ (List.replicate 16 (.int .u8 0)), _] at hS
  rw [← h0.out] at hS
  go_loopw [6] (fun i wr => ∃ k : Nat, i = .int .i64 (k : Int) ∧ k ≤ 16 ∧ St (Kp w) w wr [.blk b5 49 ((ov (fX K b 0) (List.replicate 16 0) k).map iV), .blk b4 28 (List.replicate 16 (.int .u8 0)), .blk b3 28 (b.map bV)]) (fun i _ => 16 - (intOf i).toNat)
  case atStart => exact ⟨0, rfl, by omega, hS⟩
  case round =>
    clear hS h0
    obtain ⟨k, rfl, hk, hS⟩ := hrel
    by_cases hlt : k < 16
    · have v1 : (b.map bV)[k]? = some (.int .u8 ((b.getD k 0).toNat : Int)) := mapGetB (by rw [HB.out]; exact hlt)
      have v2 : (K.map iV)[k]? = some (.int .i64 ((K.getD k 0).toNat : Int)) := mapGetI (by rw [HK.out]; omega)
      have V2 := Lib.hid v2
      clear v2
      have hst := Lib.hid (ov_set (fX K b 0) (List.replicate 16 0) hlt)
      have hxv := Lib.hid (show fX K b 0 k = b.getD k 0 ^^^ K.getD k 0 by unfold fX; rw [Nat.mul_zero, Nat.zero_add])
      have hkl5 : k < ((ov (fX K b 0) (List.replicate 16 0) k).map iV).length := by rw [List.length_map, ov_len]; exact hlt
      have n3 : ¬ b3 = b5 := fun e => (hS.dist 0 2 (by decide) rfl rfl rfl rfl) e.symm
      rw [hxv.out] at hst
      generalize b.getD k 0 = x at *
      generalize K.getD k 0 = y at *
      have hxy := xor64 x y
      have hx256 : (x.toNat : Int) < 256 := by have := x.toNat_lt; omega
      have hw : IntKind.i64.wrap (x.toNat : Int) = (x.toNat : Int) := by rw [IntKind.wrap_i64]; omega
      go_wp2
      have hg5 := Lib.hid (hS.geOld (b := b5) (by focus ((repeat (first | exact .here | apply At.there)); done)))
      obtain ⟨N_, hN_⟩ := hS.sz
      have h0N_ := hS.size
      rw [hN_] at h0N_
      refine E_start (hR := KeepS.pre (SN N_ [b5])) #[false, false, false, false, false, false, false, false, false, false, false, false] (by kernel_rfl) rfl rfl (fun w_r1 hx_r1 he_r1 => ?_)
      have hzE_ : w_r1.heap.size = N_ := by rw [he_r1]; exact hN_
      have hz : N_ ≤ w_r1.heap.size := Nat.le_of_eq hzE_.symm
      replace hS := hS.drew; rw [← he_r1] at hS
      clear hx_r1 he_r1
      have hsn_b3 : SN N_ [b5] b3 := ⟨by rw [← hzE_]; first | exact Ent.lt (hS.get (x := Ent.blk b3 _ _) (by focus ((repeat (first | exact .here | apply At.there)); done))) rfl | exact Ent.lt (hS.get (x := Ent.own _ _ (.slice (some ⟨b3, 0, none⟩) _ _) _ _) (by focus ((repeat (first | exact .here | apply At.there)); done))) rfl, by first | (focus (simp; done)) | (focus (simp; omega)) | (focus (simp; assumption))⟩
      clear hzE_ hN_
      refine E_take (hR := KeepS.pre (SN N_ [b5])) (i := 0) (N := (some 19)) (v := ?vr1_0) (a' := ?ar1_0) #[true, false, false, false, false, false, false, false, false, false, false, false] rfl rfl (by kernel_rfl) (fun _ _ _ h => h) (by rfl) ?hyr1_0 ?har1_0 ?_
      case hyr1_0 =>
        intro w' hx
        go_simp
        with_reducible rfl
      case har1_0 => (simp only [Act.put, List.setIfInBounds_toArray, List.set_cons_zero, List.set_cons_succ]; rfl)
      refine E_take (hR := KeepS.pre (SN N_ [b5])) (i := 1) (N := (some 20)) (v := ?vr1_1) (a' := ?ar1_1) #[true, true, false, false, false, false, false, false, false, false, false, false] rfl rfl (by kernel_rfl) (fun _ _ _ h => h) (by rfl) ?hyr1_1 ?har1_1 ?_
      case hyr1_1 =>
        intro w' hx
        go_simp
        with_reducible rfl
      case har1_1 => (simp only [Act.put, List.setIfInBounds_toArray, List.set_cons_zero, List.set_cons_succ]; rfl)
      refine E_take (hR := KeepS.pre (SN N_ [b5])) (i := 2) (N := (some 21)) (v := ?vr1_2) (a' := ?ar1_2) #[true, true, true, false, false, false, false, false, false, false, false, false] rfl rfl (by kernel_rfl) (fun _ _ _ h => h) (by rfl) ?hyr1_2 ?har1_2 ?_
      case hyr1_2 =>
        intro w' hx
        go_simp
        with_reducible rfl
      case har1_2 => (simp only [Act.put, List.setIfInBounds_toArray, List.set_cons_zero, List.set_cons_succ]; rfl)
      refine E_take (hR := KeepS.pre (SN N_ [b5])) (i := 3) (N := (some 22)) (v := ?vr1_3) (a' := ?ar1_3) #[true, true, true, true, false, false, false, false, false, false, false, false] rfl rfl (by kernel_rfl) (fun _ _ _ h => h) (by rfl) ?hyr1_3 ?har1_3 ?_
      case hyr1_3 =>
        intro w' hx
        (first | (apply Eq.trans; (first | (apply R_ldK hS hx; rfl; rfl; (focus ((repeat (first | exact .here | apply At.there)); done)); assumption; rfl; (first | assumption | rfl | exact mapGetB (by first | assumption | omega) | exact mapGet _ (by first | assumption | omega))) | (apply R_ldOwnK hS hx; rfl; rfl; (focus ((repeat (first | exact .here | apply At.there)); done)); assumption; rfl; (first | rfl | exact mapGetB (by first | assumption | omega) | exact mapGet _ (by first | assumption | omega)))); with_reducible rfl) | (go_simp; with_reducible rfl))
      case har1_3 => (simp only [Act.put, List.setIfInBounds_toArray, List.set_cons_zero, List.set_cons_succ]; rfl)
      refine E_take (hR := KeepS.pre (SN N_ [b5])) (i := 4) (N := (some 23)) (v := ?vr1_4) (a' := ?ar1_4) #[true, true, true, true, true, false, false, false, false, false, false, false] rfl rfl (by kernel_rfl) (fun _ _ _ h => h) (by rfl) ?hyr1_4 ?har1_4 ?_
      case hyr1_4 =>
        intro w' hx
        go_simp
        with_reducible rfl
      case har1_4 => (simp only [Act.put, List.setIfInBounds_toArray, List.set_cons_zero, List.set_cons_succ]; rfl)
      refine E_take (hR := KeepS.pre (SN N_ [b5])) (i := 5) (N := (some 24)) (v := ?vr1_5) (a' := ?ar1_5) #[true, true, true, true, true, true, false, false, false, false, false, false] rfl rfl (by kernel_rfl) (fun _ _ _ h => h) (by rfl) ?hyr1_5 ?har1_5 ?_
      case hyr1_5 =>
        intro w' hx
        go_simp
        with_reducible rfl
      case har1_5 => (simp only [Act.put, List.setIfInBounds_toArray, List.set_cons_zero, List.set_cons_succ]; rfl)
      refine E_take (hR := KeepS.pre (SN N_ [b5])) (i := 6) (N := (some 25)) (v := ?vr1_6) (a' := ?ar1_6) #[true, true, true, true, true, true, true, false, false, false, false, false] rfl rfl (by kernel_rfl) (fun _ _ _ h => h) (by rfl) ?hyr1_6 ?har1_6 ?_
      case hyr1_6 =>
        intro w' hx
        go_simp
        with_reducible rfl
      case har1_6 => (simp only [Act.put, List.setIfInBounds_toArray, List.set_cons_zero, List.set_cons_succ]; rfl)
      refine E_take (hR := KeepS.pre (SN N_ [b5])) (i := 7) (N := (some 26)) (v := ?vr1_7) (a' := ?ar1_7) #[true, true, true, true, true, true, true, true, false, false, false, false] rfl rfl (by kernel_rfl) (fun _ _ _ h => h) (by rfl) ?hyr1_7 ?har1_7 ?_
      case hyr1_7 =>
        intro w' hx
        (apply Eq.trans; (apply run_idxRd HR.out hkl.out; rfl; rfl; rfl; (first | rfl | (fail)); (first | assumption | omega); rfl; rfl); with_reducible rfl)
      case har1_7 => (simp only [Act.put, List.setIfInBounds_toArray, List.set_cons_zero, List.set_cons_succ]; rfl)
      refine E_take (hR := KeepS.pre (SN N_ [b5])) (i := 8) (N := (some 27)) (v := ?vr1_8) (a' := ?ar1_8) #[true, true, true, true, true, true, true, true, true, false, false, false] rfl rfl (by kernel_rfl) (fun _ _ _ h => h) (by rfl) ?hyr1_8 ?har1_8 ?_
      case hyr1_8 =>
        intro w' hx
        (apply Eq.trans; (apply R_ldRd (hS.rdpKm hg5.out hx h0N_ HR.out); rfl; rfl; rfl; (first | exact V2.out | exact mapGetB (by first | assumption | omega) | exact mapGet _ (by first | assumption | omega))); with_reducible rfl)
      case har1_8 => (simp only [Act.put, List.setIfInBounds_toArray, List.set_cons_zero, List.set_cons_succ]; rfl)
      refine E_take (hR := KeepS.pre (SN N_ [b5])) (i := 9) (N := (some 28)) (v := ?vr1_9) (a' := ?ar1_9) #[true, true, true, true, true, true, true, true, true, true, false, false] rfl rfl (by kernel_rfl) (fun _ _ _ h => h) (by rfl) ?hyr1_9 ?har1_9 ?_
      case hyr1_9 =>
        intro w' hx
        go_simp
        with_reducible rfl
      case har1_9 => (simp only [Act.put, List.setIfInBounds_toArray, List.set_cons_zero, List.set_cons_succ]; rfl)
      refine E_take (hR := KeepS.pre (SN N_ [b5])) (i := 10) (N := (some 29)) (v := ?vr1_10) (a' := ?ar1_10) #[true, true, true, true, true, true, true, true, true, true, true, false] rfl rfl (by kernel_rfl) (fun _ _ _ h => h) (by rfl) ?hyr1_10 ?har1_10 ?_
      case hyr1_10 =>
        intro w' hx
        go_simp
        with_reducible rfl
      case har1_10 => (simp only [Act.put, List.setIfInBounds_toArray, List.set_cons_zero, List.set_cons_succ]; rfl)
      refine E_split [11] (by kernel_rfl) (by simp) (fun i_ hi_ => ?_)
      simp only [List.mem_cons, List.not_mem_nil, or_false] at hi_
      rcases hi_ with rfl
      (apply K_st (i := 11) hS hz #[true, true, true, true, true, true, true, true, true, true, true, true]; rfl; rfl; (show _ = _; kernel_rfl); rfl; rfl; rfl; (focus ((conv => lhs; whnf) <;> rfl)); (focus ((repeat (first | exact .here | apply At.there)); done)); (first | assumption | (refine Or.inl ?_; assumption) | (refine Or.inr ?_; focus (simp; done))); rfl; rfl; (first | decide | assumption | (simp only [List.length_map, List.length_set]; omega)))
      clear hS hz
      intro w_ hS hz
      try simp only [List.set_cons_zero, List.set_cons_succ] at hS
      refine E_done (by kernel_rfl) ?_
      change St _ _ _ [.blk b5 _ (((ov (fX K b 0) (List.replicate 16 0) k).map iV).set k (iV (x ^^^ y))), _, _] at hS
      rw [← List.map_set, hst.out] at hS
      go_wp2
      go_roundw
      case rel => exact ⟨k + 1, by go_num, by omega, hS⟩
      case measure => simp [intOf]; omega
    · have hk16 : k = 16 := by omega
      rw [hk16, h1.out] at hS
      clear h1 hk16
      go_wp2
      go_loopw [7] (fun i wr => ∃ r : Nat, i = .int .i64 ((r : Int) + 1) ∧ r ≤ 14 ∧ St (Kp w) w wr [.blk b5 49 ((encR K b r).map iV), .blk b4 28 (List.replicate 16 (.int .u8 0)), .blk b3 28 (b.map bV)]) (fun i _ => 20 - (intOf i).toNat)
      case atStart => exact ⟨0, rfl, by omega, hS⟩
      case round =>
        clear hS
        obtain ⟨r, rfl, hr, hS⟩ := hrel
        by_cases hr14 : r < 14
        · have hlx := Lib.hid (HER.out r hr)
          have hlk := Lib.hid (rk_len HK.out (show r + 1 ≤ 14 by omega))
          have hE := Lib.hid (show encR K b (r + 1) = addF (mxE (r + 1) (rowsE (encR K b r))) (rk K (r + 1)) from rfl)
          have hix := Lib.hid (fun i (hi : i < 16) => row_idx (x := encR K b r) hi)
          generalize encR K b r = x at *
          have c1 : (r : Int) + 1 ≤ 14 := by omega
          have h0 := Lib.hid (show (ov (rowE x) (List.replicate 16 0) 0).map iV = (List.replicate 16 (0 : UInt8)).map iV by rw [ov_zero _ (by simp)])
          have h1 := Lib.hid (show ov (rowE x) (List.replicate 16 0) 16 = rowsE x from ov_end _ _)
          go_wp2_with (first | ((with_reducible show wpList _ _ _ (⟨some 8, Op.alloc _, _, _, _, _⟩ :: _) _ _); go_loud (refine S_alloc (z := .agg ([.int .i64 0, .int .i64 0, .int .i64 0, .int .i64 0, .int .i64 0, .int .i64 0, .int .i64 0, .int .i64 0, .int .i64 0, .int .i64 0, .int .i64 0, .int .i64 0, .int .i64 0, .int .i64 0, .int .i64 0, .int .i64 0] : List Value).toArray) (L := [.int .i64 0, .int .i64 0, .int .i64 0, .int .i64 0, .int .i64 0, .int .i64 0, .int .i64 0, .int .i64 0, .int .i64 0, .int .i64 0, .int .i64 0, .int .i64 0, .int .i64 0, .int .i64 0, .int .i64 0, .int .i64 0]) hS rfl rfl ?_ ?_ ?_; (show _ = _; kernel_rfl); (show _ = _; kernel_rfl); clear hS; intro b8 w_ hS)))
          change St _ _ _ [.blk b8 _ ((List.replicate 16 (0 : UInt8)).map iV), _, _, _] at hS
          rw [← h0.out] at hS
          go_loopw [9] (fun i wr => ∃ k : Nat, i = .int .i64 (k : Int) ∧ k ≤ 16 ∧ St (Kp w) w wr [.blk b8 49 ((ov (rowE x) (List.replicate 16 0) k).map iV), .blk b5 49 (x.map iV), .blk b4 28 (List.replicate 16 (.int .u8 0)), .blk b3 28 (b.map bV)]) (fun i _ => 16 - (intOf i).toNat)
          case atStart => exact ⟨0, rfl, by omega, hS⟩
          case round =>
            clear hS h0
            obtain ⟨k, rfl, hk, hS⟩ := hrel
            by_cases hlt : k < 16
            · obtain ⟨q, hq, hqd⟩ : ∃ q, q < 4 ∧ k % 4 = q := ⟨k % 4, by omega, rfl⟩
              obtain ⟨p, hp, hpd⟩ : ∃ p, p < 16 ∧ (k + 4 * q) % 16 = p := ⟨(k + 4 * q) % 16, by omega, rfl⟩
              have f1 : (k : Int) % 4 = (q : Int) := by omega
              have f2 : ((k : Int) + 4 * (q : Int)) % 16 = (p : Int) := by omega
              have hst := Lib.hid (ov_set (rowE x) (List.replicate 16 0) hlt)
              have hxv := Lib.hid (show rowE x k = sb (x.getD p 0) by rw [hix.out k hlt, hqd, hpd])
              rw [hxv.out] at hst
              clear hqd hpd
              have v1 : (x.map iV)[p]? = some (.int .i64 ((x.getD p 0).toNat : Int)) := mapGetI (by rw [hlx.out]; exact hp)
              have hkl8 : k < ((ov (rowE x) (List.replicate 16 0) k).map iV).length := by rw [List.length_map, ov_len]; exact hlt
              have n3 : ¬ b5 = b8 := fun e => (hS.dist 0 1 (by decide) rfl rfl rfl rfl) e.symm
              generalize x.getD p 0 = y at *
              go_wp2_with (first | ((with_reducible show wpList _ _ _ (⟨some 46, Op.load _ _, _, _, _, _⟩ :: _) _ _); go_loud (first | (apply S_ld hS; rfl; rfl; rfl; (focus ((repeat (first | exact .here | apply At.there)); done)); rfl; (first | fail | assumption | rfl | exact mapGetB (by first | assumption | (simp only [List.length_map, List.length_set, List.length_replicate, List.length_append, List.length_cons, List.length_nil]; omega)) | exact mapGet _ (by first | assumption | (simp only [List.length_map, List.length_set, List.length_replicate, List.length_append, List.length_cons, List.length_nil]; omega)))) | (apply S_ldOwn hS; rfl; rfl; rfl; (focus ((repeat (first | exact .here | apply At.there)); done)); rfl; (first | rfl | exact mapGetB (by first | assumption | (simp only [List.length_map, List.length_set, List.length_replicate, List.length_append, List.length_cons, List.length_nil]; omega)) | exact mapGet _ (by first | assumption | (simp only [List.length_map, List.length_set, List.length_replicate, List.length_append, List.length_cons, List.length_nil]; omega)))))) | ((with_reducible show wpList _ _ _ (⟨_, Op.store _ _ _, _, _, _, _⟩ :: _) _ _); go_loud (first | (apply S_st hS; rfl; rfl; rfl; (focus ((conv => lhs; whnf) <;> rfl)); (focus ((repeat (first | exact .here | apply At.there)); done)); rfl; rfl; (first | (assumption) | decide | assumption | (simp only [List.length_map, List.length_set, List.length_replicate, List.length_append, List.length_cons, List.length_nil]; omega)); clear hS; intro w_ hS; (try simp only [List.set_cons_zero, List.set_cons_succ] at hS)) | (apply S_stOwn hS; rfl; rfl; rfl; (focus ((conv => lhs; whnf) <;> rfl)); (focus ((repeat (first | exact .here | apply At.there)); done)); rfl; rfl; (first | decide | assumption | omega); clear hS; intro w_ hS; (try simp only [List.set_cons_zero, List.set_cons_succ] at hS)))) | (go_at_call 19; refine (S_any y _).mono ?_; rintro e w_ ⟨rfl, hb_⟩; replace hS := hS.ext hb_; clear hb_))
              change St _ _ _ [.blk b8 _ (((ov (rowE x) (List.replicate 16 0) k).map iV).set k (iV (sb y))), _, _, _] at hS
              rw [← List.map_set, hst.out] at hS
              go_wp2
              go_roundw
              case rel => exact ⟨k + 1, by go_num, by omega, hS⟩
              case measure => simp [intOf]; omega
            · have hk16 : k = 16 := by omega
              rw [hk16, h1.out] at hS
              clear h1 hix hk16
              have hly := Lib.hid (rowsE_len x)
              generalize rowsE x = y at *
              by_cases h13 : r < 13
              · have c2 : (r : Int) + 1 < 14 := by omega
                have hmx := Lib.hid (show mxE (r + 1) y = mixE y by unfold mxE; rw [if_pos (by omega)])
                have hylen := Lib.hid (show (y.map iV).length = 16 by rw [List.length_map]; exact hly.out)
                have hxlen := Lib.hid (show (x.map iV).length = 16 by rw [List.length_map]; exact hlx.out)
                have hmi := Lib.hid (fun c k (hk : k < 4) => mix_idx (x := y) (c := c) (k := k) hk)
                have h0 := Lib.hid (show y = ov (mixI mE y) y 0 from (ov_zero _ hly.out).symm)
                have h1 := Lib.hid (show ov (mixI mE y) y 16 = mixE y from ov_end _ _)
                have hone := one_iV y
                go_wp2_with (first | ((with_reducible show wpList _ _ _ (⟨some 51, Op.load _ _, _, _, _, _⟩ :: _) _ _); go_loud (apply S_ldAll hS; rfl; rfl; rfl; (focus ((repeat (first | exact .here | apply At.there)); done)); rfl; (first | rfl | (rw [hylen.out]; rfl) | (simp only [List.length_map, List.length_set]; rfl)))) | ((with_reducible show wpList _ _ _ (⟨_, Op.store _ _ _, _, _, _, _⟩ :: _) _ _); go_loud (apply S_stAll hS; rfl; rfl; rfl; rfl; (focus ((repeat (first | exact .here | apply At.there)); done)); (first | assumption | (first | (rw [hylen.out]; rfl) | (rw [hylen.out, hxlen.out])) | (focus (simp [bV, wV, Value.oneCell']; done)) | (focus (simp [bV, Value.oneCell']; done))); (first | rfl | (first | (rw [hylen.out]; rfl) | (rw [hylen.out, hxlen.out]))); (first | rfl | (first | (rw [hylen.out]; rfl) | (rw [hylen.out, hxlen.out]))); clear hS; intro w_ hS)))
                clear hone
                have hS : St (Kp w) w w_ [.blk b8 49 ((ov (mixI mE y) y (4 * 0 + 0)).map iV), .blk b5 49 (y.map iV), .blk b4 28 (List.replicate 16 (.int .u8 0)), .blk b3 28 (b.map bV)] := by rw [Nat.mul_zero, ← h0.out]; exact hS
                go_loopw [10] (fun i wr => ∃ c : Nat, i = .int .i64 (4 * (c : Int)) ∧ c ≤ 4 ∧ St (Kp w) w wr [.blk b8 49 ((ov (mixI mE y) y (4 * c + 0)).map iV), .blk b5 49 (y.map iV), .blk b4 28 (List.replicate 16 (.int .u8 0)), .blk b3 28 (b.map bV)]) (fun i _ => 16 - (intOf i).toNat)
                case atStart => exact ⟨0, by go_num, by omega, hS⟩
                case round =>
                  clear hS h0
                  obtain ⟨c', rfl, hc, hS⟩ := hrel
                  by_cases hlc : c' < 4
                  · have c3 : 4 * (c' : Int) < 16 := by omega
                    go_wp2
                    go_loopw [11] (fun i wr => ∃ k : Nat, i = .int .i64 (k : Int) ∧ k ≤ 4 ∧ St (Kp w) w wr [.blk b8 49 ((ov (mixI mE y) y (4 * c' + k)).map iV), .blk b5 49 (y.map iV), .blk b4 28 (List.replicate 16 (.int .u8 0)), .blk b3 28 (b.map bV)]) (fun i _ => 4 - (intOf i).toNat)
                    case atStart => exact ⟨0, rfl, by omega, hS⟩
                    case round =>
                      clear hS
                      obtain ⟨k, rfl, hk, hS⟩ := hrel
                      by_cases hlt : k < 4
                      · obtain ⟨k1, hk1, e1⟩ : ∃ u, u < 4 ∧ (k + 1) % 4 = u := ⟨_, Nat.mod_lt _ (by decide), rfl⟩
                        obtain ⟨k2, hk2, e2⟩ : ∃ u, u < 4 ∧ (k + 2) % 4 = u := ⟨_, Nat.mod_lt _ (by decide), rfl⟩
                        obtain ⟨k3, hk3, e3⟩ : ∃ u, u < 4 ∧ (k + 3) % 4 = u := ⟨_, Nat.mod_lt _ (by decide), rfl⟩
                        have w1 : IntKind.i64.wrap ((k : Int) + 1) = (k : Int) + 1 := wr_add hlt (by decide)
                        have f1 : ((k : Int) + 1).tmod 4 = (k1 : Int) := tm_4 e1
                        have w2 : IntKind.i64.wrap ((k : Int) + 2) = (k : Int) + 2 := wr_add hlt (by decide)
                        have f2 : ((k : Int) + 2).tmod 4 = (k2 : Int) := tm_4 e2
                        have w3 : IntKind.i64.wrap ((k : Int) + 3) = (k : Int) + 3 := wr_add hlt (by decide)
                        have f3 : ((k : Int) + 3).tmod 4 = (k3 : Int) := tm_4 e3
                        obtain ⟨q0, hq0, d0⟩ : ∃ u, u < 16 ∧ 4 * c' + k = u := ⟨_, lt_16 hlc hlt, rfl⟩
                        obtain ⟨q1, hq1, d1⟩ : ∃ u, u < 16 ∧ 4 * c' + k1 = u := ⟨_, lt_16 hlc hk1, rfl⟩
                        obtain ⟨q2, hq2, d2⟩ : ∃ u, u < 16 ∧ 4 * c' + k2 = u := ⟨_, lt_16 hlc hk2, rfl⟩
                        obtain ⟨q3, hq3, d3⟩ : ∃ u, u < 16 ∧ 4 * c' + k3 = u := ⟨_, lt_16 hlc hk3, rfl⟩
                        have g0 : IntKind.i64.wrap (4 * (c' : Int) + (k : Int)) = (q0 : Int) := wr_q d0 hq0
                        have g1 : IntKind.i64.wrap (4 * (c' : Int) + (k1 : Int)) = (q1 : Int) := wr_q d1 hq1
                        have g2 : IntKind.i64.wrap (4 * (c' : Int) + (k2 : Int)) = (q2 : Int) := wr_q d2 hq2
                        have g3 : IntKind.i64.wrap (4 * (c' : Int) + (k3 : Int)) = (q3 : Int) := wr_q d3 hq3
                        have hfx := Lib.hid (show mixI mE y q0 = gm 2 (y.getD q0 0) ^^^ gm 3 (y.getD q1 0) ^^^ y.getD q2 0 ^^^ y.getD q3 0 by rw [← d0, hmi.out c' k hlt, e1, e2, e3, d0, d1, d2, d3])
                        have hst := Lib.hid (ov_set (mixI mE y) y hq0)
                        rw [hfx.out] at hst
                        rw [d0] at hS
                        have D0 := Lib.hid d0
                        have hk' := Lib.hid hk
                        clear e1 e2 e3 d0 d1 d2 d3 hfx
                        have v0 : (y.map iV)[q0]? = some (.int .i64 ((y.getD q0 0).toNat : Int)) := mapGetI (by rw [hly.out]; exact hq0)
                        have v1 : (y.map iV)[q1]? = some (.int .i64 ((y.getD q1 0).toNat : Int)) := mapGetI (by rw [hly.out]; exact hq1)
                        have v2 : (y.map iV)[q2]? = some (.int .i64 ((y.getD q2 0).toNat : Int)) := mapGetI (by rw [hly.out]; exact hq2)
                        have v3 : (y.map iV)[q3]? = some (.int .i64 ((y.getD q3 0).toNat : Int)) := mapGetI (by rw [hly.out]; exact hq3)
                        have hkl8 : q0 < ((ov (mixI mE y) y q0).map iV).length := by rw [List.length_map, ov_len]; exact hq0
                        have n3 : ¬ b5 = b8 := fun e => (hS.dist 0 1 (by decide) rfl rfl rfl rfl) e.symm
                        generalize y.getD q0 0 = y0 at *
                        generalize y.getD q1 0 = y1 at *
                        generalize y.getD q2 0 = y2 at *
                        generalize y.getD q3 0 = y3 at *
                        obtain ⟨t1, a1, x1⟩ : ∃ u, gm 2 y0 ^^^ gm 3 y1 = u ∧ bits .xor .i64 ((gm 2 y0).toNat : Int) ((gm 3 y1).toNat : Int) = (u.toNat : Int) := ⟨_, rfl, xor64 _ _⟩
                        obtain ⟨t2, a2, x2⟩ : ∃ u, t1 ^^^ y2 = u ∧ bits .xor .i64 (t1.toNat : Int) (y2.toNat : Int) = (u.toNat : Int) := ⟨_, rfl, xor64 _ _⟩
                        obtain ⟨t3, a3, x3⟩ : ∃ u, t2 ^^^ y3 = u ∧ bits .xor .i64 (t2.toNat : Int) (y3.toNat : Int) = (u.toNat : Int) := ⟨_, rfl, xor64 _ _⟩
                        rw [a1, a2, a3] at hst
                        have b0 : (q0 : Int) < 16 := Int.ofNat_lt.2 hq0
                        have b1 : (q1 : Int) < 16 := Int.ofNat_lt.2 hq1
                        have b2 : (q2 : Int) < 16 := Int.ofNat_lt.2 hq2
                        have b3' : (q3 : Int) < 16 := Int.ofNat_lt.2 hq3
                        clear hk1 hk2 hk3 hq1 hq2 hq3
                        as_aux_lemma =>
                          clear a1 a2 a3
                          go_wp2
                          obtain ⟨N_, hN_⟩ := hS.sz
                          have h0N_ := hS.size
                          rw [hN_] at h0N_
                          refine E_start (hR := KeepS.pre (SN N_ [b8])) #[false, false, false, false, false, false, false, false, false, false, false, false, false, false, false, false, false, false, false, false, false, false, false, false, false, false, false, false, false, false, false, false, false, false, false, false] (by kernel_rfl) rfl rfl (fun w_r2 hx_r2 he_r2 => ?_)
                          have hzE_ : w_r2.heap.size = N_ := by rw [he_r2]; exact hN_
                          have hz : N_ ≤ w_r2.heap.size := Nat.le_of_eq hzE_.symm
                          replace hS := hS.drew; rw [← he_r2] at hS
                          clear hx_r2 he_r2
                          have hsn_b5 : SN N_ [b8] b5 := ⟨by rw [← hzE_]; first | exact Ent.lt (hS.get (x := Ent.blk b5 _ _) (by focus ((repeat (first | exact .here | apply At.there)); done))) rfl | exact Ent.lt (hS.get (x := Ent.own _ _ (.slice (some ⟨b5, 0, none⟩) _ _) _ _) (by focus ((repeat (first | exact .here | apply At.there)); done))) rfl, by first | (focus (simp; done)) | (focus (simp; omega)) | (focus (simp; assumption))⟩
                          clear hzE_ hN_
                          refine E_take (hR := KeepS.pre (SN N_ [b8])) (i := 0) (N := (some 60)) (v := ?vr2_0) (a' := ?ar2_0) #[true, false, false, false, false, false, false, false, false, false, false, false, false, false, false, false, false, false, false, false, false, false, false, false, false, false, false, false, false, false, false, false, false, false, false, false] rfl rfl (by kernel_rfl) (fun _ _ _ h => h) (by rfl) ?hyr2_0 ?har2_0 ?_
                          case hyr2_0 =>
                            intro w' hx
                            go_simp
                            with_reducible rfl
                          case har2_0 => (simp only [Act.put, List.setIfInBounds_toArray, List.set_cons_zero, List.set_cons_succ]; rfl)
                          refine E_take (hR := KeepS.pre (SN N_ [b8])) (i := 1) (N := (some 61)) (v := ?vr2_1) (a' := ?ar2_1) #[true, true, false, false, false, false, false, false, false, false, false, false, false, false, false, false, false, false, false, false, false, false, false, false, false, false, false, false, false, false, false, false, false, false, false, false] rfl rfl (by kernel_rfl) (fun _ _ _ h => h) (by rfl) ?hyr2_1 ?har2_1 ?_
                          case hyr2_1 =>
                            intro w' hx
                            go_simp
                            with_reducible rfl
                          case har2_1 => (simp only [Act.put, List.setIfInBounds_toArray, List.set_cons_zero, List.set_cons_succ]; rfl)
                          refine E_take (hR := KeepS.pre (SN N_ [b8])) (i := 2) (N := (some 62)) (v := ?vr2_2) (a' := ?ar2_2) #[true, true, true, false, false, false, false, false, false, false, false, false, false, false, false, false, false, false, false, false, false, false, false, false, false, false, false, false, false, false, false, false, false, false, false, false] rfl rfl (by kernel_rfl) (fun _ _ _ h => h) (by rfl) ?hyr2_2 ?har2_2 ?_
                          case hyr2_2 =>
                            intro w' hx
                            go_simp
                            with_reducible rfl
                          case har2_2 => (simp only [Act.put, List.setIfInBounds_toArray, List.set_cons_zero, List.set_cons_succ]; rfl)
                          refine E_take (hR := KeepS.pre (SN N_ [b8])) (i := 3) (N := (some 63)) (v := ?vr2_3) (a' := ?ar2_3) #[true, true, true, true, false, false, false, false, false, false, false, false, false, false, false, false, false, false, false, false, false, false, false, false, false, false, false, false, false, false, false, false, false, false, false, false] rfl rfl (by kernel_rfl) (fun _ _ _ h => h) (by rfl) ?hyr2_3 ?har2_3 ?_
                          case hyr2_3 =>
                            intro w' hx
                            go_simp
                            with_reducible rfl
                          case har2_3 => (simp only [Act.put, List.setIfInBounds_toArray, List.set_cons_zero, List.set_cons_succ]; rfl)
                          refine E_take (hR := KeepS.pre (SN N_ [b8])) (i := 4) (N := (some 64)) (v := ?vr2_4) (a' := ?ar2_4) #[true, true, true, true, true, false, false, false, false, false, false, false, false, false, false, false, false, false, false, false, false, false, false, false, false, false, false, false, false, false, false, false, false, false, false, false] rfl rfl (by kernel_rfl) (fun _ _ _ h => h) (by rfl) ?hyr2_4 ?har2_4 ?_
                          case hyr2_4 =>
                            intro w' hx
                            go_simp
                            with_reducible rfl
                          case har2_4 => (simp only [Act.put, List.setIfInBounds_toArray, List.set_cons_zero, List.set_cons_succ]; rfl)
                          refine E_take (hR := KeepS.pre (SN N_ [b8])) (i := 5) (N := (some 65)) (v := ?vr2_5) (a' := ?ar2_5) #[true, true, true, true, true, true, false, false, false, false, false, false, false, false, false, false, false, false, false, false, false, false, false, false, false, false, false, false, false, false, false, false, false, false, false, false] rfl rfl (by kernel_rfl) (fun _ _ _ h => h) (by rfl) ?hyr2_5 ?har2_5 ?_
                          case hyr2_5 =>
                            intro w' hx
                            go_simp
                            with_reducible rfl
                          case har2_5 => (simp only [Act.put, List.setIfInBounds_toArray, List.set_cons_zero, List.set_cons_succ]; rfl)
                          refine E_take (hR := KeepS.pre (SN N_ [b8])) (i := 6) (N := (some 66)) (v := ?vr2_6) (a' := ?ar2_6) #[true, true, true, true, true, true, true, false, false, false, false, false, false, false, false, false, false, false, false, false, false, false, false, false, false, false, false, false, false, false, false, false, false, false, false, false] rfl rfl (by kernel_rfl) (fun _ _ _ h => h) (by rfl) ?hyr2_6 ?har2_6 ?_
                          case hyr2_6 =>
                            intro w' hx
                            go_simp
                            with_reducible rfl
                          case har2_6 => (simp only [Act.put, List.setIfInBounds_toArray, List.set_cons_zero, List.set_cons_succ]; rfl)
                          refine E_take (hR := KeepS.pre (SN N_ [b8])) (i := 7) (N := (some 67)) (v := ?vr2_7) (a' := ?ar2_7) #[true, true, true, true, true, true, true, true, false, false, false, false, false, false, false, false, false, false, false, false, false, false, false, false, false, false, false, false, false, false, false, false, false, false, false, false] rfl rfl (by kernel_rfl) (fun _ _ _ h => h) (by rfl) ?hyr2_7 ?har2_7 ?_
                          case hyr2_7 =>
                            intro w' hx
                            (first | (apply Eq.trans; (first | (apply R_ldK hS hx; rfl; rfl; (focus ((repeat (first | exact .here | apply At.there)); done)); assumption; rfl; (first | assumption | rfl | exact mapGetB (by first | assumption | omega) | exact mapGet _ (by first | assumption | omega))) | (apply R_ldOwnK hS hx; rfl; rfl; (focus ((repeat (first | exact .here | apply At.there)); done)); assumption; rfl; (first | rfl | exact mapGetB (by first | assumption | omega) | exact mapGet _ (by first | assumption | omega)))); with_reducible rfl) | (go_simp; with_reducible rfl))
                          case har2_7 => (simp only [Act.put, List.setIfInBounds_toArray, List.set_cons_zero, List.set_cons_succ]; rfl)
                          refine E_take (hR := KeepS.pre (SN N_ [b8])) (i := 9) (N := (some 69)) (v := ?vr2_9) (a' := ?ar2_9) #[true, true, true, true, true, true, true, true, false, true, false, false, false, false, false, false, false, false, false, false, false, false, false, false, false, false, false, false, false, false, false, false, false, false, false, false] rfl rfl (by kernel_rfl) (fun _ _ _ h => h) (by rfl) ?hyr2_9 ?har2_9 ?_
                          case hyr2_9 =>
                            intro w' hx
                            go_simp
                            with_reducible rfl
                          case har2_9 => (simp only [Act.put, List.setIfInBounds_toArray, List.set_cons_zero, List.set_cons_succ]; rfl)
                          refine E_take (hR := KeepS.pre (SN N_ [b8])) (i := 10) (N := (some 70)) (v := ?vr2_10) (a' := ?ar2_10) #[true, true, true, true, true, true, true, true, false, true, true, false, false, false, false, false, false, false, false, false, false, false, false, false, false, false, false, false, false, false, false, false, false, false, false, false] rfl rfl (by kernel_rfl) (fun _ _ _ h => h) (by rfl) ?hyr2_10 ?har2_10 ?_
                          case hyr2_10 =>
                            intro w' hx
                            go_simp
                            with_reducible rfl
                          case har2_10 => (simp only [Act.put, List.setIfInBounds_toArray, List.set_cons_zero, List.set_cons_succ]; rfl)
                          refine E_take (hR := KeepS.pre (SN N_ [b8])) (i := 11) (N := (some 71)) (v := ?vr2_11) (a' := ?ar2_11) #[true, true, true, true, true, true, true, true, false, true, true, true, false, false, false, false, false, false, false, false, false, false, false, false, false, false, false, false, false, false, false, false, false, false, false, false] rfl rfl (by kernel_rfl) (fun _ _ _ h => h) (by rfl) ?hyr2_11 ?har2_11 ?_
                          case hyr2_11 =>
                            intro w' hx
                            go_simp
                            with_reducible rfl
                          case har2_11 => (simp only [Act.put, List.setIfInBounds_toArray, List.set_cons_zero, List.set_cons_succ]; rfl)
                          refine E_take (hR := KeepS.pre (SN N_ [b8])) (i := 12) (N := (some 72)) (v := ?vr2_12) (a' := ?ar2_12) #[true, true, true, true, true, true, true, true, false, true, true, true, true, false, false, false, false, false, false, false, false, false, false, false, false, false, false, false, false, false, false, false, false, false, false, false] rfl rfl (by kernel_rfl) (fun _ _ _ h => h) (by rfl) ?hyr2_12 ?har2_12 ?_
                          case hyr2_12 =>
                            intro w' hx
                            go_simp
                            with_reducible rfl
                          case har2_12 => (simp only [Act.put, List.setIfInBounds_toArray, List.set_cons_zero, List.set_cons_succ]; rfl)
                          refine E_take (hR := KeepS.pre (SN N_ [b8])) (i := 13) (N := (some 73)) (v := ?vr2_13) (a' := ?ar2_13) #[true, true, true, true, true, true, true, true, false, true, true, true, true, true, false, false, false, false, false, false, false, false, false, false, false, false, false, false, false, false, false, false, false, false, false, false] rfl rfl (by kernel_rfl) (fun _ _ _ h => h) (by rfl) ?hyr2_13 ?har2_13 ?_
                          case hyr2_13 =>
                            intro w' hx
                            go_simp
                            with_reducible rfl
                          case har2_13 => (simp only [Act.put, List.setIfInBounds_toArray, List.set_cons_zero, List.set_cons_succ]; rfl)
                          refine E_take (hR := KeepS.pre (SN N_ [b8])) (i := 14) (N := (some 74)) (v := ?vr2_14) (a' := ?ar2_14) #[true, true, true, true, true, true, true, true, false, true, true, true, true, true, true, false, false, false, false, false, false, false, false, false, false, false, false, false, false, false, false, false, false, false, false, false] rfl rfl (by kernel_rfl) (fun _ _ _ h => h) (by rfl) ?hyr2_14 ?har2_14 ?_
                          case hyr2_14 =>
                            intro w' hx
                            go_simp
                            with_reducible rfl
                          case har2_14 => (simp only [Act.put, List.setIfInBounds_toArray, List.set_cons_zero, List.set_cons_succ]; rfl)
                          refine E_take (hR := KeepS.pre (SN N_ [b8])) (i := 15) (N := (some 75)) (v := ?vr2_15) (a' := ?ar2_15) #[true, true, true, true, true, true, true, true, false, true, true, true, true, true, true, true, false, false, false, false, false, false, false, false, false, false, false, false, false, false, false, false, false, false, false, false] rfl rfl (by kernel_rfl) (fun _ _ _ h => h) (by rfl) ?hyr2_15 ?har2_15 ?_
                          case hyr2_15 =>
                            intro w' hx
                            (first | (apply Eq.trans; (first | (apply R_ldK hS hx; rfl; rfl; (focus ((repeat (first | exact .here | apply At.there)); done)); assumption; rfl; (first | assumption | rfl | exact mapGetB (by first | assumption | omega) | exact mapGet _ (by first | assumption | omega))) | (apply R_ldOwnK hS hx; rfl; rfl; (focus ((repeat (first | exact .here | apply At.there)); done)); assumption; rfl; (first | rfl | exact mapGetB (by first | assumption | omega) | exact mapGet _ (by first | assumption | omega)))); with_reducible rfl) | (go_simp; with_reducible rfl))
                          case har2_15 => (simp only [Act.put, List.setIfInBounds_toArray, List.set_cons_zero, List.set_cons_succ]; rfl)
                          refine E_take (hR := KeepS.pre (SN N_ [b8])) (i := 18) (N := (some 78)) (v := ?vr2_18) (a' := ?ar2_18) #[true, true, true, true, true, true, true, true, false, true, true, true, true, true, true, true, false, false, true, false, false, false, false, false, false, false, false, false, false, false, false, false, false, false, false, false] rfl rfl (by kernel_rfl) (fun _ _ _ h => h) (by rfl) ?hyr2_18 ?har2_18 ?_
                          case hyr2_18 =>
                            intro w' hx
                            go_simp
                            with_reducible rfl
                          case har2_18 => (simp only [Act.put, List.setIfInBounds_toArray, List.set_cons_zero, List.set_cons_succ]; rfl)
                          refine E_take (hR := KeepS.pre (SN N_ [b8])) (i := 19) (N := (some 79)) (v := ?vr2_19) (a' := ?ar2_19) #[true, true, true, true, true, true, true, true, false, true, true, true, true, true, true, true, false, false, true, true, false, false, false, false, false, false, false, false, false, false, false, false, false, false, false, false] rfl rfl (by kernel_rfl) (fun _ _ _ h => h) (by rfl) ?hyr2_19 ?har2_19 ?_
                          case hyr2_19 =>
                            intro w' hx
                            go_simp
                            with_reducible rfl
                          case har2_19 => (simp only [Act.put, List.setIfInBounds_toArray, List.set_cons_zero, List.set_cons_succ]; rfl)
                          refine E_take (hR := KeepS.pre (SN N_ [b8])) (i := 20) (N := (some 80)) (v := ?vr2_20) (a' := ?ar2_20) #[true, true, true, true, true, true, true, true, false, true, true, true, true, true, true, true, false, false, true, true, true, false, false, false, false, false, false, false, false, false, false, false, false, false, false, false] rfl rfl (by kernel_rfl) (fun _ _ _ h => h) (by rfl) ?hyr2_20 ?har2_20 ?_
                          case hyr2_20 =>
                            intro w' hx
                            go_simp
                            with_reducible rfl
                          case har2_20 => (simp only [Act.put, List.setIfInBounds_toArray, List.set_cons_zero, List.set_cons_succ]; rfl)
                          refine E_take (hR := KeepS.pre (SN N_ [b8])) (i := 21) (N := (some 81)) (v := ?vr2_21) (a' := ?ar2_21) #[true, true, true, true, true, true, true, true, false, true, true, true, true, true, true, true, false, false, true, true, true, true, false, false, false, false, false, false, false, false, false, false, false, false, false, false] rfl rfl (by kernel_rfl) (fun _ _ _ h => h) (by rfl) ?hyr2_21 ?har2_21 ?_
                          case hyr2_21 =>
                            intro w' hx
                            go_simp
                            with_reducible rfl
                          case har2_21 => (simp only [Act.put, List.setIfInBounds_toArray, List.set_cons_zero, List.set_cons_succ]; rfl)
                          refine E_take (hR := KeepS.pre (SN N_ [b8])) (i := 22) (N := (some 82)) (v := ?vr2_22) (a' := ?ar2_22) #[true, true, true, true, true, true, true, true, false, true, true, true, true, true, true, true, false, false, true, true, true, true, true, false, false, false, false, false, false, false, false, false, false, false, false, false] rfl rfl (by kernel_rfl) (fun _ _ _ h => h) (by rfl) ?hyr2_22 ?har2_22 ?_
                          case hyr2_22 =>
                            intro w' hx
                            go_simp
                            with_reducible rfl
                          case har2_22 => (simp only [Act.put, List.setIfInBounds_toArray, List.set_cons_zero, List.set_cons_succ]; rfl)
                          refine E_take (hR := KeepS.pre (SN N_ [b8])) (i := 23) (N := (some 83)) (v := ?vr2_23) (a' := ?ar2_23) #[true, true, true, true, true, true, true, true, false, true, true, true, true, true, true, true, false, false, true, true, true, true, true, true, false, false, false, false, false, false, false, false, false, false, false, false] rfl rfl (by kernel_rfl) (fun _ _ _ h => h) (by rfl) ?hyr2_23 ?har2_23 ?_
                          case hyr2_23 =>
                            intro w' hx
                            go_simp
                            with_reducible rfl
                          case har2_23 => (simp only [Act.put, List.setIfInBounds_toArray, List.set_cons_zero, List.set_cons_succ]; rfl)
                          refine E_take (hR := KeepS.pre (SN N_ [b8])) (i := 24) (N := (some 84)) (v := ?vr2_24) (a' := ?ar2_24) #[true, true, true, true, true, true, true, true, false, true, true, true, true, true, true, true, false, false, true, true, true, true, true, true, true, false, false, false, false, false, false, false, false, false, false, false] rfl rfl (by kernel_rfl) (fun _ _ _ h => h) (by rfl) ?hyr2_24 ?har2_24 ?_
                          case hyr2_24 =>
                            intro w' hx
                            (first | (apply Eq.trans; (first | (apply R_ldK hS hx; rfl; rfl; (focus ((repeat (first | exact .here | apply At.there)); done)); assumption; rfl; (first | assumption | rfl | exact mapGetB (by first | assumption | omega) | exact mapGet _ (by first | assumption | omega))) | (apply R_ldOwnK hS hx; rfl; rfl; (focus ((repeat (first | exact .here | apply At.there)); done)); assumption; rfl; (first | rfl | exact mapGetB (by first | assumption | omega) | exact mapGet _ (by first | assumption | omega)))); with_reducible rfl) | (go_simp; with_reducible rfl))
                          case har2_24 => (simp only [Act.put, List.setIfInBounds_toArray, List.set_cons_zero, List.set_cons_succ]; rfl)
                          refine E_take (hR := KeepS.pre (SN N_ [b8])) (i := 26) (N := (some 86)) (v := ?vr2_26) (a' := ?ar2_26) #[true, true, true, true, true, true, true, true, false, true, true, true, true, true, true, true, false, false, true, true, true, true, true, true, true, false, true, false, false, false, false, false, false, false, false, false] rfl rfl (by kernel_rfl) (fun _ _ _ h => h) (by rfl) ?hyr2_26 ?har2_26 ?_
                          case hyr2_26 =>
                            intro w' hx
                            go_simp
                            with_reducible rfl
                          case har2_26 => (simp only [Act.put, List.setIfInBounds_toArray, List.set_cons_zero, List.set_cons_succ]; rfl)
                          refine E_take (hR := KeepS.pre (SN N_ [b8])) (i := 27) (N := (some 87)) (v := ?vr2_27) (a' := ?ar2_27) #[true, true, true, true, true, true, true, true, false, true, true, true, true, true, true, true, false, false, true, true, true, true, true, true, true, false, true, true, false, false, false, false, false, false, false, false] rfl rfl (by kernel_rfl) (fun _ _ _ h => h) (by rfl) ?hyr2_27 ?har2_27 ?_
                          case hyr2_27 =>
                            intro w' hx
                            go_simp
                            with_reducible rfl
                          case har2_27 => (simp only [Act.put, List.setIfInBounds_toArray, List.set_cons_zero, List.set_cons_succ]; rfl)
                          refine E_take (hR := KeepS.pre (SN N_ [b8])) (i := 28) (N := (some 88)) (v := ?vr2_28) (a' := ?ar2_28) #[true, true, true, true, true, true, true, true, false, true, true, true, true, true, true, true, false, false, true, true, true, true, true, true, true, false, true, true, true, false, false, false, false, false, false, false] rfl rfl (by kernel_rfl) (fun _ _ _ h => h) (by rfl) ?hyr2_28 ?har2_28 ?_
                          case hyr2_28 =>
                            intro w' hx
                            go_simp
                            with_reducible rfl
                          case har2_28 => (simp only [Act.put, List.setIfInBounds_toArray, List.set_cons_zero, List.set_cons_succ]; rfl)
                          refine E_take (hR := KeepS.pre (SN N_ [b8])) (i := 29) (N := (some 89)) (v := ?vr2_29) (a' := ?ar2_29) #[true, true, true, true, true, true, true, true, false, true, true, true, true, true, true, true, false, false, true, true, true, true, true, true, true, false, true, true, true, true, false, false, false, false, false, false] rfl rfl (by kernel_rfl) (fun _ _ _ h => h) (by rfl) ?hyr2_29 ?har2_29 ?_
                          case hyr2_29 =>
                            intro w' hx
                            go_simp
                            with_reducible rfl
                          case har2_29 => (simp only [Act.put, List.setIfInBounds_toArray, List.set_cons_zero, List.set_cons_succ]; rfl)
                          refine E_take (hR := KeepS.pre (SN N_ [b8])) (i := 30) (N := (some 90)) (v := ?vr2_30) (a' := ?ar2_30) #[true, true, true, true, true, true, true, true, false, true, true, true, true, true, true, true, false, false, true, true, true, true, true, true, true, false, true, true, true, true, true, false, false, false, false, false] rfl rfl (by kernel_rfl) (fun _ _ _ h => h) (by rfl) ?hyr2_30 ?har2_30 ?_
                          case hyr2_30 =>
                            intro w' hx
                            go_simp
                            with_reducible rfl
                          case har2_30 => (simp only [Act.put, List.setIfInBounds_toArray, List.set_cons_zero, List.set_cons_succ]; rfl)
                          refine E_take (hR := KeepS.pre (SN N_ [b8])) (i := 31) (N := (some 91)) (v := ?vr2_31) (a' := ?ar2_31) #[true, true, true, true, true, true, true, true, false, true, true, true, true, true, true, true, false, false, true, true, true, true, true, true, true, false, true, true, true, true, true, true, false, false, false, false] rfl rfl (by kernel_rfl) (fun _ _ _ h => h) (by rfl) ?hyr2_31 ?har2_31 ?_
                          case hyr2_31 =>
                            intro w' hx
                            go_simp
                            with_reducible rfl
                          case har2_31 => (simp only [Act.put, List.setIfInBounds_toArray, List.set_cons_zero, List.set_cons_succ]; rfl)
                          refine E_take (hR := KeepS.pre (SN N_ [b8])) (i := 32) (N := (some 92)) (v := ?vr2_32) (a' := ?ar2_32) #[true, true, true, true, true, true, true, true, false, true, true, true, true, true, true, true, false, false, true, true, true, true, true, true, true, false, true, true, true, true, true, true, true, false, false, false] rfl rfl (by kernel_rfl) (fun _ _ _ h => h) (by rfl) ?hyr2_32 ?har2_32 ?_
                          case hyr2_32 =>
                            intro w' hx
                            (first | (apply Eq.trans; (first | (apply R_ldK hS hx; rfl; rfl; (focus ((repeat (first | exact .here | apply At.there)); done)); assumption; rfl; (first | assumption | rfl | exact mapGetB (by first | assumption | omega) | exact mapGet _ (by first | assumption | omega))) | (apply R_ldOwnK hS hx; rfl; rfl; (focus ((repeat (first | exact .here | apply At.there)); done)); assumption; rfl; (first | rfl | exact mapGetB (by first | assumption | omega) | exact mapGet _ (by first | assumption | omega)))); with_reducible rfl) | (go_simp; with_reducible rfl))
                          case har2_32 => (simp only [Act.put, List.setIfInBounds_toArray, List.set_cons_zero, List.set_cons_succ]; rfl)
                          refine E_split [8] (by kernel_rfl) (by simp) (fun i_ hi_ => ?_)
                          simp only [List.mem_cons, List.not_mem_nil, or_false] at hi_
                          rcases hi_ with rfl
                          refine E_call1 (i := 8) (N := (some 68)) (args := ?gr2_8) #[true, true, true, true, true, true, true, true, true, true, true, true, true, true, true, true, false, false, true, true, true, true, true, true, true, false, true, true, true, true, true, true, true, false, false, false] rfl rfl (by kernel_rfl) (by rfl) Try.func20 (by kernel_rfl) rfl rfl ?hgr2_8 ?_
                          case hgr2_8 => (simp only [List.map_toArray, List.map_cons, List.map_nil]; go_simp; with_reducible rfl)
                          refine (r2_any y0 _).mono ?_
                          rintro e w_ ⟨rfl, hb_⟩
                          (refine ⟨_, rfl, KeepS.below hb_ hz, ?_⟩; replace hS := hS.ext hb_; replace hz := Nat.le_trans hz hb_.size; clear hb_)
                          rintro _ rfl
                          simp only [Act.put, List.setIfInBounds_toArray, List.set_cons_zero, List.set_cons_succ]
                          refine E_split [16] (by kernel_rfl) (by simp) (fun i_ hi_ => ?_)
                          simp only [List.mem_cons, List.not_mem_nil, or_false] at hi_
                          rcases hi_ with rfl
                          refine E_call1 (i := 16) (N := (some 76)) (args := ?gr2_16) #[true, true, true, true, true, true, true, true, true, true, true, true, true, true, true, true, true, false, true, true, true, true, true, true, true, false, true, true, true, true, true, true, true, false, false, false] rfl rfl (by kernel_rfl) (by rfl) Try.func20 (by kernel_rfl) rfl rfl ?hgr2_16 ?_
                          case hgr2_16 => (simp only [List.map_toArray, List.map_cons, List.map_nil]; go_simp; with_reducible rfl)
                          refine (r3_any y1 _).mono ?_
                          rintro e w_ ⟨rfl, hb_⟩
                          (refine ⟨_, rfl, KeepS.below hb_ hz, ?_⟩; replace hS := hS.ext hb_; replace hz := Nat.le_trans hz hb_.size; clear hb_)
                          rintro _ rfl
                          simp only [Act.put, List.setIfInBounds_toArray, List.set_cons_zero, List.set_cons_succ]
                          refine E_take (hR := KeepS.pre (SN N_ [b8])) (i := 17) (N := (some 77)) (v := ?vr2_17) (a' := ?ar2_17) #[true, true, true, true, true, true, true, true, true, true, true, true, true, true, true, true, true, true, true, true, true, true, true, true, true, false, true, true, true, true, true, true, true, false, false, false] rfl rfl (by kernel_rfl) (fun _ _ _ h => h) (by rfl) ?hyr2_17 ?har2_17 ?_
                          case hyr2_17 =>
                            intro w' hx
                            go_simp
                            with_reducible rfl
                          case har2_17 => (simp only [Act.put, List.setIfInBounds_toArray, List.set_cons_zero, List.set_cons_succ]; rfl)
                          refine E_take (hR := KeepS.pre (SN N_ [b8])) (i := 25) (N := (some 85)) (v := ?vr2_25) (a' := ?ar2_25) #[true, true, true, true, true, true, true, true, true, true, true, true, true, true, true, true, true, true, true, true, true, true, true, true, true, true, true, true, true, true, true, true, true, false, false, false] rfl rfl (by kernel_rfl) (fun _ _ _ h => h) (by rfl) ?hyr2_25 ?har2_25 ?_
                          case hyr2_25 =>
                            intro w' hx
                            go_simp
                            with_reducible rfl
                          case har2_25 => (simp only [Act.put, List.setIfInBounds_toArray, List.set_cons_zero, List.set_cons_succ]; rfl)
                          refine E_take (hR := KeepS.pre (SN N_ [b8])) (i := 33) (N := (some 93)) (v := ?vr2_33) (a' := ?ar2_33) #[true, true, true, true, true, true, true, true, true, true, true, true, true, true, true, true, true, true, true, true, true, true, true, true, true, true, true, true, true, true, true, true, true, true, false, false] rfl rfl (by kernel_rfl) (fun _ _ _ h => h) (by rfl) ?hyr2_33 ?har2_33 ?_
                          case hyr2_33 =>
                            intro w' hx
                            go_simp
                            with_reducible rfl
                          case har2_33 => (simp only [Act.put, List.setIfInBounds_toArray, List.set_cons_zero, List.set_cons_succ]; rfl)
                          refine E_take (hR := KeepS.pre (SN N_ [b8])) (i := 34) (N := (some 94)) (v := ?vr2_34) (a' := ?ar2_34) #[true, true, true, true, true, true, true, true, true, true, true, true, true, true, true, true, true, true, true, true, true, true, true, true, true, true, true, true, true, true, true, true, true, true, true, false] rfl rfl (by kernel_rfl) (fun _ _ _ h => h) (by rfl) ?hyr2_34 ?har2_34 ?_
                          case hyr2_34 =>
                            intro w' hx
                            go_simp
                            with_reducible rfl
                          case har2_34 => (simp only [Act.put, List.setIfInBounds_toArray, List.set_cons_zero, List.set_cons_succ]; rfl)
                          refine E_split [35] (by kernel_rfl) (by simp) (fun i_ hi_ => ?_)
                          simp only [List.mem_cons, List.not_mem_nil, or_false] at hi_
                          rcases hi_ with rfl
                          (apply K_st (i := 35) hS hz #[true, true, true, true, true, true, true, true, true, true, true, true, true, true, true, true, true, true, true, true, true, true, true, true, true, true, true, true, true, true, true, true, true, true, true, true]; rfl; rfl; (show _ = _; kernel_rfl); rfl; rfl; rfl; (focus ((conv => lhs; whnf) <;> rfl)); (focus ((repeat (first | exact .here | apply At.there)); done)); (first | assumption | (refine Or.inl ?_; assumption) | (refine Or.inr ?_; focus (simp; done))); rfl; rfl; (first | decide | assumption | (simp only [List.length_map, List.length_set]; omega)))
                          clear hS hz
                          intro w_ hS hz
                          try simp only [List.set_cons_zero, List.set_cons_succ] at hS
                          refine E_done (by kernel_rfl) ?_
                          have hS : St (Kp w) w w_ [.blk b8 49 ((ov (mixI mE y) y (4 * c' + (k + 1))).map iV), .blk b5 49 (y.map iV), .blk b4 28 (List.replicate 16 (.int .u8 0)), .blk b3 28 (b.map bV)] := by
                            change St _ _ _ [.blk b8 _ (((ov (mixI mE y) y q0).map iV).set q0 (iV t3)), _, _, _] at hS
                            rw [← List.map_set, hst.out] at hS
                            rw [show 4 * c' + (k + 1) = q0 + 1 by have := D0.out; omega]; exact hS
                          go_wp2
                          go_roundw
                          case rel => exact ⟨k + 1, by go_num, by omega, hS⟩
                          case measure => simp [intOf]; omega
                      · have hk4 : k = 4 := by omega
                        have hS : St (Kp w) w wr [.blk b8 49 ((ov (mixI mE y) y (4 * (c' + 1) + 0)).map iV), .blk b5 49 (y.map iV), .blk b4 28 (List.replicate 16 (.int .u8 0)), .blk b3 28 (b.map bV)] := by rw [show 4 * (c' + 1) + 0 = 4 * c' + k by omega]; exact hS
                        clear hk4
                        go_wp2
                        go_roundw
                        case rel => exact ⟨c' + 1, by go_num, by omega, hS⟩
                        case measure => simp [intOf]; omega
                  · have hc4 : c' = 4 := by omega
                    have c3 : ¬ 4 * (c' : Int) < 16 := by omega
                    rw [hc4, show 4 * 4 + 0 = 16 from rfl, h1.out] at hS
                    clear hc4 h1
                    have hlxx := Lib.hid hly.out
                    have hlz := Lib.hid (mixE_len y)
                    have hE2 := Lib.hid (show encR K b (r + 1) = ov (fX K (mixE y) (r + 1)) y 16 from by rw [hE.out, hmx.out]; exact (fX_end HK.out hlz.out (by omega) _).symm)
                    have h0 := Lib.hid (show (ov (fX K (mixE y) (r + 1)) y 0).map iV = y.map iV by rw [ov_zero _ hlxx.out])
                    rw [← h0.out] at hS
                    go_wp2
                    go_loopw [12] (fun i wr => ∃ k : Nat, i = .int .i64 (k : Int) ∧ k ≤ 16 ∧ St (Kp w) w wr [.blk b8 49 ((mixE y).map iV), .blk b5 49 ((ov (fX K (mixE y) (r + 1)) y k).map iV), .blk b4 28 (List.replicate 16 (.int .u8 0)), .blk b3 28 (b.map bV)]) (fun i _ => 16 - (intOf i).toNat)
                    case atStart => exact ⟨0, rfl, by omega, hS⟩
                    case round =>
                      clear hS h0
                      obtain ⟨k, rfl, hk, hS⟩ := hrel
                      by_cases hlt : k < 16
                      · have v1 : ((mixE y).map iV)[k]? = some (.int .i64 (((mixE y).getD k 0).toNat : Int)) := mapGetI (by rw [hlz.out]; exact hlt)
                        have v2 : (K.map iV)[16 * (r + 1) + k]? = some (.int .i64 ((K.getD (16 * (r + 1) + k) 0).toNat : Int)) := mapGetI (by rw [HK.out]; omega)
                        have V2 := Lib.hid v2
                        clear v2
                        have hst := Lib.hid (ov_set (fX K (mixE y) (r + 1)) y hlt)
                        have hxv := Lib.hid (show fX K (mixE y) (r + 1) k = (mixE y).getD k 0 ^^^ K.getD (16 * (r + 1) + k) 0 from rfl)
                        have hkl5 : k < ((ov (fX K (mixE y) (r + 1)) y k).map iV).length := by rw [List.length_map, ov_len]; exact hlt
                        have n3 : ¬ b8 = b5 := fun e => (hS.dist 0 1 (by decide) rfl rfl rfl rfl) e
                        rw [hxv.out] at hst
                        have hlq : 16 * (r + 1) + k < 240 := by omega
                        have g1 : IntKind.i64.wrap (16 * ((r : Int) + 1)) = 16 * ((r : Int) + 1) := by rw [IntKind.wrap_i64]; omega
                        have g2 : IntKind.i64.wrap (16 * ((r : Int) + 1) + (k : Int)) = ((16 * (r + 1) + k : Nat) : Int) := by rw [IntKind.wrap_i64]; omega
                        generalize (mixE y).getD k 0 = u at *
                        generalize K.getD (16 * (r + 1) + k) 0 = v at *
                        generalize 16 * (r + 1) + k = q at *
                        have hxy := xor64 u v
                        go_wp2
                        have hg5 := Lib.hid (hS.geOld (b := b5) (by focus ((repeat (first | exact .here | apply At.there)); done)))
                        obtain ⟨N_, hN_⟩ := hS.sz
                        have h0N_ := hS.size
                        rw [hN_] at h0N_
                        refine E_start (hR := KeepS.pre (SN N_ [b5])) #[false, false, false, false, false, false, false, false, false, false, false, false, false, false] (by kernel_rfl) rfl rfl (fun w_r3 hx_r3 he_r3 => ?_)
                        have hzE_ : w_r3.heap.size = N_ := by rw [he_r3]; exact hN_
                        have hz : N_ ≤ w_r3.heap.size := Nat.le_of_eq hzE_.symm
                        replace hS := hS.drew; rw [← he_r3] at hS
                        clear hx_r3 he_r3
                        have hsn_b8 : SN N_ [b5] b8 := ⟨by rw [← hzE_]; first | exact Ent.lt (hS.get (x := Ent.blk b8 _ _) (by focus ((repeat (first | exact .here | apply At.there)); done))) rfl | exact Ent.lt (hS.get (x := Ent.own _ _ (.slice (some ⟨b8, 0, none⟩) _ _) _ _) (by focus ((repeat (first | exact .here | apply At.there)); done))) rfl, by first | (focus (simp; done)) | (focus (simp; omega)) | (focus (simp; assumption))⟩
                        clear hzE_ hN_
                        refine E_take (hR := KeepS.pre (SN N_ [b5])) (i := 0) (N := (some 99)) (v := ?vr3_0) (a' := ?ar3_0) #[true, false, false, false, false, false, false, false, false, false, false, false, false, false] rfl rfl (by kernel_rfl) (fun _ _ _ h => h) (by rfl) ?hyr3_0 ?har3_0 ?_
                        case hyr3_0 =>
                          intro w' hx
                          go_simp
                          with_reducible rfl
                        case har3_0 => (simp only [Act.put, List.setIfInBounds_toArray, List.set_cons_zero, List.set_cons_succ]; rfl)
                        refine E_take (hR := KeepS.pre (SN N_ [b5])) (i := 1) (N := (some 100)) (v := ?vr3_1) (a' := ?ar3_1) #[true, true, false, false, false, false, false, false, false, false, false, false, false, false] rfl rfl (by kernel_rfl) (fun _ _ _ h => h) (by rfl) ?hyr3_1 ?har3_1 ?_
                        case hyr3_1 =>
                          intro w' hx
                          go_simp
                          with_reducible rfl
                        case har3_1 => (simp only [Act.put, List.setIfInBounds_toArray, List.set_cons_zero, List.set_cons_succ]; rfl)
                        refine E_take (hR := KeepS.pre (SN N_ [b5])) (i := 2) (N := (some 101)) (v := ?vr3_2) (a' := ?ar3_2) #[true, true, true, false, false, false, false, false, false, false, false, false, false, false] rfl rfl (by kernel_rfl) (fun _ _ _ h => h) (by rfl) ?hyr3_2 ?har3_2 ?_
                        case hyr3_2 =>
                          intro w' hx
                          go_simp
                          with_reducible rfl
                        case har3_2 => (simp only [Act.put, List.setIfInBounds_toArray, List.set_cons_zero, List.set_cons_succ]; rfl)
                        refine E_take (hR := KeepS.pre (SN N_ [b5])) (i := 3) (N := (some 102)) (v := ?vr3_3) (a' := ?ar3_3) #[true, true, true, true, false, false, false, false, false, false, false, false, false, false] rfl rfl (by kernel_rfl) (fun _ _ _ h => h) (by rfl) ?hyr3_3 ?har3_3 ?_
                        case hyr3_3 =>
                          intro w' hx
                          (first | (apply Eq.trans; (first | (apply R_ldK hS hx; rfl; rfl; (focus ((repeat (first | exact .here | apply At.there)); done)); assumption; rfl; (first | assumption | rfl | exact mapGetB (by first | assumption | omega) | exact mapGet _ (by first | assumption | omega))) | (apply R_ldOwnK hS hx; rfl; rfl; (focus ((repeat (first | exact .here | apply At.there)); done)); assumption; rfl; (first | rfl | exact mapGetB (by first | assumption | omega) | exact mapGet _ (by first | assumption | omega)))); with_reducible rfl) | (go_simp; with_reducible rfl))
                        case har3_3 => (simp only [Act.put, List.setIfInBounds_toArray, List.set_cons_zero, List.set_cons_succ]; rfl)
                        refine E_take (hR := KeepS.pre (SN N_ [b5])) (i := 4) (N := (some 103)) (v := ?vr3_4) (a' := ?ar3_4) #[true, true, true, true, true, false, false, false, false, false, false, false, false, false] rfl rfl (by kernel_rfl) (fun _ _ _ h => h) (by rfl) ?hyr3_4 ?har3_4 ?_
                        case hyr3_4 =>
                          intro w' hx
                          go_simp
                          with_reducible rfl
                        case har3_4 => (simp only [Act.put, List.setIfInBounds_toArray, List.set_cons_zero, List.set_cons_succ]; rfl)
                        refine E_take (hR := KeepS.pre (SN N_ [b5])) (i := 5) (N := (some 104)) (v := ?vr3_5) (a' := ?ar3_5) #[true, true, true, true, true, true, false, false, false, false, false, false, false, false] rfl rfl (by kernel_rfl) (fun _ _ _ h => h) (by rfl) ?hyr3_5 ?har3_5 ?_
                        case hyr3_5 =>
                          intro w' hx
                          go_simp
                          with_reducible rfl
                        case har3_5 => (simp only [Act.put, List.setIfInBounds_toArray, List.set_cons_zero, List.set_cons_succ]; rfl)
                        refine E_take (hR := KeepS.pre (SN N_ [b5])) (i := 6) (N := (some 105)) (v := ?vr3_6) (a' := ?ar3_6) #[true, true, true, true, true, true, true, false, false, false, false, false, false, false] rfl rfl (by kernel_rfl) (fun _ _ _ h => h) (by rfl) ?hyr3_6 ?har3_6 ?_
                        case hyr3_6 =>
                          intro w' hx
                          go_simp
                          with_reducible rfl
                        case har3_6 => (simp only [Act.put, List.setIfInBounds_toArray, List.set_cons_zero, List.set_cons_succ]; rfl)
                        refine E_take (hR := KeepS.pre (SN N_ [b5])) (i := 7) (N := (some 106)) (v := ?vr3_7) (a' := ?ar3_7) #[true, true, true, true, true, true, true, true, false, false, false, false, false, false] rfl rfl (by kernel_rfl) (fun _ _ _ h => h) (by rfl) ?hyr3_7 ?har3_7 ?_
                        case hyr3_7 =>
                          intro w' hx
                          go_simp
                          with_reducible rfl
                        case har3_7 => (simp only [Act.put, List.setIfInBounds_toArray, List.set_cons_zero, List.set_cons_succ]; rfl)
                        refine E_take (hR := KeepS.pre (SN N_ [b5])) (i := 8) (N := (some 107)) (v := ?vr3_8) (a' := ?ar3_8) #[true, true, true, true, true, true, true, true, true, false, false, false, false, false] rfl rfl (by kernel_rfl) (fun _ _ _ h => h) (by rfl) ?hyr3_8 ?har3_8 ?_
                        case hyr3_8 =>
                          intro w' hx
                          go_simp
                          with_reducible rfl
                        case har3_8 => (simp only [Act.put, List.setIfInBounds_toArray, List.set_cons_zero, List.set_cons_succ]; rfl)
                        refine E_take (hR := KeepS.pre (SN N_ [b5])) (i := 9) (N := (some 108)) (v := ?vr3_9) (a' := ?ar3_9) #[true, true, true, true, true, true, true, true, true, true, false, false, false, false] rfl rfl (by kernel_rfl) (fun _ _ _ h => h) (by rfl) ?hyr3_9 ?har3_9 ?_
                        case hyr3_9 =>
                          intro w' hx
                          (apply Eq.trans; (apply run_idxRd HR.out hkl.out; rfl; rfl; rfl; (first | rfl | (fail)); (first | assumption | omega); rfl; rfl); with_reducible rfl)
                        case har3_9 => (simp only [Act.put, List.setIfInBounds_toArray, List.set_cons_zero, List.set_cons_succ]; rfl)
                        refine E_take (hR := KeepS.pre (SN N_ [b5])) (i := 10) (N := (some 109)) (v := ?vr3_10) (a' := ?ar3_10) #[true, true, true, true, true, true, true, true, true, true, true, false, false, false] rfl rfl (by kernel_rfl) (fun _ _ _ h => h) (by rfl) ?hyr3_10 ?har3_10 ?_
                        case hyr3_10 =>
                          intro w' hx
                          (apply Eq.trans; (apply R_ldRd (hS.rdpKm hg5.out hx h0N_ HR.out); rfl; rfl; rfl; (first | exact V2.out | exact mapGetB (by first | assumption | omega) | exact mapGet _ (by first | assumption | omega))); with_reducible rfl)
                        case har3_10 => (simp only [Act.put, List.setIfInBounds_toArray, List.set_cons_zero, List.set_cons_succ]; rfl)
                        refine E_take (hR := KeepS.pre (SN N_ [b5])) (i := 11) (N := (some 110)) (v := ?vr3_11) (a' := ?ar3_11) #[true, true, true, true, true, true, true, true, true, true, true, true, false, false] rfl rfl (by kernel_rfl) (fun _ _ _ h => h) (by rfl) ?hyr3_11 ?har3_11 ?_
                        case hyr3_11 =>
                          intro w' hx
                          go_simp
                          with_reducible rfl
                        case har3_11 => (simp only [Act.put, List.setIfInBounds_toArray, List.set_cons_zero, List.set_cons_succ]; rfl)
                        refine E_take (hR := KeepS.pre (SN N_ [b5])) (i := 12) (N := (some 111)) (v := ?vr3_12) (a' := ?ar3_12) #[true, true, true, true, true, true, true, true, true, true, true, true, true, false] rfl rfl (by kernel_rfl) (fun _ _ _ h => h) (by rfl) ?hyr3_12 ?har3_12 ?_
                        case hyr3_12 =>
                          intro w' hx
                          go_simp
                          with_reducible rfl
                        case har3_12 => (simp only [Act.put, List.setIfInBounds_toArray, List.set_cons_zero, List.set_cons_succ]; rfl)
                        refine E_split [13] (by kernel_rfl) (by simp) (fun i_ hi_ => ?_)
                        simp only [List.mem_cons, List.not_mem_nil, or_false] at hi_
                        rcases hi_ with rfl
                        (apply K_st (i := 13) hS hz #[true, true, true, true, true, true, true, true, true, true, true, true, true, true]; rfl; rfl; (show _ = _; kernel_rfl); rfl; rfl; rfl; (focus ((conv => lhs; whnf) <;> rfl)); (focus ((repeat (first | exact .here | apply At.there)); done)); (first | assumption | (refine Or.inl ?_; assumption) | (refine Or.inr ?_; focus (simp; done))); rfl; rfl; (first | decide | assumption | (simp only [List.length_map, List.length_set]; omega)))
                        clear hS hz
                        intro w_ hS hz
                        try simp only [List.set_cons_zero, List.set_cons_succ] at hS
                        refine E_done (by kernel_rfl) ?_
                        change St _ _ _ [_, .blk b5 _ (((ov (fX K (mixE y) (r + 1)) y k).map iV).set k (iV (u ^^^ v))), _, _] at hS
                        rw [← List.map_set, hst.out] at hS
                        go_wp2
                        go_roundw
                        case rel => exact ⟨k + 1, by go_num, by omega, hS⟩
                        case measure => simp [intOf]; omega
                      · have hk16 : k = 16 := by omega
                        rw [hk16, ← hE2.out] at hS
                        clear hk16
                        replace hS := hS.drop
                        go_wp2
                        go_roundw
                        case rel => exact ⟨r + 1, by go_num, by omega, hS⟩
                        case measure => simp [intOf]; omega
              · have c2 : ¬ (r : Int) + 1 < 14 := by omega
                have hmx := Lib.hid (show mxE (r + 1) y = y by unfold mxE; rw [if_neg (by omega)])
                have hlxx := Lib.hid hlx.out
                have hlz := Lib.hid (hly.out)
                have hE2 := Lib.hid (show encR K b (r + 1) = ov (fX K y (r + 1)) x 16 from by rw [hE.out, hmx.out]; exact (fX_end HK.out hlz.out (by omega) _).symm)
                have h0 := Lib.hid (show (ov (fX K y (r + 1)) x 0).map iV = x.map iV by rw [ov_zero _ hlxx.out])
                rw [← h0.out] at hS
                go_wp2
                go_loopw [12] (fun i wr => ∃ k : Nat, i = .int .i64 (k : Int) ∧ k ≤ 16 ∧ St (Kp w) w wr [.blk b8 49 (y.map iV), .blk b5 49 ((ov (fX K y (r + 1)) x k).map iV), .blk b4 28 (List.replicate 16 (.int .u8 0)), .blk b3 28 (b.map bV)]) (fun i _ => 16 - (intOf i).toNat)
                case atStart => exact ⟨0, rfl, by omega, hS⟩
                case round =>
                  clear hS h0
                  obtain ⟨k, rfl, hk, hS⟩ := hrel
                  by_cases hlt : k < 16
                  · have v1 : (y.map iV)[k]? = some (.int .i64 ((y.getD k 0).toNat : Int)) := mapGetI (by rw [hlz.out]; exact hlt)
                    have v2 : (K.map iV)[16 * (r + 1) + k]? = some (.int .i64 ((K.getD (16 * (r + 1) + k) 0).toNat : Int)) := mapGetI (by rw [HK.out]; omega)
                    have V2 := Lib.hid v2
                    clear v2
                    have hst := Lib.hid (ov_set (fX K y (r + 1)) x hlt)
                    have hxv := Lib.hid (show fX K y (r + 1) k = y.getD k 0 ^^^ K.getD (16 * (r + 1) + k) 0 from rfl)
                    have hkl5 : k < ((ov (fX K y (r + 1)) x k).map iV).length := by rw [List.length_map, ov_len]; exact hlt
                    have n3 : ¬ b8 = b5 := fun e => (hS.dist 0 1 (by decide) rfl rfl rfl rfl) e
                    rw [hxv.out] at hst
                    have hlq : 16 * (r + 1) + k < 240 := by omega
                    have g1 : IntKind.i64.wrap (16 * ((r : Int) + 1)) = 16 * ((r : Int) + 1) := by rw [IntKind.wrap_i64]; omega
                    have g2 : IntKind.i64.wrap (16 * ((r : Int) + 1) + (k : Int)) = ((16 * (r + 1) + k : Nat) : Int) := by rw [IntKind.wrap_i64]; omega
                    generalize y.getD k 0 = u at *
                    generalize K.getD (16 * (r + 1) + k) 0 = v at *
                    generalize 16 * (r + 1) + k = q at *
                    have hxy := xor64 u v
                    go_wp2
                    have hg5 := Lib.hid (hS.geOld (b := b5) (by focus ((repeat (first | exact .here | apply At.there)); done)))
                    obtain ⟨N_, hN_⟩ := hS.sz
                    have h0N_ := hS.size
                    rw [hN_] at h0N_
                    refine E_start (hR := KeepS.pre (SN N_ [b5])) #[false, false, false, false, false, false, false, false, false, false, false, false, false, false] (by kernel_rfl) rfl rfl (fun w_r4 hx_r4 he_r4 => ?_)
                    have hzE_ : w_r4.heap.size = N_ := by rw [he_r4]; exact hN_
                    have hz : N_ ≤ w_r4.heap.size := Nat.le_of_eq hzE_.symm
                    replace hS := hS.drew; rw [← he_r4] at hS
                    clear hx_r4 he_r4
                    have hsn_b8 : SN N_ [b5] b8 := ⟨by rw [← hzE_]; first | exact Ent.lt (hS.get (x := Ent.blk b8 _ _) (by focus ((repeat (first | exact .here | apply At.there)); done))) rfl | exact Ent.lt (hS.get (x := Ent.own _ _ (.slice (some ⟨b8, 0, none⟩) _ _) _ _) (by focus ((repeat (first | exact .here | apply At.there)); done))) rfl, by first | (focus (simp; done)) | (focus (simp; omega)) | (focus (simp; assumption))⟩
                    clear hzE_ hN_
                    refine E_take (hR := KeepS.pre (SN N_ [b5])) (i := 0) (N := (some 99)) (v := ?vr4_0) (a' := ?ar4_0) #[true, false, false, false, false, false, false, false, false, false, false, false, false, false] rfl rfl (by kernel_rfl) (fun _ _ _ h => h) (by rfl) ?hyr4_0 ?har4_0 ?_
                    case hyr4_0 =>
                      intro w' hx
                      go_simp
                      with_reducible rfl
                    case har4_0 => (simp only [Act.put, List.setIfInBounds_toArray, List.set_cons_zero, List.set_cons_succ]; rfl)
                    refine E_take (hR := KeepS.pre (SN N_ [b5])) (i := 1) (N := (some 100)) (v := ?vr4_1) (a' := ?ar4_1) #[true, true, false, false, false, false, false, false, false, false, false, false, false, false] rfl rfl (by kernel_rfl) (fun _ _ _ h => h) (by rfl) ?hyr4_1 ?har4_1 ?_
                    case hyr4_1 =>
                      intro w' hx
                      go_simp
                      with_reducible rfl
                    case har4_1 => (simp only [Act.put, List.setIfInBounds_toArray, List.set_cons_zero, List.set_cons_succ]; rfl)
                    refine E_take (hR := KeepS.pre (SN N_ [b5])) (i := 2) (N := (some 101)) (v := ?vr4_2) (a' := ?ar4_2) #[true, true, true, false, false, false, false, false, false, false, false, false, false, false] rfl rfl (by kernel_rfl) (fun _ _ _ h => h) (by rfl) ?hyr4_2 ?har4_2 ?_
                    case hyr4_2 =>
                      intro w' hx
                      go_simp
                      with_reducible rfl
                    case har4_2 => (simp only [Act.put, List.setIfInBounds_toArray, List.set_cons_zero, List.set_cons_succ]; rfl)
                    refine E_take (hR := KeepS.pre (SN N_ [b5])) (i := 3) (N := (some 102)) (v := ?vr4_3) (a' := ?ar4_3) #[true, true, true, true, false, false, false, false, false, false, false, false, false, false] rfl rfl (by kernel_rfl) (fun _ _ _ h => h) (by rfl) ?hyr4_3 ?har4_3 ?_
                    case hyr4_3 =>
                      intro w' hx
                      (first | (apply Eq.trans; (first | (apply R_ldK hS hx; rfl; rfl; (focus ((repeat (first | exact .here | apply At.there)); done)); assumption; rfl; (first | assumption | rfl | exact mapGetB (by first | assumption | omega) | exact mapGet _ (by first | assumption | omega))) | (apply R_ldOwnK hS hx; rfl; rfl; (focus ((repeat (first | exact .here | apply At.there)); done)); assumption; rfl; (first | rfl | exact mapGetB (by first | assumption | omega) | exact mapGet _ (by first | assumption | omega)))); with_reducible rfl) | (go_simp; with_reducible rfl))
                    case har4_3 => (simp only [Act.put, List.setIfInBounds_toArray, List.set_cons_zero, List.set_cons_succ]; rfl)
                    refine E_take (hR := KeepS.pre (SN N_ [b5])) (i := 4) (N := (some 103)) (v := ?vr4_4) (a' := ?ar4_4) #[true, true, true, true, true, false, false, false, false, false, false, false, false, false] rfl rfl (by kernel_rfl) (fun _ _ _ h => h) (by rfl) ?hyr4_4 ?har4_4 ?_
                    case hyr4_4 =>
                      intro w' hx
                      go_simp
                      with_reducible rfl
                    case har4_4 => (simp only [Act.put, List.setIfInBounds_toArray, List.set_cons_zero, List.set_cons_succ]; rfl)
                    refine E_take (hR := KeepS.pre (SN N_ [b5])) (i := 5) (N := (some 104)) (v := ?vr4_5) (a' := ?ar4_5) #[true, true, true, true, true, true, false, false, false, false, false, false, false, false] rfl rfl (by kernel_rfl) (fun _ _ _ h => h) (by rfl) ?hyr4_5 ?har4_5 ?_
                    case hyr4_5 =>
                      intro w' hx
                      go_simp
                      with_reducible rfl
                    case har4_5 => (simp only [Act.put, List.setIfInBounds_toArray, List.set_cons_zero, List.set_cons_succ]; rfl)
                    refine E_take (hR := KeepS.pre (SN N_ [b5])) (i := 6) (N := (some 105)) (v := ?vr4_6) (a' := ?ar4_6) #[true, true, true, true, true, true, true, false, false, false, false, false, false, false] rfl rfl (by kernel_rfl) (fun _ _ _ h => h) (by rfl) ?hyr4_6 ?har4_6 ?_
                    case hyr4_6 =>
                      intro w' hx
                      go_simp
                      with_reducible rfl
                    case har4_6 => (simp only [Act.put, List.setIfInBounds_toArray, List.set_cons_zero, List.set_cons_succ]; rfl)
                    refine E_take (hR := KeepS.pre (SN N_ [b5])) (i := 7) (N := (some 106)) (v := ?vr4_7) (a' := ?ar4_7) #[true, true, true, true, true, true, true, true, false, false, false, false, false, false] rfl rfl (by kernel_rfl) (fun _ _ _ h => h) (by rfl) ?hyr4_7 ?har4_7 ?_
                    case hyr4_7 =>
                      intro w' hx
                      go_simp
                      with_reducible rfl
                    case har4_7 => (simp only [Act.put, List.setIfInBounds_toArray, List.set_cons_zero, List.set_cons_succ]; rfl)
                    refine E_take (hR := KeepS.pre (SN N_ [b5])) (i := 8) (N := (some 107)) (v := ?vr4_8) (a' := ?ar4_8) #[true, true, true, true, true, true, true, true, true, false, false, false, false, false] rfl rfl (by kernel_rfl) (fun _ _ _ h => h) (by rfl) ?hyr4_8 ?har4_8 ?_
                    case hyr4_8 =>
                      intro w' hx
                      go_simp
                      with_reducible rfl
                    case har4_8 => (simp only [Act.put, List.setIfInBounds_toArray, List.set_cons_zero, List.set_cons_succ]; rfl)
                    refine E_take (hR := KeepS.pre (SN N_ [b5])) (i := 9) (N := (some 108)) (v := ?vr4_9) (a' := ?ar4_9) #[true, true, true, true, true, true, true, true, true, true, false, false, false, false] rfl rfl (by kernel_rfl) (fun _ _ _ h => h) (by rfl) ?hyr4_9 ?har4_9 ?_
                    case hyr4_9 =>
                      intro w' hx
                      (apply Eq.trans; (apply run_idxRd HR.out hkl.out; rfl; rfl; rfl; (first | rfl | (fail)); (first | assumption | omega); rfl; rfl); with_reducible rfl)
                    case har4_9 => (simp only [Act.put, List.setIfInBounds_toArray, List.set_cons_zero, List.set_cons_succ]; rfl)
                    refine E_take (hR := KeepS.pre (SN N_ [b5])) (i := 10) (N := (some 109)) (v := ?vr4_10) (a' := ?ar4_10) #[true, true, true, true, true, true, true, true, true, true, true, false, false, false] rfl rfl (by kernel_rfl) (fun _ _ _ h => h) (by rfl) ?hyr4_10 ?har4_10 ?_
                    case hyr4_10 =>
                      intro w' hx
                      (apply Eq.trans; (apply R_ldRd (hS.rdpKm hg5.out hx h0N_ HR.out); rfl; rfl; rfl; (first | exact V2.out | exact mapGetB (by first | assumption | omega) | exact mapGet _ (by first | assumption | omega))); with_reducible rfl)
                    case har4_10 => (simp only [Act.put, List.setIfInBounds_toArray, List.set_cons_zero, List.set_cons_succ]; rfl)
                    refine E_take (hR := KeepS.pre (SN N_ [b5])) (i := 11) (N := (some 110)) (v := ?vr4_11) (a' := ?ar4_11) #[true, true, true, true, true, true, true, true, true, true, true, true, false, false] rfl rfl (by kernel_rfl) (fun _ _ _ h => h) (by rfl) ?hyr4_11 ?har4_11 ?_
                    case hyr4_11 =>
                      intro w' hx
                      go_simp
                      with_reducible rfl
                    case har4_11 => (simp only [Act.put, List.setIfInBounds_toArray, List.set_cons_zero, List.set_cons_succ]; rfl)
                    refine E_take (hR := KeepS.pre (SN N_ [b5])) (i := 12) (N := (some 111)) (v := ?vr4_12) (a' := ?ar4_12) #[true, true, true, true, true, true, true, true, true, true, true, true, true, false] rfl rfl (by kernel_rfl) (fun _ _ _ h => h) (by rfl) ?hyr4_12 ?har4_12 ?_
                    case hyr4_12 =>
                      intro w' hx
                      go_simp
                      with_reducible rfl
                    case har4_12 => (simp only [Act.put, List.setIfInBounds_toArray, List.set_cons_zero, List.set_cons_succ]; rfl)
                    refine E_split [13] (by kernel_rfl) (by simp) (fun i_ hi_ => ?_)
                    simp only [List.mem_cons, List.not_mem_nil, or_false] at hi_
                    rcases hi_ with rfl
                    (apply K_st (i := 13) hS hz #[true, true, true, true, true, true, true, true, true, true, true, true, true, true]; rfl; rfl; (show _ = _; kernel_rfl); rfl; rfl; rfl; (focus ((conv => lhs; whnf) <;> rfl)); (focus ((repeat (first | exact .here | apply At.there)); done)); (first | assumption | (refine Or.inl ?_; assumption) | (refine Or.inr ?_; focus (simp; done))); rfl; rfl; (first | decide | assumption | (simp only [List.length_map, List.length_set]; omega)))
                    clear hS hz
                    intro w_ hS hz
                    try simp only [List.set_cons_zero, List.set_cons_succ] at hS
                    refine E_done (by kernel_rfl) ?_
                    change St _ _ _ [_, .blk b5 _ (((ov (fX K y (r + 1)) x k).map iV).set k (iV (u ^^^ v))), _, _] at hS
                    rw [← List.map_set, hst.out] at hS
                    go_wp2
                    go_roundw
                    case rel => exact ⟨k + 1, by go_num, by omega, hS⟩
                    case measure => simp [intOf]; omega
                  · have hk16 : k = 16 := by omega
                    rw [hk16, ← hE2.out] at hS
                    clear hk16
                    replace hS := hS.drop
                    go_wp2
                    go_roundw
                    case rel => exact ⟨r + 1, by go_num, by omega, hS⟩
                    case measure => simp [intOf]; omega
        · have hr14 : r = 14 := by omega
          rw [hr14] at hS
          have hlf := Lib.hid (show (encF K b).length = 16 from HER.out 14 (by omega))
          change St _ _ _ [.blk b5 _ ((encF K b).map iV), _, _] at hS
          generalize hx : encF K b = x at *
          have HX := Lib.hid hx
          clear hx
          have c1 : ¬ (r : Int) + 1 ≤ 14 := by omega
          have h0 := Lib.hid (show (ov (fun j => x.getD j 0) (List.replicate 16 0) 0).map bV = List.replicate 16 (.int .u8 0) by rw [ov_zero _ (by simp)]; rfl)
          have h1 := Lib.hid (show ov (fun j => x.getD j 0) (List.replicate 16 0) 16 = x by rw [ov_end]; obtain ⟨a0, a1, a2, a3, a4, a5, a6, a7, a8, a9, a10, a11, a12, a13, a14, a15, rfl⟩ := ex16 hlf.out; rfl)
          go_wp2_with (first | ((with_reducible show wpList _ _ _ (⟨some 13, Op.alloc _, _, _, _, _⟩ :: _) _ _); go_loud (refine S_alloc (z := .agg ([.int .u8 0, .int .u8 0, .int .u8 0, .int .u8 0, .int .u8 0, .int .u8 0, .int .u8 0, .int .u8 0, .int .u8 0, .int .u8 0, .int .u8 0, .int .u8 0, .int .u8 0, .int .u8 0, .int .u8 0, .int .u8 0] : List Value).toArray) (L := [.int .u8 0, .int .u8 0, .int .u8 0, .int .u8 0, .int .u8 0, .int .u8 0, .int .u8 0, .int .u8 0, .int .u8 0, .int .u8 0, .int .u8 0, .int .u8 0, .int .u8 0, .int .u8 0, .int .u8 0, .int .u8 0]) hS rfl rfl ?_ ?_ ?_; (show _ = _; kernel_rfl); (show _ = _; kernel_rfl); clear hS; intro b13 w_ hS)))
          rw [← h0.out] at hS
          clear hr14
          go_loopw [14] (fun i wr => ∃ k : Nat, i = .int .i64 (k : Int) ∧ k ≤ 16 ∧ St (Kp w) w wr [.blk b13 28 ((ov (fun j => x.getD j 0) (List.replicate 16 0) k).map bV), .blk b5 49 (x.map iV), .blk b4 28 (List.replicate 16 (.int .u8 0)), .blk b3 28 (b.map bV)]) (fun i _ => 16 - (intOf i).toNat)
          case atStart => exact ⟨0, rfl, by omega, hS⟩
          case round =>
            clear hS h0
            obtain ⟨k, rfl, hk, hS⟩ := hrel
            by_cases hlt : k < 16
            · have v1 : (x.map iV)[k]? = some (.int .i64 ((x.getD k 0).toNat : Int)) := mapGetI (by rw [hlf.out]; exact hlt)
              have hst := Lib.hid (ov_set (fun j => x.getD j 0) (List.replicate 16 0) hlt)
              have hkl13 : k < ((ov (fun j => x.getD j 0) (List.replicate 16 0) k).map bV).length := by rw [List.length_map, ov_len]; exact hlt
              generalize hu : ov (fun j => x.getD j 0) (List.replicate 16 0) k = o at *
              generalize hu' : ov (fun j => x.getD j 0) (List.replicate 16 0) (k + 1) = o' at *
              change Hid (o.set k (x.getD k 0) = o') at hst
              generalize x.getD k 0 = u at *
              have HU' := Lib.hid hu'
              clear hu hu'
              have hx256 : (u.toNat : Int) < 256 := by have := u.toNat_lt; omega
              go_wp2_with (first | ((with_reducible show wpList _ _ _ (⟨some 119, Op.load _ _, _, _, _, _⟩ :: _) _ _); go_loud (first | (apply S_ld hS; rfl; rfl; rfl; (focus ((repeat (first | exact .here | apply At.there)); done)); rfl; (first | fail | assumption | rfl | exact mapGetB (by first | assumption | (simp only [List.length_map, List.length_set, List.length_replicate, List.length_append, List.length_cons, List.length_nil]; omega)) | exact mapGet _ (by first | assumption | (simp only [List.length_map, List.length_set, List.length_replicate, List.length_append, List.length_cons, List.length_nil]; omega)))) | (apply S_ldOwn hS; rfl; rfl; rfl; (focus ((repeat (first | exact .here | apply At.there)); done)); rfl; (first | rfl | exact mapGetB (by first | assumption | (simp only [List.length_map, List.length_set, List.length_replicate, List.length_append, List.length_cons, List.length_nil]; omega)) | exact mapGet _ (by first | assumption | (simp only [List.length_map, List.length_set, List.length_replicate, List.length_append, List.length_cons, List.length_nil]; omega)))))) | ((with_reducible show wpList _ _ _ (⟨_, Op.store _ _ _, _, _, _, _⟩ :: _) _ _); go_loud (first | (apply S_st hS; rfl; rfl; rfl; (focus ((conv => lhs; whnf) <;> rfl)); (focus ((repeat (first | exact .here | apply At.there)); done)); rfl; rfl; (first | (assumption) | decide | assumption | (simp only [List.length_map, List.length_set, List.length_replicate, List.length_append, List.length_cons, List.length_nil]; omega)); clear hS; intro w_ hS; (try simp only [List.set_cons_zero, List.set_cons_succ] at hS)) | (apply S_stOwn hS; rfl; rfl; rfl; (focus ((conv => lhs; whnf) <;> rfl)); (focus ((repeat (first | exact .here | apply At.there)); done)); rfl; rfl; (first | decide | assumption | omega); clear hS; intro w_ hS; (try simp only [List.set_cons_zero, List.set_cons_succ] at hS)))))
              change St _ _ _ [.blk b13 _ ((List.map bV o).set k (bV u)), _, _, _] at hS
              rw [← List.map_set, hst.out, ← HU'.out] at hS
              go_roundw
              case rel => exact ⟨k + 1, by go_num, by omega, hS⟩
              case measure => simp [intOf]; omega
            · have hk16 : k = 16 := by omega
              rw [hk16, h1.out] at hS
              clear hk16 h1
              have hlb := Lib.hid (show (x.map bV).length = 16 by rw [List.length_map]; exact hlf.out)
              have hone := one_bV x
              go_wp2_with (first | ((with_reducible show wpList _ _ _ (⟨some 122, Op.load _ _, _, _, _, _⟩ :: _) _ _); go_loud (apply S_ldAll hS; rfl; rfl; rfl; (focus ((repeat (first | exact .here | apply At.there)); done)); rfl; (first | rfl | (rw [hlb.out]; rfl) | (simp only [List.length_map, List.length_set]; rfl)))) | ((with_reducible show wpList _ _ _ (⟨_, Op.store _ _ _, _, _, _, _⟩ :: _) _ _); go_loud (apply S_stAll hS; rfl; rfl; rfl; rfl; (focus ((repeat (first | exact .here | apply At.there)); done)); (first | assumption | (rw [hlb.out]; rfl) | (focus (simp [bV, wV, Value.oneCell']; done)) | (focus (simp [bV, Value.oneCell']; done))); (first | rfl | (rw [hlb.out]; rfl)); (first | rfl | (rw [hlb.out]; rfl)); clear hS; intro w_ hS)))
              rw [← HX.out] at hS hlb
              (try simp only [Exit.inBlock, Exit.then]); refine bodyPost_ret (results_cell_one hS rfl _ rfl (by focus ((repeat (first | exact .here | apply At.there)); done)) rfl (by rw [hlb.out]; rfl)) rfl ⟨rfl, hS.below⟩
end Go.Proofs.Ytaacnbponodagaa
