/- xts: the tweak's step. -/
import Derived.Test.YthamhaomfdgdjaaXtsP
import Derived.Test.YthamhaomfdgdjaaStM
import Derived.Test.YthamhaomfdgdjaaAesD
namespace Go.Proofs.Ythamhaomfdgdjaa
open Go.RowKit
set_option linter.unusedVariables false
set_option linter.unusedSimpArgs false

/-- A unit's cells. -/
def unC (bC : Nat) (t : List UInt8) : List Value := .pointer (some ⟨bC, 0, none⟩) :: t.map bV
def stp (t : List UInt8) (k : Nat) : List UInt8 := shl1 0 (t.take k) ++ t.drop k
theorem stp_zero (t : List UInt8) : stp t 0 = t := by simp [stp, shl1]
theorem stp_end {t : List UInt8} {k : Nat} (h : t.length = k) : stp t k = shl1 0 t := by unfold stp; rw [List.take_of_length_le (by omega), List.drop_of_length_le (by omega), List.append_nil]
theorem stp_len (t : List UInt8) (k : Nat) : (stp t k).length = t.length := by unfold stp; rw [List.length_append, shl1_len, List.length_take, List.length_drop]; omega
theorem stp_set {t : List UInt8} {k : Nat} (h : k < t.length) : (stp t k).set k ((t.getD k 0 <<< 1) ||| cry 0 (t.take k)) = stp t (k + 1) := by
  unfold stp
  have hl : (shl1 0 (t.take k)).length = k := by rw [shl1_len, List.length_take]; omega
  have hg : t.getD k 0 = t[k] := by rw [List.getD_eq_getElem?_getD, List.getElem?_eq_getElem h]; rfl
  rw [List.set_append_right _ _ (by omega), hl, Nat.sub_self, List.drop_eq_getElem_cons h, List.set_cons_zero, List.take_succ_eq_append_getElem h, shl1_snoc, List.append_assoc, hg]
  rfl
theorem cry_step {t : List UInt8} {k : Nat} (h : k < t.length) : cry 0 (t.take (k + 1)) = t.getD k 0 >>> 7 := by
  rw [List.take_succ_eq_append_getElem h, cry_snoc, List.getD_eq_getElem?_getD, List.getElem?_eq_getElem h]; rfl

theorem shl1_val (x : UInt8) : (x.toNat : Int) * (2 : Int) % (256 : Int) = ((x <<< 1).toNat : Int) := by
  have h : x.toNat * 2 % 256 = (x <<< 1).toNat := u8_all (p := fun x => x.toNat * 2 % 256 = (x <<< 1).toNat) (by decide +kernel) x
  omega
theorem shr7_val (x : UInt8) : (x.toNat : Int) / (128 : Int) = ((x >>> 7).toNat : Int) := by
  have h : x.toNat / 128 = (x >>> 7).toNat := u8_all (p := fun x => x.toNat / 128 = (x >>> 7).toNat) (by decide +kernel) x
  omega
theorem run_idx16 {xs : List UInt8} {k : Nat} (hk : k < 16) (hl : xs.length = 16) (w : World) : (Instr.index 42 (.agg (xs.map bV).toArray) (.int .i64 (k : Int))).run Try.prog w = .ok (.int .u8 ((xs.getD k 0).toNat : Int)) w := by
  have h1 : (0 : Int) ≤ (k : Int) ∧ (k : Int) < 16 := by omega
  have hv : (xs.map bV).toArray[k]? = some (.int .u8 ((xs.getD k 0).toNat : Int)) := arrGet 0 (by omega)
  have hs : (Try.prog.info? 5).map (·.size) = some 1 := by kernel_rfl
  have hag : (isAgg 5).run Try.prog w = .ok false w := run_isAgg (by kernel_rfl) w
  have hk2 : k < xs.length := by omega
  simp [Instr.index, asIntOf, run_underlying Try.underlying42, run_sizeOf hs, h1, part, hag, hk2, bV]
  intro h; omega
set_option maxRecDepth 8000 in
set_option maxHeartbeats 1600000 in
theorem step_any (bu bC : Nat) (t : List UInt8) (w : World) (hB : Blk w bu 44 (unC bC t)) (ht : t.length = 16) :
    Calls Try.prog 24 #[.pointer (some ⟨bu, 0, none⟩)] w fun e w' => (∃ z, e = .returned z) ∧ w.grownBy w' (some bu) ∧ Blk w' bu 44 (unC bC (dbl t)) := by
  have hS := St.start1 (x := .blk bu 44 (unC bC t)) (w := w) hB (b := bu) rfl
  have HT := Lib.hid ht
  have hul := Lib.hid (show (unC bC t).length = 17 by unfold unC; rw [List.length_cons, List.length_map, ht])
  have hpart := Lib.hid (show ((unC bC t).drop 1).take 16 = t.map bV by unfold unC; rw [List.drop_succ_cons, List.drop_zero, List.take_of_length_le (by rw [List.length_map, ht]; decide)])
  clear hB ht
  go_enter Try.func24, Try.ntmps24
  go_wp2_with (((with_reducible show wpList _ _ _ (⟨some 8, Op.load _ _, _, _, _, _⟩ :: _) _ _); go_loud (apply S_ldPart (m := 16) hS; rfl; rfl; rfl; (focus ((repeat (first | exact .here | apply At.there)); done)); rfl; rfl; (rw [hul.out]; decide); (rw [hpart.out]))))
  go_loopw [2, 9] (fun v i wr => ∃ k : Nat, i = .int .i64 (k : Int) ∧ k ≤ 16 ∧ v = .int .u8 ((cry 0 (t.take k)).toNat : Int) ∧ St (Km w bu) w wr [.blk bu 44 (unC bC (stp t k))]) (fun _ i _ => 16 - (intOf i).toNat)
  case atStart => exact ⟨0, rfl, by omega, rfl, by rw [stp_zero]; exact hS⟩
  case round =>
    clear hS
    obtain ⟨k, rfl, hk, rfl, hS⟩ := hrel
    by_cases hlt : k < 16
    · have hkt : k < t.length := by rw [HT.out]; exact hlt
      have va : (t.map bV).toArray[k]? = some (.int .u8 ((t.getD k 0).toNat : Int)) := arrGet 0 hkt
      have hset := Lib.hid (stp_set hkt)
      have hcry := Lib.hid (cry_step hkt)
      have hlen := Lib.hid (show (unC bC (stp t k)).length = 17 by unfold unC; rw [List.length_cons, List.length_map, stp_len, HT.out])
      have hkl : 1 + k < (unC bC (stp t k)).length := by rw [hlen.out]; omega
      obtain ⟨u, hu, hor⟩ : ∃ u, t.getD k 0 <<< 1 ||| cry 0 (t.take k) = u ∧ bits .or .u8 (((t.getD k 0).toNat : Int) * 2 % 256) ((cry 0 (t.take k)).toNat : Int) = (u.toNat : Int) := ⟨_, rfl, by rw [shl1_val, or8]⟩
      have HU := Lib.hid hu
      have hshr := Lib.hid (shr7_val (t.getD k 0))
      clear hu
      have hidx := fun wx => run_idx16 hlt HT.out wx
      generalize t.getD k 0 = x at *
      generalize cry 0 (t.take k) = c at *
      go_wp2_with (((with_reducible show wpList _ _ _ (⟨_, Op.store _ _ _, _, _, _, _⟩ :: _) _ _); go_loud (first | (apply S_st hS; rfl; rfl; rfl; (focus ((conv => lhs; whnf) <;> rfl)); (focus ((repeat (first | exact .here | apply At.there)); done)); rfl; rfl; (first | (assumption) | decide | assumption | (simp only [List.length_map, List.length_set, List.length_replicate, List.length_append, List.length_cons, List.length_nil]; omega)); clear hS; intro w_ hS; (try simp only [List.set_cons_zero, List.set_cons_succ] at hS)) | (apply S_stOwn hS; rfl; rfl; rfl; (focus ((conv => lhs; whnf) <;> rfl)); (focus ((repeat (first | exact .here | apply At.there)); done)); rfl; rfl; (first | decide | assumption | omega); clear hS; intro w_ hS; (try simp only [List.set_cons_zero, List.set_cons_succ] at hS)))))
      rw [Nat.add_comm 1 k] at hS
      change St _ _ _ [.blk bu _ (.pointer (some ⟨bC, 0, none⟩) :: ((stp t k).map bV).set k (bV u))] at hS
      rw [← List.map_set, ← HU.out, hset.out] at hS
      go_roundw
      case rel => exact ⟨k + 1, by go_num, by omega, by rw [hcry.out, hshr.out], hS⟩
      case measure => simp [intOf]; omega
    · have hk16 : k = 16 := by omega
      rw [hk16, stp_end HT.out] at hS
      have hcr : cry 0 (t.take k) = cry 0 t := by rw [hk16, List.take_of_length_le (by rw [HT.out]; exact Nat.le_refl _)]
      have hl17 := Lib.hid (show (unC bC (shl1 0 t)).length = 17 by unfold unC; rw [List.length_cons, List.length_map, shl1_len, HT.out])
      rw [hcr]
      clear hk16 hcr
      by_cases hc1 : cry 0 t = 1
      · have hd : dbl t = red (shl1 0 t) := by unfold dbl; rw [if_pos hc1]
        have HD := Lib.hid hd
        rw [hc1]
        clear hd hc1
        have v1 : (unC bC (shl1 0 t))[1]? = some (.int .u8 (((shl1 0 t).getD 0 0).toNat : Int)) := by
          show ((shl1 0 t).map bV)[0]? = _
          exact mapGetB (by rw [shl1_len, HT.out]; decide)
        generalize hz : (shl1 0 t).getD 0 0 = z at *
        obtain ⟨u2, hu2, hxz⟩ : ∃ u, z ^^^ 135 = u ∧ bits .xor .u8 (z.toNat : Int) 135 = (u.toNat : Int) := ⟨_, rfl, xor8 z 135⟩
        have HU2 := Lib.hid hu2
        have HZ := Lib.hid hz
        have h1l : 1 < (unC bC (shl1 0 t)).length := by rw [hl17.out]; decide
        clear hu2 hz
        go_upto_region 8 with (fail)
        obtain ⟨N_, hN_⟩ := hS.sz
        have h0N_ := hS.size
        rw [hN_] at h0N_
        refine E_start (hR := KeepS.pre (SN N_ [bu])) #[false, false, false, false, false, false, false, false, false, false] (by kernel_rfl) rfl rfl (fun w_r1 hx_r1 he_r1 => ?_)
        have hzE_ : w_r1.heap.size = N_ := by rw [he_r1]; exact hN_
        have hz : N_ ≤ w_r1.heap.size := Nat.le_of_eq hzE_.symm
        replace hS := hS.drew; rw [← he_r1] at hS
        clear hx_r1 he_r1
        clear hzE_ hN_
        refine E_take (hR := KeepS.pre (SN N_ [bu])) (i := 0) (N := (some 27)) (v := ?vr1_0) (a' := ?ar1_0) #[true, false, false, false, false, false, false, false, false, false] rfl rfl (by kernel_rfl) (fun _ _ _ h => h) (by rfl) ?hyr1_0 ?har1_0 ?_
        case hyr1_0 =>
          intro w' hx
          go_simp
          with_reducible rfl
        case har1_0 => (simp only [Act.put, List.setIfInBounds_toArray, List.set_cons_zero, List.set_cons_succ]; rfl)
        refine E_take (hR := KeepS.pre (SN N_ [bu])) (i := 1) (N := (some 28)) (v := ?vr1_1) (a' := ?ar1_1) #[true, true, false, false, false, false, false, false, false, false] rfl rfl (by kernel_rfl) (fun _ _ _ h => h) (by rfl) ?hyr1_1 ?har1_1 ?_
        case hyr1_1 =>
          intro w' hx
          go_simp
          with_reducible rfl
        case har1_1 => (simp only [Act.put, List.setIfInBounds_toArray, List.set_cons_zero, List.set_cons_succ]; rfl)
        refine E_take (hR := KeepS.pre (SN N_ [bu])) (i := 2) (N := (some 29)) (v := ?vr1_2) (a' := ?ar1_2) #[true, true, true, false, false, false, false, false, false, false] rfl rfl (by kernel_rfl) (fun _ _ _ h => h) (by rfl) ?hyr1_2 ?har1_2 ?_
        case hyr1_2 =>
          intro w' hx
          go_simp
          with_reducible rfl
        case har1_2 => (simp only [Act.put, List.setIfInBounds_toArray, List.set_cons_zero, List.set_cons_succ]; rfl)
        refine E_take (hR := KeepS.pre (SN N_ [bu])) (i := 3) (N := (some 30)) (v := ?vr1_3) (a' := ?ar1_3) #[true, true, true, true, false, false, false, false, false, false] rfl rfl (by kernel_rfl) (fun _ _ _ h => h) (by rfl) ?hyr1_3 ?har1_3 ?_
        case hyr1_3 =>
          intro w' hx
          go_simp
          with_reducible rfl
        case har1_3 => (simp only [Act.put, List.setIfInBounds_toArray, List.set_cons_zero, List.set_cons_succ]; rfl)
        refine E_take (hR := KeepS.pre (SN N_ [bu])) (i := 6) (N := (some 33)) (v := ?vr1_6) (a' := ?ar1_6) #[true, true, true, true, false, false, true, false, false, false] rfl rfl (by kernel_rfl) (fun _ _ _ h => h) (by rfl) ?hyr1_6 ?har1_6 ?_
        case hyr1_6 =>
          intro w' hx
          go_simp
          with_reducible rfl
        case har1_6 => (simp only [Act.put, List.setIfInBounds_toArray, List.set_cons_zero, List.set_cons_succ]; rfl)
        refine E_take (hR := KeepS.pre (SN N_ [bu])) (i := 7) (N := (some 34)) (v := ?vr1_7) (a' := ?ar1_7) #[true, true, true, true, false, false, true, true, false, false] rfl rfl (by kernel_rfl) (fun _ _ _ h => h) (by rfl) ?hyr1_7 ?har1_7 ?_
        case hyr1_7 =>
          intro w' hx
          go_simp
          with_reducible rfl
        case har1_7 => (simp only [Act.put, List.setIfInBounds_toArray, List.set_cons_zero, List.set_cons_succ]; rfl)
        refine E_split [4] (by kernel_rfl) (by simp) (fun i_ hi_ => ?_)
        simp only [List.mem_cons, List.not_mem_nil, or_false] at hi_
        rcases hi_ with rfl
        (apply K_val (i := 4) (T := (some 31)) #[true, true, true, true, true, false, true, true, false, false]; rfl; rfl; (show _ = _; kernel_rfl); rfl; (apply R_ld hS; rfl; rfl; (focus ((repeat (first | exact .here | apply At.there)); done)); rfl; (first | assumption | rfl | exact mapGetB (by first | assumption | omega))); exact KeepS.refl _ _)
        rintro _ rfl
        simp only [Act.put, List.setIfInBounds_toArray, List.set_cons_zero, List.set_cons_succ]
        refine E_take (hR := KeepS.pre (SN N_ [bu])) (i := 5) (N := (some 32)) (v := ?vr1_5) (a' := ?ar1_5) #[true, true, true, true, true, true, true, true, false, false] rfl rfl (by kernel_rfl) (fun _ _ _ h => h) (by rfl) ?hyr1_5 ?har1_5 ?_
        case hyr1_5 =>
          intro w' hx
          go_simp
          with_reducible rfl
        case har1_5 => (simp only [Act.put, List.setIfInBounds_toArray, List.set_cons_zero, List.set_cons_succ]; rfl)
        refine E_take (hR := KeepS.pre (SN N_ [bu])) (i := 8) (N := (some 35)) (v := ?vr1_8) (a' := ?ar1_8) #[true, true, true, true, true, true, true, true, true, false] rfl rfl (by kernel_rfl) (fun _ _ _ h => h) (by rfl) ?hyr1_8 ?har1_8 ?_
        case hyr1_8 =>
          intro w' hx
          go_simp
          with_reducible rfl
        case har1_8 => (simp only [Act.put, List.setIfInBounds_toArray, List.set_cons_zero, List.set_cons_succ]; rfl)
        refine E_split [9] (by kernel_rfl) (by simp) (fun i_ hi_ => ?_)
        simp only [List.mem_cons, List.not_mem_nil, or_false] at hi_
        rcases hi_ with rfl
        (apply K_st (i := 9) hS hz #[true, true, true, true, true, true, true, true, true, true]; rfl; rfl; (show _ = _; kernel_rfl); rfl; rfl; rfl; (focus ((conv => lhs; whnf) <;> rfl)); (focus ((repeat (first | exact .here | apply At.there)); done)); (first | assumption | (refine Or.inl ?_; assumption) | (refine Or.inr ?_; focus (simp; done))); rfl; rfl; (first | decide | assumption | (simp only [List.length_map, List.length_set]; omega)))
        clear hS hz
        intro w_ hS hz
        try simp only [List.set_cons_zero, List.set_cons_succ] at hS
        refine E_done (by kernel_rfl) ?_
        go_end0
        change St _ _ _ [.blk bu _ (.pointer (some ⟨bC, 0, none⟩) :: ((shl1 0 t).map bV).set 0 (bV u2))] at hS
        rw [← List.map_set, ← HU2.out, ← HZ.out] at hS
        refine ⟨⟨_, rfl⟩, hS.grownBy, ?_⟩
        rw [HD.out]
        exact hS.blk (b := bu) (by focus ((repeat (first | exact .here | apply At.there)); done))
      · have hd : dbl t = shl1 0 t := by unfold dbl; rw [if_neg hc1]
        have HD := Lib.hid hd
        have hcn : (((cry 0 t).toNat : Int) == 1) = false := by
          rw [beq_eq_false_iff_ne]
          intro e
          exact hc1 (UInt8.toNat_inj.1 (by show _ = 1; omega))
        clear hd hc1
        generalize cry 0 t = c at *
        go_wp2
        go_end0
        refine ⟨⟨_, rfl⟩, hS.grownBy, ?_⟩
        rw [HD.out]
        exact hS.blk (b := bu) (by focus ((repeat (first | exact .here | apply At.there)); done))
end Go.Proofs.Ythamhaomfdgdjaa
