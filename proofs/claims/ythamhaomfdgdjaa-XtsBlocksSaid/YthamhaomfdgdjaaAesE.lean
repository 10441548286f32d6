/- AES: Encrypt. -/
import Derived.Test.YthamhaomfdgdjaaAesM
import Derived.Test.YthamhaomfdgdjaaAgg
namespace Go.Proofs.Ythamhaomfdgdjaa
open Go.RowKit

theorem St.neOld {w0 w : World} {H : List Ent} {f : Ent → List Ent} {b c : Nat} {e : TypeId} {L : List Value} (h : St (Kp w0) w0 w H) (hat : At H (.blk b e L) f) (hl : c < w0.heap.size) : c ≠ b := by
  intro hcb
  subst hcb
  exact h.off _ hat.mem _ rfl hl
set_option maxRecDepth 8000 in
theorem rd_sub {w : World} {bC : Nat} {K : List UInt8} (h : Rd w (some ⟨bC, 0, none⟩) (ciC K)) : Rd w (some ⟨bC, 0, none⟩) (sbT.map bV) := by
  have := Rd.take h 256
  have e : (ciC K).take 256 = sbT.map bV := by
    unfold ciC
    rw [List.map_append, List.map_append, List.append_assoc, List.take_append_of_le_length (by rw [List.length_map]; decide), List.take_of_length_le (by rw [List.length_map]; decide)]
  rwa [e] at this
set_option maxRecDepth 8000 in
theorem rd_back {w : World} {bC : Nat} {K : List UInt8} (h : Rd w (some ⟨bC, 0, none⟩) (ciC K)) : Rd w (some ⟨bC, 256, none⟩) (bkT.map bV) := by
  have := Rd.take (Rd.drop h 256) 256
  have e : ((ciC K).drop 256).take 256 = bkT.map bV := by
    unfold ciC
    rw [List.map_append, List.map_append, List.append_assoc, List.drop_append_of_le_length (by rw [List.length_map]; decide), List.drop_of_length_le (by rw [List.length_map]; decide), List.nil_append, List.take_append_of_le_length (by rw [List.length_map]; decide), List.take_of_length_le (by rw [List.length_map]; decide)]
  rw [e] at this
  exact this

set_option maxRecDepth 8000 in
set_option maxHeartbeats 1600000 in
theorem encrypt_any (bC : Nat) (K b : List UInt8) (w : World) (hC : Rd w (some ⟨bC, 0, none⟩) (ciC K)) (hl : bC < w.heap.size) (hb : b.length = 16) (hK : K.length = 240) :
    Calls Try.prog 14 #[.pointer (some ⟨bC, 0, none⟩), .agg (b.map bV).toArray] w fun e w' => e = .returned (.agg ((encF K b).map bV).toArray) ∧ Below w.heap.size w w' := by
  have hS := St.start w
  have HC := Lib.hid hC
  have HB := Lib.hid hb
  have HK := Lib.hid hK
  have HER := Lib.hid (show ∀ r, r ≤ 14 → ((encR K b r).map bV).length = 16 from fun r hr => by rw [List.length_map]; exact encR_len hK hb r hr)
  clear hC hb hK
  go_enter Try.func14, Try.ntmps14
  go_wp2_with (first | ((with_reducible show wpList _ _ _ (⟨some 3, Op.box _ _, _, _, _, _⟩ :: _) _ _); go_loud (apply S_box hS; rfl; rfl; (focus ((conv => lhs; whnf) <;> rfl)); rfl; clear hS; intro b3 w_ hS)) | ((with_reducible show wpList _ _ _ (⟨some 4, Op.alloc _, _, _, _, _⟩ :: _) _ _); go_loud (refine S_alloc (z := .agg ([.int .u8 0, .int .u8 0, .int .u8 0, .int .u8 0, .int .u8 0, .int .u8 0, .int .u8 0, .int .u8 0, .int .u8 0, .int .u8 0, .int .u8 0, .int .u8 0, .int .u8 0, .int .u8 0, .int .u8 0, .int .u8 0] : List Value).toArray) (L := [.int .u8 0, .int .u8 0, .int .u8 0, .int .u8 0, .int .u8 0, .int .u8 0, .int .u8 0, .int .u8 0, .int .u8 0, .int .u8 0, .int .u8 0, .int .u8 0, .int .u8 0, .int .u8 0, .int .u8 0, .int .u8 0]) hS rfl rfl ?_ ?_ ?_; (show _ = _; kernel_rfl); (show _ = _; kernel_rfl); clear hS; intro b4 w_ hS)) | (go_at_call 25; refine (add_any bC b3 K b 0 _ (hS.rdp HC.out) (hS.neOld (b := b3) (by focus ((repeat (first | exact .here | apply At.there)); done)) hl) (hS.blk (by focus ((repeat (first | exact .here | apply At.there)); done))) HB.out HK.out (by decide)).mono ?_; rintro e w_ ⟨rfl, hg_, hB_⟩; replace hS := hS.updB (by focus ((repeat (first | exact .here | apply At.there)); done)) hg_ hB_; clear hg_ hB_))
  go_loopw [5] (fun i wr => ∃ r : Nat, i = .int .i64 ((r : Int) + 1) ∧ r ≤ 14 ∧ St (Kp w) w wr [.blk b4 42 (List.replicate 16 (.int .u8 0)), .blk b3 42 ((encR K b r).map bV)]) (fun i _ => 20 - (intOf i).toNat)
  case atStart => exact ⟨0, rfl, by omega, hS⟩
  case round =>
    clear hS
    obtain ⟨r, rfl, hr, hS⟩ := hrel
    by_cases hlt : r < 14
    · have hlr := Lib.hid (HER.out r hr)
      have hRL := Lib.hid (show ((rowsE (encR K b r)).map bV).length = 16 by rw [List.length_map, rowsE_len])
      have hML := Lib.hid (show ((mixE (rowsE (encR K b r))).map bV).length = 16 by rw [List.length_map, mixE_len])
      have hE := Lib.hid (show encR K b (r + 1) = addF (mxE (r + 1) (rowsE (encR K b r))) (rk K (r + 1)) from rfl)
      have hel := Lib.hid (encR_len HK.out HB.out r hr)
      have HMX := Lib.hid (mxL_E (rowsE_len (encR K b r)))
      have c1 : (r : Int) + 1 ≤ 14 := by omega
      go_wp2
      obtain ⟨N_, hN_⟩ := hS.sz
      have h0N_ := hS.size
      rw [hN_] at h0N_
      refine E_start (hR := KeepS.pre (SN N_ [b3])) #[false, false, false, false, false, false] (by kernel_rfl) rfl rfl (fun w_r1 hx_r1 he_r1 => ?_)
      have hzE_ : w_r1.heap.size = N_ := by rw [he_r1]; exact hN_
      have hz : N_ ≤ w_r1.heap.size := Nat.le_of_eq hzE_.symm
      replace hS := hS.drew; rw [← he_r1] at hS
      clear hx_r1 he_r1
      clear hzE_ hN_
      refine E_take (hR := KeepS.pre (SN N_ [b3])) (i := 1) (N := (some 13)) (v := ?vr1_1) (a' := ?ar1_1) #[false, true, false, false, false, false] rfl rfl (by kernel_rfl) (fun _ _ _ h => h) (by rfl) ?hyr1_1 ?har1_1 ?_
      case hyr1_1 =>
        intro w' hx
        go_simp
        with_reducible rfl
      case har1_1 => (simp only [Act.put, List.setIfInBounds_toArray, List.set_cons_zero, List.set_cons_succ]; rfl)
      refine E_take (hR := KeepS.pre (SN N_ [b3])) (i := 2) (N := (some 14)) (v := ?vr1_2) (a' := ?ar1_2) #[false, true, true, false, false, false] rfl rfl (by kernel_rfl) (fun _ _ _ h => h) (by rfl) ?hyr1_2 ?har1_2 ?_
      case hyr1_2 =>
        intro w' hx
        go_simp
        with_reducible rfl
      case har1_2 => (simp only [Act.put, List.setIfInBounds_toArray, List.set_cons_zero, List.set_cons_succ]; rfl)
      refine E_take (hR := KeepS.pre (SN N_ [b3])) (i := 3) (N := (some 15)) (v := ?vr1_3) (a' := ?ar1_3) #[false, true, true, true, false, false] rfl rfl (by kernel_rfl) (fun _ _ _ h => h) (by rfl) ?hyr1_3 ?har1_3 ?_
      case hyr1_3 =>
        intro w' hx
        go_simp
        with_reducible rfl
      case har1_3 => (simp only [Act.put, List.setIfInBounds_toArray, List.set_cons_zero, List.set_cons_succ]; rfl)
      refine E_split [0] (by kernel_rfl) (by simp) (fun i_ hi_ => ?_)
      simp only [List.mem_cons, List.not_mem_nil, or_false] at hi_
      rcases hi_ with rfl
      (apply K_val (i := 0) (T := (some 12)) #[true, true, true, true, false, false]; rfl; rfl; (show _ = _; kernel_rfl); rfl; (apply R_ldAll hS; rfl; rfl; (focus ((repeat (first | exact .here | apply At.there)); done)); rfl; (rw [hlr.out]; rfl)); exact KeepS.refl _ _)
      rintro _ rfl
      simp only [Act.put, List.setIfInBounds_toArray, List.set_cons_zero, List.set_cons_succ]
      refine E_split [4] (by kernel_rfl) (by simp) (fun i_ hi_ => ?_)
      simp only [List.mem_cons, List.not_mem_nil, or_false] at hi_
      rcases hi_ with rfl
      refine E_call1 (i := 4) (N := (some 16)) (args := ?gr1_4) #[true, true, true, true, true, false] rfl rfl (by kernel_rfl) (by rfl) Try.func26 (by kernel_rfl) rfl rfl ?hgr1_4 ?_
      case hgr1_4 => (simp only [List.map_toArray, List.map_cons, List.map_nil]; go_simp; with_reducible rfl)
      refine (rowsE_any bC 0 (encR K b r) _ (rd_sub (hS.rdp HC.out)) hel.out).mono ?_
      rintro e w_ ⟨rfl, hb_⟩
      (refine ⟨_, rfl, KeepS.below hb_ hz, ?_⟩; replace hS := hS.ext hb_; replace hz := Nat.le_trans hz hb_.size; clear hb_)
      rintro _ rfl
      simp only [Act.put, List.setIfInBounds_toArray, List.set_cons_zero, List.set_cons_succ]
      refine E_split [5] (by kernel_rfl) (by simp) (fun i_ hi_ => ?_)
      simp only [List.mem_cons, List.not_mem_nil, or_false] at hi_
      rcases hi_ with rfl
      (first | (apply K_stAll (i := 5) hS hz #[true, true, true, true, true, true]; rfl; rfl; kernel_rfl; rfl; rfl; rfl; rfl; (focus ((repeat (first | exact .here | apply At.there)); done)); (first | assumption | (refine Or.inl ?_; assumption) | (refine Or.inr ?_; focus (simp; done))); (first | assumption | (fail) | (focus (simp [bV, Value.oneCell']; done))); (first | rfl | ((rw [hRL.out]; rfl))); (first | rfl | ((rw [hRL.out, hlr.out])))) | (apply K_stPart (i := 5) hS hz #[true, true, true, true, true, true]; rfl; rfl; kernel_rfl; rfl; rfl; rfl; rfl; (focus ((repeat (first | exact .here | apply At.there)); done)); (first | assumption | (refine Or.inl ?_; assumption) | (refine Or.inr ?_; focus (simp; done))); (first | assumption | (fail) | (focus (simp [bV, Value.oneCell']; done))); (first | rfl | ((rw [hRL.out]; rfl))); (first | decide | ((rw [hRL.out, hlr.out])))))
      clear hS hz
      intro w_ hS hz
      try simp only [List.set_cons_zero, List.set_cons_succ] at hS
      refine E_done (by kernel_rfl) ?_
      have hrel := Lib.hid (rowsE_len (encR K b r))
      generalize rowsE (encR K b r) = y at *
      by_cases h13 : r < 13
      · have c2 : (r : Int) + 1 < 14 := by omega
        have hmx := Lib.hid (show mxE (r + 1) y = mixE y by unfold mxE; rw [if_pos (by omega)])
        go_wp2_with (first | ((with_reducible show wpList _ _ _ (⟨some 19, Op.load _ _, _, _, _, _⟩ :: _) _ _); go_loud (apply S_ldAll hS; rfl; rfl; rfl; (focus ((repeat (first | exact .here | apply At.there)); done)); rfl; (first | rfl | (rw [hRL.out]; rfl) | (simp only [List.length_map, List.length_set]; rfl)))) | ((with_reducible show wpList _ _ _ (⟨some 20, Op.build _ _, _, _, _, _⟩ :: _) _ _); go_loud (apply S_build (L := ([2, 3, 1, 1] : List UInt8).map bV); rfl; rfl; kernel_rfl)) | (go_at_call 27; refine (mix_any [2, 3, 1, 1] y _ (.inl rfl) hrel.out).mono ?_; rw [HMX.out]; rintro e w_ ⟨rfl, hb_⟩; replace hS := hS.ext hb_; clear hb_) | ((with_reducible show wpList _ _ _ (⟨_, Op.store _ _ _, _, _, _, _⟩ :: _) _ _); go_loud (apply S_stAll hS; rfl; rfl; rfl; rfl; (focus ((repeat (first | exact .here | apply At.there)); done)); (first | assumption | (first | (rw [hML.out]; rfl) | (rw [hML.out, hRL.out])) | (focus (simp [bV, wV, Value.oneCell']; done)) | (focus (simp [bV, Value.oneCell']; done))); (first | rfl | (first | (rw [hML.out]; rfl) | (rw [hML.out, hRL.out]))); (first | rfl | (first | (rw [hML.out]; rfl) | (rw [hML.out, hRL.out]))); clear hS; intro w_ hS)) | (go_at_call 25; refine (add_any bC b3 K (mixE y) (r + 1) _ (hS.rdp HC.out) (hS.neOld (b := b3) (by focus ((repeat (first | exact .here | apply At.there)); done)) hl) (hS.blk (by focus ((repeat (first | exact .here | apply At.there)); done))) (mixE_len y) HK.out (by omega)).mono ?_; rintro e w_ ⟨rfl, hg_, hB_⟩; replace hS := hS.updB (by focus ((repeat (first | exact .here | apply At.there)); done)) hg_ hB_; clear hg_ hB_))
        rw [← hmx.out, ← hE.out] at hS
        go_roundw
        case rel => exact ⟨r + 1, by go_num, by omega, hS⟩
        case measure => simp [intOf]; omega
      · have c2 : ¬ (r : Int) + 1 < 14 := by omega
        have hmx := Lib.hid (show mxE (r + 1) y = y by unfold mxE; rw [if_neg (by omega)])
        go_wp2_with (first | (go_at_call 25; refine (add_any bC b3 K y (r + 1) _ (hS.rdp HC.out) (hS.neOld (b := b3) (by focus ((repeat (first | exact .here | apply At.there)); done)) hl) (hS.blk (by focus ((repeat (first | exact .here | apply At.there)); done))) hrel.out HK.out (by omega)).mono ?_; rintro e w_ ⟨rfl, hg_, hB_⟩; replace hS := hS.updB (by focus ((repeat (first | exact .here | apply At.there)); done)) hg_ hB_; clear hg_ hB_))
        have hS2 : St (Kp w) w w_ [.blk b4 42 (List.replicate 16 (.int .u8 0)), .blk b3 42 ((encR K b (r + 1)).map bV)] := by rw [hE.out, hmx.out]; exact hS
        go_roundw
        case rel => exact ⟨r + 1, by go_num, by omega, hS2⟩
        case measure => simp [intOf]; omega
    · have hr14 : r = 14 := by omega
      rw [hr14] at hS
      have hlr := Lib.hid (show ((encF K b).map bV).length = 16 from HER.out 14 (by omega))
      change St _ _ _ [_, .blk b3 _ ((encF K b).map bV)] at hS
      have c1 : ¬ (r : Int) + 1 ≤ 14 := by omega
      go_wp2_with (first | ((with_reducible show wpList _ _ _ (⟨some 25, Op.load _ _, _, _, _, _⟩ :: _) _ _); go_loud (apply S_ldAll hS; rfl; rfl; rfl; (focus ((repeat (first | exact .here | apply At.there)); done)); rfl; (first | rfl | (rw [hlr.out]; rfl) | (simp only [List.length_map, List.length_set]; rfl)))) | ((with_reducible show wpList _ _ _ (⟨_, Op.store _ _ _, _, _, _, _⟩ :: _) _ _); go_loud (apply S_stAll hS; rfl; rfl; rfl; rfl; (focus ((repeat (first | exact .here | apply At.there)); done)); (first | assumption | (rw [hlr.out]; rfl) | (focus (simp [bV, wV, Value.oneCell']; done)) | (focus (simp [bV, Value.oneCell']; done))); (first | rfl | (rw [hlr.out]; rfl)); (first | rfl | (rw [hlr.out]; rfl)); clear hS; intro w_ hS)))
      (try simp only [Exit.inBlock, Exit.then]); refine bodyPost_ret (results_cell_one hS rfl _ rfl (by focus ((repeat (first | exact .here | apply At.there)); done)) rfl (by rw [hlr.out]; rfl)) rfl ⟨rfl, hS.below⟩
end Go.Proofs.Ythamhaomfdgdjaa
