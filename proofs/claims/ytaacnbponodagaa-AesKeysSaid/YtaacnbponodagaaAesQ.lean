/- The walk of AesKeys. -/
import Derived.Test.YtaacnbponodagaaAesL
import Derived.Lib.SmallJoins
namespace Go.Proofs.Ytaacnbponodagaa
open Go.RowKit

def z16 : List UInt8 := List.replicate 16 0
set_option maxRecDepth 8000 in
set_option maxHeartbeats 1600000 in
theorem keys_walk (A0 : Option Addr) (n0 c0 : Nat) (key : List UInt8) (w : World) (hn0 : key.length = n0) (hr0 : RdB w A0 key) :
    Calls Try.prog 3 #[.slice A0 n0 c0] w fun e w' => e = .returned (.bool true) ∧ Below w.heap.size w w' := by
  have hS := St.start w
  have HN := Lib.hid hn0
  have HR := Lib.hid hr0
  clear hn0 hr0
  by_cases h1 : 1000 < n0
  · go_enter Try.func3, Try.ntmps3
    go_upto_region 3 with (go_at_call 7; refine (awake_any _).mono ?_; rintro e w_ ⟨rfl, hb_⟩; replace hS := hS.ext hb_; clear hb_)
    all_goals (go_ret; exact ⟨rfl, hS.below⟩)
  have i1 : ¬ (1000 : Int) < (n0 : Int) := by omega
  by_cases h32 : n0 = 32
  · subst h32
    have hKL := Lib.hid (keysF_len HN.out)
    have hz := Lib.hid (show z16.length = 16 from rfl)
    generalize hKK : keysF key = K at *
    have HKK := Lib.hid (show True → keysF key = K from fun _ => hKK)
    clear hKK
    have hel := Lib.hid (encF_len hKL.out hz.out)
    have hlx := Lib.hid (show ((encF K z16).map bV).length = 16 by rw [List.length_map]; exact hel.out)
    have f3 := fun wx => eq16s hel.out wx
    have hk0 : 0 < key.length := by rw [HN.out]; decide
    have v0 : (key.map bV)[0]? = some (.int .u8 ((key.getD 0 0).toNat : Int)) := mapGetB (by rw [HN.out]; decide)
    go_enter Try.func3, Try.ntmps3
    go_upto_region 4 with (first | (go_at_call 7; refine (awake_any _).mono ?_; rintro e w_ ⟨rfl, hb_⟩; replace hS := hS.ext hb_; clear hb_) | ((with_reducible show wpList _ _ _ (⟨some 15, Op.buildSlice _ _ _, _, _, _, _⟩ :: _) _ _); go_loud (apply S_bslice hS; rfl; (go_simp; first | with_reducible rfl | (refine ⟨?_, ?_⟩ <;> with_reducible rfl)); rfl; rfl; rfl; rfl; clear hS; intro b15 w_ hS)) | ((with_reducible show wpList _ _ _ (⟨some 17, Op.call _, _, _, _, _⟩ :: _) _ _); go_loud (apply S_app TB hS; rfl; rfl; rfl; (focus ((repeat (first | exact .here | apply At.there)); done)); rfl; exact (RdB.src (c := c0) Try.underlying22 (hS.rdp HR.out) HN.out); (unfold maxLen; omega); omega; clear hS; intro A3 c3 w_ hS; (try simp only [Nat.zero_add, List.nil_append] at hS ⊢))))
    obtain ⟨g, cap, e3⟩ := Joins.ownsRow_form (hS.get (x := .own _ _ (.slice A3 32 c3) _ _) (by focus ((repeat (first | exact .here | apply At.there)); done))) (by decide)
    cases e3
    go_upto_region 9 with (first | (go_at_call 8; refine (new_any (some ⟨g, 0, none⟩) c3 key _ HN.out (hS.ownRd (A := some ⟨g, 0, none⟩) (by focus ((repeat (first | exact .here | apply At.there)); done))) (hS.ownCap (A := some ⟨g, 0, none⟩) (by focus ((repeat (first | exact .here | apply At.there)); done)))).mono ?_; rintro e w_ ⟨bC, rfl, hge_, hB_, hb_⟩; rw [HKK.out trivial] at hB_; replace hS := hS.gotBlk hb_ hge_ hB_; clear hb_ hge_ hB_) | ((with_reducible show wpList _ _ _ (⟨some 33, Op.build _ _, _, _, _, _⟩ :: _) _ _); go_loud (apply S_build (L := z16.map bV); rfl; rfl; kernel_rfl)) | (go_at_call 9; refine (encrypt_any _ K z16 _ (hS.blkRd (b := bC) (by focus ((repeat (first | exact .here | apply At.there)); done))) (hS.blkLt (b := bC) (by focus ((repeat (first | exact .here | apply At.there)); done))) hz.out hKL.out).mono ?_; rintro e w_ ⟨rfl, hb_⟩; replace hS := hS.ext hb_; clear hb_) | ((with_reducible show wpList _ _ _ (⟨some 6, Op.alloc _, _, _, _, _⟩ :: _) _ _); go_loud (refine S_alloc (z := .agg ([.int .u8 0, .int .u8 0, .int .u8 0, .int .u8 0, .int .u8 0, .int .u8 0, .int .u8 0, .int .u8 0, .int .u8 0, .int .u8 0, .int .u8 0, .int .u8 0, .int .u8 0, .int .u8 0, .int .u8 0, .int .u8 0] : List Value).toArray) (L := [.int .u8 0, .int .u8 0, .int .u8 0, .int .u8 0, .int .u8 0, .int .u8 0, .int .u8 0, .int .u8 0, .int .u8 0, .int .u8 0, .int .u8 0, .int .u8 0, .int .u8 0, .int .u8 0, .int .u8 0, .int .u8 0]) hS rfl rfl ?_ ?_ ?_; (show _ = _; kernel_rfl); (show _ = _; kernel_rfl); clear hS; intro b6 w_ hS)) | ((with_reducible show wpList _ _ _ (⟨_, Op.store _ _ _, _, _, _, _⟩ :: _) _ _); go_loud (apply S_stAll hS; rfl; rfl; rfl; rfl; (focus ((repeat (first | exact .here | apply At.there)); done)); (first | assumption | (rw [hlx.out]; rfl) | (focus (simp [bV, wV, Value.oneCell']; done)) | (focus (simp [bV, Value.oneCell']; done))); (first | rfl | (rw [hlx.out]; rfl)); (first | rfl | (rw [hlx.out]; rfl)); clear hS; intro w_ hS)) | ((with_reducible show wpList _ _ _ (⟨some 38, Op.load _ _, _, _, _, _⟩ :: _) _ _); go_loud (first | (apply S_ld hS; rfl; rfl; rfl; (focus ((repeat (first | exact .here | apply At.there)); done)); rfl; (first | exact v0 | assumption | rfl | exact mapGetB (by first | assumption | (simp only [List.length_map, List.length_set, List.length_replicate, List.length_append, List.length_cons, List.length_nil]; omega)) | exact mapGet _ (by first | assumption | (simp only [List.length_map, List.length_set, List.length_replicate, List.length_append, List.length_cons, List.length_nil]; omega)))) | (apply S_ldOwn hS; rfl; rfl; rfl; (focus ((repeat (first | exact .here | apply At.there)); done)); rfl; (first | rfl | exact mapGetB (by first | assumption | (simp only [List.length_map, List.length_set, List.length_replicate, List.length_append, List.length_cons, List.length_nil]; omega)) | exact mapGet _ (by first | assumption | (simp only [List.length_map, List.length_set, List.length_replicate, List.length_append, List.length_cons, List.length_nil]; omega)))))) | ((with_reducible show wpList _ _ _ (⟨_, Op.store _ _ _, _, _, _, _⟩ :: _) _ _); go_loud (first | (apply S_st hS; rfl; rfl; rfl; (focus ((conv => lhs; whnf) <;> rfl)); (focus ((repeat (first | exact .here | apply At.there)); done)); rfl; rfl; (first | (fail) | decide | assumption | (simp only [List.length_map, List.length_set, List.length_replicate, List.length_append, List.length_cons, List.length_nil]; omega)); clear hS; intro w_ hS; (try simp only [List.set_cons_zero, List.set_cons_succ] at hS)) | (apply S_stOwn hS; rfl; rfl; rfl; (focus ((conv => lhs; whnf) <;> rfl)); (focus ((repeat (first | exact .here | apply At.there)); done)); rfl; rfl; (first | decide | assumption | omega); clear hS; intro w_ hS; (try simp only [List.set_cons_zero, List.set_cons_succ] at hS)))))
    refine E_start (hR := Ext.pre) #[false, false, false, false, false, false, false, false, false, false] (by kernel_rfl) rfl rfl (fun w_r1 hx_r1 he_r1 => ?_)
    clear he_r1
    replace hS := hS.ext hx_r1; clear hx_r1
    refine E_take (hR := Ext.pre) (i := 0) (N := (some 41)) (v := ?vr1_0) (a' := ?ar1_0) #[true, false, false, false, false, false, false, false, false, false] rfl rfl (by kernel_rfl) (fun _ _ _ h => h) (by rfl) ?hyr1_0 ?har1_0 ?_
    case hyr1_0 =>
      intro w' hx
      go_simp
      with_reducible rfl
    case har1_0 => (simp only [Act.put, List.setIfInBounds_toArray, List.set_cons_zero, List.set_cons_succ]; rfl)
    refine E_take (hR := Ext.pre) (i := 1) (N := (some 42)) (v := ?vr1_1) (a' := ?ar1_1) #[true, true, false, false, false, false, false, false, false, false] rfl rfl (by kernel_rfl) (fun _ _ _ h => h) (by rfl) ?hyr1_1 ?har1_1 ?_
    case hyr1_1 =>
      intro w' hx
      go_simp
      with_reducible rfl
    case har1_1 => (simp only [Act.put, List.setIfInBounds_toArray, List.set_cons_zero, List.set_cons_succ]; rfl)
    refine E_take (hR := Ext.pre) (i := 2) (N := (some 43)) (v := ?vr1_2) (a' := ?ar1_2) #[true, true, true, false, false, false, false, false, false, false] rfl rfl (by kernel_rfl) (fun _ _ _ h => h) (by rfl) ?hyr1_2 ?har1_2 ?_
    case hyr1_2 =>
      intro w' hx
      go_simp
      with_reducible rfl
    case har1_2 => (simp only [Act.put, List.setIfInBounds_toArray, List.set_cons_zero, List.set_cons_succ]; rfl)
    refine E_take (hR := Ext.pre) (i := 3) (N := (some 44)) (v := ?vr1_3) (a' := ?ar1_3) #[true, true, true, true, false, false, false, false, false, false] rfl rfl (by kernel_rfl) (fun _ _ _ h => h) (by rfl) ?hyr1_3 ?har1_3 ?_
    case hyr1_3 =>
      intro w' hx
      go_simp
      with_reducible rfl
    case har1_3 => (simp only [Act.put, List.setIfInBounds_toArray, List.set_cons_zero, List.set_cons_succ]; rfl)
    refine E_take (hR := Ext.pre) (i := 4) (N := (some 45)) (v := ?vr1_4) (a' := ?ar1_4) #[true, true, true, true, true, false, false, false, false, false] rfl rfl (by kernel_rfl) (fun _ _ _ h => h) (by rfl) ?hyr1_4 ?har1_4 ?_
    case hyr1_4 =>
      intro w' hx
      (apply Eq.trans; (apply R_build (L := z16.map bV); rfl; (show _ = _; kernel_rfl)); with_reducible rfl)
    case har1_4 => (simp only [Act.put, List.setIfInBounds_toArray, List.set_cons_zero, List.set_cons_succ]; rfl)
    refine E_take (hR := Ext.pre) (i := 6) (N := (some 47)) (v := ?vr1_6) (a' := ?ar1_6) #[true, true, true, true, true, false, true, false, false, false] rfl rfl (by kernel_rfl) (fun _ _ _ h => h) (by rfl) ?hyr1_6 ?har1_6 ?_
    case hyr1_6 =>
      intro w' hx
      (apply Eq.trans; (apply R_ldPartQ (n := 16) (hS.ext hx); rfl; rfl; (focus ((repeat (first | exact .here | apply At.there)); done)); rfl; rfl; ((rw [hlx.out]; decide)); exact (List.take_of_length_le (by rw [List.drop_zero, hlx.out]; decide))); with_reducible rfl)
    case har1_6 => (simp only [Act.put, List.setIfInBounds_toArray, List.set_cons_zero, List.set_cons_succ]; rfl)
    refine E_call (i := 5) (N := (some 46)) (args := ?gr1_5) #[true, true, true, true, true, true, true, false, false, false] rfl rfl (by kernel_rfl) (by rfl) Try.func9 (by kernel_rfl) rfl rfl ?hgr1_5 ?_
    case hgr1_5 => (simp only [List.map_toArray, List.map_cons, List.map_nil]; go_simp; with_reducible rfl)
    refine (encrypt_any _ K z16 _ (hS.blkRd (b := bC) (by focus ((repeat (first | exact .here | apply At.there)); done))) (hS.blkLt (b := bC) (by focus ((repeat (first | exact .here | apply At.there)); done))) hz.out hKL.out).mono ?_
    rintro e w_ ⟨rfl, hb_⟩
    refine ⟨_, rfl, hb_, ?_⟩
    replace hS := hS.ext hb_
    clear hb_
    rintro _ rfl
    simp only [Act.put, List.setIfInBounds_toArray, List.set_cons_zero, List.set_cons_succ]
    refine E_take (hR := Ext.pre) (i := 7) (N := (some 48)) (v := ?vr1_7) (a' := ?ar1_7) #[true, true, true, true, true, true, true, true, false, false] rfl rfl (by kernel_rfl) (fun _ _ _ h => h) (by rfl) ?hyr1_7 ?har1_7 ?_
    case hyr1_7 =>
      intro w' hx
      go_simp
      with_reducible rfl
    case har1_7 => (simp only [Act.put, List.setIfInBounds_toArray, List.set_cons_zero, List.set_cons_succ]; rfl)
    refine E_take (hR := Ext.pre) (i := 8) (N := (some 49)) (v := ?vr1_8) (a' := ?ar1_8) #[true, true, true, true, true, true, true, true, true, false] rfl rfl (by kernel_rfl) (fun _ _ _ h => h) (by rfl) ?hyr1_8 ?har1_8 ?_
    case hyr1_8 =>
      intro w' hx
      go_simp
      with_reducible rfl
    case har1_8 => (simp only [Act.put, List.setIfInBounds_toArray, List.set_cons_zero, List.set_cons_succ]; rfl)
    refine E_take (hR := Ext.pre) (i := 9) (N := (some 2)) (v := ?vr1_9) (a' := ?ar1_9) #[true, true, true, true, true, true, true, true, true, true] rfl rfl (by kernel_rfl) (fun _ _ _ h => h) (by rfl) ?hyr1_9 ?har1_9 ?_
    case hyr1_9 =>
      intro w' hx
      go_simp
      with_reducible rfl
    case har1_9 => (simp only [Act.put, List.setIfInBounds_toArray, List.set_cons_zero, List.set_cons_succ]; rfl)
    refine E_done (by kernel_rfl) ?_
    go_wp2
    go_ret
    exact ⟨rfl, hS.below⟩
  · have h32i : ((n0 : Int) != 32) = true := by simp only [bne_iff_ne, ne_eq]; omega
    go_enter Try.func3, Try.ntmps3
    go_wp2_with (first | (go_at_call 7; refine (awake_any _).mono ?_; rintro e w_ ⟨rfl, hb_⟩; replace hS := hS.ext hb_; clear hb_) | ((with_reducible show wpList _ _ _ (⟨some 15, Op.buildSlice _ _ _, _, _, _, _⟩ :: _) _ _); go_loud (apply S_bslice hS; rfl; (go_simp; first | with_reducible rfl | (refine ⟨?_, ?_⟩ <;> with_reducible rfl)); rfl; rfl; rfl; rfl; clear hS; intro b15 w_ hS)) | ((with_reducible show wpList _ _ _ (⟨some 17, Op.call _, _, _, _, _⟩ :: _) _ _); go_loud (apply S_app TB hS; rfl; rfl; rfl; (focus ((repeat (first | exact .here | apply At.there)); done)); rfl; exact (RdB.src (c := c0) Try.underlying22 (hS.rdp HR.out) HN.out); (unfold maxLen; omega); omega; clear hS; intro A3 c3 w_ hS; (try simp only [Nat.zero_add, List.nil_append] at hS ⊢))) | (go_at_call 8; refine (new_no A3 n0 c3 _ h32).mono ?_; rintro e w_ ⟨rfl, hb_⟩; replace hS := hS.ext hb_; clear hb_))
    go_ret
    exact ⟨rfl, hS.below⟩
end Go.Proofs.Ytaacnbponodagaa
