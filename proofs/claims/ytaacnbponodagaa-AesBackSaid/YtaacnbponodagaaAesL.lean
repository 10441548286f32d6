/- The walks of AesKeys and AesApart. -/
import Derived.Test.YtaacnbponodagaaAesA
import Derived.Test.YtaacnbponodagaaEqF
import Derived.Test.YtaacnbponodagaaArr
namespace Go.Proofs.Ytaacnbponodagaa
open Go.RowKit

theorem ints_u8 : ∀ (z : List Int), (∀ y ∈ z, (Lit.int .u8 y).wf = true) → ∃ bs : List UInt8, bs.length = z.length ∧ z.map (Value.int .u8) = bs.map bV
  | [], _ => ⟨[], rfl, rfl⟩
  | y :: z, h => by
    obtain ⟨bs, h1, h2⟩ := ints_u8 z fun x hx => h x (List.mem_cons_of_mem _ hx)
    have hy : 0 ≤ y ∧ y ≤ 255 := by
      have := h y (List.mem_cons_self ..)
      simpa [Lit.wf, IntKind.min, IntKind.max, IntKind.signed, IntKind.bits] using this
    refine ⟨UInt8.ofNat y.toNat :: bs, by simp [h1], ?_⟩
    rw [List.map_cons, List.map_cons, h2]
    congr 1
    unfold bV
    congr 1
    have : (UInt8.ofNat y.toNat).toNat = y.toNat := UInt8.toNat_ofNat_of_lt' (by show y.toNat < 256; omega)
    rw [this]; omega
theorem map_bV_inj {a b : List UInt8} : a.map bV = b.map bV ↔ a = b := by
  constructor
  · intro h
    refine List.map_inj_right (f := bV) (fun x y hxy => ?_) |>.1 h
    unfold bV at hxy
    injection hxy with _ h2
    exact UInt8.toNat_inj.1 (by omega)
  · intro h; rw [h]
theorem eq16 {a b : List UInt8} (ha : a.length = 16) (hb : b.length = 16) (w : World) :
    (binOp .eql 28 (.agg (a.map bV).toArray) (.agg (b.map bV).toArray)).run Try.prog w = .ok (.bool (decide (a = b))) w :=
  run_eql_flat (ls := List.replicate 16 (.int .u8)) (by kernel_rfl) (by kernel_rfl) (mtch_bytes a 16 ha) (mtch_bytes b 16 hb) map_bV_inj w
theorem eq16s {a : List UInt8} (ha : a.length = 16) (w : World) :
    (binOp .eql 28 (.agg (a.map bV).toArray) (.agg (a.map bV).toArray)).run Try.prog w = .ok (.bool true) w := by
  rw [eq16 ha ha]; simp
theorem enc_inj {K a b : List UInt8} (hK : K.length = 240) (ha : a.length = 16) (hb : b.length = 16) : (encF K a = encF K b) ↔ (a = b) := by
  constructor
  · intro h
    have := congrArg (decF K) h
    rwa [dec_enc hK ha, dec_enc hK hb] at this
  · intro h; rw [h]

set_option maxRecDepth 8000 in
set_option maxHeartbeats 1600000 in
theorem apart_walk (key a b : List UInt8) (w : World) (hk : key.length = 32) (ha : a.length = 16) (hb : b.length = 16) :
    Calls Try.prog 6 #[.agg (key.map bV).toArray, .agg (a.map bV).toArray, .agg (b.map bV).toArray] w fun e w' => e = .returned (.bool true) ∧ Below w.heap.size w w' := by
  have hS := St.start w
  have HK := Lib.hid hk
  have HA := Lib.hid ha
  have HB := Lib.hid hb
  have hla := Lib.hid (show (a.map bV).length = 16 by rw [List.length_map]; exact ha)
  have hlb := Lib.hid (show (b.map bV).length = 16 by rw [List.length_map]; exact hb)
  have HKL := Lib.hid (keysF_len hk)
  clear hk ha hb
  generalize hKK : keysF key = K at *
  have HKK := Lib.hid (show True → keysF key = K from fun _ => hKK)
  clear hKK
  have HX := Lib.hid (encF_len HKL.out HA.out)
  have HY := Lib.hid (encF_len HKL.out HB.out)
  have hlx := Lib.hid (show ((encF K a).map bV).length = 16 by rw [List.length_map]; exact HX.out)
  have hly := Lib.hid (show ((encF K b).map bV).length = 16 by rw [List.length_map]; exact HY.out)
  obtain ⟨q, hq⟩ : ∃ q, decide (a = b) = q := ⟨_, rfl⟩
  have f2 : ∀ wx, (binOp .eql 28 (.agg (a.map bV).toArray) (.agg (b.map bV).toArray)).run Try.prog wx = .ok (.bool q) wx := fun wx => by rw [eq16 HA.out HB.out, hq]
  have f1 : ∀ wx, (binOp .eql 28 (.agg ((encF K a).map bV).toArray) (.agg ((encF K b).map bV).toArray)).run Try.prog wx = .ok (.bool q) wx := fun wx => by
    rw [eq16 HX.out HY.out, ← hq, decide_eq_decide.2 (enc_inj HKL.out HA.out HB.out)]
  have f3 := fun wx => eq16s HX.out wx
  have f4 := fun wx => eq16s HY.out wx
  clear hq
  go_enter Try.func6, Try.ntmps6
  go_upto_region 10 with (first | ((with_reducible show wpList _ _ _ (⟨some 3, Op.box _ _, _, _, _, _⟩ :: _) _ _); go_loud (apply S_box hS; rfl; rfl; (focus ((conv => lhs; whnf) <;> rfl)); rfl; clear hS; intro b3 w_ hS)) | ((with_reducible show wpList _ _ _ (⟨some 4, Op.box _ _, _, _, _, _⟩ :: _) _ _); go_loud (apply S_box hS; rfl; rfl; (focus ((conv => lhs; whnf) <;> rfl)); rfl; clear hS; intro b4 w_ hS)) | ((with_reducible show wpList _ _ _ (⟨some 5, Op.box _ _, _, _, _, _⟩ :: _) _ _); go_loud (apply S_box hS; rfl; rfl; (focus ((conv => lhs; whnf) <;> rfl)); rfl; clear hS; intro b5 w_ hS)) | (go_at_call 7; refine (awake_any _).mono ?_; rintro e w_ ⟨rfl, hb_⟩; replace hS := hS.ext hb_; clear hb_) | (go_at_call 8; refine (new_any (some ⟨b3, 0, none⟩) 32 key _ HK.out (hS.blkRd (b := b3) (by focus ((repeat (first | exact .here | apply At.there)); done))) (by decide)).mono ?_; rintro e w_ ⟨bX, rfl, hge_, hB_, hb_⟩; rw [HKK.out trivial] at hB_; replace hS := hS.gotBlk hb_ hge_ hB_; clear hb_ hge_ hB_) | ((with_reducible show wpList _ _ _ (⟨some 32, Op.load _ _, _, _, _, _⟩ :: _) _ _); go_loud (apply S_ldAll hS; rfl; rfl; rfl; (focus ((repeat (first | exact .here | apply At.there)); done)); rfl; (first | rfl | (rw [hla.out]; rfl) | (simp only [List.length_map, List.length_set]; rfl)))) | ((with_reducible show wpList _ _ _ (⟨some 35, Op.load _ _, _, _, _, _⟩ :: _) _ _); go_loud (apply S_ldAll hS; rfl; rfl; rfl; (focus ((repeat (first | exact .here | apply At.there)); done)); rfl; (first | rfl | (rw [hlb.out]; rfl) | (simp only [List.length_map, List.length_set]; rfl)))) | ((with_reducible show wpList _ _ _ (⟨some 38, Op.load _ _, _, _, _, _⟩ :: _) _ _); go_loud (apply S_ldAll hS; rfl; rfl; rfl; (focus ((repeat (first | exact .here | apply At.there)); done)); rfl; (first | rfl | (rw [hlb.out]; rfl) | (simp only [List.length_map, List.length_set]; rfl)))) | ((with_reducible show Calls _ 9 #[_, .agg (a.map bV).toArray] _ _); refine (encrypt_any _ K a _ (hS.blkRd (by focus ((repeat (first | exact .here | apply At.there)); done))) (hS.blkLt (by focus ((repeat (first | exact .here | apply At.there)); done))) HA.out HKL.out).mono ?_; rintro e w_ ⟨rfl, hb_⟩; replace hS := hS.ext hb_; clear hb_) | ((with_reducible show Calls _ 9 #[_, .agg (b.map bV).toArray] _ _); refine (encrypt_any _ K b _ (hS.blkRd (by focus ((repeat (first | exact .here | apply At.there)); done))) (hS.blkLt (by focus ((repeat (first | exact .here | apply At.there)); done))) HB.out HKL.out).mono ?_; rintro e w_ ⟨rfl, hb_⟩; replace hS := hS.ext hb_; clear hb_) | (go_at_call 12; refine (decrypt_any _ K b _ (hS.blkRd (by focus ((repeat (first | exact .here | apply At.there)); done))) (hS.blkLt (by focus ((repeat (first | exact .here | apply At.there)); done))) HB.out HKL.out).mono ?_; rintro e w_ ⟨rfl, hb_⟩; replace hS := hS.ext hb_; clear hb_) | ((with_reducible show wpList _ _ _ (⟨some 11, Op.alloc _, _, _, _, _⟩ :: _) _ _); go_loud (refine S_alloc (z := .agg ([.int .u8 0, .int .u8 0, .int .u8 0, .int .u8 0, .int .u8 0, .int .u8 0, .int .u8 0, .int .u8 0, .int .u8 0, .int .u8 0, .int .u8 0, .int .u8 0, .int .u8 0, .int .u8 0, .int .u8 0, .int .u8 0] : List Value).toArray) (L := [.int .u8 0, .int .u8 0, .int .u8 0, .int .u8 0, .int .u8 0, .int .u8 0, .int .u8 0, .int .u8 0, .int .u8 0, .int .u8 0, .int .u8 0, .int .u8 0, .int .u8 0, .int .u8 0, .int .u8 0, .int .u8 0]) hS rfl rfl ?_ ?_ ?_; (show _ = _; kernel_rfl); (show _ = _; kernel_rfl); clear hS; intro b11 w_ hS)) | ((with_reducible show wpList _ _ _ (⟨some 12, Op.alloc _, _, _, _, _⟩ :: _) _ _); go_loud (refine S_alloc (z := .agg ([.int .u8 0, .int .u8 0, .int .u8 0, .int .u8 0, .int .u8 0, .int .u8 0, .int .u8 0, .int .u8 0, .int .u8 0, .int .u8 0, .int .u8 0, .int .u8 0, .int .u8 0, .int .u8 0, .int .u8 0, .int .u8 0] : List Value).toArray) (L := [.int .u8 0, .int .u8 0, .int .u8 0, .int .u8 0, .int .u8 0, .int .u8 0, .int .u8 0, .int .u8 0, .int .u8 0, .int .u8 0, .int .u8 0, .int .u8 0, .int .u8 0, .int .u8 0, .int .u8 0, .int .u8 0]) hS rfl rfl ?_ ?_ ?_; (show _ = _; kernel_rfl); (show _ = _; kernel_rfl); clear hS; intro b12 w_ hS)) | ((with_reducible show wpList _ _ _ (⟨_, Op.store _ _ _, _, _, _, _⟩ :: _) _ _); go_loud (apply S_stAll hS; rfl; rfl; rfl; rfl; (focus ((repeat (first | exact .here | apply At.there)); done)); (first | assumption | (first | (rw [hlx.out]; rfl) | (rw [hly.out]; rfl)) | (focus (simp [bV, wV, Value.oneCell']; done)) | (focus (simp [bV, Value.oneCell']; done))); (first | rfl | (first | (rw [hlx.out]; rfl) | (rw [hly.out]; rfl))); (first | rfl | (first | (rw [hlx.out]; rfl) | (rw [hly.out]; rfl))); clear hS; intro w_ hS)))
  refine E_start (hR := Ext.pre) #[false, false, false, false, false, false, false, false, false, false, false, false, false, false, false, false, false, false, false, false, false, false] (by kernel_rfl) rfl rfl (fun w_r1 hx_r1 he_r1 => ?_)
  clear he_r1
  replace hS := hS.ext hx_r1; clear hx_r1
  refine E_take (hR := Ext.pre) (i := 0) (N := (some 40)) (v := ?vr1_0) (a' := ?ar1_0) #[true, false, false, false, false, false, false, false, false, false, false, false, false, false, false, false, false, false, false, false, false, false] rfl rfl (by kernel_rfl) (fun _ _ _ h => h) (by rfl) ?hyr1_0 ?har1_0 ?_
  case hyr1_0 =>
    intro w' hx
    (apply Eq.trans; (apply R_ldPartQ (n := 16) (hS.ext hx); rfl; rfl; (focus ((repeat (first | exact .here | apply At.there)); done)); rfl; rfl; ((rw [hlx.out]; decide)); exact (List.take_of_length_le (by rw [List.drop_zero, hlx.out]; decide))); with_reducible rfl)
  case har1_0 => (simp only [Act.put, List.setIfInBounds_toArray, List.set_cons_zero, List.set_cons_succ]; rfl)
  refine E_take (hR := Ext.pre) (i := 1) (N := (some 41)) (v := ?vr1_1) (a' := ?ar1_1) #[true, true, false, false, false, false, false, false, false, false, false, false, false, false, false, false, false, false, false, false, false, false] rfl rfl (by kernel_rfl) (fun _ _ _ h => h) (by rfl) ?hyr1_1 ?har1_1 ?_
  case hyr1_1 =>
    intro w' hx
    (apply Eq.trans; (apply R_ldPartQ (n := 16) (hS.ext hx); rfl; rfl; (focus ((repeat (first | exact .here | apply At.there)); done)); rfl; rfl; ((rw [hly.out]; decide)); exact (List.take_of_length_le (by rw [List.drop_zero, hly.out]; decide))); with_reducible rfl)
  case har1_1 => (simp only [Act.put, List.setIfInBounds_toArray, List.set_cons_zero, List.set_cons_succ]; rfl)
  refine E_take (hR := Ext.pre) (i := 2) (N := (some 42)) (v := ?vr1_2) (a' := ?ar1_2) #[true, true, true, false, false, false, false, false, false, false, false, false, false, false, false, false, false, false, false, false, false, false] rfl rfl (by kernel_rfl) (fun _ _ _ h => h) (by rfl) ?hyr1_2 ?har1_2 ?_
  case hyr1_2 =>
    intro w' hx
    go_simp
    with_reducible rfl
  case har1_2 => (simp only [Act.put, List.setIfInBounds_toArray, List.set_cons_zero, List.set_cons_succ]; rfl)
  refine E_take (hR := Ext.pre) (i := 3) (N := (some 43)) (v := ?vr1_3) (a' := ?ar1_3) #[true, true, true, true, false, false, false, false, false, false, false, false, false, false, false, false, false, false, false, false, false, false] rfl rfl (by kernel_rfl) (fun _ _ _ h => h) (by rfl) ?hyr1_3 ?har1_3 ?_
  case hyr1_3 =>
    intro w' hx
    (apply Eq.trans; (apply R_ldPartQ (n := 16) (hS.ext hx); rfl; rfl; (focus ((repeat (first | exact .here | apply At.there)); done)); rfl; rfl; ((rw [hla.out]; decide)); exact (List.take_of_length_le (by rw [List.drop_zero, hla.out]; decide))); with_reducible rfl)
  case har1_3 => (simp only [Act.put, List.setIfInBounds_toArray, List.set_cons_zero, List.set_cons_succ]; rfl)
  refine E_take (hR := Ext.pre) (i := 4) (N := (some 44)) (v := ?vr1_4) (a' := ?ar1_4) #[true, true, true, true, true, false, false, false, false, false, false, false, false, false, false, false, false, false, false, false, false, false] rfl rfl (by kernel_rfl) (fun _ _ _ h => h) (by rfl) ?hyr1_4 ?har1_4 ?_
  case hyr1_4 =>
    intro w' hx
    (apply Eq.trans; (apply R_ldPartQ (n := 16) (hS.ext hx); rfl; rfl; (focus ((repeat (first | exact .here | apply At.there)); done)); rfl; rfl; ((rw [hlb.out]; decide)); exact (List.take_of_length_le (by rw [List.drop_zero, hlb.out]; decide))); with_reducible rfl)
  case har1_4 => (simp only [Act.put, List.setIfInBounds_toArray, List.set_cons_zero, List.set_cons_succ]; rfl)
  refine E_take (hR := Ext.pre) (i := 5) (N := (some 45)) (v := ?vr1_5) (a' := ?ar1_5) #[true, true, true, true, true, true, false, false, false, false, false, false, false, false, false, false, false, false, false, false, false, false] rfl rfl (by kernel_rfl) (fun _ _ _ h => h) (by rfl) ?hyr1_5 ?har1_5 ?_
  case hyr1_5 =>
    intro w' hx
    go_simp
    with_reducible rfl
  case har1_5 => (simp only [Act.put, List.setIfInBounds_toArray, List.set_cons_zero, List.set_cons_succ]; rfl)
  refine E_take (hR := Ext.pre) (i := 6) (N := (some 46)) (v := ?vr1_6) (a' := ?ar1_6) #[true, true, true, true, true, true, true, false, false, false, false, false, false, false, false, false, false, false, false, false, false, false] rfl rfl (by kernel_rfl) (fun _ _ _ h => h) (by rfl) ?hyr1_6 ?har1_6 ?_
  case hyr1_6 =>
    intro w' hx
    go_simp
    with_reducible rfl
  case har1_6 => (simp only [Act.put, List.setIfInBounds_toArray, List.set_cons_zero, List.set_cons_succ]; rfl)
  refine E_take (hR := Ext.pre) (i := 7) (N := (some 47)) (v := ?vr1_7) (a' := ?ar1_7) #[true, true, true, true, true, true, true, true, false, false, false, false, false, false, false, false, false, false, false, false, false, false] rfl rfl (by kernel_rfl) (fun _ _ _ h => h) (by rfl) ?hyr1_7 ?har1_7 ?_
  case hyr1_7 =>
    intro w' hx
    go_simp
    with_reducible rfl
  case har1_7 => (simp only [Act.put, List.setIfInBounds_toArray, List.set_cons_zero, List.set_cons_succ]; rfl)
  refine E_take (hR := Ext.pre) (i := 8) (N := (some 48)) (v := ?vr1_8) (a' := ?ar1_8) #[true, true, true, true, true, true, true, true, true, false, false, false, false, false, false, false, false, false, false, false, false, false] rfl rfl (by kernel_rfl) (fun _ _ _ h => h) (by rfl) ?hyr1_8 ?har1_8 ?_
  case hyr1_8 =>
    intro w' hx
    go_simp
    with_reducible rfl
  case har1_8 => (simp only [Act.put, List.setIfInBounds_toArray, List.set_cons_zero, List.set_cons_succ]; rfl)
  refine E_take (hR := Ext.pre) (i := 9) (N := (some 49)) (v := ?vr1_9) (a' := ?ar1_9) #[true, true, true, true, true, true, true, true, true, true, false, false, false, false, false, false, false, false, false, false, false, false] rfl rfl (by kernel_rfl) (fun _ _ _ h => h) (by rfl) ?hyr1_9 ?har1_9 ?_
  case hyr1_9 =>
    intro w' hx
    (apply Eq.trans; (apply R_ldPartQ (n := 16) (hS.ext hx); rfl; rfl; (focus ((repeat (first | exact .here | apply At.there)); done)); rfl; rfl; ((rw [hlb.out]; decide)); exact (List.take_of_length_le (by rw [List.drop_zero, hlb.out]; decide))); with_reducible rfl)
  case har1_9 => (simp only [Act.put, List.setIfInBounds_toArray, List.set_cons_zero, List.set_cons_succ]; rfl)
  refine E_take (hR := Ext.pre) (i := 11) (N := (some 51)) (v := ?vr1_11) (a' := ?ar1_11) #[true, true, true, true, true, true, true, true, true, true, false, true, false, false, false, false, false, false, false, false, false, false] rfl rfl (by kernel_rfl) (fun _ _ _ h => h) (by rfl) ?hyr1_11 ?har1_11 ?_
  case hyr1_11 =>
    intro w' hx
    (apply Eq.trans; (apply R_ldPartQ (n := 16) (hS.ext hx); rfl; rfl; (focus ((repeat (first | exact .here | apply At.there)); done)); rfl; rfl; ((rw [hly.out]; decide)); exact (List.take_of_length_le (by rw [List.drop_zero, hly.out]; decide))); with_reducible rfl)
  case har1_11 => (simp only [Act.put, List.setIfInBounds_toArray, List.set_cons_zero, List.set_cons_succ]; rfl)
  refine E_call (i := 10) (N := (some 50)) (args := ?gr1_10) #[true, true, true, true, true, true, true, true, true, true, true, true, false, false, false, false, false, false, false, false, false, false] rfl rfl (by kernel_rfl) (by rfl) Try.func9 (by kernel_rfl) rfl rfl ?hgr1_10 ?_
  case hgr1_10 => (simp only [List.map_toArray, List.map_cons, List.map_nil]; go_simp; with_reducible rfl)
  refine (encrypt_any _ K b _ (hS.blkRd (by focus ((repeat (first | exact .here | apply At.there)); done))) (hS.blkLt (by focus ((repeat (first | exact .here | apply At.there)); done))) HB.out HKL.out).mono ?_
  rintro e w_ ⟨rfl, hb_⟩
  refine ⟨_, rfl, hb_, ?_⟩
  replace hS := hS.ext hb_
  clear hb_
  rintro _ rfl
  simp only [Act.put, List.setIfInBounds_toArray, List.set_cons_zero, List.set_cons_succ]
  refine E_take (hR := Ext.pre) (i := 12) (N := (some 52)) (v := ?vr1_12) (a' := ?ar1_12) #[true, true, true, true, true, true, true, true, true, true, true, true, true, false, false, false, false, false, false, false, false, false] rfl rfl (by kernel_rfl) (fun _ _ _ h => h) (by rfl) ?hyr1_12 ?har1_12 ?_
  case hyr1_12 =>
    intro w' hx
    go_simp
    with_reducible rfl
  case har1_12 => (simp only [Act.put, List.setIfInBounds_toArray, List.set_cons_zero, List.set_cons_succ]; rfl)
  refine E_take (hR := Ext.pre) (i := 13) (N := (some 53)) (v := ?vr1_13) (a' := ?ar1_13) #[true, true, true, true, true, true, true, true, true, true, true, true, true, true, false, false, false, false, false, false, false, false] rfl rfl (by kernel_rfl) (fun _ _ _ h => h) (by rfl) ?hyr1_13 ?har1_13 ?_
  case hyr1_13 =>
    intro w' hx
    go_simp
    with_reducible rfl
  case har1_13 => (simp only [Act.put, List.setIfInBounds_toArray, List.set_cons_zero, List.set_cons_succ]; rfl)
  refine E_take (hR := Ext.pre) (i := 14) (N := (some 54)) (v := ?vr1_14) (a' := ?ar1_14) #[true, true, true, true, true, true, true, true, true, true, true, true, true, true, true, false, false, false, false, false, false, false] rfl rfl (by kernel_rfl) (fun _ _ _ h => h) (by rfl) ?hyr1_14 ?har1_14 ?_
  case hyr1_14 =>
    intro w' hx
    go_simp
    with_reducible rfl
  case har1_14 => (simp only [Act.put, List.setIfInBounds_toArray, List.set_cons_zero, List.set_cons_succ]; rfl)
  refine E_take (hR := Ext.pre) (i := 15) (N := (some 55)) (v := ?vr1_15) (a' := ?ar1_15) #[true, true, true, true, true, true, true, true, true, true, true, true, true, true, true, true, false, false, false, false, false, false] rfl rfl (by kernel_rfl) (fun _ _ _ h => h) (by rfl) ?hyr1_15 ?har1_15 ?_
  case hyr1_15 =>
    intro w' hx
    go_simp
    with_reducible rfl
  case har1_15 => (simp only [Act.put, List.setIfInBounds_toArray, List.set_cons_zero, List.set_cons_succ]; rfl)
  refine E_take (hR := Ext.pre) (i := 16) (N := (some 56)) (v := ?vr1_16) (a' := ?ar1_16) #[true, true, true, true, true, true, true, true, true, true, true, true, true, true, true, true, true, false, false, false, false, false] rfl rfl (by kernel_rfl) (fun _ _ _ h => h) (by rfl) ?hyr1_16 ?har1_16 ?_
  case hyr1_16 =>
    intro w' hx
    (apply Eq.trans; (apply R_ldPartQ (n := 16) (hS.ext hx); rfl; rfl; (focus ((repeat (first | exact .here | apply At.there)); done)); rfl; rfl; ((rw [hla.out]; decide)); exact (List.take_of_length_le (by rw [List.drop_zero, hla.out]; decide))); with_reducible rfl)
  case har1_16 => (simp only [Act.put, List.setIfInBounds_toArray, List.set_cons_zero, List.set_cons_succ]; rfl)
  refine E_take (hR := Ext.pre) (i := 18) (N := (some 58)) (v := ?vr1_18) (a' := ?ar1_18) #[true, true, true, true, true, true, true, true, true, true, true, true, true, true, true, true, true, false, true, false, false, false] rfl rfl (by kernel_rfl) (fun _ _ _ h => h) (by rfl) ?hyr1_18 ?har1_18 ?_
  case hyr1_18 =>
    intro w' hx
    (apply Eq.trans; (apply R_ldPartQ (n := 16) (hS.ext hx); rfl; rfl; (focus ((repeat (first | exact .here | apply At.there)); done)); rfl; rfl; ((rw [hlx.out]; decide)); exact (List.take_of_length_le (by rw [List.drop_zero, hlx.out]; decide))); with_reducible rfl)
  case har1_18 => (simp only [Act.put, List.setIfInBounds_toArray, List.set_cons_zero, List.set_cons_succ]; rfl)
  refine E_call (i := 17) (N := (some 57)) (args := ?gr1_17) #[true, true, true, true, true, true, true, true, true, true, true, true, true, true, true, true, true, true, true, false, false, false] rfl rfl (by kernel_rfl) (by rfl) Try.func9 (by kernel_rfl) rfl rfl ?hgr1_17 ?_
  case hgr1_17 => (simp only [List.map_toArray, List.map_cons, List.map_nil]; go_simp; with_reducible rfl)
  refine (encrypt_any _ K a _ (hS.blkRd (by focus ((repeat (first | exact .here | apply At.there)); done))) (hS.blkLt (by focus ((repeat (first | exact .here | apply At.there)); done))) HA.out HKL.out).mono ?_
  rintro e w_ ⟨rfl, hb_⟩
  refine ⟨_, rfl, hb_, ?_⟩
  replace hS := hS.ext hb_
  clear hb_
  rintro _ rfl
  simp only [Act.put, List.setIfInBounds_toArray, List.set_cons_zero, List.set_cons_succ]
  refine E_take (hR := Ext.pre) (i := 19) (N := (some 59)) (v := ?vr1_19) (a' := ?ar1_19) #[true, true, true, true, true, true, true, true, true, true, true, true, true, true, true, true, true, true, true, true, false, false] rfl rfl (by kernel_rfl) (fun _ _ _ h => h) (by rfl) ?hyr1_19 ?har1_19 ?_
  case hyr1_19 =>
    intro w' hx
    go_simp
    with_reducible rfl
  case har1_19 => (simp only [Act.put, List.setIfInBounds_toArray, List.set_cons_zero, List.set_cons_succ]; rfl)
  refine E_take (hR := Ext.pre) (i := 20) (N := (some 60)) (v := ?vr1_20) (a' := ?ar1_20) #[true, true, true, true, true, true, true, true, true, true, true, true, true, true, true, true, true, true, true, true, true, false] rfl rfl (by kernel_rfl) (fun _ _ _ h => h) (by rfl) ?hyr1_20 ?har1_20 ?_
  case hyr1_20 =>
    intro w' hx
    go_simp
    with_reducible rfl
  case har1_20 => (simp only [Act.put, List.setIfInBounds_toArray, List.set_cons_zero, List.set_cons_succ]; rfl)
  refine E_take (hR := Ext.pre) (i := 21) (N := (some 6)) (v := ?vr1_21) (a' := ?ar1_21) #[true, true, true, true, true, true, true, true, true, true, true, true, true, true, true, true, true, true, true, true, true, true] rfl rfl (by kernel_rfl) (fun _ _ _ h => h) (by rfl) ?hyr1_21 ?har1_21 ?_
  case hyr1_21 =>
    intro w' hx
    go_simp
    with_reducible rfl
  case har1_21 => (simp only [Act.put, List.setIfInBounds_toArray, List.set_cons_zero, List.set_cons_succ]; rfl)
  refine E_done (by kernel_rfl) ?_
  go_wp2
  go_ret
  exact ⟨rfl, hS.below⟩
theorem apart_row (z0 z1 z2 : List Int) (w : World) (h0 : z0.length = 32) (h1 : z1.length = 16) (h2 : z2.length = 16) (v0 : ∀ y ∈ z0, (Lit.int .u8 y).wf = true) (v1 : ∀ y ∈ z1, (Lit.int .u8 y).wf = true) (v2 : ∀ y ∈ z2, (Lit.int .u8 y).wf = true) :
    Calls Try.prog 6 #[.agg (z0.map (Value.int .u8)).toArray, .agg (z1.map (Value.int .u8)).toArray, .agg (z2.map (Value.int .u8)).toArray] w fun e w' => e = .returned (.bool true) ∧ Below w.heap.size w w' := by
  obtain ⟨k, k1, k2⟩ := ints_u8 z0 v0
  obtain ⟨a, a1, a2⟩ := ints_u8 z1 v1
  obtain ⟨b, b1, b2⟩ := ints_u8 z2 v2
  rw [k2, a2, b2]
  exact apart_walk k a b w (k1.trans h0) (a1.trans h1) (b1.trans h2)
end Go.Proofs.Ytaacnbponodagaa
