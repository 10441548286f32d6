/- xts.open. -/
import Derived.Test.YthamhaomfdgdjaaXtsB
import Derived.Test.YthamhaomfdgdjaaAesN
import Derived.Test.YthamhaomfdgdjaaOctB
import Derived.Test.YthamhaomfdgdjaaCpy
import Derived.Lib.SmallJoins
namespace Go.Proofs.Ythamhaomfdgdjaa
open Go.RowKit
set_option linter.unusedVariables false
set_option linter.unusedSimpArgs false

/-- A number's octets, the least first, filled up. -/
def le16 (num : Int) : List UInt8 := (layK num 8).reverse ++ List.replicate 8 0
theorem le16_len (num : Int) : (le16 num).length = 16 := by unfold le16; rw [List.length_append, List.length_reverse, layK_length]; rfl
def key1 (key : List UInt8) : List UInt8 := (key.take 32).drop 0
def key2 (key : List UInt8) : List UInt8 := (key.take 64).drop 32
theorem key1_len {key : List UInt8} (h : key.length = 64) : (key1 key).length = 32 := by unfold key1; rw [List.drop_zero, List.length_take, h]; rfl
theorem key2_len {key : List UInt8} (h : key.length = 64) : (key2 key).length = 32 := by unfold key2; rw [List.length_drop, List.length_take, h]; rfl
def z16c : List UInt8 := List.replicate 16 0
theorem z16c_len : z16c.length = 16 := rfl
theorem unC_len (bC : Nat) {t : List UInt8} (h : t.length = 16) : (unC bC t).length = 17 := by unfold unC; rw [List.length_cons, List.length_map, h]
theorem splice_un (bC : Nat) {t u : List UInt8} (ht : t.length = 16) (hu : u.length ≤ 16) : splice (unC bC t) 1 (u.map bV) = unC bC (u ++ t.drop u.length) := by
  unfold splice unC
  rw [List.length_map, Nat.add_comm 1, List.drop_succ_cons, List.map_append, List.map_drop]
  rfl
/-- What open gives. -/
def GivesU (key : List UInt8) (num : Int) (w : World) (e : Ending) (w' : World) : Prop :=
  ∃ bu bC, e = .returned (.tuple #[.pointer (some ⟨bu, 0, none⟩), .int .i64 0]) ∧ w.heap.size ≤ bu ∧ w.heap.size ≤ bC ∧ bC ≠ bu ∧ Blk w' bu 44 (unC bC (encF (keysF (key2 key)) (le16 num))) ∧ Blk w' bC 64 (ciC (keysF (key1 key))) ∧ Below w.heap.size w w'

set_option maxRecDepth 8000 in
set_option maxHeartbeats 3200000 in
theorem open_any (A B : Option Addr) (c n d : Nat) (num : Int) (key : List UInt8) (w : World) (hk : key.length = 64) (hr : RdB w A key) (hc : 64 ≤ c) (hnum : 0 ≤ num) (h1 : 16 ≤ n) (h2 : n ≤ 1024) (h3 : n % 16 = 0) :
    Calls Try.prog 12 #[.slice A 64 c, .int .i64 num, .slice B n d] w (GivesU key num w) := by
  have hS := St.start w
  have HR1 := Lib.hid (show ∀ w', RdB w' A key → RdB w' (cutA A c 0) (key1 key) from fun w' h => RdB.sub h (by rw [hk]; exact hc))
  have HR2 := Lib.hid (show ∀ w', RdB w' A key → RdB w' (cutA A c 32) (key2 key) from fun w' h => RdB.sub h (by rw [hk]; exact hc))
  have HR := Lib.hid hr
  have HK1 := Lib.hid (key1_len hk)
  have HK2 := Lib.hid (key2_len hk)
  have HL1 := Lib.hid (keysF_len (key1_len hk))
  have HL2 := Lib.hid (keysF_len (key2_len hk))
  have q0 : ¬ num < 0 := by omega
  have q1 : ¬ (n : Int) < 16 := by omega
  have q2 : ¬ (1024 : Int) < (n : Int) := by omega
  have q3 : Int.tmod (n : Int) 16 = 0 := by rw [Int.tmod_eq_emod_of_nonneg (by omega)]; omega
  have hlay := Lib.hid (layK_length num 8)
  have hle := Lib.hid (le16_len num)
  have hle2 := Lib.hid (show (layK num 8).reverse ++ List.drop 8 z16c = le16 num from rfl)
  clear hk hr hnum h1 h2 h3
  generalize hk1 : key1 key = k1 at *
  generalize hk2 : key2 key = k2 at *
  generalize hkk1 : keysF k1 = K1 at *
  generalize hkk2 : keysF k2 = K2 at *
  have HKK1 := Lib.hid (show True → keysF k1 = K1 from fun _ => hkk1)
  have HKK2 := Lib.hid (show True → keysF k2 = K2 from fun _ => hkk2)
  have HQ1 := Lib.hid (show True → keysF (key1 key) = K1 from fun _ => by rw [hk1, hkk1])
  have HQ2 := Lib.hid (show True → keysF (key2 key) = K2 from fun _ => by rw [hk2, hkk2])
  clear hk1 hk2 hkk1 hkk2
  obtain ⟨rb, hrb⟩ : ∃ rb, (layK num 8).reverse = rb := ⟨_, rfl⟩
  have HRB := Lib.hid hrb
  have hrl0 : rb.length = 8 := by rw [← hrb, List.length_reverse, hlay.out]
  have hrl := Lib.hid (show (rb.map bV).length = 8 by rw [List.length_map]; exact hrl0)
  have HRT := Lib.hid (show ∀ (wx : World) (g : Nat) {tl : List Value}, Rd wx (some ⟨g, 0, none⟩) (rb.map bV ++ tl) → Rd wx (some ⟨g, 0, none⟩) (rb.map bV) from fun wx g tl h => by
    have := Rd.take h 8
    rwa [List.take_append_of_le_length (by rw [hrl.out]; exact Nat.le_refl _), List.take_of_length_le (by rw [hrl.out]; exact Nat.le_refl _)] at this)
  have HSP := Lib.hid (show ∀ bC, splice (unC bC z16c) 1 (rb.map bV) = unC bC (le16 num) from fun bC => by
    rw [splice_un bC z16c_len (by omega), hrl0, ← hle2.out, hrb])
  have HLP := Lib.hid (show ∀ bC, ((unC bC (le16 num)).drop 1).take 16 = (le16 num).map bV from fun bC => by unfold unC; rw [List.drop_succ_cons, List.drop_zero, List.take_of_length_le (by rw [List.length_map, hle.out]; decide)])
  clear hrb hrl0
  have hEL := Lib.hid (encF_len HL2.out hle.out)
  generalize hee : encF K2 (le16 num) = ee at *
  have HEE := Lib.hid hee
  have HSP2 := Lib.hid (show ∀ bC, splice (unC bC (le16 num)) 1 (ee.map bV) = unC bC ee from fun bC => by
    rw [splice_un bC hle.out (by rw [hEL.out]; decide), hEL.out, List.drop_of_length_le (by rw [hle.out]; decide), List.append_nil])
  clear hee
  have hel := Lib.hid (show (ee.map bV).length = 16 by rw [List.length_map]; exact hEL.out)
  go_enter Try.func12, Try.ntmps12
  go_upto_region 4 with (first | ((with_reducible show wpList _ _ _ (⟨some 39, Op.slice _ _ _ _ _, _, _, _, _⟩ :: _) _ _); go_loud (apply S_slice; rfl; rfl; rfl; (first | exact SB.no | exact SB.so | exact SB.lit (by decide)); (first | exact SB.no | exact SB.so | exact SB.lit (by decide)); rfl; rfl; (first | assumption | (focus (simp; done)) | (focus (simp; omega)) | omega); (first | assumption | (focus (simp; done)) | (focus (simp; omega)) | omega))) | (go_at_call 19; refine (new_any (cutA A c 0) (c - 0) k1 _ HK1.out (HR1.out _ (hS.rdp HR.out)) (by omega)).mono ?_; rintro e w_ ⟨bC, rfl, hge_, hB_, hb_⟩; rw [HKK1.out trivial] at hB_; have HGE1 := Lib.hid hge_; replace hS := hS.gotBlk hb_ hge_ hB_; clear hb_ hge_ hB_))
  go_upto_region 5 with (first | ((with_reducible show wpList _ _ _ (⟨some 45, Op.slice _ _ _ _ _, _, _, _, _⟩ :: _) _ _); go_loud (apply S_slice; rfl; rfl; rfl; (first | exact SB.no | exact SB.so | exact SB.lit (by decide)); (first | exact SB.no | exact SB.so | exact SB.lit (by decide)); rfl; rfl; (first | assumption | (focus (simp; done)) | (focus (simp; omega)) | omega); (first | assumption | (focus (simp; done)) | (focus (simp; omega)) | omega))) | (go_at_call 19; refine (new_any (cutA A c 32) (c - 32) k2 _ HK2.out (HR2.out _ (hS.rdp HR.out)) (by omega)).mono ?_; rintro e w_ ⟨bD, rfl, hge_, hB_, hb_⟩; rw [HKK2.out trivial] at hB_; replace hS := hS.gotBlk hb_ hge_ hB_; clear hb_ hge_ hB_))
  go_upto_region 8 with (first | ((with_reducible show wpList _ _ _ (⟨some 50, Op.build _ _, _, _, _, _⟩ :: _) _ _); go_loud (apply S_build (L := unC bC z16c); rfl; rfl; kernel_rfl)) | ((with_reducible show wpList _ _ _ (⟨some 51, Op.box _ _, _, _, _, _⟩ :: _) _ _); go_loud (apply S_box hS; rfl; rfl; (focus ((conv => lhs; whnf) <;> rfl)); rfl; clear hS; intro bu w_ hS)) | (go_at_call 20; refine (lay_any num 8 _).mono ?_; rintro e w_ ⟨v, rfl, ho_, hb_⟩; rw [show sizeK 8 = 8 from rfl, hlay.out] at ho_; obtain ⟨g, cg, rfl⟩ := Joins.ownsRow_form ho_ (by decide); obtain ⟨tl, hB_, hge_, hcg⟩ := own_blk8 ho_; replace hS := hS.gotBlk hb_ hge_ hB_; clear hb_ hge_ hB_ ho_) | (go_at_call 21; refine (rev_any g cg tl (layK num 8) _ (hS.blk (b := g) (by focus ((repeat (first | exact .here | apply At.there)); done))) hlay.out).mono ?_; rintro e w_ ⟨⟨z, rfl⟩, hg_, hB_⟩; rw [HRB.out] at hB_; replace hS := hS.updB (b := g) (by focus ((repeat (first | exact .here | apply At.there)); done)) hg_ hB_; clear hg_ hB_))
  go_upto_region 10 with (first | ((with_reducible show wpList _ _ _ (⟨some 61, Op.call _, _, _, _, _⟩ :: _) _ _); go_loud (apply S_copy hS; rfl; rfl; rfl; rfl; rfl; (focus ((repeat (first | exact .here | apply At.there)); done)); rfl; (exact HRT.out _ _ (hS.blkRd (b := g) (by focus ((repeat (first | exact .here | apply At.there)); done)))); exact hrl.out; decide; (rw [unC_len _ z16c_len]; decide); exact one_bV _; (intro h; cases h); clear hS; intro w_ hS; rw [HSP.out] at hS)) | ((with_reducible show wpList _ _ _ (⟨some 67, Op.load _ _, _, _, _, _⟩ :: _) _ _); go_loud (apply S_ldPart (m := 16) hS; rfl; rfl; rfl; (focus ((repeat (first | exact .here | apply At.there)); done)); rfl; rfl; (rw [unC_len _ hle.out]; decide); (rw [HLP.out]))) | (go_at_call 14; refine (encrypt_any bD K2 (le16 num) _ (hS.blkRd (b := bD) (by focus ((repeat (first | exact .here | apply At.there)); done))) (hS.blkLt (b := bD) (by focus ((repeat (first | exact .here | apply At.there)); done))) hle.out HL2.out).mono ?_; rw [HEE.out]; rintro e w_ ⟨rfl, hb_⟩; replace hS := hS.ext hb_; clear hb_) | ((with_reducible show wpList _ _ _ (⟨_, Op.store _ _ _, _, _, _, _⟩ :: _) _ _); go_loud (apply S_stPart hS; rfl; rfl; rfl; rfl; (focus ((repeat (first | exact .here | apply At.there)); done)); exact one_bV _; (rw [hel.out]; rfl); (rw [hel.out, unC_len _ hle.out]; decide); clear hS; intro w_ hS; rw [HSP2.out] at hS)))
  go_wp2
  go_ret2
  refine ⟨bu, bC, rfl, Nat.le_of_not_lt (fun h => hS.neOld (b := bu) (by focus ((repeat (first | exact .here | apply At.there)); done)) h rfl), Nat.le_of_not_lt (fun h => hS.neOld (b := bC) (by focus ((repeat (first | exact .here | apply At.there)); done)) h rfl), ?_, ?_, ?_, hS.below⟩
  · first | exact (hS.dist 0 1 (by omega) rfl rfl rfl rfl).symm | exact (hS.dist 0 2 (by omega) rfl rfl rfl rfl).symm | exact (hS.dist 0 3 (by omega) rfl rfl rfl rfl).symm | exact (hS.dist 1 2 (by omega) rfl rfl rfl rfl).symm | exact (hS.dist 1 3 (by omega) rfl rfl rfl rfl).symm
  · rw [HQ2.out trivial, HEE.out]; exact hS.blk (b := bu) (by focus ((repeat (first | exact .here | apply At.there)); done))
  · rw [HQ1.out trivial]; exact hS.blk (b := bC) (by focus ((repeat (first | exact .here | apply At.there)); done))
end Go.Proofs.Ythamhaomfdgdjaa
