/- The walk of HmacNoughts. -/
import Derived.Test.YthgfkmjdibhifaaDoorHmL
import Derived.Test.YthgfkmjdibhifaaDoorApz
import Derived.Test.YthgfkmjdibhifaaDoorTmd
namespace Go.Proofs.YthgfkmjdibhifaaDoor
open Go.RowKit Go.Proofs.YthgfkmjdibhifaaDoor.Pure

theorem i64b {n : Int} (h : (Lit.int .i64 n).wf = true) : -9223372036854775808 ≤ n ∧ n ≤ 9223372036854775807 := by
  simpa [Lit.wf, IntKind.min, IntKind.max, IntKind.signed, IntKind.bits] using h
theorem hmacF_zeros {key text : List UInt8} {k : Nat} (h : key.length + k ≤ 128) : hmacF (key ++ List.replicate k 0) text = hmacF key text := by
  have h1 : keyF (key ++ List.replicate k 0) = key ++ List.replicate k 0 := by unfold keyF; rw [if_neg (by simp; omega)]
  have h2 : keyF key = key := by unfold keyF; rw [if_neg (by omega)]
  have h3 : fillF (key ++ List.replicate k 0) 128 = fillF key 128 := by
    unfold fillF
    rw [List.append_assoc, List.replicate_append_replicate, List.length_append, List.length_replicate]
    congr 2
    show k + ((128 : Int).toNat - (key.length + k)) = (128 : Int).toNat - key.length
    simp; omega
  unfold hmacF padK
  rw [h1, h2, h3]

set_option maxRecDepth 8000 in
set_option maxHeartbeats 1600000 in
theorem noughts_walk (A0 A1 : Option Addr) (n0 c0 n1 c1 : Nat) (key text : List UInt8) (z : Int) (w : World) (hn0 : key.length = n0) (hn1 : text.length = n1) (hr0 : RdB w A0 key) (hr1 : RdB w A1 text) (b0 : -9223372036854775808 ≤ z ∧ z ≤ 9223372036854775807) (hG : GK w) :
    Calls Tryd.prog 3 #[.slice A0 n0 c0, .slice A1 n1 c1, .int .i64 z] w fun e w' => e = .returned (.bool true) ∧ Below w.heap.size w w' := by
  have hS := St.start w
  have HG := Lib.hid hG
  have HR0 := Lib.hid hr0
  have HR1 := Lib.hid hr1
  have HN0 := Lib.hid hn0
  have HN1 := Lib.hid hn1
  clear hG hr0 hr1 hn0 hn1
  by_cases h2 : 128 < n0
  · go_enter Tryd.func3, Tryd.ntmps3
    go_upto_region 3 with (go_at_call 7; refine (awake_any _ (HG.out.keep hS.below)).mono ?_; rintro e w_ ⟨rfl, hb_⟩; replace hS := hS.ext hb_; clear hb_)
    all_goals (go_ret; exact ⟨rfl, hS.below⟩)
  by_cases h3 : 300 < n1
  · go_enter Tryd.func3, Tryd.ntmps3
    go_upto_region 3 with (go_at_call 7; refine (awake_any _ (HG.out.keep hS.below)).mono ?_; rintro e w_ ⟨rfl, hb_⟩; replace hS := hS.ext hb_; clear hb_)
    all_goals (go_ret; exact ⟨rfl, hS.below⟩)
  have i2 : ¬ (128 : Int) < (n0 : Int) := by omega
  have i3 : ¬ (300 : Int) < (n1 : Int) := by omega
  go_enter Tryd.func3, Tryd.ntmps3
  go_upto_region 3 with (go_at_call 7; refine (awake_any _ (HG.out.keep hS.below)).mono ?_; rintro e w_ ⟨rfl, hb_⟩; replace hS := hS.ext hb_; clear hb_)
  have hk : (0 : Int) < 129 - (n0 : Int) := by omega
  have hk0 : ¬ (129 - (n0 : Int) = 0) := by omega
  have t0 := tmod_bound z hk
  obtain ⟨p, hp, hpk⟩ : ∃ p : Nat, (z.tmod (129 - (n0 : Int)) + 129 - (n0 : Int)) % (129 - (n0 : Int)) = (p : Int) ∧ (p : Int) < 129 - (n0 : Int) := by
    have h1 := Int.emod_nonneg (z.tmod (129 - (n0 : Int)) + 129 - (n0 : Int)) (b := 129 - (n0 : Int)) (by omega)
    have h2 := Int.emod_lt_of_pos (z.tmod (129 - (n0 : Int)) + 129 - (n0 : Int)) hk
    exact ⟨((z.tmod (129 - (n0 : Int)) + 129 - (n0 : Int)) % (129 - (n0 : Int))).toNat, by omega, by omega⟩
  go_upto_region 4 with (fail)
  have hp128 : n0 + p ≤ 128 := by omega
  have HH := Lib.hid (hmacF_zeros (key := key) (text := text) (k := p) (by rw [HN0.out]; exact hp128))
  have hmp := Lib.hid (show key.map bV ++ List.replicate p (Value.int .u8 0) = (key ++ List.replicate p 0).map bV by rw [List.map_append, List.map_replicate]; rfl)
  have hln := Lib.hid (show (key ++ List.replicate p 0).length = n0 + p by rw [List.length_append, List.length_replicate, HN0.out])
  (try simp only [hp])
  clear hp hpk t0 hk hk0
  have q1 := fun wx => run_eqlA (hmacF key text) wx (hmacF_len key text)
  go_wp2_with (first | ((with_reducible show wpList _ _ _ (⟨some 36, Op.buildSlice _ _ _, _, _, _, _⟩ :: _) _ _); go_loud (apply S_bslice hS; rfl; (go_simp; first | with_reducible rfl | (refine ⟨?_, ?_⟩ <;> with_reducible rfl)); rfl; rfl; rfl; rfl; clear hS; intro b36 w_ hS)) | ((with_reducible show wpList _ _ _ (⟨some 38, Op.buildSlice _ _ _, _, _, _, _⟩ :: _) _ _); go_loud (apply S_bslice hS; rfl; (go_simp; first | with_reducible rfl | (refine ⟨?_, ?_⟩ <;> with_reducible rfl)); rfl; rfl; rfl; rfl; clear hS; intro b38 w_ hS)) | ((with_reducible show wpList _ _ _ (⟨some 44, Op.buildSlice _ _ _, _, _, _, _⟩ :: _) _ _); go_loud (apply S_bslice hS; rfl; (go_simp; first | with_reducible rfl | (refine ⟨?_, ?_⟩ <;> with_reducible rfl)); rfl; rfl; rfl; rfl; clear hS; intro b44 w_ hS)) | ((with_reducible show wpList _ _ _ (⟨some 40, Op.call _, _, _, _, _⟩ :: _) _ _); go_loud (apply S_app TB hS; rfl; rfl; rfl; (focus ((repeat (first | exact .here | apply At.there)); done)); rfl; exact (RdB.src (c := c0) Tryd.underlying22 (hS.rdp HR0.out) HN0.out); (unfold maxLen; omega); omega; clear hS; intro A7 c7 w_ hS; (try simp only [Nat.zero_add, List.nil_append] at hS ⊢))) | ((with_reducible show wpList _ _ _ (⟨some 42, Op.call _, _, _, _, _⟩ :: _) _ _); go_loud (apply S_appZ TB hS Tryd.underlying9; rfl; rfl; exact Tryd.underlying3; rfl; (focus ((repeat (first | exact .here | apply At.there)); done)); rfl; omega; omega; clear hS; intro A8 c8 w_ hS; rw [hmp.out] at hS)) | ((with_reducible show Calls _ 8 #[.slice A0 _ _, _] _ _); refine (hsum_any A0 _ n0 c0 1 1 key _ [text] _ HN0.out (hS.rdp HR0.out) rfl (RdBB.one1 (hS.ownRd (A := some ⟨b36, 0, none⟩) (by focus ((repeat (first | exact .here | apply At.there)); done))) (hS.rdp HR1.out) HN1.out) (by omega) (by rw [flat1, HN1.out]; omega) (by decide) (HG.out.keep hS.below)).mono ?_; rw [flat1]; rintro e w_ ⟨rfl, hb_⟩; replace hS := hS.ext hb_; clear hb_) | ((with_reducible show Calls _ 8 #[.slice A8 _ _, _] _ _); refine (hsum_any A8 _ _ c8 1 1 (key ++ List.replicate p 0) _ [text] _ hln.out (hS.ownRd (A := A8) (by focus ((repeat (first | exact .here | apply At.there)); done))) rfl (RdBB.one1 (hS.ownRd (A := some ⟨b44, 0, none⟩) (by focus ((repeat (first | exact .here | apply At.there)); done))) (hS.rdp HR1.out) HN1.out) (by omega) (by rw [flat1, HN1.out]; omega) (by decide) (HG.out.keep hS.below)).mono ?_; rw [flat1, HH.out]; rintro e w_ ⟨rfl, hb_⟩; replace hS := hS.ext hb_; clear hb_))
  go_ret
  exact ⟨rfl, hS.below⟩
end Go.Proofs.YthgfkmjdibhifaaDoor
