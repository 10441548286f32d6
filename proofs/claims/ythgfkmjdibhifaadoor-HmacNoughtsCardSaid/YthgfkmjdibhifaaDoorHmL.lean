/- The walks of HmacLong and HmacRights. -/
import Derived.Test.YthgfkmjdibhifaaDoorHmT
namespace Go.Proofs.YthgfkmjdibhifaaDoor
open Go.RowKit Go.Proofs.YthgfkmjdibhifaaDoor.Pure

theorem RdBB.one1 {w : World} {b : Nat} {A : Option Addr} {n c : Nat} {xs : List UInt8} (h : Rd w (some ⟨b, 0, none⟩) [.slice A n c]) (hr : RdB w A xs) (hn : xs.length = n) : RdBB w (some ⟨b, 0, none⟩) [.slice A n c] [xs] :=
  RdBB.of h (Slcs.cons (Slcs.nil _) hr hn)
theorem flat1 (xs : List UInt8) : [xs].flatten = xs := by simp
theorem ints_u8 : ∀ (z : List Int), (∀ y ∈ z, (Lit.int .u8 y).wf = true) → ∃ bs : List UInt8, bs.length = z.length ∧ z.map (Value.int .u8) = bs.map bV
  | [], _ => ⟨[], rfl, rfl⟩
  | y :: z, h => by
    obtain ⟨bs, h1, h2⟩ := ints_u8 z fun x hx => h x (List.mem_cons_of_mem _ hx)
    have hy : 0 ≤ y ∧ y ≤ 255 := by
      have := h y (List.mem_cons_self ..)
      simpa [Lit.wf, IntKind.min, IntKind.max, IntKind.signed, IntKind.bits] using this
    refine ⟨UInt8.ofNat y.toNat :: bs, by simp [h1], ?_⟩
    rw [List.map_cons, List.map_cons, h2]
    congr 1
    unfold bV
    congr 1
    have : (UInt8.ofNat y.toNat).toNat = y.toNat := UInt8.toNat_ofNat_of_lt' (by show y.toNat < 256; omega)
    rw [this]; omega

theorem run_eqlA (s : List UInt8) (w : World) (h : s.length = 64) : (binOp .eql 24 (.agg (s.map bV).toArray) (.agg (s.map bV).toArray)).run Tryd.prog w = .ok (.bool true) w := run_eql_arrA s w h
theorem run_eqlT (s : List UInt8) (w : World) (h : s.length = 32) : (binOp .eql 29 (.agg (s.map bV).toArray) (.agg (s.map bV).toArray)).run Tryd.prog w = .ok (.bool true) w := by
  rw [← arrA]
  exact run_eql_same w Tryd.underlying29 Tryd.underlying5 (by kernel_rfl) (i8s s) (by rw [i8s_length]; exact h)

theorem hmacF_long {key text : List UInt8} (h : 128 < key.length) : hmacF (sumF key) text = hmacF key text := by
  have h1 : keyF (sumF key) = sumF key := by unfold keyF; rw [if_neg (by rw [sumF_length]; decide)]
  have h2 : keyF key = sumF key := by unfold keyF; rw [if_pos h]
  unfold hmacF padK
  rw [h1, h2]

set_option maxRecDepth 8000 in
set_option maxHeartbeats 1600000 in
theorem long_walk (A0 A1 : Option Addr) (n0 c0 n1 c1 : Nat) (key text : List UInt8) (w : World) (hn0 : key.length = n0) (hn1 : text.length = n1) (hr0 : RdB w A0 key) (hr1 : RdB w A1 text) (hc0 : n0 ≤ c0) (hG : GK w) :
    Calls Tryd.prog 5 #[.slice A0 n0 c0, .slice A1 n1 c1] w fun e w' => e = .returned (.bool true) ∧ Below w.heap.size w w' := by
  have hS := St.start w
  have HG := Lib.hid hG
  have HR0 := Lib.hid hr0
  have HR1 := Lib.hid hr1
  have HN0 := Lib.hid hn0
  have HN1 := Lib.hid hn1
  clear hG hr0 hr1 hn0 hn1
  by_cases h1 : n0 < 129
  · go_enter Tryd.func5, Tryd.ntmps5
    go_wp2_with
      (go_at_call 7; refine (awake_any _ (HG.out.keep hS.below)).mono ?_; rintro e w_ ⟨rfl, hb_⟩; replace hS := hS.ext hb_; clear hb_)
    all_goals (go_ret; exact ⟨rfl, hS.below⟩)
  by_cases h2 : 400 < n0
  · go_enter Tryd.func5, Tryd.ntmps5
    go_wp2_with
      (go_at_call 7; refine (awake_any _ (HG.out.keep hS.below)).mono ?_; rintro e w_ ⟨rfl, hb_⟩; replace hS := hS.ext hb_; clear hb_)
    all_goals (go_ret; exact ⟨rfl, hS.below⟩)
  by_cases h3 : 300 < n1
  · go_enter Tryd.func5, Tryd.ntmps5
    go_wp2_with
      (go_at_call 7; refine (awake_any _ (HG.out.keep hS.below)).mono ?_; rintro e w_ ⟨rfl, hb_⟩; replace hS := hS.ext hb_; clear hb_)
    all_goals (go_ret; exact ⟨rfl, hS.below⟩)
  have i1 : ¬ (n0 : Int) < 129 := by omega
  have i2 : ¬ (400 : Int) < (n0 : Int) := by omega
  have i3 : ¬ (300 : Int) < (n1 : Int) := by omega
  have HH := Lib.hid (hmacF_long (key := key) (text := text) (by rw [HN0.out]; omega))
  have HTT := Lib.hid (show tagF (sumF key) text = tagF key text by unfold tagF; rw [HH.out])
  have HL := Lib.hid (sumF_length key)
  have q1 := fun wx => run_eqlA (hmacF key text) wx (hmacF_len key text)
  have q2 := fun wx => run_eqlT (tagF key text) wx (tagF_len key text)
  go_enter Tryd.func5, Tryd.ntmps5
  go_wp2_with (first | (go_at_call 7; refine (awake_any _ (HG.out.keep hS.below)).mono ?_; rintro e w_ ⟨rfl, hb_⟩; replace hS := hS.ext hb_; clear hb_) | (go_at_call 12; refine (refSum_any A0 n0 c0 key _ HN0.out (hS.rdp HR0.out) hc0 (by omega)).mono ?_; rintro e w_ ⟨rfl, hb_⟩; replace hS := hS.ext hb_; clear hb_) | ((with_reducible show wpList _ _ _ (⟨some 26, Op.convert _ _ _, _, _, _, _⟩ :: _) _ _); go_loud (apply S_byt hS; rfl; rfl; rfl; rfl; rfl; rfl; exact HL.out; clear hS; intro b5 c5 C5 fr5 w_ HC5 hS)) | ((with_reducible show wpList _ _ _ (⟨_, _, _, _, _, some (_, _)⟩ :: _) _ _); go_loud (first | (apply S_guardT; rfl; rfl; first | rfl | assumption) | (apply S_guardF; rfl; rfl; first | rfl | assumption) | (apply S_guard; rfl; rfl; all_goals intro hg_))) | ((with_reducible show wpList _ _ _ (⟨some 29, Op.buildSlice _ _ _, _, _, _, _⟩ :: _) _ _); go_loud (apply S_bslice hS; rfl; (go_simp; first | with_reducible rfl | (refine ⟨?_, ?_⟩ <;> with_reducible rfl)); rfl; rfl; rfl; rfl; clear hS; intro b29 w_ hS)) | ((with_reducible show wpList _ _ _ (⟨some 33, Op.buildSlice _ _ _, _, _, _, _⟩ :: _) _ _); go_loud (apply S_bslice hS; rfl; (go_simp; first | with_reducible rfl | (refine ⟨?_, ?_⟩ <;> with_reducible rfl)); rfl; rfl; rfl; rfl; clear hS; intro b33 w_ hS)) | ((with_reducible show wpList _ _ _ (⟨some 39, Op.buildSlice _ _ _, _, _, _, _⟩ :: _) _ _); go_loud (apply S_bslice hS; rfl; (go_simp; first | with_reducible rfl | (refine ⟨?_, ?_⟩ <;> with_reducible rfl)); rfl; rfl; rfl; rfl; clear hS; intro b39 w_ hS)) | ((with_reducible show wpList _ _ _ (⟨some 43, Op.buildSlice _ _ _, _, _, _, _⟩ :: _) _ _); go_loud (apply S_bslice hS; rfl; (go_simp; first | with_reducible rfl | (refine ⟨?_, ?_⟩ <;> with_reducible rfl)); rfl; rfl; rfl; rfl; clear hS; intro b43 w_ hS)) | ((with_reducible show Calls _ 8 #[.slice A0 _ _, _] _ _); refine (hsum_any A0 _ n0 c0 1 1 key _ [text] _ HN0.out (hS.rdp HR0.out) rfl (RdBB.one1 (hS.ownRd (by focus ((repeat (first | exact .here | apply At.there)); done))) (hS.rdp HR1.out) HN1.out) (by omega) (by rw [flat1, HN1.out]; omega) (by decide) (HG.out.keep hS.below)).mono ?_; rw [flat1]; rintro e w_ ⟨rfl, hb_⟩; replace hS := hS.ext hb_; clear hb_) | ((with_reducible show Calls _ 8 #[.slice (some _) _ _, _] _ _); refine (hsum_any (some ⟨b5, 0, none⟩) _ 64 c5 1 1 (sumF key) _ [text] _ HL.out (hS.objRd (b := b5) (by focus ((repeat (first | exact .here | apply At.there)); done)) HC5) rfl (RdBB.one1 (hS.ownRd (by focus ((repeat (first | exact .here | apply At.there)); done))) (hS.rdp HR1.out) HN1.out) (by omega) (by rw [flat1, HN1.out]; omega) (by decide) (HG.out.keep hS.below)).mono ?_; rw [flat1, HH.out]; rintro e w_ ⟨rfl, hb_⟩; replace hS := hS.ext hb_; clear hb_) | ((with_reducible show Calls _ 10 #[.slice A0 _ _, _] _ _); refine (tag_any A0 _ n0 c0 1 1 key _ [text] _ HN0.out (hS.rdp HR0.out) rfl (RdBB.one1 (hS.ownRd (by focus ((repeat (first | exact .here | apply At.there)); done))) (hS.rdp HR1.out) HN1.out) (by omega) (by rw [flat1, HN1.out]; omega) (by decide) (HG.out.keep hS.below)).mono ?_; rw [flat1]; rintro e w_ ⟨rfl, hb_⟩; replace hS := hS.ext hb_; clear hb_) | ((with_reducible show Calls _ 10 #[.slice (some _) _ _, _] _ _); refine (tag_any (some ⟨b5, 0, none⟩) _ 64 c5 1 1 (sumF key) _ [text] _ HL.out (hS.objRd (b := b5) (by focus ((repeat (first | exact .here | apply At.there)); done)) HC5) rfl (RdBB.one1 (hS.ownRd (by focus ((repeat (first | exact .here | apply At.there)); done))) (hS.rdp HR1.out) HN1.out) (by omega) (by rw [flat1, HN1.out]; omega) (by decide) (HG.out.keep hS.below)).mono ?_; rw [flat1, HTT.out]; rintro e w_ ⟨rfl, hb_⟩; replace hS := hS.ext hb_; clear hb_))
  all_goals (go_ret; exact ⟨rfl, hS.below⟩)
end Go.Proofs.YthgfkmjdibhifaaDoor
