/- hmac: padded, Sum. -/
import Derived.Test.YtfmfpckpldlahaaDoorShL
import Derived.Test.YtfmfpckpldlahaaDoorRpt
import Derived.Test.YtfmfpckpldlahaaDoorXor
import Derived.Test.YtfmfpckpldlahaaDoorCut
namespace Go.Proofs.YtfmfpckpldlahaaDoor
open Go.RowKit Go.Proofs.YtfmfpckpldlahaaDoor.Pure

def keyF (key : List UInt8) : List UInt8 := if 128 < key.length then sumF key else key
def padK (key : List UInt8) (d : UInt8) : List UInt8 := xorF (fillF (keyF key) 128) (List.replicate 128 d)
def hmacF (key text : List UInt8) : List UInt8 := sumF (padK key 92 ++ sumF (padK key 54 ++ text))
theorem keyF_le (key : List UInt8) : (keyF key).length ≤ 128 := by
  unfold keyF
  split
  · rw [sumF_length]; decide
  · omega
theorem fillK_len (key : List UInt8) : (fillF (keyF key) 128).length = 128 := by
  rw [fillF_length]; have := keyF_le key; omega
theorem padK_len (key : List UInt8) (d : UInt8) : (padK key d).length = 128 := by
  unfold padK; rw [xorF_length, fillK_len, List.length_replicate]; rfl
theorem hmacF_len (key text : List UInt8) : (hmacF key text).length = 64 := sumF_length _
theorem RdBB.one {w : World} {A : Option Addr} {vs : List Value} {xss : List (List UInt8)} (h : RdBB w A vs xss) : ∀ u ∈ vs, u.oneCell' = true := by
  intro u hu
  obtain ⟨i, hi, rfl⟩ := List.getElem_of_mem hu
  obtain ⟨Ai, ci, e, -⟩ := h.2.2 i (xss[i]'(by rw [← h.2.1]; exact hi)) (List.getElem?_eq_getElem _)
  rw [List.getElem?_eq_getElem hi] at e
  injection e with e
  rw [e]; rfl

set_option maxRecDepth 8000 in
set_option maxHeartbeats 1600000 in
theorem padded_any (A : Option Addr) (n c : Nat) (key : List UInt8) (z : Int) (d : UInt8) (w : World) (hz : z = (d.toNat : Int)) (hn : key.length = n) (hr : RdB w A key) (hk : n ≤ 1000000) (hG : GK w) :
    Calls Tryd.prog 19 #[.slice A n c, .int .u8 z] w (GivesB (padK key d) w) := by
  subst hz
  have hS := St.start w
  have HN := Lib.hid hn
  have HR := Lib.hid hr
  have HG := Lib.hid hG
  have HF := Lib.hid (fillK_len key)
  have HPL := Lib.hid (padK_len key d)
  have HP := Lib.hid (show padK key d = xorF (fillF (keyF key) 128) (List.replicate 128 d) from rfl)
  have hl5 := Lib.hid (show (List.replicate 128 d).length = 128 by simp)
  clear hn hr hG
  by_cases hlt : 128 < n
  · have hgt : (128 : Int) < (n : Int) := by omega
    have HK := Lib.hid (show keyF key = sumF key by unfold keyF; rw [if_pos (by rw [HN.out]; exact hlt)])
    have HL := Lib.hid (sumF_length key)
    go_enter Tryd.func19, Tryd.ntmps19
    go_wp2_with (first | ((with_reducible show wpList _ _ _ (⟨some 10, Op.buildSlice _ _ _, _, _, _, _⟩ :: _) _ _); go_loud (apply S_bslice hS; rfl; (go_simp; first | with_reducible rfl | (refine ⟨?_, ?_⟩ <;> with_reducible rfl)); rfl; rfl; rfl; rfl; clear hS; intro b10 w_ hS)) | (go_at_call 18; refine (sum_any _ 1 1 _ [key] _ rfl (RdBB.of (hS.ownRd (by focus ((repeat (first | exact .here | apply At.there)); done))) (Slcs.cons (Slcs.nil _) (hS.rdp HR.out) HN.out)) (HG.out.keep hS.below) (by rw [List.flatten_cons, List.flatten_nil, List.append_nil, HN.out]; omega) (by decide)).mono ?_; rintro e w_ ⟨rfl, hb_⟩; rw [show [key].flatten = key by simp]; replace hS := hS.ext hb_; clear hb_) | ((with_reducible show wpList _ _ _ (⟨some 5, Op.alloc _, _, _, _, _⟩ :: _) _ _); go_loud (refine S_alloc (z := .agg (List.replicate 64 (.int .u8 0)).toArray) (L := (List.replicate 64 (.int .u8 0))) hS rfl rfl ?_ ?_ ?_; (show _ = _; kernel_rfl); (show _ = _; kernel_rfl); clear hS; intro b5 w_ hS)) | ((with_reducible show wpList _ _ _ (⟨_, Op.store _ _ _, _, _, _, _⟩ :: _) _ _); go_loud (apply S_stAll hS; rfl; rfl; rfl; rfl; (focus ((repeat (first | exact .here | apply At.there)); done)); (first | assumption | (rw [List.length_map, HL.out]; rfl) | (focus (simp [bV, wV, Value.oneCell']; done)) | (focus (simp [bV, Value.oneCell']; done))); (first | rfl | (rw [List.length_map, HL.out]; rfl)); (first | rfl | (rw [List.length_map, HL.out]; rfl)); clear hS; intro w_ hS)) | (go_at_call 28; refine (fill_any _ 64 _ (sumF key) 128 _ HL.out (hS.blkRd (by focus ((repeat (first | exact .here | apply At.there)); done))) (by decide) (by decide)).mono ?_; rw [← HK.out]; rintro e w_ ⟨v_, rfl, hown_, hb_⟩; rw [HF.out] at hown_; obtain ⟨Af, cf, rfl, -⟩ := own_rd hown_; replace hS := hS.got hb_ hown_; clear hb_ hown_) | ((with_reducible show wpList _ _ _ (⟨some 16, Op.buildSlice _ _ _, _, _, _, _⟩ :: _) _ _); go_loud (apply S_bslice hS; rfl; (go_simp; first | with_reducible rfl | (refine ⟨?_, ?_⟩ <;> with_reducible rfl)); rfl; rfl; rfl; rfl; clear hS; intro b16 w_ hS)) | (go_at_call 29; refine (repeat_any _ _ d _ (hS.ownRd (by focus ((repeat (first | exact .here | apply At.there)); done)))).mono ?_; rintro e w_ ⟨v_, rfl, hown_, hb_⟩; rw [hl5.out] at hown_; obtain ⟨Ar, cr, rfl, -⟩ := own_rd hown_; replace hS := hS.got hb_ hown_; clear hb_ hown_) | (go_at_call 27; refine (xor_any Af Ar 128 128 cf cr (fillF (keyF key) 128) (List.replicate 128 d) _ HF.out hl5.out (hS.ownRd (by focus ((repeat (first | exact .here | apply At.there)); done))) (hS.ownRd (by focus ((repeat (first | exact .here | apply At.there)); done))) (hS.ownCap (A := Af) (by focus ((repeat (first | exact .here | apply At.there)); done))) (by decide)).mono ?_; rw [← HP.out]; rintro e w_ ⟨v_, rfl, hown_, hb_⟩; rw [HPL.out] at hown_; obtain ⟨Ax, cx, rfl, -⟩ := own_rd hown_; replace hS := hS.got hb_ hown_; clear hb_ hown_))
    go_ret
    exact ⟨_, rfl, by rw [HPL.out]; exact hS.own (by focus ((repeat (first | exact .here | apply At.there)); done)), hS.below⟩
  · have hgt : ¬ (128 : Int) < (n : Int) := by omega
    have HK := Lib.hid (show keyF key = key by unfold keyF; rw [if_neg (by rw [HN.out]; exact hlt)])
    go_enter Tryd.func19, Tryd.ntmps19
    go_wp2_with (first | (go_at_call 28; refine (fill_any _ n _ key 128 _ HN.out (hS.rdp HR.out) (by omega) (by decide)).mono ?_; rw [← HK.out]; rintro e w_ ⟨v_, rfl, hown_, hb_⟩; rw [HK.out, ← HK.out] at hown_; rw [HF.out] at hown_; obtain ⟨Af, cf, rfl, -⟩ := own_rd hown_; replace hS := hS.got hb_ hown_; clear hb_ hown_) | ((with_reducible show wpList _ _ _ (⟨some 16, Op.buildSlice _ _ _, _, _, _, _⟩ :: _) _ _); go_loud (apply S_bslice hS; rfl; (go_simp; first | with_reducible rfl | (refine ⟨?_, ?_⟩ <;> with_reducible rfl)); rfl; rfl; rfl; rfl; clear hS; intro b16 w_ hS)) | (go_at_call 29; refine (repeat_any _ _ d _ (hS.ownRd (by focus ((repeat (first | exact .here | apply At.there)); done)))).mono ?_; rintro e w_ ⟨v_, rfl, hown_, hb_⟩; rw [hl5.out] at hown_; obtain ⟨Ar, cr, rfl, -⟩ := own_rd hown_; replace hS := hS.got hb_ hown_; clear hb_ hown_) | (go_at_call 27; refine (xor_any Af Ar 128 128 cf cr (fillF (keyF key) 128) (List.replicate 128 d) _ HF.out hl5.out (hS.ownRd (by focus ((repeat (first | exact .here | apply At.there)); done))) (hS.ownRd (by focus ((repeat (first | exact .here | apply At.there)); done))) (hS.ownCap (A := Af) (by focus ((repeat (first | exact .here | apply At.there)); done))) (by decide)).mono ?_; rw [← HP.out]; rintro e w_ ⟨v_, rfl, hown_, hb_⟩; rw [HPL.out] at hown_; obtain ⟨Ax, cx, rfl, -⟩ := own_rd hown_; replace hS := hS.got hb_ hown_; clear hb_ hown_))
    go_ret
    exact ⟨_, rfl, by rw [HPL.out]; exact hS.own (by focus ((repeat (first | exact .here | apply At.there)); done)), hS.below⟩

set_option maxRecDepth 8000 in
set_option maxHeartbeats 1600000 in
theorem hsum_any (A B : Option Addr) (n c m c' : Nat) (key : List UInt8) (vs : List Value) (bs : List (List UInt8)) (w : World) (hn : key.length = n) (hr : RdB w A key) (hm : bs.length = m) (hB : RdBB w B vs bs) (hk : n ≤ 1000000) (hb : bs.flatten.length ≤ 1000000) (hm2 : m ≤ 1000000) (hG : GK w) :
    Calls Tryd.prog 15 #[.slice A n c, .slice B m c'] w fun e w' => e = .returned (.agg ((hmacF key bs.flatten).map bV).toArray) ∧ Below w.heap.size w w' := by
  have hS := St.start w
  have HN := Lib.hid hn
  have HR := Lib.hid hr
  have HM := Lib.hid hm
  have HB := Lib.hid hB
  have HG := Lib.hid hG
  have HV := Lib.hid (show vs.length = m by rw [← hm]; exact hB.2.1)
  have HO := Lib.hid hB.one
  have HP := Lib.hid (fun d => padK_len key d)
  have HX := Lib.hid hb
  clear hn hr hm hB hG hb
  have HSR := Lib.hid (show ∀ wx, RdBB wx B vs bs → Src Tryd.prog 1 40 (.slice B m c') m vs wx from fun wx h => by have := Src.of_rd (P := Tryd.prog) (c := c') Tryd.underlying40 h.1 HO.out; rwa [HV.out] at this)
  have HFL := Lib.hid (show (padK key 54 :: bs).flatten = padK key 54 ++ bs.flatten by simp)
  have HFL2 := Lib.hid (show ∀ s, [padK key 92, s].flatten = padK key 92 ++ s by intro s; simp)
  have HL := Lib.hid (fun s => sumF_length s)
  have HH := Lib.hid (show sumF (padK key 92 ++ sumF (padK key 54 ++ bs.flatten)) = hmacF key bs.flatten from rfl)
  go_enter Tryd.func15, Tryd.ntmps15
  go_upto_region 2 with (first | ((with_reducible show wpList _ _ _ (⟨some 4, Op.alloc _, _, _, _, _⟩ :: _) _ _); go_loud (refine S_alloc (z := .agg (List.replicate 64 (.int .u8 0)).toArray) (L := (List.replicate 64 (.int .u8 0))) hS rfl rfl ?_ ?_ ?_; (show _ = _; kernel_rfl); (show _ = _; kernel_rfl); clear hS; intro b4 w_ hS)) | (go_at_call 19; refine (padded_any A n c key 54 54 _ rfl HN.out (hS.rdp HR.out) hk (HG.out.keep hS.below)).mono ?_; rintro e w_ ⟨v_, rfl, hown_, hb_⟩; rw [HP.out] at hown_; obtain ⟨Ap, cp, rfl, -⟩ := own_rd hown_; replace hS := hS.got hb_ hown_; clear hb_ hown_) | ((with_reducible show wpList _ _ _ (⟨some 8, Op.buildSlice _ _ _, _, _, _, _⟩ :: _) _ _); go_loud (apply S_bslice hS; rfl; (go_simp; first | with_reducible rfl | (refine ⟨?_, ?_⟩ <;> with_reducible rfl)); rfl; rfl; rfl; rfl; clear hS; intro b8 w_ hS)) | ((with_reducible show wpList _ _ _ (⟨some 10, Op.call _, _, _, _, _⟩ :: _) _ _); go_loud (apply S_app TBB hS; rfl; rfl; rfl; (focus ((repeat (first | exact .here | apply At.there)); done)); rfl; exact HSR.out _ (HB.out.keep hS.below); (unfold maxLen; omega); omega; clear hS; intro Aq cq w_ hS)) | (go_at_call 18; refine (sum_any Aq _ cq (.slice Ap 128 cp :: vs) (padK key 54 :: bs) _ (by rw [List.length_cons, HM.out]; omega) (RdBB.of (hS.ownRd (by focus ((repeat (first | exact .here | apply At.there)); done))) (Slcs.cons (HB.out.keep hS.below).2 (hS.ownRd (A := Ap) (by focus ((repeat (first | exact .here | apply At.there)); done))) (HP.out 54))) (HG.out.keep hS.below) (by rw [HFL.out, List.length_append, HP.out]; have := HX.out; omega) (by omega)).mono ?_; rintro e w_ ⟨rfl, hb_⟩; rw [HFL.out]; replace hS := hS.ext hb_; clear hb_) | ((with_reducible show wpList _ _ _ (⟨some 5, Op.alloc _, _, _, _, _⟩ :: _) _ _); go_loud (refine S_alloc (z := .agg (List.replicate 64 (.int .u8 0)).toArray) (L := (List.replicate 64 (.int .u8 0))) hS rfl rfl ?_ ?_ ?_; (show _ = _; kernel_rfl); (show _ = _; kernel_rfl); clear hS; intro b5 w_ hS)) | ((with_reducible show wpList _ _ _ (⟨_, Op.store _ _ _, _, _, _, _⟩ :: _) _ _); go_loud (apply S_stAll hS; rfl; rfl; rfl; rfl; (focus ((repeat (first | exact .here | apply At.there)); done)); (first | assumption | (rw [List.length_map, HL.out]; rfl) | (focus (simp [bV, wV, Value.oneCell']; done)) | (focus (simp [bV, Value.oneCell']; done))); (first | rfl | (rw [List.length_map, HL.out]; rfl)); (first | rfl | (rw [List.length_map, HL.out]; rfl)); clear hS; intro w_ hS)))
  have HS := Lib.hid (sumF_length (padK key 54 ++ bs.flatten))
  generalize sumF (padK key 54 ++ bs.flatten) = s at *
  obtain ⟨N_, hN_⟩ := hS.sz
  have h0N_ := hS.size
  rw [hN_] at h0N_
  refine E_start (hR := KeepS.pre (SN N_ [b4])) #[false, false, false, false, false, false] (by kernel_rfl) rfl rfl (fun w_r1 hx_r1 he_r1 => ?_)
  have hzE_ : w_r1.heap.size = N_ := by rw [he_r1]; exact hN_
  have hz : N_ ≤ w_r1.heap.size := Nat.le_of_eq hzE_.symm
  replace hS := hS.drew; rw [← he_r1] at hS
  clear hx_r1 he_r1
  clear hzE_ hN_
  refine E_take (hR := KeepS.pre (SN N_ [b4])) (i := 0) (N := (some 12)) (v := ?vr1_0) (a' := ?ar1_0) #[true, false, false, false, false, false] rfl rfl (by kernel_rfl) (fun _ _ _ h => h) (by rfl) ?hyr1_0 ?har1_0 ?_
  case hyr1_0 =>
    intro w' hx
    go_simp
    with_reducible rfl
  case har1_0 => (simp only [Act.put, List.setIfInBounds_toArray, List.set_cons_zero, List.set_cons_succ]; rfl)
  refine E_take (hR := KeepS.pre (SN N_ [b4])) (i := 2) (N := (some 14)) (v := ?vr1_2) (a' := ?ar1_2) #[true, false, true, false, false, false] rfl rfl (by kernel_rfl) (fun _ _ _ h => h) (by rfl) ?hyr1_2 ?har1_2 ?_
  case hyr1_2 =>
    intro w' hx
    (first | (apply Eq.trans; (apply R_slice; rfl; rfl; (first | exact SB.no | exact SB.so | exact SB.lit (by decide)); (first | exact SB.no | exact SB.so | exact SB.lit (by decide)); rfl; rfl; (first | assumption | (focus (simp; done)) | (focus (simp; omega)) | omega); (first | assumption | (focus (simp; done)) | (focus (simp; omega)) | omega)); with_reducible rfl) | (go_simp; with_reducible rfl))
  case har1_2 => (simp only [Act.put, List.setIfInBounds_toArray, List.set_cons_zero, List.set_cons_succ]; rfl)
  refine E_split [1] (by kernel_rfl) (by simp) (fun i_ hi_ => ?_)
  simp only [List.mem_cons, List.not_mem_nil, or_false] at hi_
  rcases hi_ with rfl
  refine E_call1 (i := 1) (N := (some 13)) (args := ?gr1_1) #[true, true, true, false, false, false] rfl rfl (by kernel_rfl) (by rfl) Tryd.func19 (by kernel_rfl) rfl rfl ?hgr1_1 ?_
  case hgr1_1 => (simp only [List.map_toArray, List.map_cons, List.map_nil]; go_simp; with_reducible rfl)
  refine (padded_any A n c key 92 92 _ rfl HN.out (hS.rdp HR.out) hk (HG.out.keep hS.below)).mono ?_
  rintro e w_ ⟨v_, rfl, hown_, hb_⟩
  rw [HP.out] at hown_
  (obtain ⟨A2, c2, rfl, hc_A2, -⟩ := own_rd hown_; refine ⟨_, rfl, KeepS.below hb_ hz, ?_⟩; have hn_A2 : ∀ g, Value.ownBlock (.slice A2 _ c2) = some g → N_ ≤ g := (fun g hg => Nat.le_trans hz (hown_.lt g hg).1); replace hS := hS.got hb_ hown_; replace hz := Nat.le_trans hz hb_.size; clear hb_ hown_)
  rintro _ rfl
  simp only [Act.put, List.setIfInBounds_toArray, List.set_cons_zero, List.set_cons_succ]
  refine E_split [3] (by kernel_rfl) (by simp) (fun i_ hi_ => ?_)
  simp only [List.mem_cons, List.not_mem_nil, or_false] at hi_
  rcases hi_ with rfl
  apply K_bslice (i := 3) (T := (some 15)) hS hz #[true, true, true, true, false, false]
  (rfl; rfl; (show _ = _; kernel_rfl); rfl; (go_simp; first | with_reducible rfl | (refine ⟨?_, ?_⟩ <;> with_reducible rfl)); rfl; rfl; rfl)
  clear hS hz
  intro b15 w_ hN_b15 hS hz
  rintro _ rfl
  simp only [Act.put, List.setIfInBounds_toArray, List.set_cons_zero, List.set_cons_succ]
  refine E_split [4] (by kernel_rfl) (by simp) (fun i_ hi_ => ?_)
  simp only [List.mem_cons, List.not_mem_nil, or_false] at hi_
  rcases hi_ with rfl
  refine E_call1 (i := 4) (N := (some 16)) (args := ?gr1_4) #[true, true, true, true, true, false] rfl rfl (by kernel_rfl) (by rfl) Tryd.func18 (by kernel_rfl) rfl rfl ?hgr1_4 ?_
  case hgr1_4 => (simp only [List.map_toArray, List.map_cons, List.map_nil]; go_simp; with_reducible rfl)
  refine (sum_any _ 2 2 _ [padK key 92, s] _ rfl (RdBB.of (hS.ownRd (by focus ((repeat (first | exact .here | apply At.there)); done))) (Slcs.cons (Slcs.cons (Slcs.nil _) (hS.blkRd (by focus ((repeat (first | exact .here | apply At.there)); done))) HS.out) (hS.ownRd (A := A2) (by focus ((repeat (first | exact .here | apply At.there)); done))) (HP.out 92))) (HG.out.keep hS.below) (by rw [HFL2.out, List.length_append, HP.out, HS.out]; decide) (by decide)).mono ?_
  rintro e w_ ⟨rfl, hb_⟩
  rw [HFL2.out]
  (refine ⟨_, rfl, KeepS.below hb_ hz, ?_⟩; replace hS := hS.ext hb_; replace hz := Nat.le_trans hz hb_.size; clear hb_)
  rintro _ rfl
  simp only [Act.put, List.setIfInBounds_toArray, List.set_cons_zero, List.set_cons_succ]
  refine E_split [5] (by kernel_rfl) (by simp) (fun i_ hi_ => ?_)
  simp only [List.mem_cons, List.not_mem_nil, or_false] at hi_
  rcases hi_ with rfl
  (first | (apply K_stAll (i := 5) hS hz #[true, true, true, true, true, true]; rfl; rfl; kernel_rfl; rfl; rfl; rfl; rfl; (focus ((repeat (first | exact .here | apply At.there)); done)); (first | assumption | (refine Or.inl ?_; assumption) | (refine Or.inr ?_; focus (simp; done))); (first | assumption | (fail) | (focus (simp [bV, Value.oneCell']; done))); (first | rfl | (rw [List.length_map, HL.out]; rfl)); (first | rfl | (rw [List.length_map, HL.out]; rfl))) | (apply K_stPart (i := 5) hS hz #[true, true, true, true, true, true]; rfl; rfl; kernel_rfl; rfl; rfl; rfl; rfl; (focus ((repeat (first | exact .here | apply At.there)); done)); (first | assumption | (refine Or.inl ?_; assumption) | (refine Or.inr ?_; focus (simp; done))); (first | assumption | (fail) | (focus (simp [bV, Value.oneCell']; done))); (first | rfl | (rw [List.length_map, HL.out]; rfl)); (first | decide | (rw [List.length_map, HL.out]; rfl))))
  clear hS hz
  intro w_ hS hz
  try simp only [List.set_cons_zero, List.set_cons_succ] at hS
  refine E_done (by kernel_rfl) ?_
  go_wp2
  (try simp only [Exit.inBlock, Exit.then]); refine bodyPost_ret (results_cell_one hS rfl _ rfl (by focus ((repeat (first | exact .here | apply At.there)); done)) rfl (by rw [List.length_map, HL.out]; rfl)) rfl ⟨?_, hS.below⟩
  rw [HH.out]
end Go.Proofs.YtfmfpckpldlahaaDoor
