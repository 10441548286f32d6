/- The walk of OctetsCuts. -/
import Derived.Test.YtnopoiidekklfaaRCu2
import Derived.Test.YtnopoiidekklfaaReg
namespace Go.Proofs.Ytnopoiidekklfaa
open Go.RowKit

theorem lt_of_nCh {n s j : Nat} (hs : 1 ≤ s) (h : j < nCh n s) : j * s < n := by
  unfold nCh at h
  have := (Nat.le_div_iff_mul_le hs).1 (Nat.succ_le_of_lt h)
  rw [Nat.succ_mul] at this
  omega

theorem flat_pieces (xs : List UInt8) (s : Nat) : ∀ k : Nat, ((List.range k).map (pieceF xs s)).flatten = xs.take (k * s)
  | 0 => by simp
  | k + 1 => by
    rw [pieces_succ, List.flatten_append, flat_pieces xs s k]
    simp only [List.flatten_cons, List.flatten_nil, List.append_nil]
    rw [Nat.succ_mul, List.take_add]; rfl

theorem flat_cut {xs : List UInt8} {size : Int} (h : 0 < size) : (cutF xs size).flatten = xs := by
  unfold cutF
  rw [if_neg (by omega), flat_pieces]
  refine List.take_of_length_le ?_
  have hs : 1 ≤ size.toNat := by omega
  by_cases hle : xs.length ≤ nCh xs.length size.toNat * size.toNat
  · exact hle
  · exact absurd (lt_nCh hs (by omega : nCh xs.length size.toNat * size.toNat < xs.length)) (Nat.lt_irrefl _)

theorem cut_length_le (xs : List UInt8) (size : Int) : (cutF xs size).length ≤ xs.length := by
  unfold cutF
  split
  · exact Nat.zero_le _
  · rw [List.length_map, List.length_range]; exact nCh_le (by omega)

theorem cut_nonempty {xs ys : List UInt8} {size : Int} {i : Nat} (h : (cutF xs size)[i]? = some ys) : 0 < ys.length := by
  unfold cutF at h
  split at h
  · simp at h
  · rename_i hs
    obtain ⟨hi, e⟩ := List.getElem?_eq_some_iff.1 h
    rw [List.length_map, List.length_range] at hi
    rw [List.getElem_map, List.getElem_range] at e
    subst e
    rw [piece_len]
    have := lt_of_nCh (by omega) hi
    omega

/-- The values vs are slices of their own that hold a byte at least. -/
def Bytes1 (W : World) (base : Nat) (vs : List Value) : Prop := ∀ (i : Nat) (v : Value), vs[i]? = some v → ∃ xs : List UInt8, 0 < xs.length ∧ W.ownsRow base 5 1 v xs.length (xs.map bV)

theorem Bytes1.of {W : World} {base : Nat} {vs : List Value} {xs : List UInt8} {size : Int} (h : Each W base vs (cutF xs size)) : Bytes1 W base vs := fun i v hv => by
  have hi : i < (cutF xs size).length := by rw [← h.1]; exact (List.getElem?_eq_some_iff.1 hv).1
  obtain ⟨u, hu, hr⟩ := h.2 i _ (List.getElem?_eq_getElem hi)
  rw [hv] at hu
  cases hu
  exact ⟨_, cut_nonempty (List.getElem?_eq_getElem hi), hr⟩

theorem Bytes1.set {W : World} {base : Nat} {vs : List Value} (h : Bytes1 W base vs) (g : Nat) (u : UInt8) : Bytes1 (W.setCell ⟨g, 0, none⟩ (bV u)) base vs := fun i v hv => by
  obtain ⟨xs, hx, hr⟩ := h i v hv
  obtain ⟨g', c', rfl, -, -, -, -, hset⟩ := own_at hr hx
  by_cases hg : g' = g
  · subst hg
    exact ⟨xs.set 0 u, by rw [List.length_set]; exact hx, by rw [List.length_set, ← set_bV]; exact hset 0 _ hx⟩
  · exact ⟨xs, hx, hr.kept (grownBy_setCell' W g _) (.inr (by intro e; apply hg; simpa [Value.ownBlock] using e))⟩

theorem Bytes1.below {W W' : World} {base : Nat} {vs : List Value} (h : Bytes1 W base vs) (hb : Below W.heap.size W W') : Bytes1 W' base vs := fun i v hv => by
  obtain ⟨xs, hx, hr⟩ := h i v hv
  exact ⟨xs, hx, ownsRow_below hr hb⟩

set_option maxHeartbeats 4000000 in
theorem octetsCuts_walk (A : Option Addr) (n c : Nat) (b : List UInt8) (size : Int) (w : World) (hn : b.length = n) (h : RdB w A b) (hc : n ≤ c) :
    Calls Try.prog 5 #[.slice A n c, .int .i64 size] w fun e w' => e = .returned (.bool true) ∧ Below w.heap.size w w' := by
  have HN := Lib.hid hn
  have H := Lib.hid h
  have hb := Below.refl w.heap.size w
  clear hn h
  by_cases h500 : 500 < n
  · go_enter Try.func5, Try.ntmps5
    go_wp2_with (go_at_call 8; refine (awake_acc w _ hb).mono ?_; clear hb; rintro e w1 ⟨rfl, hb⟩)
    go_ret
    exact ⟨rfl, hb⟩
  by_cases h2000 : 2000 < size
  · go_enter Try.func5, Try.ntmps5
    go_wp2_with (go_at_call 8; refine (awake_acc w _ hb).mono ?_; clear hb; rintro e w1 ⟨rfl, hb⟩)
    go_ret
    exact ⟨rfl, hb⟩
  have e1 : ((str (fillF b size)).toList == (str (fillF b size)).toList) = true := by simp
  have e2 : ((str b).toList == (str b).toList) = true := by simp
  have PQ := Lib.hid (show (cutF b size == cutF b size) = true by simp)
  have CF := Lib.hid (fun h : 0 < size => flat_cut (xs := b) h)
  have hcl := cut_length_le b size
  rw [HN.out] at hcl
  have CN : Hid (∀ W base vs, Each W base vs (cutF b size) → Bytes1 W base vs) := Lib.hid fun _ _ _ => Bytes1.of
  generalize hp : cutF b size = p at *
  have PV := Lib.hid hp
  clear hp
  generalize hl : p.length = np at *
  have HL := Lib.hid hl
  clear hl
  generalize hf : fillF b size = f at *
  have FV := Lib.hid hf
  have hfl : f.length ≤ 3000 := by rw [← hf, fillF_length, HN.out]; omega
  clear hf
  generalize hfn : f.length = nf at *
  have HF := Lib.hid hfn
  clear hfn
  go_enter Try.func5, Try.ntmps5
  go_wp2_with (first | (go_at_call 8; refine (awake_acc w _ hb).mono ?_; clear hb; rintro e w1 ⟨rfl, hb⟩) | (at_builtin; go_loud (refine wpList_app0 (World.ownsRow_made w1 #[] 0 (Nat.le_refl _) (Nat.zero_le _) rfl) (H.out.keep (hb.alloc hb.size _)) HN.out rfl rfl rfl rfl (by omega) (by rw [World.size_alloc]; omega) (fun A2 n2 w2 hown2 hg => ?_)); have hb2 := (hb.alloc hb.size (.cells #[] 5)).grown hg (by have := hb.size; rw [World.size_alloc]; omega) (fun k e => by cases e); obtain ⟨_, _, e2', hle2, _, hr2, _⟩ := own_rd hown2; cases e2'; have R2 := Lib.hid hr2; clear hown2 hg hr2 hb) | (go_at_call 14; refine (cut_any A2 n n2 size b _ HN.out R2.out hle2 (by omega) (by omega)).mono ?_; rintro e w3 ⟨v3, vs3, rfl, hown3, heach3, hbel3⟩; rw [PV.out] at hown3 heach3; rw [HL.out] at hown3; obtain ⟨A3, n3, rfl, _, _, hr3, _⟩ := own_rd hown3; have O3 := Lib.hid hown3; have B3 := Lib.hid (CN.out _ _ _ heach3); have P3 := Lib.hid (heach3.rd hr3); have hbel23 := Lib.hid hbel3; replace hb := hb2.trans (hbel3.mono hb2.size); have HB2 := Lib.hid hb2; clear hown3 heach3 hr3 hb2 hbel3 CN) | (go_at_call 15; refine (fill_any A2 n n2 b size _ HN.out (Rd.keep R2.out hbel23.out) (by omega) (by omega)).mono ?_; rintro e w4 ⟨v4, rfl, hown4, hbel4⟩; rw [FV.out, HF.out] at hown4; obtain ⟨A4, n4, rfl, _, _, hr4, _⟩ := own_rd hown4; have R4 := Lib.hid hr4; replace P3 := Lib.hid (P3.out.keep hbel4); replace O3 := Lib.hid (ownsRow_below O3.out hbel4); replace B3 := Lib.hid (B3.out.below hbel4); replace hbel23 := Lib.hid (hbel23.out.trans (hbel4.mono hbel23.out.size)); replace hb := hb.trans (hbel4.mono hb.size); clear hown4 hr4 hbel4))
  by_cases hpos : 0 < size
  · skip
    refine E_start (hR := Ext.pre) #[false, false, false, false, false, false, false, false, false, false, false, false, false, false, false, false, false, false, false, false, false, false, false, false, false, false, false] (by kernel_rfl) rfl rfl (fun w_p1 hx_p1 he_p1 => ?_)
    clear he_p1
    replace P3 := Lib.hid (P3.out.keep hx_p1)
    replace O3 := Lib.hid (ownsRow_below O3.out hx_p1)
    replace B3 := Lib.hid (B3.out.below hx_p1)
    replace R4 := Lib.hid (Rd.keep R4.out hx_p1)
    replace hbel23 := Lib.hid (hbel23.out.trans (Below.mono hx_p1 hbel23.out.size))
    replace hb := hb.trans (Below.mono hx_p1 hb.size)
    refine E_take (hR := Ext.pre) (i := 0) (N := (some 30)) (v := ?vp1_0) (a' := ?ap1_0) #[true, false, false, false, false, false, false, false, false, false, false, false, false, false, false, false, false, false, false, false, false, false, false, false, false, false, false] rfl rfl (by kernel_rfl) (fun _ _ _ h => h) (by rfl) ?hyp1_0 ?hap1_0 ?_
    case hyp1_0 =>
      intro w' hx
      go_simp
      with_reducible rfl
    case hap1_0 => (simp only [Act.put, List.setIfInBounds_toArray, List.set_cons_zero, List.set_cons_succ]; rfl)
    refine E_take (hR := Ext.pre) (i := 1) (N := (some 31)) (v := ?vp1_1) (a' := ?ap1_1) #[true, true, false, false, false, false, false, false, false, false, false, false, false, false, false, false, false, false, false, false, false, false, false, false, false, false, false] rfl rfl (by kernel_rfl) (fun _ _ _ h => h) (by rfl) ?hyp1_1 ?hap1_1 ?_
    case hyp1_1 =>
      intro w' hx
      go_simp
      with_reducible rfl
    case hap1_1 => (simp only [Act.put, List.setIfInBounds_toArray, List.set_cons_zero, List.set_cons_succ]; rfl)
    refine E_take (hR := Ext.pre) (i := 2) (N := (some 32)) (v := ?vp1_2) (a' := ?ap1_2) #[true, true, true, false, false, false, false, false, false, false, false, false, false, false, false, false, false, false, false, false, false, false, false, false, false, false, false] rfl rfl (by kernel_rfl) (fun _ _ _ h => h) (by rfl) ?hyp1_2 ?hap1_2 ?_
    case hyp1_2 =>
      intro w' hx
      go_simp
      with_reducible rfl
    case hap1_2 => (simp only [Act.put, List.setIfInBounds_toArray, List.set_cons_zero, List.set_cons_succ]; rfl)
    refine E_call (i := 3) (N := (some 33)) (args := ?gp1_3) #[true, true, true, true, false, false, false, false, false, false, false, false, false, false, false, false, false, false, false, false, false, false, false, false, false, false, false] rfl rfl (by kernel_rfl) (by rfl) Try.func17 (by kernel_rfl) rfl rfl ?hgp1_3 ?_
    case hgp1_3 => (simp only [List.map_toArray, List.map_cons, List.map_nil]; go_simp; with_reducible rfl)
    refine (refCut_any A n c size b _ HN.out (H.out.keep hb) hc (by omega) (by omega)).mono ?_
    rintro e w5 ⟨v5, vs5, rfl, hown5, heach5, hb5⟩
    rw [PV.out] at hown5 heach5
    rw [HL.out] at hown5
    obtain ⟨A5, n5, rfl, _, _, hr5, _⟩ := own_rd hown5
    have P5 := Lib.hid (heach5.rd hr5)
    clear hown5 heach5 hr5
    refine ⟨_, rfl, hb5, ?_⟩
    replace P3 := Lib.hid (P3.out.keep hb5)
    replace O3 := Lib.hid (ownsRow_below O3.out hb5)
    replace B3 := Lib.hid (B3.out.below hb5)
    replace R4 := Lib.hid (Rd.keep R4.out hb5)
    replace hbel23 := Lib.hid (hbel23.out.trans (Below.mono hb5 hbel23.out.size))
    replace hb := hb.trans (Below.mono hb5 hb.size)
    rintro _ rfl
    simp only [Act.put, List.setIfInBounds_toArray, List.set_cons_zero, List.set_cons_succ]
    refine E_call (i := 4) (N := (some 34)) (args := ?gp1_4) #[true, true, true, true, true, false, false, false, false, false, false, false, false, false, false, false, false, false, false, false, false, false, false, false, false, false, false] rfl rfl (by kernel_rfl) (by rfl) Try.func16 (by kernel_rfl) rfl rfl ?hgp1_4 ?_
    case hgp1_4 => (simp only [List.map_toArray, List.map_cons, List.map_nil]; go_simp; with_reducible rfl)
    refine (pieces_any A3 A5 np np n3 n5 vs3 vs5 p p _ HL.out HL.out P3.out P5.out (by omega) (by omega)).mono ?_
    rintro e w6 ⟨rfl, mq, hw6⟩
    have hb6 : Ext w5 w6 := by rw [hw6]; exact below_drewN (Below.refl _ w5) mq
    clear hw6
    rw [PQ.out]
    refine ⟨_, rfl, hb6, ?_⟩
    replace P3 := Lib.hid (P3.out.keep hb6)
    replace O3 := Lib.hid (ownsRow_below O3.out hb6)
    replace B3 := Lib.hid (B3.out.below hb6)
    replace R4 := Lib.hid (Rd.keep R4.out hb6)
    replace hbel23 := Lib.hid (hbel23.out.trans (Below.mono hb6 hbel23.out.size))
    replace hb := hb.trans (Below.mono hb6 hb.size)
    rintro _ rfl
    simp only [Act.put, List.setIfInBounds_toArray, List.set_cons_zero, List.set_cons_succ]
    refine E_take (hR := Ext.pre) (i := 5) (N := (some 35)) (v := ?vp1_5) (a' := ?ap1_5) #[true, true, true, true, true, true, false, false, false, false, false, false, false, false, false, false, false, false, false, false, false, false, false, false, false, false, false] rfl rfl (by kernel_rfl) (fun _ _ _ h => h) (by rfl) ?hyp1_5 ?hap1_5 ?_
    case hyp1_5 =>
      intro w' hx
      go_simp
      with_reducible rfl
    case hap1_5 => (simp only [Act.put, List.setIfInBounds_toArray, List.set_cons_zero, List.set_cons_succ]; rfl)
    refine E_take (hR := Ext.pre) (i := 6) (N := (some 36)) (v := ?vp1_6) (a' := ?ap1_6) #[true, true, true, true, true, true, true, false, false, false, false, false, false, false, false, false, false, false, false, false, false, false, false, false, false, false, false] rfl rfl (by kernel_rfl) (fun _ _ _ h => h) (by rfl) ?hyp1_6 ?hap1_6 ?_
    case hyp1_6 =>
      intro w' hx
      go_simp
      with_reducible rfl
    case hap1_6 => (simp only [Act.put, List.setIfInBounds_toArray, List.set_cons_zero, List.set_cons_succ]; rfl)
    refine E_take (hR := Ext.pre) (i := 7) (N := (some 37)) (v := ?vp1_7) (a' := ?ap1_7) #[true, true, true, true, true, true, true, true, false, false, false, false, false, false, false, false, false, false, false, false, false, false, false, false, false, false, false] rfl rfl (by kernel_rfl) (fun _ _ _ h => h) (by rfl) ?hyp1_7 ?hap1_7 ?_
    case hyp1_7 =>
      intro w' hx
      go_simp
      with_reducible rfl
    case hap1_7 => (simp only [Act.put, List.setIfInBounds_toArray, List.set_cons_zero, List.set_cons_succ]; rfl)
    refine E_take (hR := Ext.pre) (i := 8) (N := (some 38)) (v := ?vp1_8) (a' := ?ap1_8) #[true, true, true, true, true, true, true, true, true, false, false, false, false, false, false, false, false, false, false, false, false, false, false, false, false, false, false] rfl rfl (by kernel_rfl) (fun _ _ _ h => h) (by rfl) ?hyp1_8 ?hap1_8 ?_
    case hyp1_8 =>
      intro w' hx
      go_simp
      with_reducible rfl
    case hap1_8 => (simp only [Act.put, List.setIfInBounds_toArray, List.set_cons_zero, List.set_cons_succ]; rfl)
    refine E_take (hR := Ext.pre) (i := 9) (N := (some 39)) (v := ?vp1_9) (a' := ?ap1_9) #[true, true, true, true, true, true, true, true, true, true, false, false, false, false, false, false, false, false, false, false, false, false, false, false, false, false, false] rfl rfl (by kernel_rfl) (fun _ _ _ h => h) (by rfl) ?hyp1_9 ?hap1_9 ?_
    case hyp1_9 =>
      intro w' hx
      go_simp
      with_reducible rfl
    case hap1_9 => (simp only [Act.put, List.setIfInBounds_toArray, List.set_cons_zero, List.set_cons_succ]; rfl)
    refine E_take (hR := Ext.pre) (i := 10) (N := (some 40)) (v := ?vp1_10) (a' := ?ap1_10) #[true, true, true, true, true, true, true, true, true, true, true, false, false, false, false, false, false, false, false, false, false, false, false, false, false, false, false] rfl rfl (by kernel_rfl) (fun _ _ _ h => h) (by rfl) ?hyp1_10 ?hap1_10 ?_
    case hyp1_10 =>
      intro w' hx
      go_simp
      with_reducible rfl
    case hap1_10 => (simp only [Act.put, List.setIfInBounds_toArray, List.set_cons_zero, List.set_cons_succ]; rfl)
    refine E_take (hR := Ext.pre) (i := 13) (N := (some 43)) (v := ?vp1_13) (a' := ?ap1_13) #[true, true, true, true, true, true, true, true, true, true, true, false, false, true, false, false, false, false, false, false, false, false, false, false, false, false, false] rfl rfl (by kernel_rfl) (fun _ _ _ h => h) (by rfl) ?hyp1_13 ?hap1_13 ?_
    case hyp1_13 =>
      intro w' hx
      go_simp
      with_reducible rfl
    case hap1_13 => (simp only [Act.put, List.setIfInBounds_toArray, List.set_cons_zero, List.set_cons_succ]; rfl)
    refine E_take (hR := Ext.pre) (i := 14) (N := (some 44)) (v := ?vp1_14) (a' := ?ap1_14) #[true, true, true, true, true, true, true, true, true, true, true, false, false, true, true, false, false, false, false, false, false, false, false, false, false, false, false] rfl rfl (by kernel_rfl) (fun _ _ _ h => h) (by rfl) ?hyp1_14 ?hap1_14 ?_
    case hyp1_14 =>
      intro w' hx
      have hst := run_str w' (P := Try.prog) (n := n) (c := c) Try.underlying22 Try.underlying5 (xs := b) (H.out.keep (hb.trans (Below.mono hx hb.size))) HN.out Try.underlying9
      go_simp
      with_reducible rfl
    case hap1_14 => (simp only [Act.put, List.setIfInBounds_toArray, List.set_cons_zero, List.set_cons_succ]; rfl)
    refine E_call (i := 11) (N := (some 41)) (args := ?gp1_11) #[true, true, true, true, true, true, true, true, true, true, true, true, false, true, true, false, false, false, false, false, false, false, false, false, false, false, false] rfl rfl (by kernel_rfl) (by rfl) Try.func18 (by kernel_rfl) rfl rfl ?hgp1_11 ?_
    case hgp1_11 => (simp only [List.map_toArray, List.map_cons, List.map_nil]; go_simp; with_reducible rfl)
    refine (all_any A3 np n3 vs3 p _ HL.out P3.out (by rw [CF.out hpos, HN.out]; omega) (by omega)).mono ?_
    rintro e w7 ⟨v7, rfl, hown7, hb7⟩
    rw [CF.out hpos, HN.out] at hown7
    obtain ⟨A7, n7, rfl, _, _, hr7, _⟩ := own_rd hown7
    have R7 := Lib.hid hr7
    clear hown7 hr7
    refine ⟨_, rfl, hb7, ?_⟩
    replace P3 := Lib.hid (P3.out.keep hb7)
    replace O3 := Lib.hid (ownsRow_below O3.out hb7)
    replace B3 := Lib.hid (B3.out.below hb7)
    replace R4 := Lib.hid (Rd.keep R4.out hb7)
    replace hbel23 := Lib.hid (hbel23.out.trans (Below.mono hb7 hbel23.out.size))
    replace hb := hb.trans (Below.mono hb7 hb.size)
    rintro _ rfl
    simp only [Act.put, List.setIfInBounds_toArray, List.set_cons_zero, List.set_cons_succ]
    refine E_take (hR := Ext.pre) (i := 12) (N := (some 42)) (v := ?vp1_12) (a' := ?ap1_12) #[true, true, true, true, true, true, true, true, true, true, true, true, true, true, true, false, false, false, false, false, false, false, false, false, false, false, false] rfl rfl (by kernel_rfl) (fun _ _ _ h => h) (by rfl) ?hyp1_12 ?hap1_12 ?_
    case hyp1_12 =>
      intro w' hx
      have hst := run_str w' (P := Try.prog) (n := n) (c := n7) Try.underlying22 Try.underlying5 (xs := b) (Rd.keep R7.out hx) HN.out Try.underlying9
      go_simp
      with_reducible rfl
    case hap1_12 => (simp only [Act.put, List.setIfInBounds_toArray, List.set_cons_zero, List.set_cons_succ]; rfl)
    refine E_take (hR := Ext.pre) (i := 15) (N := (some 45)) (v := ?vp1_15) (a' := ?ap1_15) #[true, true, true, true, true, true, true, true, true, true, true, true, true, true, true, true, false, false, false, false, false, false, false, false, false, false, false] rfl rfl (by kernel_rfl) (fun _ _ _ h => h) (by rfl) ?hyp1_15 ?hap1_15 ?_
    case hyp1_15 =>
      intro w' hx
      go_simp
      with_reducible rfl
    case hap1_15 => (simp only [Act.put, List.setIfInBounds_toArray, List.set_cons_zero, List.set_cons_succ]; rfl)
    refine E_take (hR := Ext.pre) (i := 16) (N := (some 46)) (v := ?vp1_16) (a' := ?ap1_16) #[true, true, true, true, true, true, true, true, true, true, true, true, true, true, true, true, true, false, false, false, false, false, false, false, false, false, false] rfl rfl (by kernel_rfl) (fun _ _ _ h => h) (by rfl) ?hyp1_16 ?hap1_16 ?_
    case hyp1_16 =>
      intro w' hx
      go_simp
      with_reducible rfl
    case hap1_16 => (simp only [Act.put, List.setIfInBounds_toArray, List.set_cons_zero, List.set_cons_succ]; rfl)
    refine E_take (hR := Ext.pre) (i := 17) (N := (some 47)) (v := ?vp1_17) (a' := ?ap1_17) #[true, true, true, true, true, true, true, true, true, true, true, true, true, true, true, true, true, true, false, false, false, false, false, false, false, false, false] rfl rfl (by kernel_rfl) (fun _ _ _ h => h) (by rfl) ?hyp1_17 ?hap1_17 ?_
    case hyp1_17 =>
      intro w' hx
      go_simp
      with_reducible rfl
    case hap1_17 => (simp only [Act.put, List.setIfInBounds_toArray, List.set_cons_zero, List.set_cons_succ]; rfl)
    refine E_take (hR := Ext.pre) (i := 18) (N := (some 48)) (v := ?vp1_18) (a' := ?ap1_18) #[true, true, true, true, true, true, true, true, true, true, true, true, true, true, true, true, true, true, true, false, false, false, false, false, false, false, false] rfl rfl (by kernel_rfl) (fun _ _ _ h => h) (by rfl) ?hyp1_18 ?hap1_18 ?_
    case hyp1_18 =>
      intro w' hx
      go_simp
      with_reducible rfl
    case hap1_18 => (simp only [Act.put, List.setIfInBounds_toArray, List.set_cons_zero, List.set_cons_succ]; rfl)
    refine E_take (hR := Ext.pre) (i := 19) (N := (some 49)) (v := ?vp1_19) (a' := ?ap1_19) #[true, true, true, true, true, true, true, true, true, true, true, true, true, true, true, true, true, true, true, true, false, false, false, false, false, false, false] rfl rfl (by kernel_rfl) (fun _ _ _ h => h) (by rfl) ?hyp1_19 ?hap1_19 ?_
    case hyp1_19 =>
      intro w' hx
      go_simp
      with_reducible rfl
    case hap1_19 => (simp only [Act.put, List.setIfInBounds_toArray, List.set_cons_zero, List.set_cons_succ]; rfl)
    refine E_take (hR := Ext.pre) (i := 20) (N := (some 50)) (v := ?vp1_20) (a' := ?ap1_20) #[true, true, true, true, true, true, true, true, true, true, true, true, true, true, true, true, true, true, true, true, true, false, false, false, false, false, false] rfl rfl (by kernel_rfl) (fun _ _ _ h => h) (by rfl) ?hyp1_20 ?hap1_20 ?_
    case hyp1_20 =>
      intro w' hx
      have hst := run_str w' (P := Try.prog) (n := nf) (c := n4) Try.underlying22 Try.underlying5 (xs := f) (Rd.keep R4.out hx) HF.out Try.underlying9
      go_simp
      with_reducible rfl
    case hap1_20 => (simp only [Act.put, List.setIfInBounds_toArray, List.set_cons_zero, List.set_cons_succ]; rfl)
    refine E_take (hR := Ext.pre) (i := 21) (N := (some 51)) (v := ?vp1_21) (a' := ?ap1_21) #[true, true, true, true, true, true, true, true, true, true, true, true, true, true, true, true, true, true, true, true, true, true, false, false, false, false, false] rfl rfl (by kernel_rfl) (fun _ _ _ h => h) (by rfl) ?hyp1_21 ?hap1_21 ?_
    case hyp1_21 =>
      intro w' hx
      go_simp
      with_reducible rfl
    case hap1_21 => (simp only [Act.put, List.setIfInBounds_toArray, List.set_cons_zero, List.set_cons_succ]; rfl)
    refine E_take (hR := Ext.pre) (i := 22) (N := (some 52)) (v := ?vp1_22) (a' := ?ap1_22) #[true, true, true, true, true, true, true, true, true, true, true, true, true, true, true, true, true, true, true, true, true, true, true, false, false, false, false] rfl rfl (by kernel_rfl) (fun _ _ _ h => h) (by rfl) ?hyp1_22 ?hap1_22 ?_
    case hyp1_22 =>
      intro w' hx
      go_simp
      with_reducible rfl
    case hap1_22 => (simp only [Act.put, List.setIfInBounds_toArray, List.set_cons_zero, List.set_cons_succ]; rfl)
    refine E_call (i := 23) (N := (some 53)) (args := ?gp1_23) #[true, true, true, true, true, true, true, true, true, true, true, true, true, true, true, true, true, true, true, true, true, true, true, true, false, false, false] rfl rfl (by kernel_rfl) (by rfl) Try.func19 (by kernel_rfl) rfl rfl ?hgp1_23 ?_
    case hgp1_23 => (simp only [List.map_toArray, List.map_cons, List.map_nil]; go_simp; with_reducible rfl)
    refine (refFill_any A n c b size _ HN.out (H.out.keep hb) (by omega) (by omega)).mono ?_
    rintro e w8 ⟨v8, rfl, hown8, hb8⟩
    rw [FV.out, HF.out] at hown8
    obtain ⟨A8, n8, rfl, _, _, hr8, _⟩ := own_rd hown8
    have R8 := Lib.hid hr8
    clear hown8 hr8
    refine ⟨_, rfl, hb8, ?_⟩
    replace P3 := Lib.hid (P3.out.keep hb8)
    replace O3 := Lib.hid (ownsRow_below O3.out hb8)
    replace B3 := Lib.hid (B3.out.below hb8)
    replace R4 := Lib.hid (Rd.keep R4.out hb8)
    replace hbel23 := Lib.hid (hbel23.out.trans (Below.mono hb8 hbel23.out.size))
    replace hb := hb.trans (Below.mono hb8 hb.size)
    rintro _ rfl
    simp only [Act.put, List.setIfInBounds_toArray, List.set_cons_zero, List.set_cons_succ]
    refine E_take (hR := Ext.pre) (i := 24) (N := (some 54)) (v := ?vp1_24) (a' := ?ap1_24) #[true, true, true, true, true, true, true, true, true, true, true, true, true, true, true, true, true, true, true, true, true, true, true, true, true, false, false] rfl rfl (by kernel_rfl) (fun _ _ _ h => h) (by rfl) ?hyp1_24 ?hap1_24 ?_
    case hyp1_24 =>
      intro w' hx
      have hst := run_str w' (P := Try.prog) (n := nf) (c := n8) Try.underlying22 Try.underlying5 (xs := f) (Rd.keep R8.out hx) HF.out Try.underlying9
      go_simp
      with_reducible rfl
    case hap1_24 => (simp only [Act.put, List.setIfInBounds_toArray, List.set_cons_zero, List.set_cons_succ]; rfl)
    refine E_take (hR := Ext.pre) (i := 25) (N := (some 55)) (v := ?vp1_25) (a' := ?ap1_25) #[true, true, true, true, true, true, true, true, true, true, true, true, true, true, true, true, true, true, true, true, true, true, true, true, true, true, false] rfl rfl (by kernel_rfl) (fun _ _ _ h => h) (by rfl) ?hyp1_25 ?hap1_25 ?_
    case hyp1_25 =>
      intro w' hx
      go_simp
      with_reducible rfl
    case hap1_25 => (simp only [Act.put, List.setIfInBounds_toArray, List.set_cons_zero, List.set_cons_succ]; rfl)
    refine E_take (hR := Ext.pre) (i := 26) (N := (some 56)) (v := ?vp1_26) (a' := ?ap1_26) #[true, true, true, true, true, true, true, true, true, true, true, true, true, true, true, true, true, true, true, true, true, true, true, true, true, true, true] rfl rfl (by kernel_rfl) (fun _ _ _ h => h) (by rfl) ?hyp1_26 ?hap1_26 ?_
    case hyp1_26 =>
      intro w' hx
      go_simp
      with_reducible rfl
    case hap1_26 => (simp only [Act.put, List.setIfInBounds_toArray, List.set_cons_zero, List.set_cons_succ]; rfl)
    refine E_done (by kernel_rfl) ?_
    go_wp2
    go_loopw [8] (fun i wr => ∃ k : Nat, i = .int .i64 (k : Int) ∧ k ≤ np ∧ Hid (Bytes1 wr w2.heap.size vs3) ∧ Hid (wr.ownsRow w2.heap.size 22 1 (.slice A3 np n3) np vs3) ∧ Below w2.heap.size w2 wr) (fun i _ => np - (intOf i).toNat)
    case atStart => exact ⟨0, rfl, Nat.zero_le _, B3, O3, hbel23.out⟩
    case round =>
      clear B3 O3 P3 R4 hb hbel23
      obtain ⟨k, rfl, hk, B3, O3, hbel⟩ := hrel
      by_cases hlt : k < np
      · obtain ⟨g3, c3, e3, -, -, -, hcell3, -⟩ := own_at O3.out (by omega)
        cases e3
        obtain ⟨hc3, -⟩ := hcell3 k hlt
        have hkv : k < vs3.length := by have := O3.out.1; omega
        rw [List.getElem?_eq_getElem hkv] at hc3
        obtain ⟨ys, hy0, hyr⟩ := B3.out k _ (List.getElem?_eq_getElem hkv)
        obtain ⟨g, cg, eg, hg1, hg2, -, hcellg, -⟩ := own_at hyr hy0
        obtain ⟨hcg, hfg⟩ := hcellg 0 hy0
        rw [List.getElem?_map, List.getElem?_eq_getElem hy0] at hcg
        replace hcg : wr.cell? ⟨g, 0, none⟩ = some (.int .u8 ((ys[0].toNat : Nat) : Int)) := hcg
        rw [eg] at hc3 hyr
        generalize ys[0] = x at *
        generalize hyl : ys.length = ny at *
        clear hyl
        have HY := Lib.hid hyr
        clear hcell3 hcellg eg hkv hyr
        have B4 := Lib.hid (B3.out.set g (x + 1))
        have O4 := Lib.hid (own_kept_ne O3.out HY.out (by decide) (grownBy_setCell' wr g (bV (x + 1))))
        have hb4 := below_set hbel hg1 (k := 0) (bV (x + 1))
        have EX := Lib.hid (show bV (x + 1) = .int .u8 (((x.toNat : Int) + 1) % 256) by unfold bV; rw [UInt8.toNat_add]; simp)
        go_wp2
        go_region
        go_wp2
        go_roundw
        case rel => 
          rw [EX.out] at B4 O4 hb4
          exact ⟨k + 1, by simp, by omega, B4, O4, hb4.drew⟩
        case measure => simp [intOf]; omega
      · have hs1 := run_str wr (P := Try.prog) (n := n) (c := n2) Try.underlying22 Try.underlying5 (xs := b) (Rd.keep R2.out hbel) HN.out Try.underlying9
        have hs2 := run_str wr (P := Try.prog) (n := n) (c := c) Try.underlying22 Try.underlying5 (xs := b) (H.out.keep (HB2.out.trans (hbel.mono HB2.out.size))) HN.out Try.underlying9
        go_wp2
        go_ret
        exact ⟨rfl, HB2.out.trans (hbel.mono HB2.out.size)⟩
  · skip
    refine E_start (hR := Ext.pre) #[false, false, false, false, false, false, false, false, false, false, false, false, false, false, false, false, false, false, false, false, false, false, false, false, false, false, false] (by kernel_rfl) rfl rfl (fun w_q2 hx_q2 he_q2 => ?_)
    clear he_q2
    replace P3 := Lib.hid (P3.out.keep hx_q2)
    replace O3 := Lib.hid (ownsRow_below O3.out hx_q2)
    replace B3 := Lib.hid (B3.out.below hx_q2)
    replace R4 := Lib.hid (Rd.keep R4.out hx_q2)
    replace hbel23 := Lib.hid (hbel23.out.trans (Below.mono hx_q2 hbel23.out.size))
    replace hb := hb.trans (Below.mono hx_q2 hb.size)
    refine E_take (hR := Ext.pre) (i := 0) (N := (some 30)) (v := ?vq2_0) (a' := ?aq2_0) #[true, false, false, false, false, false, false, false, false, false, false, false, false, false, false, false, false, false, false, false, false, false, false, false, false, false, false] rfl rfl (by kernel_rfl) (fun _ _ _ h => h) (by rfl) ?hyq2_0 ?haq2_0 ?_
    case hyq2_0 =>
      intro w' hx
      go_simp
      with_reducible rfl
    case haq2_0 => (simp only [Act.put, List.setIfInBounds_toArray, List.set_cons_zero, List.set_cons_succ]; rfl)
    refine E_take (hR := Ext.pre) (i := 1) (N := (some 31)) (v := ?vq2_1) (a' := ?aq2_1) #[true, true, false, false, false, false, false, false, false, false, false, false, false, false, false, false, false, false, false, false, false, false, false, false, false, false, false] rfl rfl (by kernel_rfl) (fun _ _ _ h => h) (by rfl) ?hyq2_1 ?haq2_1 ?_
    case hyq2_1 =>
      intro w' hx
      go_simp
      with_reducible rfl
    case haq2_1 => (simp only [Act.put, List.setIfInBounds_toArray, List.set_cons_zero, List.set_cons_succ]; rfl)
    refine E_take (hR := Ext.pre) (i := 2) (N := (some 32)) (v := ?vq2_2) (a' := ?aq2_2) #[true, true, true, false, false, false, false, false, false, false, false, false, false, false, false, false, false, false, false, false, false, false, false, false, false, false, false] rfl rfl (by kernel_rfl) (fun _ _ _ h => h) (by rfl) ?hyq2_2 ?haq2_2 ?_
    case hyq2_2 =>
      intro w' hx
      go_simp
      with_reducible rfl
    case haq2_2 => (simp only [Act.put, List.setIfInBounds_toArray, List.set_cons_zero, List.set_cons_succ]; rfl)
    refine E_call (i := 3) (N := (some 33)) (args := ?gq2_3) #[true, true, true, true, false, false, false, false, false, false, false, false, false, false, false, false, false, false, false, false, false, false, false, false, false, false, false] rfl rfl (by kernel_rfl) (by rfl) Try.func17 (by kernel_rfl) rfl rfl ?hgq2_3 ?_
    case hgq2_3 => (simp only [List.map_toArray, List.map_cons, List.map_nil]; go_simp; with_reducible rfl)
    refine (refCut_any A n c size b _ HN.out (H.out.keep hb) hc (by omega) (by omega)).mono ?_
    rintro e w5 ⟨v5, vs5, rfl, hown5, heach5, hb5⟩
    rw [PV.out] at hown5 heach5
    rw [HL.out] at hown5
    obtain ⟨A5, n5, rfl, _, _, hr5, _⟩ := own_rd hown5
    have P5 := Lib.hid (heach5.rd hr5)
    clear hown5 heach5 hr5
    refine ⟨_, rfl, hb5, ?_⟩
    replace P3 := Lib.hid (P3.out.keep hb5)
    replace O3 := Lib.hid (ownsRow_below O3.out hb5)
    replace B3 := Lib.hid (B3.out.below hb5)
    replace R4 := Lib.hid (Rd.keep R4.out hb5)
    replace hbel23 := Lib.hid (hbel23.out.trans (Below.mono hb5 hbel23.out.size))
    replace hb := hb.trans (Below.mono hb5 hb.size)
    rintro _ rfl
    simp only [Act.put, List.setIfInBounds_toArray, List.set_cons_zero, List.set_cons_succ]
    refine E_call (i := 4) (N := (some 34)) (args := ?gq2_4) #[true, true, true, true, true, false, false, false, false, false, false, false, false, false, false, false, false, false, false, false, false, false, false, false, false, false, false] rfl rfl (by kernel_rfl) (by rfl) Try.func16 (by kernel_rfl) rfl rfl ?hgq2_4 ?_
    case hgq2_4 => (simp only [List.map_toArray, List.map_cons, List.map_nil]; go_simp; with_reducible rfl)
    refine (pieces_any A3 A5 np np n3 n5 vs3 vs5 p p _ HL.out HL.out P3.out P5.out (by omega) (by omega)).mono ?_
    rintro e w6 ⟨rfl, mq, hw6⟩
    have hb6 : Ext w5 w6 := by rw [hw6]; exact below_drewN (Below.refl _ w5) mq
    clear hw6
    rw [PQ.out]
    refine ⟨_, rfl, hb6, ?_⟩
    replace P3 := Lib.hid (P3.out.keep hb6)
    replace O3 := Lib.hid (ownsRow_below O3.out hb6)
    replace B3 := Lib.hid (B3.out.below hb6)
    replace R4 := Lib.hid (Rd.keep R4.out hb6)
    replace hbel23 := Lib.hid (hbel23.out.trans (Below.mono hb6 hbel23.out.size))
    replace hb := hb.trans (Below.mono hb6 hb.size)
    rintro _ rfl
    simp only [Act.put, List.setIfInBounds_toArray, List.set_cons_zero, List.set_cons_succ]
    refine E_take (hR := Ext.pre) (i := 5) (N := (some 35)) (v := ?vq2_5) (a' := ?aq2_5) #[true, true, true, true, true, true, false, false, false, false, false, false, false, false, false, false, false, false, false, false, false, false, false, false, false, false, false] rfl rfl (by kernel_rfl) (fun _ _ _ h => h) (by rfl) ?hyq2_5 ?haq2_5 ?_
    case hyq2_5 =>
      intro w' hx
      go_simp
      with_reducible rfl
    case haq2_5 => (simp only [Act.put, List.setIfInBounds_toArray, List.set_cons_zero, List.set_cons_succ]; rfl)
    refine E_take (hR := Ext.pre) (i := 6) (N := (some 36)) (v := ?vq2_6) (a' := ?aq2_6) #[true, true, true, true, true, true, true, false, false, false, false, false, false, false, false, false, false, false, false, false, false, false, false, false, false, false, false] rfl rfl (by kernel_rfl) (fun _ _ _ h => h) (by rfl) ?hyq2_6 ?haq2_6 ?_
    case hyq2_6 =>
      intro w' hx
      go_simp
      with_reducible rfl
    case haq2_6 => (simp only [Act.put, List.setIfInBounds_toArray, List.set_cons_zero, List.set_cons_succ]; rfl)
    refine E_take (hR := Ext.pre) (i := 7) (N := (some 37)) (v := ?vq2_7) (a' := ?aq2_7) #[true, true, true, true, true, true, true, true, false, false, false, false, false, false, false, false, false, false, false, false, false, false, false, false, false, false, false] rfl rfl (by kernel_rfl) (fun _ _ _ h => h) (by rfl) ?hyq2_7 ?haq2_7 ?_
    case hyq2_7 =>
      intro w' hx
      go_simp
      with_reducible rfl
    case haq2_7 => (simp only [Act.put, List.setIfInBounds_toArray, List.set_cons_zero, List.set_cons_succ]; rfl)
    refine E_take (hR := Ext.pre) (i := 8) (N := (some 38)) (v := ?vq2_8) (a' := ?aq2_8) #[true, true, true, true, true, true, true, true, true, false, false, false, false, false, false, false, false, false, false, false, false, false, false, false, false, false, false] rfl rfl (by kernel_rfl) (fun _ _ _ h => h) (by rfl) ?hyq2_8 ?haq2_8 ?_
    case hyq2_8 =>
      intro w' hx
      go_simp
      with_reducible rfl
    case haq2_8 => (simp only [Act.put, List.setIfInBounds_toArray, List.set_cons_zero, List.set_cons_succ]; rfl)
    refine E_take (hR := Ext.pre) (i := 9) (N := (some 39)) (v := ?vq2_9) (a' := ?aq2_9) #[true, true, true, true, true, true, true, true, true, true, false, false, false, false, false, false, false, false, false, false, false, false, false, false, false, false, false] rfl rfl (by kernel_rfl) (fun _ _ _ h => h) (by rfl) ?hyq2_9 ?haq2_9 ?_
    case hyq2_9 =>
      intro w' hx
      go_simp
      with_reducible rfl
    case haq2_9 => (simp only [Act.put, List.setIfInBounds_toArray, List.set_cons_zero, List.set_cons_succ]; rfl)
    refine E_skip (hR := Ext.pre) (i := 10) (N := (some 40)) (a' := ?aq2_10) #[true, true, true, true, true, true, true, true, true, true, true, false, false, false, false, false, false, false, false, false, false, false, false, false, false, false, false] rfl rfl (by kernel_rfl) (fun _ _ _ h => h) (by rfl) ?haq2_10 ?_
    case haq2_10 => (simp only [Act.put, List.setIfInBounds_toArray, List.set_cons_zero, List.set_cons_succ]; rfl)
    refine E_skip (hR := Ext.pre) (i := 11) (N := (some 41)) (a' := ?aq2_11) #[true, true, true, true, true, true, true, true, true, true, true, true, false, false, false, false, false, false, false, false, false, false, false, false, false, false, false] rfl rfl (by kernel_rfl) (fun _ _ _ h => h) (by rfl) ?haq2_11 ?_
    case haq2_11 => (simp only [Act.put, List.setIfInBounds_toArray, List.set_cons_zero, List.set_cons_succ]; rfl)
    refine E_skip (hR := Ext.pre) (i := 12) (N := (some 42)) (a' := ?aq2_12) #[true, true, true, true, true, true, true, true, true, true, true, true, true, false, false, false, false, false, false, false, false, false, false, false, false, false, false] rfl rfl (by kernel_rfl) (fun _ _ _ h => h) (by rfl) ?haq2_12 ?_
    case haq2_12 => (simp only [Act.put, List.setIfInBounds_toArray, List.set_cons_zero, List.set_cons_succ]; rfl)
    refine E_skip (hR := Ext.pre) (i := 13) (N := (some 43)) (a' := ?aq2_13) #[true, true, true, true, true, true, true, true, true, true, true, true, true, true, false, false, false, false, false, false, false, false, false, false, false, false, false] rfl rfl (by kernel_rfl) (fun _ _ _ h => h) (by rfl) ?haq2_13 ?_
    case haq2_13 => (simp only [Act.put, List.setIfInBounds_toArray, List.set_cons_zero, List.set_cons_succ]; rfl)
    refine E_skip (hR := Ext.pre) (i := 14) (N := (some 44)) (a' := ?aq2_14) #[true, true, true, true, true, true, true, true, true, true, true, true, true, true, true, false, false, false, false, false, false, false, false, false, false, false, false] rfl rfl (by kernel_rfl) (fun _ _ _ h => h) (by rfl) ?haq2_14 ?_
    case haq2_14 => (simp only [Act.put, List.setIfInBounds_toArray, List.set_cons_zero, List.set_cons_succ]; rfl)
    refine E_skip (hR := Ext.pre) (i := 15) (N := (some 45)) (a' := ?aq2_15) #[true, true, true, true, true, true, true, true, true, true, true, true, true, true, true, true, false, false, false, false, false, false, false, false, false, false, false] rfl rfl (by kernel_rfl) (fun _ _ _ h => h) (by rfl) ?haq2_15 ?_
    case haq2_15 => (simp only [Act.put, List.setIfInBounds_toArray, List.set_cons_zero, List.set_cons_succ]; rfl)
    refine E_take (hR := Ext.pre) (i := 16) (N := (some 46)) (v := ?vq2_16) (a' := ?aq2_16) #[true, true, true, true, true, true, true, true, true, true, true, true, true, true, true, true, true, false, false, false, false, false, false, false, false, false, false] rfl rfl (by kernel_rfl) (fun _ _ _ h => h) (by rfl) ?hyq2_16 ?haq2_16 ?_
    case hyq2_16 =>
      intro w' hx
      go_simp
      with_reducible rfl
    case haq2_16 => (simp only [Act.put, List.setIfInBounds_toArray, List.set_cons_zero, List.set_cons_succ]; rfl)
    refine E_take (hR := Ext.pre) (i := 17) (N := (some 47)) (v := ?vq2_17) (a' := ?aq2_17) #[true, true, true, true, true, true, true, true, true, true, true, true, true, true, true, true, true, true, false, false, false, false, false, false, false, false, false] rfl rfl (by kernel_rfl) (fun _ _ _ h => h) (by rfl) ?hyq2_17 ?haq2_17 ?_
    case hyq2_17 =>
      intro w' hx
      go_simp
      with_reducible rfl
    case haq2_17 => (simp only [Act.put, List.setIfInBounds_toArray, List.set_cons_zero, List.set_cons_succ]; rfl)
    refine E_take (hR := Ext.pre) (i := 18) (N := (some 48)) (v := ?vq2_18) (a' := ?aq2_18) #[true, true, true, true, true, true, true, true, true, true, true, true, true, true, true, true, true, true, true, false, false, false, false, false, false, false, false] rfl rfl (by kernel_rfl) (fun _ _ _ h => h) (by rfl) ?hyq2_18 ?haq2_18 ?_
    case hyq2_18 =>
      intro w' hx
      go_simp
      with_reducible rfl
    case haq2_18 => (simp only [Act.put, List.setIfInBounds_toArray, List.set_cons_zero, List.set_cons_succ]; rfl)
    refine E_take (hR := Ext.pre) (i := 19) (N := (some 49)) (v := ?vq2_19) (a' := ?aq2_19) #[true, true, true, true, true, true, true, true, true, true, true, true, true, true, true, true, true, true, true, true, false, false, false, false, false, false, false] rfl rfl (by kernel_rfl) (fun _ _ _ h => h) (by rfl) ?hyq2_19 ?haq2_19 ?_
    case hyq2_19 =>
      intro w' hx
      go_simp
      with_reducible rfl
    case haq2_19 => (simp only [Act.put, List.setIfInBounds_toArray, List.set_cons_zero, List.set_cons_succ]; rfl)
    refine E_take (hR := Ext.pre) (i := 20) (N := (some 50)) (v := ?vq2_20) (a' := ?aq2_20) #[true, true, true, true, true, true, true, true, true, true, true, true, true, true, true, true, true, true, true, true, true, false, false, false, false, false, false] rfl rfl (by kernel_rfl) (fun _ _ _ h => h) (by rfl) ?hyq2_20 ?haq2_20 ?_
    case hyq2_20 =>
      intro w' hx
      have hst := run_str w' (P := Try.prog) (n := nf) (c := n4) Try.underlying22 Try.underlying5 (xs := f) (Rd.keep R4.out hx) HF.out Try.underlying9
      go_simp
      with_reducible rfl
    case haq2_20 => (simp only [Act.put, List.setIfInBounds_toArray, List.set_cons_zero, List.set_cons_succ]; rfl)
    refine E_take (hR := Ext.pre) (i := 21) (N := (some 51)) (v := ?vq2_21) (a' := ?aq2_21) #[true, true, true, true, true, true, true, true, true, true, true, true, true, true, true, true, true, true, true, true, true, true, false, false, false, false, false] rfl rfl (by kernel_rfl) (fun _ _ _ h => h) (by rfl) ?hyq2_21 ?haq2_21 ?_
    case hyq2_21 =>
      intro w' hx
      go_simp
      with_reducible rfl
    case haq2_21 => (simp only [Act.put, List.setIfInBounds_toArray, List.set_cons_zero, List.set_cons_succ]; rfl)
    refine E_take (hR := Ext.pre) (i := 22) (N := (some 52)) (v := ?vq2_22) (a' := ?aq2_22) #[true, true, true, true, true, true, true, true, true, true, true, true, true, true, true, true, true, true, true, true, true, true, true, false, false, false, false] rfl rfl (by kernel_rfl) (fun _ _ _ h => h) (by rfl) ?hyq2_22 ?haq2_22 ?_
    case hyq2_22 =>
      intro w' hx
      go_simp
      with_reducible rfl
    case haq2_22 => (simp only [Act.put, List.setIfInBounds_toArray, List.set_cons_zero, List.set_cons_succ]; rfl)
    refine E_call (i := 23) (N := (some 53)) (args := ?gq2_23) #[true, true, true, true, true, true, true, true, true, true, true, true, true, true, true, true, true, true, true, true, true, true, true, true, false, false, false] rfl rfl (by kernel_rfl) (by rfl) Try.func19 (by kernel_rfl) rfl rfl ?hgq2_23 ?_
    case hgq2_23 => (simp only [List.map_toArray, List.map_cons, List.map_nil]; go_simp; with_reducible rfl)
    refine (refFill_any A n c b size _ HN.out (H.out.keep hb) (by omega) (by omega)).mono ?_
    rintro e w8 ⟨v8, rfl, hown8, hb8⟩
    rw [FV.out, HF.out] at hown8
    obtain ⟨A8, n8, rfl, _, _, hr8, _⟩ := own_rd hown8
    have R8 := Lib.hid hr8
    clear hown8 hr8
    refine ⟨_, rfl, hb8, ?_⟩
    replace P3 := Lib.hid (P3.out.keep hb8)
    replace O3 := Lib.hid (ownsRow_below O3.out hb8)
    replace B3 := Lib.hid (B3.out.below hb8)
    replace R4 := Lib.hid (Rd.keep R4.out hb8)
    replace hbel23 := Lib.hid (hbel23.out.trans (Below.mono hb8 hbel23.out.size))
    replace hb := hb.trans (Below.mono hb8 hb.size)
    rintro _ rfl
    simp only [Act.put, List.setIfInBounds_toArray, List.set_cons_zero, List.set_cons_succ]
    refine E_take (hR := Ext.pre) (i := 24) (N := (some 54)) (v := ?vq2_24) (a' := ?aq2_24) #[true, true, true, true, true, true, true, true, true, true, true, true, true, true, true, true, true, true, true, true, true, true, true, true, true, false, false] rfl rfl (by kernel_rfl) (fun _ _ _ h => h) (by rfl) ?hyq2_24 ?haq2_24 ?_
    case hyq2_24 =>
      intro w' hx
      have hst := run_str w' (P := Try.prog) (n := nf) (c := n8) Try.underlying22 Try.underlying5 (xs := f) (Rd.keep R8.out hx) HF.out Try.underlying9
      go_simp
      with_reducible rfl
    case haq2_24 => (simp only [Act.put, List.setIfInBounds_toArray, List.set_cons_zero, List.set_cons_succ]; rfl)
    refine E_take (hR := Ext.pre) (i := 25) (N := (some 55)) (v := ?vq2_25) (a' := ?aq2_25) #[true, true, true, true, true, true, true, true, true, true, true, true, true, true, true, true, true, true, true, true, true, true, true, true, true, true, false] rfl rfl (by kernel_rfl) (fun _ _ _ h => h) (by rfl) ?hyq2_25 ?haq2_25 ?_
    case hyq2_25 =>
      intro w' hx
      go_simp
      with_reducible rfl
    case haq2_25 => (simp only [Act.put, List.setIfInBounds_toArray, List.set_cons_zero, List.set_cons_succ]; rfl)
    refine E_take (hR := Ext.pre) (i := 26) (N := (some 56)) (v := ?vq2_26) (a' := ?aq2_26) #[true, true, true, true, true, true, true, true, true, true, true, true, true, true, true, true, true, true, true, true, true, true, true, true, true, true, true] rfl rfl (by kernel_rfl) (fun _ _ _ h => h) (by rfl) ?hyq2_26 ?haq2_26 ?_
    case hyq2_26 =>
      intro w' hx
      go_simp
      with_reducible rfl
    case haq2_26 => (simp only [Act.put, List.setIfInBounds_toArray, List.set_cons_zero, List.set_cons_succ]; rfl)
    refine E_done (by kernel_rfl) ?_
    go_wp2
    go_loopw [8] (fun i wr => ∃ k : Nat, i = .int .i64 (k : Int) ∧ k ≤ np ∧ Hid (Bytes1 wr w2.heap.size vs3) ∧ Hid (wr.ownsRow w2.heap.size 22 1 (.slice A3 np n3) np vs3) ∧ Below w2.heap.size w2 wr) (fun i _ => np - (intOf i).toNat)
    case atStart => exact ⟨0, rfl, Nat.zero_le _, B3, O3, hbel23.out⟩
    case round =>
      clear B3 O3 P3 R4 hb hbel23
      obtain ⟨k, rfl, hk, B3, O3, hbel⟩ := hrel
      by_cases hlt : k < np
      · obtain ⟨g3, c3, e3, -, -, -, hcell3, -⟩ := own_at O3.out (by omega)
        cases e3
        obtain ⟨hc3, -⟩ := hcell3 k hlt
        have hkv : k < vs3.length := by have := O3.out.1; omega
        rw [List.getElem?_eq_getElem hkv] at hc3
        obtain ⟨ys, hy0, hyr⟩ := B3.out k _ (List.getElem?_eq_getElem hkv)
        obtain ⟨g, cg, eg, hg1, hg2, -, hcellg, -⟩ := own_at hyr hy0
        obtain ⟨hcg, hfg⟩ := hcellg 0 hy0
        rw [List.getElem?_map, List.getElem?_eq_getElem hy0] at hcg
        replace hcg : wr.cell? ⟨g, 0, none⟩ = some (.int .u8 ((ys[0].toNat : Nat) : Int)) := hcg
        rw [eg] at hc3 hyr
        generalize ys[0] = x at *
        generalize hyl : ys.length = ny at *
        clear hyl
        have HY := Lib.hid hyr
        clear hcell3 hcellg eg hkv hyr
        have B4 := Lib.hid (B3.out.set g (x + 1))
        have O4 := Lib.hid (own_kept_ne O3.out HY.out (by decide) (grownBy_setCell' wr g (bV (x + 1))))
        have hb4 := below_set hbel hg1 (k := 0) (bV (x + 1))
        have EX := Lib.hid (show bV (x + 1) = .int .u8 (((x.toNat : Int) + 1) % 256) by unfold bV; rw [UInt8.toNat_add]; simp)
        go_wp2
        go_region
        go_wp2
        go_roundw
        case rel => 
          rw [EX.out] at B4 O4 hb4
          exact ⟨k + 1, by simp, by omega, B4, O4, hb4.drew⟩
        case measure => simp [intOf]; omega
      · have hs1 := run_str wr (P := Try.prog) (n := n) (c := n2) Try.underlying22 Try.underlying5 (xs := b) (Rd.keep R2.out hbel) HN.out Try.underlying9
        have hs2 := run_str wr (P := Try.prog) (n := n) (c := c) Try.underlying22 Try.underlying5 (xs := b) (H.out.keep (HB2.out.trans (hbel.mono HB2.out.size))) HN.out Try.underlying9
        go_wp2
        go_ret
        exact ⟨rfl, HB2.out.trans (hbel.mono HB2.out.size)⟩
end Go.Proofs.Ytnopoiidekklfaa
