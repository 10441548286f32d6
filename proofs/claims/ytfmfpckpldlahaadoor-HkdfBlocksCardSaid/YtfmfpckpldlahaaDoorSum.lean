/- Sum. -/
import Derived.Test.YtfmfpckpldlahaaDoorShS
import Derived.RangeFuncBox
namespace Go.Proofs.YtfmfpckpldlahaaDoor
open Go.RowKit Go.Proofs.YtfmfpckpldlahaaDoor.Pure Go.Proofs.YtfmfpckpldlahaaDoor.PB Go.Proofs.YtfmfpckpldlahaaDoorW.PrintWords
attribute [local go_sem] Oper.semAt_some

theorem shr_out (y : W) (n : Nat) : tn y / (2 : Int) ^ n % 256 = ((UInt8.ofNat (y.toNat / 2 ^ n % 256)).toNat : Int) := by
  rw [ofNat_mod]
  unfold tn
  rw [Int.natCast_emod, Int.natCast_ediv, Int.natCast_pow]; rfl
theorem iv_size : (iv.map wV).toArray.size = 8 := by rfl
theorem iv_one : (iv.map wV).toArray.all (·.oneCell') = true := by simp [wV, Value.oneCell']

set_option maxRecDepth 100000 in
set_option maxHeartbeats 6400000 in
theorem sum_in (A : Option Addr) (n c : Nat) (vs : List Value) (xss : List (List UInt8)) (w : World) (hn : xss.length = n) (h : RdBB w A vs xss) (hG : GK w) (hb : xss.flatten.length ≤ 10000000) (hn2 : n ≤ 70368744177664) :
    CallsIn Fence.wide 4 Tryd.prog 18 #[.slice A n c] w fun e w' => e = .returned (.agg ((sumF xss.flatten).map bV).toArray) ∧ Below w.heap.size w w' := by
  have HN := Lib.hid hn; clear hn
  have H := Lib.hid h; clear h
  have HG := Lib.hid hG; clear hG
  generalize hx : xss.flatten = xs at *
  have HX := Lib.hid hx
  clear hx
  refine callsIn_of_wp_marks Tryd.func18 rfl trivial ?_ rfl
  simp only [Tryd.ntmps18, List.size_toArray, List.length_cons, List.length_nil, Nat.reduceAdd, Nat.reduceSub, Array.replicate_succ, Array.replicate_zero, List.push_toArray, List.append_toArray, List.nil_append, List.cons_append]
  have hbA : Below w.heap.size w (w.alloc (.cells #[.int .u8 0, .int .u8 0, .int .u8 0, .int .u8 0, .int .u8 0, .int .u8 0, .int .u8 0, .int .u8 0, .int .u8 0, .int .u8 0, .int .u8 0, .int .u8 0, .int .u8 0, .int .u8 0, .int .u8 0, .int .u8 0, .int .u8 0, .int .u8 0, .int .u8 0, .int .u8 0, .int .u8 0, .int .u8 0, .int .u8 0, .int .u8 0, .int .u8 0, .int .u8 0, .int .u8 0, .int .u8 0, .int .u8 0, .int .u8 0, .int .u8 0, .int .u8 0, .int .u8 0, .int .u8 0, .int .u8 0, .int .u8 0, .int .u8 0, .int .u8 0, .int .u8 0, .int .u8 0, .int .u8 0, .int .u8 0, .int .u8 0, .int .u8 0, .int .u8 0, .int .u8 0, .int .u8 0, .int .u8 0, .int .u8 0, .int .u8 0, .int .u8 0, .int .u8 0, .int .u8 0, .int .u8 0, .int .u8 0, .int .u8 0, .int .u8 0, .int .u8 0, .int .u8 0, .int .u8 0, .int .u8 0, .int .u8 0, .int .u8 0, .int .u8 0] 30)) := (Below.refl _ w).alloc (Nat.le_refl _) _
  gi_wp2_with (first | (refine ⟨trivial, ?_⟩; gi_at_call 16; refine (callsIn_wide.2 (concat_any A n c vs xss _ HN.out (H.out.keep hbA) (by rw [HX.out]; omega) hn2)).mono ?_; rintro e w1 ⟨v, rfl, hown, hbel⟩; rw [HX.out] at hown; obtain ⟨A1, c1, rfl, hlc, _, hr, _⟩ := own_rd hown) | (refine ⟨trivial, ?_⟩; gi_at_call 23; refine (callsIn_wide.2 (first_any _)).mono ?_; rintro e w2 ⟨rfl, hb2⟩; have HV0 := Lib.hid iv_size; have HV1 := Lib.hid iv_one; generalize hIV : (iv.map wV).toArray = IVA at HV0 HV1 ⊢; have HIV := Lib.hid hIV; clear hIV) | (refine wpListIn_store_row rfl 49 _ _ rfl w2.heap.size IVA rfl rfl _ _ (heap_alloc_new w2 _) (by rw [HV0.out]; kernel_rfl) (by rw [HV0.out]; rfl) HV1.out ?_) | (refine ⟨trivial, ?_⟩; gi_at_call 25; obtain ⟨w3, hw3⟩ : ∃ w3, (w2.alloc (.cells #[.int .u64 0, .int .u64 0, .int .u64 0, .int .u64 0, .int .u64 0, .int .u64 0, .int .u64 0, .int .u64 0] 49)).setRow w2.heap.size IVA = w3 := ⟨_, rfl⟩; rw [hw3]; have hBV3 : Blk w3 w2.heap.size 49 (iv.map wV) := (by rw [← hw3, ← HIV.out]; exact (Blk.new w2 [.int .u64 0, .int .u64 0, .int .u64 0, .int .u64 0, .int .u64 0, .int .u64 0, .int .u64 0, .int .u64 0] 49).setRow (iv.map wV)); have hb3 : Below w2.heap.size w2 w3 := (by rw [← hw3]; exact ((Below.refl _ w2).alloc (Nat.le_refl _) _).trans (below_setRow (Nat.le_refl _))); have hs3 : w3.heap.size = w2.heap.size + 1 := (by rw [← hw3]; simp [World.setRow]); clear hw3; refine (callsIn_wide.2 (shaFill_any xs.length hb w3)).mono ?_; rintro e w4 ⟨v4, rfl, hown4, hb4⟩; have hb14 : Below w1.heap.size w1 w4 := (hb2.trans (hb3.mono hb2.size)).trans (hb4.mono (by have := hb2.size; omega)); have hownA := hown.kept (grown_of_below hb14 none) (by cases (Value.slice A1 xs.length c1).ownBlock <;> simp); have hsrc := own_src (P := Tryd.prog) Tryd.underlying22 hown4 (one_bV _)) | (refine wpListIn_app' (v := .slice A1 xs.length c1) TB (w.heap.size + 1) (by rw [World.size_alloc] at hownA; exact hownA) v4 hsrc rfl rfl rfl rfl (by unfold maxLen; have := padF_le xs; have := fillS_length xs.length; have := zF_le xs.length; omega) (by have := fillS_length xs.length; have := zF_le xs.length; omega) (by have := hb14.size; have := hbel.size; rw [World.size_alloc] at this; omega) (fun A5 c5 w5 hown5 hg5 hat5 => ?_)) | (refine ⟨trivial, ?_⟩; gi_at_call 24; refine (chunk_in 3 A5 (xs.length + (fillS xs.length).length) c5 128 (by decide) _).mono ?_; rintro e w' ⟨rfl, rfl⟩))
  rw [World.size_alloc] at hown
  have hpl : xs.length + (fillS xs.length).length = (padF xs).length := by unfold padF; rw [List.length_append]
  rw [hpl, ← List.map_append, show xs ++ fillS xs.length = padF xs from rfl] at hown5
  rw [hpl] at hat5 ⊢
  have HS := Lib.hid (show sumF xs = outF (hP (padF xs) ((padF xs).length / 128)) from rfl)
  have HP1 := Lib.hid (padF_length xs)
  have hpb : (padF xs).length ≤ 10000000 + 2 * 128 := by have := padF_le xs; omega
  have hp0 : 0 < (padF xs).length := by rw [← hpl, fillS_length]; omega
  clear hpl hsrc hownA
  generalize padF xs = ps at *
  obtain ⟨g, c6, e6, hg1, hg2, -⟩ := own_at hown5 hp0
  have ea6 : A5 = some ⟨g, 0, none⟩ := by cases e6; rfl
  clear e6
  subst ea6
  have hbs : w.heap.size + 1 ≤ w1.heap.size := by have := hbel.size; rw [World.size_alloc] at this; exact this
  have hs12 := hb2.size
  have hs34 := hb4.size
  have hs45 := hg5.size
  have hgb : g ≠ w2.heap.size := by
    rcases hat5 with e | e
    · have := (hown.lt g e.symm).2; omega
    · have : g = w4.heap.size := by simpa [Value.ownBlock] using e
      omega
  have hBV5 : Blk w5 w2.heap.size 49 (iv.map wV) := (hBV3.keep hb4).grown hg5 (fun e => by have := (hown.lt _ e.symm).2; omega)
  have hb45 : Below (w.heap.size + 1) w4 w5 := ⟨hg5.os, hg5.tape, hg5.output, hg5.size, fun k hk => hg5.block k (by omega) (fun e => by have := (hown.lt _ e.symm).1; omega)⟩
  have hb05 : Below (w.heap.size + 1) (w.alloc (.cells #[.int .u8 0, .int .u8 0, .int .u8 0, .int .u8 0, .int .u8 0, .int .u8 0, .int .u8 0, .int .u8 0, .int .u8 0, .int .u8 0, .int .u8 0, .int .u8 0, .int .u8 0, .int .u8 0, .int .u8 0, .int .u8 0, .int .u8 0, .int .u8 0, .int .u8 0, .int .u8 0, .int .u8 0, .int .u8 0, .int .u8 0, .int .u8 0, .int .u8 0, .int .u8 0, .int .u8 0, .int .u8 0, .int .u8 0, .int .u8 0, .int .u8 0, .int .u8 0, .int .u8 0, .int .u8 0, .int .u8 0, .int .u8 0, .int .u8 0, .int .u8 0, .int .u8 0, .int .u8 0, .int .u8 0, .int .u8 0, .int .u8 0, .int .u8 0, .int .u8 0, .int .u8 0, .int .u8 0, .int .u8 0, .int .u8 0, .int .u8 0, .int .u8 0, .int .u8 0, .int .u8 0, .int .u8 0, .int .u8 0, .int .u8 0, .int .u8 0, .int .u8 0, .int .u8 0, .int .u8 0, .int .u8 0, .int .u8 0, .int .u8 0, .int .u8 0] 30)) w5 := by
    have h1 := hbel
    rw [World.size_alloc] at h1
    exact (h1.trans (hb14.mono hbs)).trans hb45
  have hBR5 : Blk w5 w.heap.size 30 [.int .u8 0, .int .u8 0, .int .u8 0, .int .u8 0, .int .u8 0, .int .u8 0, .int .u8 0, .int .u8 0, .int .u8 0, .int .u8 0, .int .u8 0, .int .u8 0, .int .u8 0, .int .u8 0, .int .u8 0, .int .u8 0, .int .u8 0, .int .u8 0, .int .u8 0, .int .u8 0, .int .u8 0, .int .u8 0, .int .u8 0, .int .u8 0, .int .u8 0, .int .u8 0, .int .u8 0, .int .u8 0, .int .u8 0, .int .u8 0, .int .u8 0, .int .u8 0, .int .u8 0, .int .u8 0, .int .u8 0, .int .u8 0, .int .u8 0, .int .u8 0, .int .u8 0, .int .u8 0, .int .u8 0, .int .u8 0, .int .u8 0, .int .u8 0, .int .u8 0, .int .u8 0, .int .u8 0, .int .u8 0, .int .u8 0, .int .u8 0, .int .u8 0, .int .u8 0, .int .u8 0, .int .u8 0, .int .u8 0, .int .u8 0, .int .u8 0, .int .u8 0, .int .u8 0, .int .u8 0, .int .u8 0, .int .u8 0, .int .u8 0, .int .u8 0] := (Blk.new w [.int .u8 0, .int .u8 0, .int .u8 0, .int .u8 0, .int .u8 0, .int .u8 0, .int .u8 0, .int .u8 0, .int .u8 0, .int .u8 0, .int .u8 0, .int .u8 0, .int .u8 0, .int .u8 0, .int .u8 0, .int .u8 0, .int .u8 0, .int .u8 0, .int .u8 0, .int .u8 0, .int .u8 0, .int .u8 0, .int .u8 0, .int .u8 0, .int .u8 0, .int .u8 0, .int .u8 0, .int .u8 0, .int .u8 0, .int .u8 0, .int .u8 0, .int .u8 0, .int .u8 0, .int .u8 0, .int .u8 0, .int .u8 0, .int .u8 0, .int .u8 0, .int .u8 0, .int .u8 0, .int .u8 0, .int .u8 0, .int .u8 0, .int .u8 0, .int .u8 0, .int .u8 0, .int .u8 0, .int .u8 0, .int .u8 0, .int .u8 0, .int .u8 0, .int .u8 0, .int .u8 0, .int .u8 0, .int .u8 0, .int .u8 0, .int .u8 0, .int .u8 0, .int .u8 0, .int .u8 0, .int .u8 0, .int .u8 0, .int .u8 0, .int .u8 0] 30).below hb05 (by omega)
  obtain ⟨A7, c7, e7, hlc5, _, hr5, _⟩ := own_rd hown5
  obtain ⟨ea7, ec7⟩ : A7 = some ⟨g, 0, none⟩ ∧ c7 = c5 := by cases e7; exact ⟨rfl, rfl⟩
  rw [ea7] at hr5
  rw [ec7] at hlc5
  clear e7 ea7 ec7
  have HR5 := Lib.hid hr5
  clear hr5 hown hown5 hat5 hg5 hBV3 hown4 hbel hb45
  have hB5 : Below w.heap.size w w5 := hbA.trans (hb05.mono (by omega))
  clear hb05 hbA hb14 hb4 hb3 hb2
  have bS := Boxed.new w5 22 (.slice (some ⟨g, 0, none⟩) ps.length c5)
  have bZ := Boxed.new (w5.alloc (.cells #[.slice (some ⟨g, 0, none⟩) ps.length c5] 22)) 3 (.int .i64 ((128 : Nat) : Int))
  rw [World.size_alloc] at bZ
  have bS2 := bS.alloc (.cells #[.int .i64 ((128 : Nat) : Int)] 3)
  have hR0 : Below w5.heap.size w5 ((w5.alloc (.cells #[.slice (some ⟨g, 0, none⟩) ps.length c5] 22)).alloc (.cells #[.int .i64 ((128 : Nat) : Int)] 3)) := ((Below.refl _ w5).alloc (Nat.le_refl _) _).alloc (by simp) _
  change Code.wpIn _ _ _ _ _ _ ((w5.alloc (.cells #[.slice (some ⟨g, 0, none⟩) ps.length c5] 22)).alloc (.cells #[.int .i64 ((128 : Nat) : Int)] 3))
  obtain ⟨W0, hW0⟩ : ∃ W0, (w5.alloc (.cells #[.slice (some ⟨g, 0, none⟩) ps.length c5] 22)).alloc (.cells #[.int .i64 ((128 : Nat) : Int)] 3) = W0 := ⟨_, rfl⟩
  have hsz : W0.heap.size = w5.heap.size + 2 := by rw [← hW0]; simp
  have HSZ := Lib.hid hsz
  rw [hW0] at bS2 bZ hR0 ⊢
  clear hW0 bS hsz
  have HR0 := Lib.hid (Rd.keep HR5.out hR0)
  have HBV0 := Lib.hid (hBV5.keep hR0)
  have HBR0 := Lib.hid (hBR5.keep hR0)
  have HB0 := Lib.hid (hB5.trans (hR0.mono (by omega)))
  clear hBV5 hBR5 hB5 HR5
  have HNC := Lib.hid (show nCh ps.length 128 = ps.length / 128 from nCh_eq (by decide) (by have := HP1.out; omega) (by have := HP1.out; omega))
  have HNL := Lib.hid (show ∀ j, j < nCh ps.length 128 → (pieceF ps 128 j).length = min 128 (ps.length - j * 128) ∧ min 128 (ps.length - j * 128) = 128 from fun j hj => ⟨piece_len ps 128 j, by rw [HNC.out] at hj; have := HP1.out; omega⟩)
  refine wpIn_rangeFunc_ownG rfl (by omega) (gf := 32) (lb := #[.pointer (some ⟨w5.heap.size, 0, none⟩), .pointer (some ⟨w5.heap.size + 1, 0, none⟩)]) rfl trivial (enters_of Tryd.func32 (by kernel_rfl) rfl)
    (chunk_stopsF 3 (by omega) w5.heap.size (w5.heap.size + 1) (some ⟨g, 0, none⟩) ps.length c5 128 (by decide) (by decide) (by omega) hlc5 g 0 (.inl rfl) W0 bS2.cell bZ.cell bS2.lt bZ.lt) KB.trans (KB.put bS2.lt bZ.lt) (Below.refl _ _) (fun _ => rfl)
    (fun pre W => Hid (Blk W w2.heap.size 49 ((hL ps (pre.map (·.1))).map wV)) ∧ Hid (KeepT (fun k => k < W0.heap.size ∧ k ≠ w2.heap.size) W0 W))
    (fun _ _ _ => False)
    ?own
    (fun _ _ _ _ _ hs _ _ => hs)
    ⟨HBV0, Lib.hid (KeepT.refl _ _)⟩
    (fun x => { tmps := #[.slice A n c, undef, .pointer (some ⟨w.heap.size, 0, none⟩), .slice A1 xs.length c1, .pointer (some ⟨w2.heap.size, 0, none⟩), chV g 0 ps.length 128 x.1, undef, undef, .slice A n c, .slice A1 xs.length c1, .agg IVA, .slice A1 xs.length c1, .slice A1 xs.length c1, .int .i64 (xs.length : Int), v4, .slice (some ⟨g, 0, none⟩) ps.length c5, .func (.func 32) #[] #[.pointer (some ⟨w5.heap.size, 0, none⟩), .pointer (some ⟨w5.heap.size + 1, 0, none⟩)], chV g 0 ps.length 128 x.1, undef, undef, undef, undef, undef, undef, undef, undef, undef, undef, undef, undef, undef, undef, undef, undef, undef, undef, undef], defers := [] }) ?assign ?body ?done ?stop
  case own =>
    rintro pre X Y row ⟨hs1, hs2⟩ hg hrow
    refine ⟨Lib.hid (hs1.out.grown hg fun e => ?_), Lib.hid (hs2.out.trans (KeepT.grown hg (fun k hk => Nat.lt_of_lt_of_le hk.1 hs2.out.size) (fun r e hk => by have := (hrow r e).1; omega)))⟩
    have := (hrow _ e.symm).1
    have := HSZ.out
    omega
  case assign =>
    intro l x W K hK
    gi_wp2
    exact hK
  case body =>
    rintro l pre ⟨x, hx⟩ W ⟨hBl, hKe⟩ hlt
    obtain ⟨hpl1, hpl2⟩ := HNL.out x hx
    have hpr : Hid (RdB W (some ⟨g, 0 + x * 128, none⟩) (pieceF ps 128 x)) := Lib.hid (Rd.keepT (piece_rd (s := 128) (j := x) HR0.out (.inl rfl)) hKe.out ⟨by have := HSZ.out; omega, hgb⟩)
    have hGK := HG.out.keep (HB0.out.trans (hKe.out.below (B := w.heap.size) (fun k hk => ⟨by have := HSZ.out; omega, by omega⟩)))
    have HPL := Lib.hid hpl1
    gi_wp2_with (refine ⟨trivial, ?_⟩; gi_at_call 26; refine (CallsIn.inRound l (callsIn_wide.2 (take_any w2.heap.size (hL ps (pre.map (·.1))) _ _ _ (pieceF ps 128 x) W (hL_length _ _) hBl.out hGK HPL.out hpr.out hpl2 (Nat.le_refl _)))).mono ?_; rintro e W2 ⟨⟨v, rfl⟩, hB2, hK2⟩)
    have hbv : ∀ k o, W.heap[k]? = some o → o.isCells = false → k ≠ w2.heap.size := fun k o ho hc e => by
      rw [e, show W.heap[w2.heap.size]? = _ from hBl.out] at ho; cases ho; cases hc
    have hsW := hKe.out.size
    have hs0 := HSZ.out
    refine ⟨⟨hK2.size, fun k o _ ho hc => (hK2.block k (Array.getElem?_eq_some_iff.1 ho).1 (fun e => hbv k o ho hc (by cases e; rfl))).trans ho⟩, ⟨hK2.block _ (by omega) (fun e => by injection e; omega), hK2.block _ (by omega) (fun e => by injection e; omega)⟩, Lib.hid ?_, Lib.hid (hKe.out.trans (KeepT.grown hK2 (fun k hk => Nat.lt_of_lt_of_le hk.1 hsW) (fun r e hk => by cases e; exact hk.2 rfl)))⟩
    rw [List.map_append, List.map_cons, List.map_nil, hL_snoc]
    exact hB2
  case done =>
    rintro D ys W hD hys ⟨hBl, hKe⟩ hK
    have HE := Lib.hid (show sumF xs = outF (hL ps (ys.map (·.1))) by rw [HS.out, hys, hL_range, HNC.out])
    have HL8 := Lib.hid (hL_length ps (ys.map (·.1)))
    generalize hL ps (ys.map (·.1)) = hd at *
    have hsW := hKe.out.size
    have hs0 := HSZ.out
    have hWB := Lib.hid (HB0.out.trans (hKe.out.below (B := w.heap.size) (fun k hk => ⟨by omega, by omega⟩)))
    have HBR := Lib.hid (show Blk W w.heap.size 30 [.int .u8 0, .int .u8 0, .int .u8 0, .int .u8 0, .int .u8 0, .int .u8 0, .int .u8 0, .int .u8 0, .int .u8 0, .int .u8 0, .int .u8 0, .int .u8 0, .int .u8 0, .int .u8 0, .int .u8 0, .int .u8 0, .int .u8 0, .int .u8 0, .int .u8 0, .int .u8 0, .int .u8 0, .int .u8 0, .int .u8 0, .int .u8 0, .int .u8 0, .int .u8 0, .int .u8 0, .int .u8 0, .int .u8 0, .int .u8 0, .int .u8 0, .int .u8 0, .int .u8 0, .int .u8 0, .int .u8 0, .int .u8 0, .int .u8 0, .int .u8 0, .int .u8 0, .int .u8 0, .int .u8 0, .int .u8 0, .int .u8 0, .int .u8 0, .int .u8 0, .int .u8 0, .int .u8 0, .int .u8 0, .int .u8 0, .int .u8 0, .int .u8 0, .int .u8 0, .int .u8 0, .int .u8 0, .int .u8 0, .int .u8 0, .int .u8 0, .int .u8 0, .int .u8 0, .int .u8 0, .int .u8 0, .int .u8 0, .int .u8 0, .int .u8 0] from (hKe.out.block w.heap.size ⟨by omega, by omega⟩).trans HBR0.out)
    have HK := Lib.hid hK
    clear HBR0 HB0 hKe hys hK HR0 bS2 bZ hR0 HNL HNC HS HP1 hlc5
    gi_wp2
    refine wpIn_wide.2 ?_
    go_loopw [20] (fun i wr => ∃ k : Nat, i = .int .i64 (k : Int) ∧ k ≤ 64 ∧ Hid (Blk wr W.heap.size 30 ((outs hd k).map bV)) ∧ Hid (Blk wr w2.heap.size 49 (hd.map wV)) ∧ Hid (Below W.heap.size W wr)) (fun i _ => 64 - (intOf i).toNat)
    case atStart => exact ⟨0, rfl, by decide, Lib.hid (Blk.new W [.int .u8 0, .int .u8 0, .int .u8 0, .int .u8 0, .int .u8 0, .int .u8 0, .int .u8 0, .int .u8 0, .int .u8 0, .int .u8 0, .int .u8 0, .int .u8 0, .int .u8 0, .int .u8 0, .int .u8 0, .int .u8 0, .int .u8 0, .int .u8 0, .int .u8 0, .int .u8 0, .int .u8 0, .int .u8 0, .int .u8 0, .int .u8 0, .int .u8 0, .int .u8 0, .int .u8 0, .int .u8 0, .int .u8 0, .int .u8 0, .int .u8 0, .int .u8 0, .int .u8 0, .int .u8 0, .int .u8 0, .int .u8 0, .int .u8 0, .int .u8 0, .int .u8 0, .int .u8 0, .int .u8 0, .int .u8 0, .int .u8 0, .int .u8 0, .int .u8 0, .int .u8 0, .int .u8 0, .int .u8 0, .int .u8 0, .int .u8 0, .int .u8 0, .int .u8 0, .int .u8 0, .int .u8 0, .int .u8 0, .int .u8 0, .int .u8 0, .int .u8 0, .int .u8 0, .int .u8 0, .int .u8 0, .int .u8 0, .int .u8 0, .int .u8 0] 30), Lib.hid (hBl.out.alloc _), Lib.hid ((Below.refl _ W).alloc (Nat.le_refl _) _)⟩
    case round =>
      clear hBl
      obtain ⟨k, rfl, hk, BO, BV, BB⟩ := hrel
      by_cases hlt : k < 64
      · have hq : (k : Int) / 8 = ((k / 8 : Nat) : Int) := by omega
        have hq8 : k / 8 < 8 := by omega
        have hcell := BV.out.word (k / 8) (by rw [HL8.out]; exact hq8)
        have hfr := BO.out.frozen k
        have hcell2 : wr.cell? ⟨W.heap.size, k, none⟩ = some (bV ((outs hd k).getD k 0)) := by
          rw [BO.out.cell, List.getElem?_map, List.getElem?_eq_getElem (by rw [outs_length]; exact hlt), List.getD_eq_getElem?_getD, List.getElem?_eq_getElem (by rw [outs_length]; exact hlt)]; rfl
        generalize (outs hd k).getD k 0 = z at hcell2
        have hr : (k : Int) % 8 = ((k % 8 : Nat) : Int) := by omega
        have hr4 : k % 8 ≤ 7 := by omega
        have HO := Lib.hid (show outs hd (k + 1) = (outs hd k).set k (UInt8.ofNat ((hd.getD (k / 8) 0).toNat / 2 ^ (8 * (7 - k % 8)) % 256)) by rw [outs, outF_getD hd k (by rw [HL8.out]; omega)])
        have EV := Lib.hid (shr_out (hd.getD (k / 8) 0) (8 * (7 - k % 8)))
        have HB := Lib.hid (BO.out.set k (bV (UInt8.ofNat ((hd.getD (k / 8) 0).toNat / 2 ^ (8 * (7 - k % 8)) % 256))))
        generalize hd.getD (k / 8) 0 = y at *
        generalize k / 8 = q at *
        generalize k % 8 = r at *
        have hq2 : (q : Int) < 8 := by omega
        have hr2 : (r : Int) ≤ 7 := by omega
        have hr3 : 0 ≤ (7 : Int) - (r : Int) := by omega
        go_wp2
        go_roundw
        case rel => exact ⟨k + 1, by simp, by omega, Lib.hid (by rw [HO.out, List.map_set]; have := HB.out; unfold bV at this ⊢; rw [EV.out]; exact this), Lib.hid (BV.out.setOther (by simp; omega) _), Lib.hid (BB.out.setCell (by simp) _)⟩
        case measure => simp [intOf]; omega
      · have hk2 : k = 64 := by omega
        have HEB := Lib.hid (show ((outs hd k).map bV).toArray = ((sumF xs).map bV).toArray by rw [hk2, outs_all hd HL8.out, HE.out])
        have HSZ2 := Lib.hid (show ((outs hd k).map bV).toArray.size = 64 by rw [List.size_toArray, List.length_map, outs_length])
        have HO2 := Lib.hid (show ((outs hd k).map bV).toArray.all (·.oneCell') = true by simp [bV, Value.oneCell'])
        have hBR := HBR.out.below BB.out (by omega)
        generalize hRA : ((outs hd k).map bV).toArray = RA at *
        have hRO : Blk wr W.heap.size 30 ((outs hd k).map bV) := BO.out
        unfold Blk at hRO hBR
        rw [hRA] at hRO
        have HRO := Lib.hid hRO
        have HRR := Lib.hid hBR
        have HKK := Lib.hid ((BB.out.block D (Array.getElem?_eq_some_iff.1 HK.out).1).trans HK.out)
        clear hRO hBR BO BV
        go_wp2
        gi_wp2_with (first | (refine wpListIn_load_row rfl 30 _ rfl W.heap.size rfl _ _ _ _ HRO.out Tryd.underlying30 rfl (by rw [HSZ2.out]; kernel_rfl) ?_) | (refine wpListIn_store_row rfl 30 _ _ rfl w.heap.size RA rfl rfl _ _ HRR.out (by rw [HSZ2.out]; kernel_rfl) (by rw [HSZ2.out]; rfl) HO2.out ?_))
        have hDR : w.heap.size ≠ D := by omega
        have hK3 : (wr.setRow w.heap.size RA).heap[D]? = some (.deferred (some [])) := by
          rw [show (wr.setRow w.heap.size RA).heap[D]? = wr.heap[D]? by simp [World.setRow, Array.getElem?_modify, hDR]]; exact HKK.out
        have hb2 : Below w.heap.size w (wr.setRow w.heap.size RA) := (hWB.out.trans (BB.out.mono (by have := hWB.out.size; omega))).trans (below_setRow (Nat.le_refl _))
        refine ⟨by simp, .inl ⟨_, _, rfl, run_takeDeferred hK3, ?_⟩⟩
        have hrow : ((wr.setRow w.heap.size RA).putObj D (.deferred none)).heap[w.heap.size]? = some (.cells RA 30 (0, 0)) :=
          (World.putObj_heap_other hDR).trans (setRow_heap _ _ _ _ _ _ HRR.out)
        exact ⟨_, results_cell_row rfl _ _ w.heap.size 30 RA (0, 0) _ rfl hrow Tryd.underlying30 rfl (by rw [HSZ2.out]; kernel_rfl), by rw [HEB.out], hb2.trans (belowK_b (w := w) (Nat.le_refl _) _ D _ _ (by omega) hK3 rfl rfl)⟩
  case stop =>
    rintro D ck pre W _ _ h _
    exact h.elim

theorem sum_any (A : Option Addr) (n c : Nat) (vs : List Value) (xss : List (List UInt8)) (w : World) (hn : xss.length = n) (h : RdBB w A vs xss) (hG : GK w) (hb : xss.flatten.length ≤ 10000000) (hn2 : n ≤ 70368744177664) :
    Calls Tryd.prog 18 #[.slice A n c] w fun e w' => e = .returned (.agg ((sumF xss.flatten).map bV).toArray) ∧ Below w.heap.size w w' :=
  callsIn_wide.1 (sum_in A n c vs xss w hn h hG hb hn2)
end Go.Proofs.YtfmfpckpldlahaaDoor
