/- base64.Encode. -/
import Derived.Test.YtmpkbjkdmbgmhaaGrp
namespace Go.Proofs.Ytmpkbjkdmbgmhaa
open Go.RowKit Go.Shelf
attribute [local go_sem] Oper.semAt_some

def encP (xs : List UInt8) (js : List Nat) : List UInt8 := js.flatMap fun j => groupF (pieceF xs 3 j)
def encF (xs : List UInt8) : List UInt8 := encP xs (List.range (nCh xs.length 3))

theorem encP_snoc (xs : List UInt8) (js : List Nat) (j : Nat) : encP xs (js ++ [j]) = encP xs js ++ groupF (pieceF xs 3 j) := by simp [encP]
theorem groupF_length (p : List UInt8) : (groupF p).length ≤ 4 := by
  unfold groupF sixF
  rw [List.length_map, List.length_take]
  exact Nat.min_le_right _ _
theorem encP_length (xs : List UInt8) (js : List Nat) : (encP xs js).length ≤ 4 * js.length := by
  induction js with
  | nil => simp [encP]
  | cons j js ih =>
    have : encP xs (j :: js) = groupF (pieceF xs 3 j) ++ encP xs js := by simp [encP]
    rw [this, List.length_append, List.length_cons]
    have := groupF_length (pieceF xs 3 j)
    omega

/-- A builder abides the turn of what is no cells. -/
theorem BldS.turn {b : Nat} {S : Nat → Prop} {l : List UInt8} {X Y : World} {row : Option Nat} (h : BldS b S l X) (hg : X.grownBy Y row) (hrow : ∀ r, row = some r → ∃ o : Obj, X.heap[r]? = some o ∧ o.isCells = false) : BldS b S l Y := by
  obtain ⟨p, v, hp, hk, ho, hn, h1, h2, h3⟩ := h
  refine ⟨p, v, hp, (hg.block b (Array.getElem?_eq_some_iff.1 hk).1 (fun e => ?_)).trans hk, ho.kept hg ?_, hn, h1, h2, fun k h => Nat.lt_of_lt_of_le (h3 k h) hg.size⟩
  · obtain ⟨o, ho', hc⟩ := hrow b e.symm
    rw [hk] at ho'; cases ho'; cases hc
  · rcases ho.2 with ⟨rfl, _⟩ | ⟨g, cap, cur, rfl, _, hgb, _⟩
    · exact .inl rfl
    · refine .inr fun e' => ?_
      obtain ⟨o, ho', hc⟩ := hrow g (by simpa [Value.ownBlock] using e'.symm)
      rw [hgb] at ho'; cases ho'; cases hc

/-- What is no cells may be guarded. -/
theorem BldS.guard {b : Nat} {S : Nat → Prop} {l : List UInt8} {W : World} (h : BldS b S l W) : BldS b (fun k => S k ∨ ∃ o : Obj, W.heap[k]? = some o ∧ o.isCells = false) l W := by
  obtain ⟨p, v, hp, hk, ho, hn, h1, h2, h3⟩ := h
  refine ⟨p, v, hp, hk, ho, hn, fun h => ?_, fun g hg h => ?_, fun k h => ?_⟩
  · rcases h with h | ⟨o, h, hc⟩
    · exact h1 h
    · rw [hk] at h; cases h; cases hc
  · rcases h with h | ⟨o, h, hc⟩
    · exact h2 g hg h
    · rcases ho.2 with ⟨rfl, _⟩ | ⟨g', cap, cur, rfl, _, hgb, _⟩
      · simp [Value.ownBlock] at hg
      · obtain rfl : g' = g := by simpa [Value.ownBlock] using hg
        rw [hgb] at h; cases h; cases hc
  · rcases h with h | ⟨o, h, _⟩
    · exact h3 k h
    · exact (Array.getElem?_eq_some_iff.1 h).1

theorem Rd.keepS {w w' : World} {S : Nat → Prop} {b o : Nat} {xs : List Value} (h : Rd w (some ⟨b, o, none⟩) xs) (hk : KeepS S w w') (hb : S b) : Rd w' (some ⟨b, o, none⟩) xs := by
  rcases h with h | ⟨b', o', e, h⟩
  · exact .inl h
  · cases e
    exact Rd.mk fun i hi => (World.cell?_of_block (a := ⟨b, o + i, none⟩) (hk.block b hb)).trans (h i hi)

set_option maxRecDepth 100000 in
set_option maxHeartbeats 4000000 in
theorem encode_in (A : Option Addr) (n c : Nat) (vs : List Value) (xss : List (List UInt8)) (w : World) (hn : xss.length = n) (h : RdBB w A vs xss) (hb : xss.flatten.length ≤ 1099511627776) (hn2 : n ≤ 70368744177664) :
    CallsIn Fence.wide 4 Try.prog 10 #[.slice A n c] w fun e w' => e = .returned (.string (str (encF xss.flatten))) ∧ Below w.heap.size w w' := by
  have HN := Lib.hid hn; clear hn
  have H := Lib.hid h; clear h
  generalize hx : xss.flatten = xs at *
  have HX := Lib.hid hx
  clear hx
  refine callsIn_of_wp_marks Try.func10 rfl trivial ?_ rfl
  simp only [Try.ntmps10, List.size_toArray, List.length_cons, List.length_nil, Nat.reduceAdd, Nat.reduceSub, Array.replicate_succ, Array.replicate_zero, List.push_toArray, List.append_toArray, List.nil_append, List.cons_append]
  have F0 := Lib.hid (BldS.fresh w)
  have hbA : Below w.heap.size w (w.alloc (.cells #[.pointer none, .slice none 0 0] 41)) := (Below.refl _ w).alloc (Nat.le_refl _) _
  gi_wp2_with (first | (refine ⟨trivial, ?_⟩; gi_at_call 18; refine (callsIn_wide.2 (concat_any A n c vs xss _ HN.out (H.out.keep hbA) (by rw [HX.out]; omega) hn2)).mono ?_; rintro e w1 ⟨v, rfl, hown, hbel⟩; rw [HX.out] at hown; obtain ⟨A1, c1, rfl, hlc, _, hr, _⟩ := own_rd hown) | (refine ⟨trivial, ?_⟩; gi_at_call 17; refine (chunk_in 3 A1 xs.length c1 3 (by decide) _).mono ?_; rintro e w' ⟨rfl, rfl⟩))
  rw [World.size_alloc] at hown
  obtain ⟨g, hA, hgS⟩ : ∃ g, (A1 = some ⟨g, 0, none⟩ ∨ xs.length = 0) ∧ (xs.length = 0 ∨ (w.heap.size + 1 ≤ g ∧ g < w1.heap.size)) := by
    by_cases h0 : 0 < xs.length
    · obtain ⟨g, c2, e, hg1, hg2, -⟩ := own_at hown h0
      cases e
      exact ⟨g, .inl rfl, .inr ⟨hg1, hg2⟩⟩
    · exact ⟨0, .inr (by omega), .inl (by omega)⟩
  have HA := Lib.hid hA
  have HGS := Lib.hid hgS
  have HR := Lib.hid hr
  clear hA hgS hr hown
  have hs1 := hbel.size
  rw [World.size_alloc] at hs1
  have bS := Boxed.new w1 23 (.slice A1 xs.length c1)
  have bZ := Boxed.new (w1.alloc (.cells #[.slice A1 xs.length c1] 23)) 3 (.int .i64 ((3 : Nat) : Int))
  rw [World.size_alloc] at bZ
  have bS2 := bS.alloc (.cells #[.int .i64 ((3 : Nat) : Int)] 3)
  have hB01 : Below (w.heap.size + 1) (w.alloc (.cells #[.pointer none, .slice none 0 0] 41)) ((w1.alloc (.cells #[.slice A1 xs.length c1] 23)).alloc (.cells #[.int .i64 ((3 : Nat) : Int)] 3)) := by
    have h1 := hbel
    rw [World.size_alloc] at h1
    exact (h1.alloc hs1 _).alloc (by rw [World.size_alloc]; omega) _
  have hR0 : Below w1.heap.size w1 ((w1.alloc (.cells #[.slice A1 xs.length c1] 23)).alloc (.cells #[.int .i64 ((3 : Nat) : Int)] 3)) := ((Below.refl _ w1).alloc (Nat.le_refl _) _).alloc (by simp) _
  change Code.wpIn _ _ _ _ _ _ ((w1.alloc (.cells #[.slice A1 xs.length c1] 23)).alloc (.cells #[.int .i64 ((3 : Nat) : Int)] 3))
  obtain ⟨W0, hW0⟩ : ∃ W0, (w1.alloc (.cells #[.slice A1 xs.length c1] 23)).alloc (.cells #[.int .i64 ((3 : Nat) : Int)] 3) = W0 := ⟨_, rfl⟩
  have hsz : W0.heap.size = w1.heap.size + 2 := by rw [← hW0]; simp
  have HSZ := Lib.hid hsz
  rw [hW0] at bS2 bZ hB01 hR0 ⊢
  clear hW0 bS hsz hbel
  have HR0 := Lib.hid (Rd.keep HR.out hR0)
  have HS : Hid (BldS w.heap.size (fun k => k < W0.heap.size ∧ k ≠ w.heap.size) [] W0) := Lib.hid (F0.out.more (by rw [World.size_alloc]; exact hB01) fun k hk => by
    rw [World.size_alloc]; omega)
  have hB0 : Below w.heap.size w W0 := hbA.trans (hB01.mono (by omega))
  refine wpIn_rangeFunc_ownG rfl (by omega) (gf := 23) (lb := #[.pointer (some ⟨w1.heap.size, 0, none⟩), .pointer (some ⟨w1.heap.size + 1, 0, none⟩)]) rfl trivial (enters_of Try.func23 (by kernel_rfl) rfl)
    (chunk_stops 3 (by omega) w1.heap.size (w1.heap.size + 1) A1 xs.length c1 3 (by decide) (by decide) (by omega) hlc g 0 HA.out W0 bS2.cell bZ.cell bS2.lt bZ.lt) KB.trans (KB.put bS2.lt bZ.lt) (Below.refl _ _) (fun _ => rfl)
    (fun pre W => BldS w.heap.size (fun k => k < W0.heap.size ∧ k ≠ w.heap.size) (encP xs pre) W ∧ KeepS (fun k => k < W0.heap.size ∧ k ≠ w.heap.size) W0 W)
    (fun _ _ _ => False)
    ?own
    (fun _ _ _ _ _ hs _ _ => hs)
    ⟨HS.out, KeepS.refl _ _⟩
    (fun x => { tmps := #[.slice A n c, undef, .string (str []), .pointer (some ⟨w.heap.size, 0, none⟩), chV g 0 xs.length 3 x, .slice A n c, .slice A1 xs.length c1, .func (.func 23) #[] #[.pointer (some ⟨w1.heap.size, 0, none⟩), .pointer (some ⟨w1.heap.size + 1, 0, none⟩)], chV g 0 xs.length 3 x, undef, undef, undef], defers := [] }) ?assign ?body ?done ?stop
  case own =>
    intro pre X Y row hs hg hrow
    exact ⟨hs.1.turn hg fun r e => (hrow r e).2, hs.2.trans (KeepS.grown hg (fun k hk => Nat.lt_of_lt_of_le hk.1 hs.2.size) (fun r e hk => by have := (hrow r e).1; omega))⟩
  case assign =>
    intro l x W K hK
    gi_wp2
    exact hK
  case body =>
    rintro l pre x W ⟨hBl, hKe⟩ hlt
    have hpl := encP_length xs pre
    have hpn : pre.length ≤ xs.length := Nat.le_trans (Nat.le_of_lt hlt) (nCh_le (by decide))
    have hgu := Lib.hid hBl.guard
    have hpr : Hid (RdB W (some ⟨g, 0 + x * 3, none⟩) (pieceF xs 3 x)) := Lib.hid (by
      have h0 := piece_rd (s := 3) (j := x) HR0.out HA.out
      rcases HGS.out with hz | ⟨hg1, hg2⟩
      · have : xs = [] := List.eq_nil_of_length_eq_zero hz
        subst this; unfold pieceF; simp only [List.drop_nil, List.take_nil]; exact Rd.nil _ _
      · exact Rd.keepS h0 hKe ⟨by have := HSZ.out; omega, by omega⟩)
    have HPL := Lib.hid (piece_len xs 3 x)
    gi_wp2_with (refine ⟨trivial, ?_⟩; gi_at_call 19; refine (CallsIn.inRound l (callsIn_wide.2 (group_any w.heap.size _ _ _ _ _ (pieceF xs 3 x) W hgu.out (by omega) HPL.out hpr.out (by omega)))).mono ?_; rintro e W2 ⟨⟨v, rfl⟩, hB2, hK2⟩)
    refine ⟨⟨hK2.size, fun k o _ ho hc => (hK2.block k (.inr ⟨o, ho, hc⟩)).trans ho⟩, ⟨hK2.block _ (.inl ⟨by have := HSZ.out; omega, by omega⟩), hK2.block _ (.inl ⟨by have := HSZ.out; omega, by omega⟩)⟩, ?_, hKe.trans (hK2.mono fun k hk => .inl hk)⟩
    rw [encP_snoc]
    exact hB2.less fun k hk => .inl hk
  case done =>
    rintro D ys W hD rfl ⟨hBl, hKe⟩ hK
    have hlen := encP_length xs (List.range (nCh xs.length 3))
    have hWb := hB0.trans (hKe.below fun k hk => ⟨by have := HSZ.out; omega, by omega⟩)
    have hgu := Lib.hid hBl.guard
    gi_wp2_with (refine ⟨trivial, ?_⟩; gi_at_call 20; refine (callsIn_wide.2 (stringS_any w.heap.size _ _ W hgu.out)).mono ?_; rintro e W2 ⟨rfl, hK2⟩)
    have hK3 : W2.heap[D]? = some (.deferred (some [])) := (hK2.block D (.inr ⟨_, hK, rfl⟩)).trans hK
    refine ⟨by simp, .inl ⟨_, _, rfl, run_takeDeferred hK3, ?_⟩⟩
    have hb2 : Below w.heap.size w W2 := hWb.trans (hK2.below fun k hk => .inl ⟨by have := HSZ.out; omega, by omega⟩)
    exact ⟨_, results_tmp rfl _ _ _, rfl, hb2.trans (belowK_b (w := w) (Nat.le_refl _) W2 D _ _ (by have := HSZ.out; omega) hK3 rfl rfl)⟩
  case stop =>
    rintro D ck pre W _ _ h _
    exact h.elim

theorem encode_any (A : Option Addr) (n c : Nat) (vs : List Value) (xss : List (List UInt8)) (w : World) (hn : xss.length = n) (h : RdBB w A vs xss) (hb : xss.flatten.length ≤ 1099511627776) (hn2 : n ≤ 70368744177664) :
    Calls Try.prog 10 #[.slice A n c] w fun e w' => e = .returned (.string (str (encF xss.flatten))) ∧ Below w.heap.size w w' :=
  callsIn_wide.1 (encode_in A n c vs xss w hn h hb hn2)
end Go.Proofs.Ytmpkbjkdmbgmhaa
