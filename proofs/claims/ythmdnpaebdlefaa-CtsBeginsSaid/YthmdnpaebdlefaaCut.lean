/- octets.Cut. -/
import Derived.Test.YthmdnpaebdlefaaChk
import Derived.Test.YthmdnpaebdlefaaReg
namespace Go.Proofs.Ythmdnpaebdlefaa
open Go.RowKit Go.Shelf
attribute [local go_sem] Oper.semAt_some

theorem TBB : ElemT Try.prog 47 29 (.slice none 0 0) 24 := ⟨Try.underlying47, by kernel_rfl, rfl⟩

/-- The values vs are slices of bytes of their own that hold xss. -/
def Each (W : World) (base : Nat) (vs : List Value) (xss : List (List UInt8)) : Prop :=
  vs.length = xss.length ∧ ∀ (i : Nat) (xs : List UInt8), xss[i]? = some xs → ∃ v, vs[i]? = some v ∧ W.ownsRow base 5 1 v xs.length (xs.map bV)

theorem Each.map {W W' : World} {base : Nat} {vs : List Value} {xss : List (List UInt8)} (h : Each W base vs xss) (hk : ∀ v n xs, W.ownsRow base 5 1 v n xs → W'.ownsRow base 5 1 v n xs) : Each W' base vs xss :=
  ⟨h.1, fun i xs hi => by obtain ⟨v, hv, hr⟩ := h.2 i xs hi; exact ⟨v, hv, hk _ _ _ hr⟩⟩

theorem Each.push {W : World} {base : Nat} {vs : List Value} {xss : List (List UInt8)} (h : Each W base vs xss) {v : Value} {xs : List UInt8} (hv : W.ownsRow base 5 1 v xs.length (xs.map bV)) : Each W base (vs ++ [v]) (xss ++ [xs]) := by
  refine ⟨by simp [h.1], fun i ys hi => ?_⟩
  by_cases hlt : i < xss.length
  · rw [List.getElem?_append_left hlt] at hi
    obtain ⟨u, hu, hr⟩ := h.2 i ys hi
    exact ⟨u, by rw [List.getElem?_append_left (by rw [h.1]; exact hlt)]; exact hu, hr⟩
  · rw [List.getElem?_append_right (by omega)] at hi
    have : i - xss.length = 0 := by
      have := (List.getElem?_eq_some_iff.1 hi).1
      simp at this; omega
    rw [this] at hi
    obtain rfl : xs = ys := by simpa using hi
    exact ⟨v, by rw [List.getElem?_append_right (by rw [h.1]; omega), h.1, this]; rfl, hv⟩

theorem Each.nil (W : World) (base : Nat) : Each W base [] [] := ⟨rfl, fun i xs h => by simp at h⟩
theorem Each.base {W : World} {b b' : Nat} {vs : List Value} {xss : List (List UInt8)} (h : Each W b vs xss) (hb : b' ≤ b) : Each W b' vs xss :=
  ⟨h.1, fun i xs hi => by obtain ⟨v, hv, hr⟩ := h.2 i xs hi; exact ⟨v, hv, ownsRow_base hr hb⟩⟩
theorem Each.below {W W' : World} {b : Nat} {vs : List Value} {xss : List (List UInt8)} (h : Each W b vs xss) (hb : Below W.heap.size W W') : Each W' b vs xss := h.map fun _ _ _ hr => ownsRow_below hr hb

/-- A row of another type isn't the row that is written. -/
theorem own_kept_ne {w w1 : World} {base base2 size size2 n n2 : Nat} {e e2 : TypeId} {v v2 : Value} {xs xs2 : List Value} (h : w.ownsRow base e size v n xs) (h2 : w.ownsRow base2 e2 size2 v2 n2 xs2) (hne : e ≠ e2) (hg : w.grownBy w1 v2.ownBlock) : w1.ownsRow base e size v n xs := by
  refine h.kept hg ?_
  rcases h.2 with ⟨rfl, _⟩ | ⟨g, cap, cur, rfl, _, hgb, _⟩
  · exact .inl rfl
  · refine .inr fun e' => ?_
    rcases h2.2 with ⟨rfl, _⟩ | ⟨g2, cap2, cur2, rfl, _, hgb2, _⟩
    · simp [Value.ownBlock] at e'
    · obtain rfl : g = g2 := by simpa [Value.ownBlock] using e'
      rw [hgb] at hgb2
      simp at hgb2
      exact hne hgb2.2

theorem own_kept_box {w w1 : World} {base size n B : Nat} {e t : TypeId} {v u : Value} {xs : List Value} (h : w.ownsRow base e size v n xs) (h2 : Boxed w B t u) (hne : e ≠ t) (hg : w.grownBy w1 (some B)) : w1.ownsRow base e size v n xs := by
  refine h.kept hg ?_
  rcases h.2 with ⟨rfl, _⟩ | ⟨g, cap, cur, rfl, _, hgb, _⟩
  · exact .inl rfl
  · refine .inr fun e' => ?_
    obtain rfl : g = B := by simpa [Value.ownBlock] using e'
    rw [show w.heap[g]? = _ from h2] at hgb
    simp at hgb
    exact hne hgb.2.symm

/-- What a function that gives pieces comes to. -/
def GivesBB (xss : List (List UInt8)) (w : World) (e : Ending) (w' : World) : Prop :=
  ∃ v vs, e = .returned v ∧ w'.ownsRow w.heap.size 29 1 v xss.length vs ∧ Each w' w.heap.size vs xss ∧ Below w.heap.size w w'

def pieceF (xs : List UInt8) (s j : Nat) : List UInt8 := (xs.drop (j * s)).take s
def cutF (xs : List UInt8) (size : Int) : List (List UInt8) := if size < 1 then [] else (List.range (nCh xs.length size.toNat)).map (pieceF xs size.toNat)

theorem piece_rd {w : World} {A : Option Addr} {xs : List UInt8} (h : RdB w A xs) {b off : Nat} (hA : A = some ⟨b, off, none⟩ ∨ xs.length = 0) (s j : Nat) : RdB w (some ⟨b, off + j * s, none⟩) (pieceF xs s j) := by
  by_cases hx : xs = []
  · subst hx; unfold pieceF; simp only [List.drop_nil, List.take_nil]; exact Rd.nil _ _
  · rcases hA with rfl | h0
    · rcases h with h | ⟨b', o', hA, h⟩
      · exact absurd (by simpa using h) hx
      · cases hA
        refine Rd.mk fun i hi => ?_
        unfold pieceF at hi ⊢
        simp only [List.length_map, List.length_take, List.length_drop] at hi
        rw [Nat.add_assoc, h (j * s + i) (by rw [List.length_map]; omega), List.getElem?_map, List.getElem?_map, List.getElem?_take, if_pos (by omega), List.getElem?_drop]
    · exact absurd (List.length_eq_zero_iff.1 h0) hx

theorem piece_len (xs : List UInt8) (s j : Nat) : (pieceF xs s j).length = min s (xs.length - j * s) := by simp [pieceF]

theorem each_own (n₀ : Nat) {W W' : World} {row : Option Nat} {vs : List Value} {xss : List (List UInt8)} (h : Each W n₀ vs xss) (hg : W.grownBy W' row) (hrow : ∀ r, row = some r → ∃ o : Obj, W.heap[r]? = some o ∧ o.isCells = false) : Each W' n₀ vs xss :=
  h.map fun v n xs hr => hr.kept hg (by
    rcases hr.2 with ⟨rfl, _⟩ | ⟨g, cap, cur, rfl, _, hgb, _⟩
    · exact .inl rfl
    · refine .inr fun e' => ?_
      obtain ⟨o, ho, hc⟩ := hrow g (by simpa [Value.ownBlock] using e'.symm)
      rw [hgb] at ho; cases ho; cases hc)

/-- One operation of a region in a round, run to its end. -/
theorem step_run {F : Fence} {n : Nat} {P : Program} {o : Oper} {a : Act} {w w1 : World} {v : Value} {K : Act → World → Prop} {Q : Exit → Act → World → Prop} {ops : Array Oper} (hw : Region.wanted o (yielded ops a.tmps) = true)
    (hF : ∀ f, o.about P w a.eval = some f → F.fn f) (hs : o.semAt F.round a.eval = execOp a.eval o) (hr : (execOp a.eval o).run P w = .ok (.value v) w1) {N : Option Tmp} (hN : o.dst = N) {a' : Act} (ha : a.put N v = a') (h : K a' w1) :
    if Region.wanted o (yielded ops a.tmps) = true then Oper.wpIn F n P o a w K Q else (∀ f, o.about P w a.eval = some f → F.fn f) ∧ K (a.put o.dst undef) w := by
  subst ha hN
  rw [if_pos hw]
  unfold Oper.wpIn
  refine ⟨hF, ?_⟩
  rw [hs, hr]
  exact h

set_option maxRecDepth 100000 in
set_option maxHeartbeats 4000000 in
theorem cut_pos (A : Option Addr) (n c s : Nat) (xs : List UInt8) (w : World) (hn : xs.length = n) (h : RdB w A xs) (hc : n ≤ c) (hb : n ≤ 1099511627776) (hs1 : 1 ≤ s) (hs2 : s ≤ 9223372036854775807) :
    CallsIn Fence.wide 4 Try.prog 15 #[.slice A n c, .int .i64 (s : Int)] w (GivesBB ((List.range (nCh n s)).map (pieceF xs s)) w) := by
  have HN := Lib.hid hn; clear hn
  have H := Lib.hid h; clear h
  obtain ⟨b, off, hA⟩ : ∃ b off, A = some ⟨b, off, none⟩ ∨ n = 0 := by
    rcases H.out with h | ⟨b, o, h, _⟩
    · exact ⟨0, 0, .inr (by have := HN.out; have h : xs = [] := by simpa using h
                            subst h; exact this.symm)⟩
    · exact ⟨b, o, .inl h⟩
  have HA := Lib.hid hA; clear hA
  have hlt : ¬ (s : Int) < 1 := by omega
  refine callsIn_of_wp_marks Try.func15 rfl trivial ?_ rfl
  simp only [Try.ntmps15, List.size_toArray, List.length_cons, List.length_nil, Nat.reduceAdd, Nat.reduceSub, Array.replicate_succ, Array.replicate_zero, List.push_toArray, List.append_toArray, List.nil_append, List.cons_append]
  gi_wp2_with (refine ⟨trivial, ?_⟩; gi_at_call 27; refine (chunk_in 3 A n c s hs1 _).mono ?_; rintro e w' ⟨rfl, rfl⟩)
  have bO := Boxed.new w 47 (.slice none 0 0)
  have bS := Boxed.new (w.alloc (.cells #[.slice none 0 0] 47)) 29 (.slice A n c)
  have bZ := Boxed.new ((w.alloc (.cells #[.slice none 0 0] 47)).alloc (.cells #[.slice A n c] 29)) 3 (.int .i64 (s : Int))
  rw [World.size_alloc] at bS
  rw [World.size_alloc, World.size_alloc] at bZ
  have bO2 := (bO.alloc (.cells #[.slice A n c] 29)).alloc (.cells #[.int .i64 (s : Int)] 3)
  have bS2 := bS.alloc (.cells #[.int .i64 (s : Int)] 3)
  have hB0 : Below w.heap.size w (((w.alloc (.cells #[.slice none 0 0] 47)).alloc (.cells #[.slice A n c] 29)).alloc (.cells #[.int .i64 (s : Int)] 3)) := (((Below.refl _ w).alloc (Nat.le_refl _) _).alloc (by simp) _).alloc (by simp; omega) _
  obtain ⟨W0, hW0⟩ : ∃ W0, ((w.alloc (.cells #[.slice none 0 0] 47)).alloc (.cells #[.slice A n c] 29)).alloc (.cells #[.int .i64 (s : Int)] 3) = W0 := ⟨_, rfl⟩
  have hsz : W0.heap.size = w.heap.size + 3 := by rw [← hW0]; simp
  have HSZ := Lib.hid hsz
  rw [hW0] at bO2 bS2 bZ hB0 ⊢
  clear hW0 bO bS hsz
  obtain ⟨i0, hi, hz0, hz1, hz2⟩ := info_parts TBB.hi
  refine wpIn_rangeFunc_ownG rfl (by omega) (gf := 34) (lb := #[.pointer (some ⟨w.heap.size + 1, 0, none⟩), .pointer (some ⟨w.heap.size + 2, 0, none⟩)]) rfl trivial (enters_of Try.func34 (by kernel_rfl) rfl)
    (chunk_stops 3 (by omega) (w.heap.size + 1) (w.heap.size + 2) A n c s hs1 hs2 (by omega) hc b off HA.out W0 bS2.cell bZ.cell bS2.lt bZ.lt) KB.trans (KB.put bS2.lt bZ.lt) (Below.refl _ _) (fun _ => rfl)
    (fun pre W => (∃ v vs, Boxed W w.heap.size 47 v ∧ W.ownsRow W0.heap.size 29 1 v pre.length vs ∧ Each W w.heap.size vs (pre.map (pieceF xs s)) ∧ W0.heap.size ≤ W.heap.size) ∧ Below w.heap.size w W)
    (fun _ _ _ => False)
    ?own
    (fun _ _ _ _ _ hs _ _ => hs)
    ⟨⟨_, [], bO2, World.ownsRow_nil _ _ _ _, Each.nil _ _, Nat.le_refl _⟩, hB0⟩
    (fun x => { tmps := #[.slice A n c, .int .i64 (s : Int), undef, undef, .slice none 0 0, .pointer (some ⟨w.heap.size, 0, none⟩), chV b off n s x, .int .i64 (s : Int), .bool false, .slice A n c, .int .i64 (s : Int), .func (.func 34) #[] #[.pointer (some ⟨w.heap.size + 1, 0, none⟩), .pointer (some ⟨w.heap.size + 2, 0, none⟩)], chV b off n s x, undef, undef, undef, undef, undef, undef], defers := [] }) ?assign ?body ?done ?stop
  case own =>
    refine OwnFrom.and (fun pre X Y row hs hg hrow => ?_) (ownFrom_below (Nat.le_refl _) (by have := HSZ.out; omega))
    obtain ⟨v, vs, hv, hr, he, hsz⟩ := hs
    have hrow' : ∀ r, row = some r → ∃ o : Obj, X.heap[r]? = some o ∧ o.isCells = false := fun r e => (hrow r e).2
    obtain ⟨v2, h1, h2, h3⟩ := holdsRow_own W0.heap.size w.heap.size 47 29 1 (fun _ : Unit => pre.length) (fun _ => vs) (fun _ u => u = v) () X Y row ⟨v, hv, hr, rfl⟩ hg hrow'
    subst h3
    exact ⟨_, vs, h1, h2, each_own _ he hg hrow', Nat.le_trans hsz hg.size⟩
  case assign =>
    intro l x W K hK
    gi_wp2
    exact hK
  case body =>
    rintro l pre x W ⟨⟨v, vs, hv, hrow, heach, hsz⟩, hB⟩ hlt
    have hc1 := hv.cell
    have hmx : Try.prog.follows .mixedOrders = true := by kernel_rfl
    have HW : Hid (∀ v1 w1, w1.ownsRow W.heap.size 5 1 v1 (pieceF xs s x).length ((pieceF xs s x).map bV) → Below W.heap.size W.drew w1 →
        w1.cell? ⟨w.heap.size, 0, none⟩ = some v ∧ (w1.alloc (.cells #[v1] 29)).cell? ⟨w.heap.size, 0, none⟩ = some v ∧ ∃ g c' w2,
          (Builtin.append_ #[47, 47] 47 #[v, .slice (some ⟨w1.heap.size, 0, none⟩) 1 1]).run Try.prog (w1.alloc (.cells #[v1] 29)) = .ok (.slice (some ⟨g, 0, none⟩) (pre.length + 1) c') w2 ∧
          w2.cell? ⟨w.heap.size, 0, none⟩ = some v ∧ w2.frozen? ⟨w.heap.size, 0, none⟩ = false ∧
          KeepsFrom W0.heap.size W (w2.setCell ⟨w.heap.size, 0, none⟩ (.slice (some ⟨g, 0, none⟩) (pre.length + 1) c')) ∧ KB (w.heap.size + 1) (w.heap.size + 2) W (w2.setCell ⟨w.heap.size, 0, none⟩ (.slice (some ⟨g, 0, none⟩) (pre.length + 1) c')) ∧
          (∃ v vs, Boxed (w2.setCell ⟨w.heap.size, 0, none⟩ (.slice (some ⟨g, 0, none⟩) (pre.length + 1) c')) w.heap.size 47 v ∧ (w2.setCell ⟨w.heap.size, 0, none⟩ (.slice (some ⟨g, 0, none⟩) (pre.length + 1) c')).ownsRow W0.heap.size 29 1 v (pre ++ [x]).length vs ∧
            Each (w2.setCell ⟨w.heap.size, 0, none⟩ (.slice (some ⟨g, 0, none⟩) (pre.length + 1) c')) w.heap.size vs ((pre ++ [x]).map (pieceF xs s)) ∧ W0.heap.size ≤ (w2.setCell ⟨w.heap.size, 0, none⟩ (.slice (some ⟨g, 0, none⟩) (pre.length + 1) c')).heap.size) ∧ Below w.heap.size w (w2.setCell ⟨w.heap.size, 0, none⟩ (.slice (some ⟨g, 0, none⟩) (pre.length + 1) c'))) := Lib.hid fun v1 w1 ho hbl => by
      have hWs := hB.size
      have hb1 : Below W.heap.size W w1 := (Below.refl _ W).drew.trans hbl
      have hs1' := hb1.size
      have hv1 : Boxed w1 w.heap.size 47 v := (hb1.block _ hv.lt).trans hv
      have hrow1 := ownsRow_below hrow hb1
      have heach1 := heach.below hb1
      have h1c : v1.oneCell' = true := by obtain ⟨A1, c1, rfl, -⟩ := own_rd ho; rfl
      have hpl : pre.length ≤ n := Nat.le_trans (Nat.le_of_lt hlt) (nCh_le hs1)
      have hsrc : Src Try.prog 1 47 (.slice (some ⟨w1.heap.size, 0, none⟩) 1 1) 1 [v1] (w1.alloc (.cells #[v1] 29)) :=
        Src.of_rd (xs := [v1]) (Try.underlying47) (Rd.mk fun i hi => by
          have : i = 0 := by simpa using hi
          subst this
          exact (Boxed.new w1 29 v1).cell) (fun u hu => by rw [List.mem_singleton.1 hu]; exact h1c)
      obtain ⟨v', w2, hrun, hown', hgrow⟩ := run_append_src (w1.alloc (.cells #[v1] 29)) W0.heap.size 47 47 47 29 i0 (.slice none 0 0) 24 TBB.ht hi hz0 hz1 hz2 rfl v pre.length vs (hrow1.alloc _) _ 1 [v1] hsrc (by unfold maxLen; omega) (by omega) (by rw [World.size_alloc]; omega)
      obtain ⟨g, c', rfl⟩ := ownsRow_succ hown'
      obtain ⟨hv2, hv3, hr3, hk3, hb3⟩ := hv1.appended (by decide) (ownsRow_base hrow1 (by have := HSZ.out; omega : w.heap.size ≤ W0.heap.size)) (by omega) (Nat.le_refl _) (ownsRow_base hown' (by have := HSZ.out; omega)) hgrow
      have hsz2 := hgrow.size
      rw [World.size_alloc] at hsz2
      have hown3 := World.ownsRow.kept hown' (grownBy_setCell' w2 w.heap.size (.slice (some ⟨g, 0, none⟩) (pre.length + 1) c')) (.inr (hv2.not_row (by decide) hown').symm)
      have hvb : v.ownBlock = none ∨ ∃ g, v.ownBlock = some g ∧ W0.heap.size ≤ g := by
        rcases hrow.2 with ⟨rfl, _⟩ | ⟨g, cap, cur, rfl, hg0, _⟩
        · exact .inl rfl
        · exact .inr ⟨g, rfl, hg0⟩
      have hkb : ∀ k, k ≠ w.heap.size → k < W0.heap.size → (w2.setCell ⟨w.heap.size, 0, none⟩ (.slice (some ⟨g, 0, none⟩) (pre.length + 1) c')).heap[k]? = W.heap[k]? := fun k hne hk => by
        rw [(grownBy_setCell' w2 w.heap.size _).block k (by omega) (by intro e; cases e; exact hne rfl), hgrow.block k (by rw [World.size_alloc]; omega) (by
          rcases hvb with h | ⟨g, h, hg⟩
          · rw [h]; simp
          · rw [h]; intro e; cases e; omega), Below.heap_alloc _ _ _ (by omega), hb1.block k (by omega)]
      refine ⟨hv1.cell, (hv1.alloc _).cell, g, c', w2, hrun, hv2.cell, hv2.frozen, ?_, ⟨hkb _ (by omega) (by have := HSZ.out; omega), hkb _ (by omega) (by have := HSZ.out; omega)⟩, ⟨_, vs ++ [v1], hv3, ?_, ?_, ?_⟩, hB.trans ((hb1.mono hWs).trans hb3)⟩
      · refine ⟨Nat.le_trans hs1' hk3.size, fun k o hk ho' hc => hk3.same k o ?_ hc⟩
        rw [hb1.block k (Array.getElem?_eq_some_iff.1 ho').1]; exact ho'
      · rw [List.length_append]; exact hown3
      · rw [List.map_append]
        have key : ∀ u k ys, w1.ownsRow w.heap.size 5 1 u k ys → (w2.setCell ⟨w.heap.size, 0, none⟩ (.slice (some ⟨g, 0, none⟩) (pre.length + 1) c')).ownsRow w.heap.size 5 1 u k ys := fun u k ys hr =>
          own_kept_box (own_kept_ne (hr.alloc _) (hrow1.alloc _) (by decide) hgrow) hv2 (by decide) (grownBy_setCell' w2 w.heap.size _)
        exact (heach1.map key).push (key _ _ _ (ownsRow_base ho hWs))
      · exact Nat.le_trans hsz (Nat.le_trans hs1' hk3.size)
    have HPL : Hid (∀ x, (pieceF xs s x).length = min s (n - x * s)) := Lib.hid fun x => by rw [piece_len, HN.out]
    have HPB : Hid (∀ x, min s (n - x * s) ≤ 70368744177664) := Lib.hid fun x => by omega
    have HPR : Hid (∀ x, RdB W.drew (some ⟨b, off + x * s, none⟩) (pieceF xs s x)) := Lib.hid fun x => piece_rd (H.out.keep (hB.drew)) (by rw [HN.out]; exact HA.out) s x
    gi_wp2
    refine wpIn_region_any hmx ?_
    change wpAnyIn _ _ _ _ _ _ _ _ _ (World.drew _)
    refine wpAnyIn_ready (rs := [0, 1]) (by kernel_rfl) (by simp) ?_
    refine AllReadyIn.cons rfl (fun K hK => ?_) (AllReadyIn.cons rfl (fun K hK => ?_) AllReadyIn.nil)
    · go_simp; refine hK _ _ ?_; clear hK K
      refine wpAnyIn_ready (rs := [1]) (by kernel_rfl) (by simp) ?_
      refine AllReadyIn.cons rfl (fun K hK => ?_) AllReadyIn.nil
      go_simp; refine hK _ _ ?_; clear hK K
      refine wpAnyIn_ready (rs := [2]) (by kernel_rfl) (by simp) ?_
      refine AllReadyIn.cons rfl (fun K hK => ?_) AllReadyIn.nil
      go_simp
      refine ⟨trivial, ?_⟩
      refine (CallsIn.inRound l (callsIn_wide.2 (clone_any _ _ _ (pieceF xs s x) _ (HPL.out x) (HPR.out x) (HPB.out x)))).mono ?_
      rintro e w1 ⟨v1, rfl, hown1, hbel1⟩
      obtain ⟨A1, c1, rfl, -⟩ := own_rd hown1; obtain ⟨hq1, hq2, g, c', w2, HAP, hq3, hq4, hk1, hk2, hk3⟩ := HW.out _ w1 hown1 hbel1
      replace HAP := Lib.hid HAP
      refine hK _ _ ?_; clear hK K
      refine wpAnyIn_ready (rs := [3]) (by kernel_rfl) (by simp) ?_
      refine AllReadyIn.cons rfl (fun K hK => ?_) AllReadyIn.nil
      go_simp; refine hK _ _ ?_; clear hK K
      refine wpAnyIn_ready (rs := [4]) (by kernel_rfl) (by simp) ?_
      refine AllReadyIn.cons rfl (fun K hK => ?_) AllReadyIn.nil
      refine step_run (v := .slice (some ⟨g, 0, none⟩) (pre.length + 1) c') (w1 := w2) (N := some 17) (a' := ?ap1) (by rfl) (fun _ _ => trivial) (Oper.semAt_some _ _ _ (fun c h => by cases h)) ?hr1 rfl ?ha1 ?_
      case hr1 => exact exec_append (v := v) (xv := .slice (some ⟨w1.heap.size, 0, none⟩) 1 1) rfl rfl rfl HAP.out
      case ha1 => (simp only [Act.put, List.setIfInBounds_toArray, List.set_cons_zero, List.set_cons_succ]; rfl)
      refine hK _ _ ?_; clear hK K
      refine wpAnyIn_ready (rs := [5]) (by kernel_rfl) (by simp) ?_
      refine AllReadyIn.cons rfl (fun K hK => ?_) AllReadyIn.nil
      go_simp; refine hK _ _ ?_; clear hK K
      refine wpAnyIn_done (by kernel_rfl) ?_ _
      exact ⟨hk1, hk2, hk3⟩
    · go_simp; refine hK _ _ ?_; clear hK K
      refine wpAnyIn_ready (rs := [0, 2]) (by kernel_rfl) (by simp) ?_
      refine AllReadyIn.cons rfl (fun K hK => ?_) (AllReadyIn.cons rfl (fun K hK => ?_) AllReadyIn.nil)
      · go_simp; refine hK _ _ ?_; clear hK K
        refine wpAnyIn_ready (rs := [2]) (by kernel_rfl) (by simp) ?_
        refine AllReadyIn.cons rfl (fun K hK => ?_) AllReadyIn.nil
        go_simp
        refine ⟨trivial, ?_⟩
        refine (CallsIn.inRound l (callsIn_wide.2 (clone_any _ _ _ (pieceF xs s x) _ (HPL.out x) (HPR.out x) (HPB.out x)))).mono ?_
        rintro e w1 ⟨v1, rfl, hown1, hbel1⟩
        obtain ⟨A1, c1, rfl, -⟩ := own_rd hown1; obtain ⟨hq1, hq2, g, c', w2, HAP, hq3, hq4, hk1, hk2, hk3⟩ := HW.out _ w1 hown1 hbel1
        replace HAP := Lib.hid HAP
        refine hK _ _ ?_; clear hK K
        refine wpAnyIn_ready (rs := [3]) (by kernel_rfl) (by simp) ?_
        refine AllReadyIn.cons rfl (fun K hK => ?_) AllReadyIn.nil
        go_simp; refine hK _ _ ?_; clear hK K
        refine wpAnyIn_ready (rs := [4]) (by kernel_rfl) (by simp) ?_
        refine AllReadyIn.cons rfl (fun K hK => ?_) AllReadyIn.nil
        refine step_run (v := .slice (some ⟨g, 0, none⟩) (pre.length + 1) c') (w1 := w2) (N := some 17) (a' := ?ap2) (by rfl) (fun _ _ => trivial) (Oper.semAt_some _ _ _ (fun c h => by cases h)) ?hr2 rfl ?ha2 ?_
        case hr2 => exact exec_append (v := v) (xv := .slice (some ⟨w1.heap.size, 0, none⟩) 1 1) rfl rfl rfl HAP.out
        case ha2 => (simp only [Act.put, List.setIfInBounds_toArray, List.set_cons_zero, List.set_cons_succ]; rfl)
        refine hK _ _ ?_; clear hK K
        refine wpAnyIn_ready (rs := [5]) (by kernel_rfl) (by simp) ?_
        refine AllReadyIn.cons rfl (fun K hK => ?_) AllReadyIn.nil
        go_simp; refine hK _ _ ?_; clear hK K
        refine wpAnyIn_done (by kernel_rfl) ?_ _
        exact ⟨hk1, hk2, hk3⟩
      · go_simp
        refine ⟨trivial, ?_⟩
        refine (CallsIn.inRound l (callsIn_wide.2 (clone_any _ _ _ (pieceF xs s x) _ (HPL.out x) (HPR.out x) (HPB.out x)))).mono ?_
        rintro e w1 ⟨v1, rfl, hown1, hbel1⟩
        obtain ⟨A1, c1, rfl, -⟩ := own_rd hown1; obtain ⟨hq1, hq2, g, c', w2, HAP, hq3, hq4, hk1, hk2, hk3⟩ := HW.out _ w1 hown1 hbel1
        replace HAP := Lib.hid HAP
        refine hK _ _ ?_; clear hK K
        refine wpAnyIn_ready (rs := [0, 3]) (by kernel_rfl) (by simp) ?_
        refine AllReadyIn.cons rfl (fun K hK => ?_) (AllReadyIn.cons rfl (fun K hK => ?_) AllReadyIn.nil)
        · go_simp; refine hK _ _ ?_; clear hK K
          refine wpAnyIn_ready (rs := [3]) (by kernel_rfl) (by simp) ?_
          refine AllReadyIn.cons rfl (fun K hK => ?_) AllReadyIn.nil
          go_simp; refine hK _ _ ?_; clear hK K
          refine wpAnyIn_ready (rs := [4]) (by kernel_rfl) (by simp) ?_
          refine AllReadyIn.cons rfl (fun K hK => ?_) AllReadyIn.nil
          refine step_run (v := .slice (some ⟨g, 0, none⟩) (pre.length + 1) c') (w1 := w2) (N := some 17) (a' := ?ap3) (by rfl) (fun _ _ => trivial) (Oper.semAt_some _ _ _ (fun c h => by cases h)) ?hr3 rfl ?ha3 ?_
          case hr3 => exact exec_append (v := v) (xv := .slice (some ⟨w1.heap.size, 0, none⟩) 1 1) rfl rfl rfl HAP.out
          case ha3 => (simp only [Act.put, List.setIfInBounds_toArray, List.set_cons_zero, List.set_cons_succ]; rfl)
          refine hK _ _ ?_; clear hK K
          refine wpAnyIn_ready (rs := [5]) (by kernel_rfl) (by simp) ?_
          refine AllReadyIn.cons rfl (fun K hK => ?_) AllReadyIn.nil
          go_simp; refine hK _ _ ?_; clear hK K
          refine wpAnyIn_done (by kernel_rfl) ?_ _
          exact ⟨hk1, hk2, hk3⟩
        · go_simp; refine hK _ _ ?_; clear hK K
          refine wpAnyIn_ready (rs := [0]) (by kernel_rfl) (by simp) ?_
          refine AllReadyIn.cons rfl (fun K hK => ?_) AllReadyIn.nil
          go_simp; refine hK _ _ ?_; clear hK K
          refine wpAnyIn_ready (rs := [4]) (by kernel_rfl) (by simp) ?_
          refine AllReadyIn.cons rfl (fun K hK => ?_) AllReadyIn.nil
          refine step_run (v := .slice (some ⟨g, 0, none⟩) (pre.length + 1) c') (w1 := w2) (N := some 17) (a' := ?ap4) (by rfl) (fun _ _ => trivial) (Oper.semAt_some _ _ _ (fun c h => by cases h)) ?hr4 rfl ?ha4 ?_
          case hr4 => exact exec_append (v := v) (xv := .slice (some ⟨w1.heap.size, 0, none⟩) 1 1) rfl rfl rfl HAP.out
          case ha4 => (simp only [Act.put, List.setIfInBounds_toArray, List.set_cons_zero, List.set_cons_succ]; rfl)
          refine hK _ _ ?_; clear hK K
          refine wpAnyIn_ready (rs := [5]) (by kernel_rfl) (by simp) ?_
          refine AllReadyIn.cons rfl (fun K hK => ?_) AllReadyIn.nil
          go_simp; refine hK _ _ ?_; clear hK K
          refine wpAnyIn_done (by kernel_rfl) ?_ _
          exact ⟨hk1, hk2, hk3⟩
  case done =>
    rintro D ys W hD rfl ⟨⟨v, vs, hv, hrow, heach, hsz⟩, hB⟩ hK
    have hc := hv.cell
    gi_wp2
    refine ⟨by simp, .inl ⟨_, _, rfl, run_takeDeferred hK, ?_⟩⟩
    refine ⟨_, results_tmp rfl _ _ _, v, vs, rfl, ?_, ?_, hB.trans (belowK_b (w := w) (Nat.le_refl _) W D _ _ (by have := HSZ.out; omega) hK rfl rfl)⟩
    · rw [List.length_map]; exact ownsRow_base (ownsRow_putObj hrow _ hK rfl) (by have := HSZ.out; omega)
    · exact each_own _ heach (grownBy_putObj' W D _) (fun r e => by cases e; exact ⟨_, hK, rfl⟩)
  case stop =>
    rintro D ck pre W _ _ h _
    exact h.elim

set_option maxHeartbeats 1000000 in
theorem cut_any (A : Option Addr) (n c : Nat) (size : Int) (xs : List UInt8) (w : World) (hn : xs.length = n) (h : RdB w A xs) (hc : n ≤ c) (hb : n ≤ 1099511627776) (hs2 : size ≤ 9223372036854775807) :
    Calls Try.prog 15 #[.slice A n c, .int .i64 size] w (GivesBB (cutF xs size) w) := by
  by_cases hs : size < 1
  · have e : cutF xs size = [] := by unfold cutF; rw [if_pos hs]
    rw [e]
    have hsb : decide (size < 1) = true := by simpa using hs
    clear e hn
    go_enter Try.func15, Try.ntmps15
    go_wp2
    go_ret
    exact ⟨_, [], rfl, World.ownsRow_nil _ _ _ _, Each.nil _ _, (Below.refl _ w).alloc (Nat.le_refl _) _⟩
  · obtain ⟨s, rfl⟩ : ∃ s : Nat, size = (s : Int) := ⟨size.toNat, by omega⟩
    have := callsIn_wide.1 (cut_pos A n c s xs w hn h hc hb (by omega) (by omega))
    unfold cutF
    rw [if_neg hs, hn]
    exact this
end Go.Proofs.Ythmdnpaebdlefaa
