/- xts: run, over a unit's blocks. -/
import Derived.Test.YthamhaomfdgdjaaXtsO
import Derived.Test.YthamhaomfdgdjaaRIn
import Derived.Test.YthamhaomfdgdjaaChk
import Derived.Test.YthamhaomfdgdjaaXor
namespace Go.Proofs.Ythamhaomfdgdjaa
open Go.RowKit Go.Shelf
attribute [local go_sem] Oper.semAt_some
set_option linter.unusedVariables false
set_option linter.unusedSimpArgs false

def noObj (H : List Ent) : Prop := ∀ x ∈ H, ∀ b o, x ≠ .obj b o
theorem St.other {K : Nat → Prop} {w0 X Y : World} {H : List Ent} {row : Option Nat} (h : St K w0 X H) (hH : noObj H) (hg : X.grownBy Y row) (hr : ∀ r, row = some r → w0.heap.size ≤ r ∧ ∃ o : Obj, X.heap[r]? = some o ∧ o.isCells = false) : St K w0 Y H := by
  have hx : ∀ x ∈ H, ∀ b, x.foot = some b → b < X.heap.size ∧ row ≠ some b := fun x hm b hb => by
    refine ⟨Ent.lt (h.all x hm) hb, fun e => ?_⟩
    obtain ⟨-, o, ho, hc⟩ := hr b e
    have hh := h.all x hm
    cases x with
    | blk b' e' L => cases hb; rw [show X.heap[b]? = some (.cells L.toArray e' (0, 0)) from hh] at ho; cases ho; cases hc
    | obj b' o' => exact hH _ hm b' o' rfl
    | own e' s v n xs =>
      rcases hh.2 with ⟨rfl, _⟩ | ⟨g, cap, cur, rfl, hB, hg', _⟩
      · cases hb
      · cases hb; rw [hg'] at ho; cases ho; cases hc
  refine ⟨h.base, hg.os.trans h.os, hg.tape.trans h.tape, hg.output.trans h.output, Nat.le_trans h.size hg.size, fun k hk => ?_, fun x hm => Ent.keep (h.all x hm) fun k hk => hg.block k (hx x hm k hk).1 (fun e => (hx x hm k hk).2 e.symm), h.off, h.apart⟩
  rw [hg.block k (Nat.lt_of_lt_of_le (h.base k hk) h.size) (fun e => by have := (hr k e.symm).1; have := h.base k hk; omega)]
  exact h.keep k hk
/-- The j-th block of a text. -/
def pc (b : List UInt8) (j : Nat) : List UInt8 := (b.drop (j * 16)).take 16
theorem pc_rd {w : World} {A : Option Addr} {xs : List UInt8} (h : RdB w A xs) {b off : Nat} (hA : A = some ⟨b, off, none⟩) (j : Nat) (hl : 0 < xs.length) : RdB w (some ⟨b, off + j * 16, none⟩) (pc xs j) := by
  subst hA
  rcases h with h | ⟨b', o', hA, h⟩
  · have : xs = [] := by simpa using h
    subst this; cases hl
  · cases hA
    refine Rd.mk fun i hi => ?_
    unfold pc at hi ⊢
    simp only [List.length_map, List.length_take, List.length_drop] at hi
    rw [Nat.add_assoc, h (j * 16 + i) (by rw [List.length_map]; omega), List.getElem?_map, List.getElem?_map, List.getElem?_take, if_pos (by omega), List.getElem?_drop]
theorem nCh16 {n : Nat} (h : n % 16 = 0) : nCh n 16 = n / 16 := by unfold nCh; omega
theorem pc_len {b : List UInt8} {n : Nat} (hb : b.length = n) (hn : n % 16 = 0) {j : Nat} (hj : j < nCh n 16) : (pc b j).length = 16 := by
  rw [nCh16 hn] at hj
  unfold pc; rw [List.length_take, List.length_drop, hb]; omega
theorem St.keepsFrom {W W' : World} {H H' : List Ent} (h : St (Kr W H) W W' H') (hH : noObj H) (hall : ∀ x ∈ H, x.holds W) (B : Nat) : KeepsFrom B W W' := ⟨h.size, fun k o _ hk hc => by
  refine (h.keep k ⟨(Array.getElem?_eq_some_iff.1 hk).1, fun x hm e => ?_⟩).trans hk
  have hh := hall x hm
  cases x with
  | blk b' e' L => cases e; rw [show W.heap[k]? = some (.cells L.toArray e' (0, 0)) from hh] at hk; cases hk; cases hc
  | obj b' o' => exact hH _ hm b' o' rfl
  | own e' s v n xs =>
    rcases hh.2 with ⟨rfl, _⟩ | ⟨g, cap, cur, rfl, hB, hg', _⟩
    · cases e
    · cases e; rw [hg'] at hk; cases hk; cases hc⟩
theorem un_rd {w : World} {bu bC : Nat} {t : List UInt8} (h : Rd w (some ⟨bu, 0, none⟩) (unC bC t)) : RdB w (some ⟨bu, 1, none⟩) t := by
  have := h.drop 1
  exact this
theorem own_up {w : World} {B : Nat} {e : TypeId} {g n c : Nat} {xs : List Value} (h : w.ownsRow 0 e 1 (.slice (some ⟨g, 0, none⟩) n c) n xs) (hB : B ≤ g) : w.ownsRow B e 1 (.slice (some ⟨g, 0, none⟩) n c) n xs := by
  refine ⟨h.1, ?_⟩
  rcases h.2 with h2 | ⟨g', cap, cur, e1, _, r⟩
  · exact .inl h2
  · cases e1; exact .inr ⟨g, c, cur, rfl, hB, r⟩
def GivesX (xs : List UInt8) (bu : Nat) (w : World) (e : Ending) (w' : World) : Prop :=
  ∃ g c, e = .returned (.slice (some ⟨g, 0, none⟩) xs.length c) ∧ w'.ownsRow w.heap.size 5 1 (.slice (some ⟨g, 0, none⟩) xs.length c) xs.length (xs.map bV) ∧ w.grownBy w' (some bu)
/-- What is known at the loop: out, the boxes of the loop over the pieces, of turn and u, and the unit. -/
def HX (b7 bZ bS b5 b3 bu bC n d fi : Nat) (B : Option Addr) (v : Value) (m : Nat) (xs t : List UInt8) : List Ent :=
  [.own 5 1 v m (xs.map bV), .blk bZ 3 [.int .i64 16], .blk bS 26 [.slice B n d], .blk b7 26 [v], .blk b5 40 [.func (.func fi) #[.pointer (some ⟨bC, 0, none⟩)] #[]], .blk b3 36 [.pointer (some ⟨bu, 0, none⟩)], .blk bu 44 (unC bC t)]
theorem HX_noObj {b7 bZ bS b5 b3 bu bC n d fi : Nat} {B : Option Addr} {v : Value} {m : Nat} {xs t : List UInt8} : noObj (HX b7 bZ bS b5 b3 bu bC n d fi B v m xs t) := fun x hx b o e => by
  subst e
  simp [HX] at hx

set_option maxRecDepth 100000 in
set_option maxHeartbeats 4000000 in
theorem run_pos (bu bC : Nat) (B : Option Addr) (n d fi : Nat) (fn : Func) (cd : Code) (hf : Try.prog.funcs[fi]? = some fn) (hname : (fn.name == "runtime.NumGoroutine") = false) (hbd : fn.body = some cd) (F : List UInt8 → List UInt8) (hF : ∀ b, b.length = 16 → (F b).length = 16) (K t b : List UInt8)
    (hcall : ∀ (x : List UInt8) (w' : World), x.length = 16 → Rd w' (some ⟨bC, 0, none⟩) (ciC K) → bC < w'.heap.size → Calls Try.prog fi #[.pointer (some ⟨bC, 0, none⟩), .agg (x.map bV).toArray] w' fun e w'' => e = .returned (.agg ((F x).map bV).toArray) ∧ Below w'.heap.size w' w'')
    (w : World) (hB : Blk w bu 44 (unC bC t)) (ht : t.length = 16) (hb : b.length = n) (hrb : RdB w B b) (hne : ∀ ad, B = some ad → ad.block ≠ bu) (hC : Rd w (some ⟨bC, 0, none⟩) (ciC K)) (hneC : bC ≠ bu) (hCl : bC < w.heap.size) (h1 : 16 ≤ n) (h2 : n ≤ 1024) (h3 : n % 16 = 0) (hd : n ≤ d) :
    CallsIn Fence.wide 4 Try.prog 13 #[.pointer (some ⟨bu, 0, none⟩), .slice B n d, .func (.func fi) #[.pointer (some ⟨bC, 0, none⟩)] #[]] w (GivesX (xtsT F t b) bu w) := by
  have hS0 := St.start1 (x := .blk bu 44 (unC bC t)) (w := w) hB (b := bu) rfl
  have hS1 := hS0.alloc [.pointer (some ⟨bu, 0, none⟩)] 36
  have hS2 := hS1.alloc [.func (.func fi) #[.pointer (some ⟨bC, 0, none⟩)] #[]] 40
  have hS3 := hS2.alloc [.slice none 0 0] 26
  have hS4 := hS3.alloc [.slice B n d] 26
  have hS5 := hS4.alloc [.int .i64 16] 3
  clear hS0 hS1 hS2 hS3 hS4
  obtain ⟨bo, off, hAA⟩ : ∃ bo off, B = some ⟨bo, off, none⟩ := by
    obtain ⟨b', o', e, -⟩ := Rd.lt hrb (by intro h; have := congrArg List.length h; rw [List.length_map, hb] at this; simp at this; omega)
    exact ⟨b', o', e⟩
  have HAA := Lib.hid hAA
  have HBL := Lib.hid hb
  have HRB := Lib.hid hrb
  have HNE := Lib.hid hne
  have HC := Lib.hid hC
  have HNC := Lib.hid (show bC < w.heap.size ∧ bC ≠ bu from ⟨hCl, hneC⟩)
  have HT := Lib.hid ht
  have H3 := Lib.hid h3
  clear hAA hb hrb hne hC hneC hCl ht h3 hB
  refine callsIn_of_wp_marks Try.func13 rfl trivial ?_ rfl
  simp only [Try.ntmps13, List.size_toArray, List.length_cons, List.length_nil, Nat.reduceAdd, Nat.reduceSub, Array.replicate_succ, Array.replicate_zero, List.push_toArray, List.append_toArray, List.nil_append, List.cons_append]
  gi_wp2_with (refine ⟨trivial, ?_⟩; gi_at_call 22; refine (chunk_in 3 B n d 16 (by decide) _).mono ?_; rintro e w' ⟨rfl, rfl⟩)
  obtain ⟨W0, hW0⟩ : ∃ W0, (((((w.alloc (.cells #[.pointer (some ⟨bu, 0, none⟩)] 36)).alloc (.cells #[.func (.func fi) #[.pointer (some ⟨bC, 0, none⟩)] #[]] 40)).alloc (.cells #[.slice none 0 0] 26)).alloc (.cells #[.slice B n d] 26)).alloc (.cells #[.int .i64 16] 3)) = W0 := ⟨_, rfl⟩
  simp only [World.size_alloc, Nat.add_assoc, Nat.reduceAdd] at hS5
  have hS := hS5.nil 5 1
  clear hS5
  rw [hW0] at hS ⊢
  clear hW0
  generalize w.heap.size + 4 = bZ at hS ⊢
  generalize w.heap.size + 3 = bS at hS ⊢
  generalize w.heap.size + 2 = b7 at hS ⊢
  generalize w.heap.size + 1 = b5 at hS ⊢
  generalize w.heap.size = b3 at hS ⊢
  have hcS : W0.cell? ⟨bS, 0, none⟩ = some (.slice B n d) := (hS.blkRd (b := bS) (L := [.slice B n d]) (by focus ((repeat (first | exact .here | apply At.there)); done))).cell (i := 0) Nat.one_pos
  have hcZ : W0.cell? ⟨bZ, 0, none⟩ = some (.int .i64 ((16 : Nat) : Int)) := (hS.blkRd (b := bZ) (L := [.int .i64 16]) (by focus ((repeat (first | exact .here | apply At.there)); done))).cell (i := 0) Nat.one_pos
  have hlS := hS.blkLt (b := bS) (by focus ((repeat (first | exact .here | apply At.there)); done))
  have hlZ := hS.blkLt (b := bZ) (by focus ((repeat (first | exact .here | apply At.there)); done))
  refine wpIn_rangeFunc_ownG rfl (by omega) (gf := 32) (lb := #[.pointer (some ⟨bS, 0, none⟩), .pointer (some ⟨bZ, 0, none⟩)]) rfl trivial (enters_of Try.func32 (by kernel_rfl) rfl)
    (chunk_stopsF 3 (by omega) bS bZ B n d 16 (by decide) (by decide) (by omega) hd bo off (.inl HAA.out) W0 hcS hcZ hlS hlZ) KB.trans (KB.put hlS hlZ) (Below.refl _ _) (fun _ => rfl)
    (fun pre W => ∃ v, St (Km w bu) w W (HX b7 bZ bS b5 b3 bu bC n d fi B v (16 * pre.length) (xtsF F t (pre.map fun x => pc b x.1)).flatten (twk t pre.length)))
    (fun _ _ _ => False)
    ?own
    (fun _ _ _ _ _ hs _ _ => hs)
    ⟨.slice none 0 0, hS⟩
    (fun x => { tmps := #[.pointer (some ⟨bu, 0, none⟩), .slice B n d, .func (.func fi) #[.pointer (some ⟨bC, 0, none⟩)] #[], .pointer (some ⟨b3, 0, none⟩), undef, .pointer (some ⟨b5, 0, none⟩), .slice none 0 0, .pointer (some ⟨b7, 0, none⟩), chV bo off n 16 x.1, undef, .slice B n d, .func (.func 32) #[] #[.pointer (some ⟨bS, 0, none⟩), .pointer (some ⟨bZ, 0, none⟩)], chV bo off n 16 x.1, undef, undef, undef, undef, undef, undef, undef, undef, undef, undef, undef, undef, undef, undef, undef, undef, undef, undef, undef, undef, undef], defers := [] }) ?assign ?body ?done ?stop
  case own =>
    rintro pre X Y row ⟨v, hs⟩ hg hrow
    exact ⟨v, hs.other HX_noObj hg fun r e => ⟨Nat.le_trans hS.size (hrow r e).1, (hrow r e).2⟩⟩
  case assign =>
    intro l x W K hK
    gi_wp2
    exact hK
  case stop =>
    rintro D ck pre W _ _ h _
    exact h.elim
  case done =>
    rintro D ys W hD hys ⟨v, hI⟩ hK
    have hc : W.cell? ⟨b7, 0, none⟩ = some v := (hI.blkRd (b := b7) (L := [v]) (by focus ((repeat (first | exact .here | apply At.there)); done))).cell (i := 0) Nat.one_pos
    have hyl : ys.length = n / 16 := by
      have := congrArg List.length hys
      rw [List.length_map, List.length_range] at this
      exact this.trans (nCh16 H3.out)
    have hx : (xtsF F t (ys.map fun x => pc b x.1)).flatten = xtsT F t b := by
      have e : ys.map (fun x => pc b x.1) = cut16 (n / 16) b := by
        have : ys.map (fun x => pc b x.1) = (ys.map (·.1)).map (pc b) := by rw [List.map_map]; rfl
        rw [this, hys, nCh16 H3.out]
        exact cut16_range _ b
      unfold xtsT
      rw [e, HBL.out]
    have hxl : (xtsT F t b).length = n := by rw [xtsT_len hF HT.out (by rw [HBL.out]; exact H3.out), HBL.out]
    have hn16 : 16 * (n / 16) = n := by have := H3.out; omega
    rw [hx, hyl, hn16] at hI
    have hI2 := hI.other HX_noObj (grownBy_putObj' W D (.deferred none)) (fun r e => by cases e; exact ⟨Nat.le_trans hS.size hD, _, hK, rfl⟩)
    have ho := hI2.get (x := .own 5 1 v n ((xtsT F t b).map bV)) (by focus ((repeat (first | exact .here | apply At.there)); done))
    obtain ⟨g, cg, hgv⟩ := Joins.ownsRow_form ho (by omega)
    rw [hgv] at hc
    gi_wp2
    refine ⟨by simp, .inl ⟨_, _, rfl, run_takeDeferred hK, ?_⟩⟩
    refine ⟨_, results_tmp rfl _ _ _, g, cg, by rw [hxl]; rfl, ?_, ?_⟩
    · have hgb : g ≠ bu := hI2.dist 0 6 (by omega) rfl rfl (by rw [hgv]; rfl) rfl
      have hge : w.heap.size ≤ g := Nat.le_of_not_lt fun hlt => hI2.off _ (List.mem_cons_self ..) g (by rw [hgv]; rfl) ⟨hlt, hgb⟩
      rw [hxl]
      rw [hgv] at ho
      exact own_up ho hge
    · exact hI2.grownBy
  case body =>
    rintro l pre x W ⟨v, hI⟩ hlt
    have HI := Lib.hid hI
    have hpl := pc_len HBL.out H3.out x.2
    have htl : (twk t pre.length).length = 16 := by rw [twk_len, HT.out]
    have hsn := xtsF_snoc F t (pre.map fun x => pc b x.1) (pc b x.1)
    rw [List.length_map] at hsn
    have hx16 : x.1 * 16 + 16 ≤ n := by have h : x.1 < n / 16 := Nat.lt_of_lt_of_eq x.2 (nCh16 H3.out); have := H3.out; omega
    have hch : chV bo off n 16 x.1 = .slice (some ⟨bo, off + x.1 * 16, none⟩) 16 16 := by unfold chV; rw [Nat.min_eq_left (by omega)]
    have hlen16 : 16 * (pre ++ [x]).length = 16 * pre.length + 16 := by rw [List.length_append]; rfl
    have hdbl : twk t (pre ++ [x]).length = dbl (twk t pre.length) := by rw [List.length_append]; rfl
    have hflat : (xtsF F t ((pre ++ [x]).map fun x => pc b x.1)).flatten = (xtsF F t (pre.map fun x => pc b x.1)).flatten ++ one F (twk t pre.length) (pc b x.1) := by rw [List.map_append, List.map_cons, List.map_nil, hsn, List.flatten_append]; simp
    have HRD := Lib.hid (show ∀ (w' : World) (H' : List Ent), St (Kr W (HX b7 bZ bS b5 b3 bu bC n d fi B v (16 * pre.length) (xtsF F t (pre.map fun x => pc b x.1)).flatten (twk t pre.length))) W w' H' → RdB w' (some ⟨bo, off + x.1 * 16, none⟩) (pc b x.1) from fun w' H' h => hI.rdr h (pc_rd HRB.out HAA.out x.1 (by rw [HBL.out]; omega)) (fun a e hlt => by cases e; exact ⟨hlt, HNE.out ⟨bo, off, none⟩ HAA.out⟩))
    have HCD := Lib.hid (show ∀ (w' : World) (H' : List Ent), St (Kr W (HX b7 bZ bS b5 b3 bu bC n d fi B v (16 * pre.length) (xtsF F t (pre.map fun x => pc b x.1)).flatten (twk t pre.length))) W w' H' → Rd w' (some ⟨bC, 0, none⟩) (ciC K) ∧ bC < w'.heap.size from fun w' H' h => ⟨hI.rdr h HC.out (fun a e hlt => by cases e; exact ⟨hlt, HNC.out.2⟩), Nat.lt_of_lt_of_le HNC.out.1 (Nat.le_trans hI.size h.size)⟩)
    have hS := hI.restart
    obtain ⟨go, hgo, hg7, hg3⟩ : ∃ go, (∀ g, v.ownBlock = some g → g = go) ∧ True ∧ ¬ b3 = go := by
      cases hv : v.ownBlock with
      | none => exact ⟨b7, (fun g e => by cases e), trivial, (hS.dist 3 5 (by omega) rfl rfl rfl rfl).symm⟩
      | some g => exact ⟨g, (fun g' e => by cases e; rfl), trivial, (hS.dist 0 5 (by omega) rfl rfl hv rfl).symm⟩
    have h37 : ¬ b3 = b7 := (hS.dist 3 5 (by omega) rfl rfl rfl rfl).symm
    clear hsn hx16 hI
    generalize hKK : Kr W (HX b7 bZ bS b5 b3 bu bC n d fi B v (16 * pre.length) (xtsF F t (pre.map fun x => pc b x.1)).flatten (twk t pre.length)) = KK at *
    generalize htk : twk t pre.length = tk at *
    generalize hxs : (xtsF F t (pre.map fun x => pc b x.1)).flatten = xs at *
    generalize hm : 16 * pre.length = m at *
    generalize hp : pc b x.1 = p at *
    generalize off + x.1 * 16 = q at *
    have hy := xorF_l16 hpl htl
    generalize hyy : xorF p tk = y at *
    have hz := hF y hy
    generalize hzz : F y = z at *
    have ho := xorF_l16 hz htl
    generalize hoo : xorF z tk = o at *
    have hone : one F tk p = o := by unfold one; rw [hyy, hzz, hoo]
    rw [hone] at hflat
    have hm16 : m ≤ 1024 := by rw [← hm]; have h : pre.length < n / 16 := Nat.lt_of_lt_of_eq hlt (nCh16 H3.out); omega
    have HPL := Lib.hid hpl
    have HTL := Lib.hid htl
    have HYL := Lib.hid hy
    have HZL := Lib.hid hz
    have HOL := Lib.hid ho
    have HYY := Lib.hid hyy
    have HZZ := Lib.hid hzz
    have HOO := Lib.hid hoo
    have HFL := Lib.hid hflat
    have HL16 := Lib.hid hlen16
    have HDB := Lib.hid hdbl
    have HKK := Lib.hid hKK
    have hyl := Lib.hid (show (y.map bV).length = 16 by rw [List.length_map]; exact hy)
    have hzl := Lib.hid (show (z.map bV).length = 16 by rw [List.length_map]; exact hz)
    have HGO := Lib.hid hgo
    dsimp only
    rw [hch]
    clear hpl htl hy hz ho hyy hzz hoo hflat hlen16 hdbl hch hone hKK htk hxs hm hp hgo hg7 hcS hcZ
    change St KK W W [.own 5 1 v m (xs.map bV), .blk bZ 3 [.int .i64 16], .blk bS 26 [.slice B n d], .blk b7 26 [v], .blk b5 40 [.func (.func fi) #[.pointer (some ⟨bC, 0, none⟩)] #[]], .blk b3 36 [.pointer (some ⟨bu, 0, none⟩)], .blk bu 44 (unC bC tk)] at hS
    have hQ : ¬ LetsOut (ownPostG (α := {j : Nat // j < nCh n 16}) W0.heap.size (KB bS bZ) (fun pre W => ∃ v, St (Km w bu) w W (HX b7 bZ bS b5 b3 bu bC n d fi B v (16 * pre.length) (xtsF F t (pre.map fun x => pc b x.1)).flatten (twk t pre.length))) (fun _ _ _ => False) (pre ++ [x]) W) := fun ⟨_, _, h⟩ => h
    gi_wp2
    rename_i K0 hK0
    have hrest : ∀ (bx : Nat) (u13 u14 u15 u16 u17 u18 u19 u20 u21 u22 : Value) (w_ : World), St KK W w_ (.blk bx 42 (z.map bV) :: [.own 5 1 v m (xs.map bV), .blk bZ 3 [.int .i64 16], .blk bS 26 [.slice B n d], .blk b7 26 [v], .blk b5 40 [.func (.func fi) #[.pointer (some ⟨bC, 0, none⟩)] #[]], .blk b3 36 [.pointer (some ⟨bu, 0, none⟩)], .blk bu 44 (unC bC tk)]) →
        K0 { tmps := #[.pointer (some ⟨bu, 0, none⟩), .slice B n d, .func (.func fi) #[.pointer (some ⟨bC, 0, none⟩)] #[], .pointer (some ⟨b3, 0, none⟩), undef, .pointer (some ⟨b5, 0, none⟩), .slice none 0 0, .pointer (some ⟨b7, 0, none⟩), .slice (some ⟨bo, q, none⟩) 16 16, .pointer (some ⟨bx, 0, none⟩), .slice B n d, .func (.func 32) #[] #[.pointer (some ⟨bS, 0, none⟩), .pointer (some ⟨bZ, 0, none⟩)], .slice (some ⟨bo, q, none⟩) 16 16, u13, u14, u15, u16, u17, u18, u19, u20, u21, u22, undef, undef, undef, undef, undef, undef, undef, undef, undef, undef, undef], defers := [] } w_ := by
      clear hS
      intro bx u13 u14 u15 u16 u17 u18 u19 u20 u21 u22 w_ hS
      refine hK0 _ _ ?_
      gi_wp2
      rename_i K1 hK1
      obtain ⟨N_, hN_⟩ := hS.sz
      have h0N_ := hS.size
      rw [hN_] at h0N_
      refine E_startR (hR := KeepS.pre (SN N_ [b7, go])) (fun ⟨_, _, h⟩ => h) (by kernel_rfl) #[false, false, false, false, false, false, false, false, false] (by kernel_rfl) rfl rfl (fun w_s1 hx_s1 he_s1 => ?_)
      have hzE_ : w_s1.heap.size = N_ := by rw [he_s1]; exact hN_
      have hz : N_ ≤ w_s1.heap.size := Nat.le_of_eq hzE_.symm
      replace hS := hS.drew; rw [← he_s1] at hS
      clear hx_s1 he_s1
      have hsn_b3 : SN N_ [b7, go] b3 := ⟨by rw [← hzE_]; first | exact Ent.lt (hS.get (x := Ent.blk b3 _ _) (by focus ((repeat (first | exact .here | apply At.there)); done))) rfl | exact Ent.lt (hS.get (x := Ent.own _ _ (.slice (some ⟨b3, 0, none⟩) _ _) _ _) (by focus ((repeat (first | exact .here | apply At.there)); done))) rfl, by first | (focus (simp; done)) | (focus (simp; omega)) | (focus (simp; assumption))⟩
      clear hzE_ hN_
      have h01 : 0 < ([v] : List Value).length := Nat.one_pos
      have hAP : ∀ g, Value.ownBlock v = some g → N_ ≤ g ∨ g ∈ [b7, go] := fun g hg => .inr (by rw [HGO.out g hg]; simp)
      refine E_take (hR := KeepS.pre (SN N_ [b7, go])) (i := 1) (N := (some 24)) (v := ?vs1_1) (a' := ?as1_1) #[false, true, false, false, false, false, false, false, false] rfl rfl (by kernel_rfl) (fun _ _ _ h => h) (by rfl) ?hys1_1 ?has1_1 ?_
      case hys1_1 =>
        intro w' hx
        (first | (apply Eq.trans; (apply R_slice; rfl; rfl; (first | exact SB.no | exact SB.so | exact SB.lit (by decide)); (first | exact SB.no | exact SB.so | exact SB.lit (by decide)); rfl; rfl; (first | assumption | (focus (simp; done)) | (focus (simp; omega)) | omega); (first | assumption | (focus (simp; done)) | (focus (simp; omega)) | omega)); with_reducible rfl) | (go_simp; with_reducible rfl))
      case has1_1 => (simp only [Act.put, List.setIfInBounds_toArray, List.set_cons_zero, List.set_cons_succ]; rfl)
      refine E_take (hR := KeepS.pre (SN N_ [b7, go])) (i := 2) (N := (some 25)) (v := ?vs1_2) (a' := ?as1_2) #[false, true, true, false, false, false, false, false, false] rfl rfl (by kernel_rfl) (fun _ _ _ h => h) (by rfl) ?hys1_2 ?has1_2 ?_
      case hys1_2 =>
        intro w' hx
        (first | (apply Eq.trans; (first | (apply R_ldK hS hx; rfl; rfl; (focus ((repeat (first | exact .here | apply At.there)); done)); assumption; rfl; (first | assumption | rfl | exact mapGetB (by first | assumption | omega) | exact mapGet _ (by first | assumption | omega))) | (apply R_ldOwnK hS hx; rfl; rfl; (focus ((repeat (first | exact .here | apply At.there)); done)); assumption; rfl; (first | rfl | exact mapGetB (by first | assumption | omega) | exact mapGet _ (by first | assumption | omega)))); with_reducible rfl) | (go_simp; with_reducible rfl))
      case has1_2 => (simp only [Act.put, List.setIfInBounds_toArray, List.set_cons_zero, List.set_cons_succ]; rfl)
      refine E_take (hR := KeepS.pre (SN N_ [b7, go])) (i := 3) (N := (some 26)) (v := ?vs1_3) (a' := ?as1_3) #[false, true, true, true, false, false, false, false, false] rfl rfl (by kernel_rfl) (fun _ _ _ h => h) (by rfl) ?hys1_3 ?has1_3 ?_
      case hys1_3 =>
        intro w' hx
        go_simp
        with_reducible rfl
      case has1_3 => (simp only [Act.put, List.setIfInBounds_toArray, List.set_cons_zero, List.set_cons_succ]; rfl)
      refine E_take (hR := KeepS.pre (SN N_ [b7, go])) (i := 4) (N := (some 27)) (v := ?vs1_4) (a' := ?as1_4) #[false, true, true, true, true, false, false, false, false] rfl rfl (by kernel_rfl) (fun _ _ _ h => h) (by rfl) ?hys1_4 ?has1_4 ?_
      case hys1_4 =>
        intro w' hx
        go_simp
        with_reducible rfl
      case has1_4 => (simp only [Act.put, List.setIfInBounds_toArray, List.set_cons_zero, List.set_cons_succ]; rfl)
      refine E_take (hR := KeepS.pre (SN N_ [b7, go])) (i := 5) (N := (some 28)) (v := ?vs1_5) (a' := ?as1_5) #[false, true, true, true, true, true, false, false, false] rfl rfl (by kernel_rfl) (fun _ _ _ h => h) (by rfl) ?hys1_5 ?has1_5 ?_
      case hys1_5 =>
        intro w' hx
        (first | (apply Eq.trans; (apply R_slice; rfl; rfl; (first | exact SB.no | exact SB.so | exact SB.lit (by decide)); (first | exact SB.no | exact SB.so | exact SB.lit (by decide)); rfl; rfl; (first | assumption | (focus (simp; done)) | (focus (simp; omega)) | omega); (first | assumption | (focus (simp; done)) | (focus (simp; omega)) | omega)); with_reducible rfl) | (go_simp; with_reducible rfl))
      case has1_5 => (simp only [Act.put, List.setIfInBounds_toArray, List.set_cons_zero, List.set_cons_succ]; rfl)
      refine E_split [0, 6] (by kernel_rfl) (by simp) (fun i_ hi_ => ?_)
      simp only [List.mem_cons, List.not_mem_nil, or_false] at hi_
      rcases hi_ with rfl | rfl
      · (apply K_val (i := 0) (T := (some 23)) #[true, true, true, true, true, true, false, false, false]; rfl; rfl; (show _ = _; kernel_rfl); rfl; (apply R_ld hS; rfl; rfl; (focus ((repeat (first | exact .here | apply At.there)); done)); rfl; (first | assumption | rfl | exact mapGetB (by first | assumption | omega))); exact KeepS.refl _ _)
        rintro _ rfl
        simp only [Act.put, List.setIfInBounds_toArray, List.set_cons_zero, List.set_cons_succ]
        refine E_split [6] (by kernel_rfl) (by simp) (fun i_ hi_ => ?_)
        simp only [List.mem_cons, List.not_mem_nil, or_false] at hi_
        rcases hi_ with rfl
        refine E_call1 (i := 6) (N := (some 29)) (args := ?gs1a_6) #[true, true, true, true, true, true, true, false, false] rfl rfl (by kernel_rfl) (by rfl) Try.func23 (by kernel_rfl) rfl rfl ?hgs1a_6 ?_
        case hgs1a_6 => (simp only [List.map_toArray, List.map_cons, List.map_nil]; go_simp; with_reducible rfl)
        refine (xor_any (some ⟨bx, 0, none⟩) (some ⟨bu, 1, none⟩) 16 16 16 16 z tk _ HZL.out HTL.out (hS.blkRd (b := bx) (by focus ((repeat (first | exact .here | apply At.there)); done))) (un_rd (hS.blkRd (b := bu) (by focus ((repeat (first | exact .here | apply At.there)); done)))) (by decide) (by decide)).mono ?_
        rintro e w_ ⟨v2, rfl, hown_, hb_⟩
        rw [HOO.out, HOL.out] at hown_
        (obtain ⟨A2, c2, rfl, hc_A2, -⟩ := own_rd hown_; refine ⟨_, rfl, KeepS.below hb_ hz, ?_⟩; have hn_A2 : ∀ g, Value.ownBlock (.slice A2 _ c2) = some g → N_ ≤ g := (fun g hg => Nat.le_trans hz (hown_.lt g hg).1); replace hS := hS.got hb_ hown_; replace hz := Nat.le_trans hz hb_.size; clear hb_ hown_)
        rintro _ rfl
        simp only [Act.put, List.setIfInBounds_toArray, List.set_cons_zero, List.set_cons_succ]
        refine E_split [7] (by kernel_rfl) (by simp) (fun i_ hi_ => ?_)
        simp only [List.mem_cons, List.not_mem_nil, or_false] at hi_
        rcases hi_ with rfl
        (apply K_app (i := 7) (T := (some 30)) TB hS hz #[true, true, true, true, true, true, true, true, false]; rfl; rfl; kernel_rfl; rfl; rfl; rfl; (focus ((repeat (first | exact .here | apply At.there)); done)); (first | assumption | exact fun g hg => .inl (by first | assumption | (apply_assumption; exact hg) | exact (by assumption) g hg)); rfl; exact (RdB.src (c := c2) Try.underlying26 (hS.ownRd (A := A2) (by focus ((repeat (first | exact .here | apply At.there)); done))) HOL.out); (unfold maxLen; omega); omega)
        clear hS hz
        intro Ao co w_ hS hz
        rintro _ rfl
        simp only [Act.put, List.setIfInBounds_toArray, List.set_cons_zero, List.set_cons_succ]
        refine E_split [8] (by kernel_rfl) (by simp) (fun i_ hi_ => ?_)
        simp only [List.mem_cons, List.not_mem_nil, or_false] at hi_
        rcases hi_ with rfl
        (apply K_st (i := 8) hS hz #[true, true, true, true, true, true, true, true, true]; rfl; rfl; (show _ = _; kernel_rfl); rfl; rfl; rfl; (focus ((conv => lhs; whnf) <;> rfl)); (focus ((repeat (first | exact .here | apply At.there)); done)); (first | assumption | (refine Or.inl ?_; assumption) | (refine Or.inr ?_; focus (simp; done))); rfl; rfl; (first | decide | assumption | (simp only [List.length_map, List.length_set]; omega)))
        clear hS hz
        intro w_ hS hz
        try simp only [List.set_cons_zero, List.set_cons_succ] at hS
        refine E_done (by kernel_rfl) ?_
        refine hK1 _ _ ?_
        refine R_lit (fun ⟨_, _, h⟩ => h) (by kernel_rfl) ?_
        go_wp2_with (first | ((with_reducible show wpList _ _ _ (⟨some 31, Op.load _ _, _, _, _, _⟩ :: _) _ _); go_loud (first | (apply S_ld hS; rfl; rfl; rfl; (focus ((repeat (first | exact .here | apply At.there)); done)); rfl; (first | fail | assumption | rfl | exact mapGetB (by first | assumption | (simp only [List.length_map, List.length_set, List.length_replicate, List.length_append, List.length_cons, List.length_nil]; omega)) | exact mapGet _ (by first | assumption | (simp only [List.length_map, List.length_set, List.length_replicate, List.length_append, List.length_cons, List.length_nil]; omega)))) | (apply S_ldOwn hS; rfl; rfl; rfl; (focus ((repeat (first | exact .here | apply At.there)); done)); rfl; (first | rfl | exact mapGetB (by first | assumption | (simp only [List.length_map, List.length_set, List.length_replicate, List.length_append, List.length_cons, List.length_nil]; omega)) | exact mapGet _ (by first | assumption | (simp only [List.length_map, List.length_set, List.length_replicate, List.length_append, List.length_cons, List.length_nil]; omega)))))) | (go_at_call 24; refine (step_any bu bC tk _ (hS.blk (b := bu) (by focus ((repeat (first | exact .here | apply At.there)); done))) HTL.out).mono ?_; rintro e w_ ⟨⟨zz, rfl⟩, hg_, hB_⟩; replace hS := hS.updB (b := bu) (by focus ((repeat (first | exact .here | apply At.there)); done)) hg_ hB_; clear hg_ hB_))
        have hS2 := hS.sub (H' := HX b7 bZ bS b5 b3 bu bC n d fi B (.slice Ao (m + 16) co) (m + 16) (xs ++ o) (dbl tk)) (by unfold HX; rw [List.map_append]; repeat (first | exact List.Sublist.refl _ | apply List.Sublist.cons_cons | apply List.Sublist.cons))
        rw [← HKK.out] at hS2
        have hJ := HI.out.join hS2
        refine ⟨hS2.keepsFrom HX_noObj HI.out.all _, ⟨?_, ?_⟩, .slice Ao (m + 16) co, ?_⟩
        · exact Eq.trans (hS2.blk (b := bS) (L := [.slice B n d]) (by focus ((repeat (first | exact .here | apply At.there)); done))) (Eq.symm (HI.out.blk (b := bS) (L := [.slice B n d]) (by focus ((repeat (first | exact .here | apply At.there)); done))))
        · exact Eq.trans (hS2.blk (b := bZ) (L := [.int .i64 16]) (by focus ((repeat (first | exact .here | apply At.there)); done))) (Eq.symm (HI.out.blk (b := bZ) (L := [.int .i64 16]) (by focus ((repeat (first | exact .here | apply At.there)); done))))
        · show St _ _ _ (HX b7 bZ bS b5 b3 bu bC n d fi B (.slice Ao (m + 16) co) (16 * (pre ++ [x]).length) (xtsF F t ((pre ++ [x]).map fun x => pc b x.1)).flatten (twk t (pre ++ [x]).length))
          rw [HL16.out, HFL.out, HDB.out]
          exact hJ
      · refine E_call1 (i := 6) (N := (some 29)) (args := ?gs1b_6) #[false, true, true, true, true, true, true, false, false] rfl rfl (by kernel_rfl) (by rfl) Try.func23 (by kernel_rfl) rfl rfl ?hgs1b_6 ?_
        case hgs1b_6 => (simp only [List.map_toArray, List.map_cons, List.map_nil]; go_simp; with_reducible rfl)
        refine (xor_any (some ⟨bx, 0, none⟩) (some ⟨bu, 1, none⟩) 16 16 16 16 z tk _ HZL.out HTL.out (hS.blkRd (b := bx) (by focus ((repeat (first | exact .here | apply At.there)); done))) (un_rd (hS.blkRd (b := bu) (by focus ((repeat (first | exact .here | apply At.there)); done)))) (by decide) (by decide)).mono ?_
        rintro e w_ ⟨v2, rfl, hown_, hb_⟩
        rw [HOO.out, HOL.out] at hown_
        (obtain ⟨A2, c2, rfl, hc_A2, -⟩ := own_rd hown_; refine ⟨_, rfl, KeepS.below hb_ hz, ?_⟩; have hn_A2 : ∀ g, Value.ownBlock (.slice A2 _ c2) = some g → N_ ≤ g := (fun g hg => Nat.le_trans hz (hown_.lt g hg).1); replace hS := hS.got hb_ hown_; replace hz := Nat.le_trans hz hb_.size; clear hb_ hown_)
        rintro _ rfl
        simp only [Act.put, List.setIfInBounds_toArray, List.set_cons_zero, List.set_cons_succ]
        refine E_split [0] (by kernel_rfl) (by simp) (fun i_ hi_ => ?_)
        simp only [List.mem_cons, List.not_mem_nil, or_false] at hi_
        rcases hi_ with rfl
        (apply K_val (i := 0) (T := (some 23)) #[true, true, true, true, true, true, true, false, false]; rfl; rfl; (show _ = _; kernel_rfl); rfl; (apply R_ld hS; rfl; rfl; (focus ((repeat (first | exact .here | apply At.there)); done)); rfl; (first | assumption | rfl | exact mapGetB (by first | assumption | omega))); exact KeepS.refl _ _)
        rintro _ rfl
        simp only [Act.put, List.setIfInBounds_toArray, List.set_cons_zero, List.set_cons_succ]
        refine E_split [7] (by kernel_rfl) (by simp) (fun i_ hi_ => ?_)
        simp only [List.mem_cons, List.not_mem_nil, or_false] at hi_
        rcases hi_ with rfl
        (apply K_app (i := 7) (T := (some 30)) TB hS hz #[true, true, true, true, true, true, true, true, false]; rfl; rfl; kernel_rfl; rfl; rfl; rfl; (focus ((repeat (first | exact .here | apply At.there)); done)); (first | assumption | exact fun g hg => .inl (by first | assumption | (apply_assumption; exact hg) | exact (by assumption) g hg)); rfl; exact (RdB.src (c := c2) Try.underlying26 (hS.ownRd (A := A2) (by focus ((repeat (first | exact .here | apply At.there)); done))) HOL.out); (unfold maxLen; omega); omega)
        clear hS hz
        intro Ao co w_ hS hz
        rintro _ rfl
        simp only [Act.put, List.setIfInBounds_toArray, List.set_cons_zero, List.set_cons_succ]
        refine E_split [8] (by kernel_rfl) (by simp) (fun i_ hi_ => ?_)
        simp only [List.mem_cons, List.not_mem_nil, or_false] at hi_
        rcases hi_ with rfl
        (apply K_st (i := 8) hS hz #[true, true, true, true, true, true, true, true, true]; rfl; rfl; (show _ = _; kernel_rfl); rfl; rfl; rfl; (focus ((conv => lhs; whnf) <;> rfl)); (focus ((repeat (first | exact .here | apply At.there)); done)); (first | assumption | (refine Or.inl ?_; assumption) | (refine Or.inr ?_; focus (simp; done))); rfl; rfl; (first | decide | assumption | (simp only [List.length_map, List.length_set]; omega)))
        clear hS hz
        intro w_ hS hz
        try simp only [List.set_cons_zero, List.set_cons_succ] at hS
        refine E_done (by kernel_rfl) ?_
        refine hK1 _ _ ?_
        refine R_lit (fun ⟨_, _, h⟩ => h) (by kernel_rfl) ?_
        go_wp2_with (first | ((with_reducible show wpList _ _ _ (⟨some 31, Op.load _ _, _, _, _, _⟩ :: _) _ _); go_loud (first | (apply S_ld hS; rfl; rfl; rfl; (focus ((repeat (first | exact .here | apply At.there)); done)); rfl; (first | fail | assumption | rfl | exact mapGetB (by first | assumption | (simp only [List.length_map, List.length_set, List.length_replicate, List.length_append, List.length_cons, List.length_nil]; omega)) | exact mapGet _ (by first | assumption | (simp only [List.length_map, List.length_set, List.length_replicate, List.length_append, List.length_cons, List.length_nil]; omega)))) | (apply S_ldOwn hS; rfl; rfl; rfl; (focus ((repeat (first | exact .here | apply At.there)); done)); rfl; (first | rfl | exact mapGetB (by first | assumption | (simp only [List.length_map, List.length_set, List.length_replicate, List.length_append, List.length_cons, List.length_nil]; omega)) | exact mapGet _ (by first | assumption | (simp only [List.length_map, List.length_set, List.length_replicate, List.length_append, List.length_cons, List.length_nil]; omega)))))) | (go_at_call 24; refine (step_any bu bC tk _ (hS.blk (b := bu) (by focus ((repeat (first | exact .here | apply At.there)); done))) HTL.out).mono ?_; rintro e w_ ⟨⟨zz, rfl⟩, hg_, hB_⟩; replace hS := hS.updB (b := bu) (by focus ((repeat (first | exact .here | apply At.there)); done)) hg_ hB_; clear hg_ hB_))
        have hS2 := hS.sub (H' := HX b7 bZ bS b5 b3 bu bC n d fi B (.slice Ao (m + 16) co) (m + 16) (xs ++ o) (dbl tk)) (by unfold HX; rw [List.map_append]; repeat (first | exact List.Sublist.refl _ | apply List.Sublist.cons_cons | apply List.Sublist.cons))
        rw [← HKK.out] at hS2
        have hJ := HI.out.join hS2
        refine ⟨hS2.keepsFrom HX_noObj HI.out.all _, ⟨?_, ?_⟩, .slice Ao (m + 16) co, ?_⟩
        · exact Eq.trans (hS2.blk (b := bS) (L := [.slice B n d]) (by focus ((repeat (first | exact .here | apply At.there)); done))) (Eq.symm (HI.out.blk (b := bS) (L := [.slice B n d]) (by focus ((repeat (first | exact .here | apply At.there)); done))))
        · exact Eq.trans (hS2.blk (b := bZ) (L := [.int .i64 16]) (by focus ((repeat (first | exact .here | apply At.there)); done))) (Eq.symm (HI.out.blk (b := bZ) (L := [.int .i64 16]) (by focus ((repeat (first | exact .here | apply At.there)); done))))
        · show St _ _ _ (HX b7 bZ bS b5 b3 bu bC n d fi B (.slice Ao (m + 16) co) (16 * (pre ++ [x]).length) (xtsF F t ((pre ++ [x]).map fun x => pc b x.1)).flatten (twk t (pre ++ [x]).length))
          rw [HL16.out, HFL.out, HDB.out]
          exact hJ
    clear hK0
    obtain ⟨N_, hN_⟩ := hS.sz
    have h0N_ := hS.size
    rw [hN_] at h0N_
    refine E_startR (hR := KeepS.pre (SN N_ [])) (fun ⟨_, _, h⟩ => h) (by kernel_rfl) #[false, false, false, false, false, false, false, false, false, false, false, false] (by kernel_rfl) rfl rfl (fun w_r2 hx_r2 he_r2 => ?_)
    have hzE_ : w_r2.heap.size = N_ := by rw [he_r2]; exact hN_
    have hz : N_ ≤ w_r2.heap.size := Nat.le_of_eq hzE_.symm
    replace hS := hS.drew; rw [← he_r2] at hS
    clear hx_r2 he_r2
    have hsn_b5 : SN N_ [] b5 := ⟨by rw [← hzE_]; first | exact Ent.lt (hS.get (x := Ent.blk b5 _ _) (by focus ((repeat (first | exact .here | apply At.there)); done))) rfl | exact Ent.lt (hS.get (x := Ent.own _ _ (.slice (some ⟨b5, 0, none⟩) _ _) _ _) (by focus ((repeat (first | exact .here | apply At.there)); done))) rfl, by first | (focus (simp; done)) | (focus (simp; omega)) | (focus (simp; assumption))⟩
    have hsn_b3 : SN N_ [] b3 := ⟨by rw [← hzE_]; first | exact Ent.lt (hS.get (x := Ent.blk b3 _ _) (by focus ((repeat (first | exact .here | apply At.there)); done))) rfl | exact Ent.lt (hS.get (x := Ent.own _ _ (.slice (some ⟨b3, 0, none⟩) _ _) _ _) (by focus ((repeat (first | exact .here | apply At.there)); done))) rfl, by first | (focus (simp; done)) | (focus (simp; omega)) | (focus (simp; assumption))⟩
    clear hzE_ hN_
    refine E_take (hR := KeepS.pre (SN N_ [])) (i := 0) (N := (some 13)) (v := ?vr2_0) (a' := ?ar2_0) #[true, false, false, false, false, false, false, false, false, false, false, false] rfl rfl (by kernel_rfl) (fun _ _ _ h => h) (by rfl) ?hyr2_0 ?har2_0 ?_
    case hyr2_0 =>
      intro w' hx
      (first | (apply Eq.trans; (first | (apply R_ldK hS hx; rfl; rfl; (focus ((repeat (first | exact .here | apply At.there)); done)); assumption; rfl; (first | assumption | rfl | exact mapGetB (by first | assumption | omega) | exact mapGet _ (by first | assumption | omega))) | (apply R_ldOwnK hS hx; rfl; rfl; (focus ((repeat (first | exact .here | apply At.there)); done)); assumption; rfl; (first | rfl | exact mapGetB (by first | assumption | omega) | exact mapGet _ (by first | assumption | omega)))); with_reducible rfl) | (go_simp; with_reducible rfl))
    case har2_0 => (simp only [Act.put, List.setIfInBounds_toArray, List.set_cons_zero, List.set_cons_succ]; rfl)
    refine E_take (hR := KeepS.pre (SN N_ [])) (i := 1) (N := (some 14)) (v := ?vr2_1) (a' := ?ar2_1) #[true, true, false, false, false, false, false, false, false, false, false, false] rfl rfl (by kernel_rfl) (fun _ _ _ h => h) (by rfl) ?hyr2_1 ?har2_1 ?_
    case hyr2_1 =>
      intro w' hx
      go_simp
      with_reducible rfl
    case har2_1 => (simp only [Act.put, List.setIfInBounds_toArray, List.set_cons_zero, List.set_cons_succ]; rfl)
    refine E_take (hR := KeepS.pre (SN N_ [])) (i := 2) (N := (some 15)) (v := ?vr2_2) (a' := ?ar2_2) #[true, true, true, false, false, false, false, false, false, false, false, false] rfl rfl (by kernel_rfl) (fun _ _ _ h => h) (by rfl) ?hyr2_2 ?har2_2 ?_
    case hyr2_2 =>
      intro w' hx
      (first | (apply Eq.trans; (first | (apply R_ldK hS hx; rfl; rfl; (focus ((repeat (first | exact .here | apply At.there)); done)); assumption; rfl; (first | assumption | rfl | exact mapGetB (by first | assumption | omega) | exact mapGet _ (by first | assumption | omega))) | (apply R_ldOwnK hS hx; rfl; rfl; (focus ((repeat (first | exact .here | apply At.there)); done)); assumption; rfl; (first | rfl | exact mapGetB (by first | assumption | omega) | exact mapGet _ (by first | assumption | omega)))); with_reducible rfl) | (go_simp; with_reducible rfl))
    case har2_2 => (simp only [Act.put, List.setIfInBounds_toArray, List.set_cons_zero, List.set_cons_succ]; rfl)
    refine E_take (hR := KeepS.pre (SN N_ [])) (i := 3) (N := (some 16)) (v := ?vr2_3) (a' := ?ar2_3) #[true, true, true, true, false, false, false, false, false, false, false, false] rfl rfl (by kernel_rfl) (fun _ _ _ h => h) (by rfl) ?hyr2_3 ?har2_3 ?_
    case hyr2_3 =>
      intro w' hx
      go_simp
      with_reducible rfl
    case har2_3 => (simp only [Act.put, List.setIfInBounds_toArray, List.set_cons_zero, List.set_cons_succ]; rfl)
    refine E_take (hR := KeepS.pre (SN N_ [])) (i := 4) (N := (some 17)) (v := ?vr2_4) (a' := ?ar2_4) #[true, true, true, true, true, false, false, false, false, false, false, false] rfl rfl (by kernel_rfl) (fun _ _ _ h => h) (by rfl) ?hyr2_4 ?har2_4 ?_
    case hyr2_4 =>
      intro w' hx
      go_simp
      with_reducible rfl
    case har2_4 => (simp only [Act.put, List.setIfInBounds_toArray, List.set_cons_zero, List.set_cons_succ]; rfl)
    refine E_take (hR := KeepS.pre (SN N_ [])) (i := 5) (N := (some 18)) (v := ?vr2_5) (a' := ?ar2_5) #[true, true, true, true, true, true, false, false, false, false, false, false] rfl rfl (by kernel_rfl) (fun _ _ _ h => h) (by rfl) ?hyr2_5 ?har2_5 ?_
    case hyr2_5 =>
      intro w' hx
      (first | (apply Eq.trans; (apply R_slice; rfl; rfl; (first | exact SB.no | exact SB.so | exact SB.lit (by decide)); (first | exact SB.no | exact SB.so | exact SB.lit (by decide)); rfl; rfl; (first | assumption | (focus (simp; done)) | (focus (simp; omega)) | omega); (first | assumption | (focus (simp; done)) | (focus (simp; omega)) | omega)); with_reducible rfl) | (go_simp; with_reducible rfl))
    case har2_5 => (simp only [Act.put, List.setIfInBounds_toArray, List.set_cons_zero, List.set_cons_succ]; rfl)
    refine E_split [6, 10] (by kernel_rfl) (by simp) (fun i_ hi_ => ?_)
    simp only [List.mem_cons, List.not_mem_nil, or_false] at hi_
    rcases hi_ with rfl | rfl
    · refine E_call1 (i := 6) (N := (some 19)) (args := ?gr2a_6) #[true, true, true, true, true, true, true, false, false, false, false, false] rfl rfl (by kernel_rfl) (by rfl) Try.func23 (by kernel_rfl) rfl rfl ?hgr2a_6 ?_
      case hgr2a_6 => (simp only [List.map_toArray, List.map_cons, List.map_nil]; go_simp; with_reducible rfl)
      refine (xor_any (some ⟨bo, q, none⟩) (some ⟨bu, 1, none⟩) 16 16 16 16 p tk _ HPL.out HTL.out (HRD.out _ _ hS) (un_rd (hS.blkRd (b := bu) (by focus ((repeat (first | exact .here | apply At.there)); done)))) (by decide) (by decide)).mono ?_
      rintro e w_ ⟨v1, rfl, hown_, hb_⟩
      rw [HYY.out, HYL.out] at hown_
      (obtain ⟨A1, c1, rfl, hc_A1, -⟩ := own_rd hown_; refine ⟨_, rfl, KeepS.below hb_ hz, ?_⟩; have hn_A1 : ∀ g, Value.ownBlock (.slice A1 _ c1) = some g → N_ ≤ g := (fun g hg => Nat.le_trans hz (hown_.lt g hg).1); replace hS := hS.got hb_ hown_; replace hz := Nat.le_trans hz hb_.size; clear hb_ hown_)
      rintro _ rfl
      simp only [Act.put, List.setIfInBounds_toArray, List.set_cons_zero, List.set_cons_succ]
      refine E_take (hR := KeepS.pre (SN N_ [])) (i := 7) (N := (some 20)) (v := ?vr2a_7) (a' := ?ar2a_7) #[true, true, true, true, true, true, true, true, false, false, false, false] rfl rfl (by kernel_rfl) (fun _ _ _ h => h) (by rfl) ?hyr2a_7 ?har2a_7 ?_
      case hyr2a_7 =>
        intro w' hx
        (apply Eq.trans; (apply R_s2a; rfl; rfl; rfl; (first | assumption | omega)); with_reducible rfl)
      case har2a_7 => (simp only [Act.put, List.setIfInBounds_toArray, List.set_cons_zero, List.set_cons_succ]; rfl)
      refine E_split [8, 10] (by kernel_rfl) (by simp) (fun i_ hi_ => ?_)
      simp only [List.mem_cons, List.not_mem_nil, or_false] at hi_
      rcases hi_ with rfl | rfl
      · (apply K_val (i := 8) (T := (some 21)) #[true, true, true, true, true, true, true, true, true, false, false, false]; rfl; rfl; (show _ = _; kernel_rfl); rfl; (apply R_ldRdAll (hS.ownRd (A := A1) (by focus ((repeat (first | exact .here | apply At.there)); done))); (exact hyl.out); decide; rfl; rfl; rfl; rfl); exact KeepS.refl _ _)
        rintro _ rfl
        simp only [Act.put, List.setIfInBounds_toArray, List.set_cons_zero, List.set_cons_succ]
        refine E_split [9, 10] (by kernel_rfl) (by simp) (fun i_ hi_ => ?_)
        simp only [List.mem_cons, List.not_mem_nil, or_false] at hi_
        rcases hi_ with rfl | rfl
        · refine E_callV1 (i := 9) (N := (some 22)) (args := ?gr2aaa_9) #[true, true, true, true, true, true, true, true, true, true, false, false] rfl rfl (by kernel_rfl) (by rfl) hf hname hbd rfl rfl ?hgr2aaa_9 ?_
          case hgr2aaa_9 => (simp only [List.map_toArray, List.map_cons, List.map_nil, List.append_toArray, List.cons_append, List.nil_append, List.append_nil]; go_simp; with_reducible rfl)
          refine (hcall y _ HYL.out (HCD.out _ _ hS).1 (HCD.out _ _ hS).2).mono ?_
          rw [HZZ.out]
          rintro e w_ ⟨rfl, hb_⟩
          (refine ⟨_, rfl, KeepS.below hb_ hz, ?_⟩; replace hS := hS.ext hb_; replace hz := Nat.le_trans hz hb_.size; clear hb_)
          rintro _ rfl
          simp only [Act.put, List.setIfInBounds_toArray, List.set_cons_zero, List.set_cons_succ]
          refine E_split [10] (by kernel_rfl) (by simp) (fun i_ hi_ => ?_)
          simp only [List.mem_cons, List.not_mem_nil, or_false] at hi_
          rcases hi_ with rfl
          apply K_alloc (i := 10) (T := (some 9)) (z := .agg ([.int .u8 0, .int .u8 0, .int .u8 0, .int .u8 0, .int .u8 0, .int .u8 0, .int .u8 0, .int .u8 0, .int .u8 0, .int .u8 0, .int .u8 0, .int .u8 0, .int .u8 0, .int .u8 0, .int .u8 0, .int .u8 0] : List Value).toArray) (L := [.int .u8 0, .int .u8 0, .int .u8 0, .int .u8 0, .int .u8 0, .int .u8 0, .int .u8 0, .int .u8 0, .int .u8 0, .int .u8 0, .int .u8 0, .int .u8 0, .int .u8 0, .int .u8 0, .int .u8 0, .int .u8 0]) hS hz #[true, true, true, true, true, true, true, true, true, true, true, false]
          (rfl; rfl; (show _ = _; kernel_rfl); rfl; rfl; (show _ = _; kernel_rfl); (show _ = _; rfl))
          clear hS hz
          intro bx w_ hN_bx hS hz
          rintro _ rfl
          simp only [Act.put, List.setIfInBounds_toArray, List.set_cons_zero, List.set_cons_succ]
          refine E_split [11] (by kernel_rfl) (by simp) (fun i_ hi_ => ?_)
          simp only [List.mem_cons, List.not_mem_nil, or_false] at hi_
          rcases hi_ with rfl
          (first | (apply K_stAll (i := 11) hS hz #[true, true, true, true, true, true, true, true, true, true, true, true]; rfl; rfl; kernel_rfl; rfl; rfl; rfl; rfl; (focus ((repeat (first | exact .here | apply At.there)); done)); (first | assumption | (refine Or.inl ?_; assumption) | (refine Or.inr ?_; focus (simp; done))); (first | assumption | (fail) | (focus (simp [bV, Value.oneCell']; done))); (first | rfl | ((rw [hzl.out]; rfl))); (first | rfl | ((rw [hzl.out]; rfl)))) | (apply K_stPart (i := 11) hS hz #[true, true, true, true, true, true, true, true, true, true, true, true]; rfl; rfl; kernel_rfl; rfl; rfl; rfl; rfl; (focus ((repeat (first | exact .here | apply At.there)); done)); (first | assumption | (refine Or.inl ?_; assumption) | (refine Or.inr ?_; focus (simp; done))); (first | assumption | (fail) | (focus (simp [bV, Value.oneCell']; done))); (first | rfl | ((rw [hzl.out]; rfl))); (first | decide | ((rw [hzl.out]; rfl)))))
          clear hS hz
          intro w_ hS hz
          try simp only [List.set_cons_zero, List.set_cons_succ] at hS
          refine E_done (by kernel_rfl) ?_
          exact hrest _ _ _ _ _ _ _ _ _ _ _ _ (hS.sub (by repeat (first | exact List.Sublist.refl _ | apply List.Sublist.cons_cons | apply List.Sublist.cons)))
        · apply K_alloc (i := 10) (T := (some 9)) (z := .agg ([.int .u8 0, .int .u8 0, .int .u8 0, .int .u8 0, .int .u8 0, .int .u8 0, .int .u8 0, .int .u8 0, .int .u8 0, .int .u8 0, .int .u8 0, .int .u8 0, .int .u8 0, .int .u8 0, .int .u8 0, .int .u8 0] : List Value).toArray) (L := [.int .u8 0, .int .u8 0, .int .u8 0, .int .u8 0, .int .u8 0, .int .u8 0, .int .u8 0, .int .u8 0, .int .u8 0, .int .u8 0, .int .u8 0, .int .u8 0, .int .u8 0, .int .u8 0, .int .u8 0, .int .u8 0]) hS hz #[true, true, true, true, true, true, true, true, true, false, true, false]
          (rfl; rfl; (show _ = _; kernel_rfl); rfl; rfl; (show _ = _; kernel_rfl); (show _ = _; rfl))
          clear hS hz
          intro bx w_ hN_bx hS hz
          rintro _ rfl
          simp only [Act.put, List.setIfInBounds_toArray, List.set_cons_zero, List.set_cons_succ]
          refine E_split [9] (by kernel_rfl) (by simp) (fun i_ hi_ => ?_)
          simp only [List.mem_cons, List.not_mem_nil, or_false] at hi_
          rcases hi_ with rfl
          refine E_callV1 (i := 9) (N := (some 22)) (args := ?gr2aab_9) #[true, true, true, true, true, true, true, true, true, true, true, false] rfl rfl (by kernel_rfl) (by rfl) hf hname hbd rfl rfl ?hgr2aab_9 ?_
          case hgr2aab_9 => (simp only [List.map_toArray, List.map_cons, List.map_nil, List.append_toArray, List.cons_append, List.nil_append, List.append_nil]; go_simp; with_reducible rfl)
          refine (hcall y _ HYL.out (HCD.out _ _ hS).1 (HCD.out _ _ hS).2).mono ?_
          rw [HZZ.out]
          rintro e w_ ⟨rfl, hb_⟩
          (refine ⟨_, rfl, KeepS.below hb_ hz, ?_⟩; replace hS := hS.ext hb_; replace hz := Nat.le_trans hz hb_.size; clear hb_)
          rintro _ rfl
          simp only [Act.put, List.setIfInBounds_toArray, List.set_cons_zero, List.set_cons_succ]
          refine E_split [11] (by kernel_rfl) (by simp) (fun i_ hi_ => ?_)
          simp only [List.mem_cons, List.not_mem_nil, or_false] at hi_
          rcases hi_ with rfl
          (first | (apply K_stAll (i := 11) hS hz #[true, true, true, true, true, true, true, true, true, true, true, true]; rfl; rfl; kernel_rfl; rfl; rfl; rfl; rfl; (focus ((repeat (first | exact .here | apply At.there)); done)); (first | assumption | (refine Or.inl ?_; assumption) | (refine Or.inr ?_; focus (simp; done))); (first | assumption | (fail) | (focus (simp [bV, Value.oneCell']; done))); (first | rfl | ((rw [hzl.out]; rfl))); (first | rfl | ((rw [hzl.out]; rfl)))) | (apply K_stPart (i := 11) hS hz #[true, true, true, true, true, true, true, true, true, true, true, true]; rfl; rfl; kernel_rfl; rfl; rfl; rfl; rfl; (focus ((repeat (first | exact .here | apply At.there)); done)); (first | assumption | (refine Or.inl ?_; assumption) | (refine Or.inr ?_; focus (simp; done))); (first | assumption | (fail) | (focus (simp [bV, Value.oneCell']; done))); (first | rfl | ((rw [hzl.out]; rfl))); (first | decide | ((rw [hzl.out]; rfl)))))
          clear hS hz
          intro w_ hS hz
          try simp only [List.set_cons_zero, List.set_cons_succ] at hS
          refine E_done (by kernel_rfl) ?_
          exact hrest _ _ _ _ _ _ _ _ _ _ _ _ (hS.sub (by repeat (first | exact List.Sublist.refl _ | apply List.Sublist.cons_cons | apply List.Sublist.cons)))
      · apply K_alloc (i := 10) (T := (some 9)) (z := .agg ([.int .u8 0, .int .u8 0, .int .u8 0, .int .u8 0, .int .u8 0, .int .u8 0, .int .u8 0, .int .u8 0, .int .u8 0, .int .u8 0, .int .u8 0, .int .u8 0, .int .u8 0, .int .u8 0, .int .u8 0, .int .u8 0] : List Value).toArray) (L := [.int .u8 0, .int .u8 0, .int .u8 0, .int .u8 0, .int .u8 0, .int .u8 0, .int .u8 0, .int .u8 0, .int .u8 0, .int .u8 0, .int .u8 0, .int .u8 0, .int .u8 0, .int .u8 0, .int .u8 0, .int .u8 0]) hS hz #[true, true, true, true, true, true, true, true, false, false, true, false]
        (rfl; rfl; (show _ = _; kernel_rfl); rfl; rfl; (show _ = _; kernel_rfl); (show _ = _; rfl))
        clear hS hz
        intro bx w_ hN_bx hS hz
        rintro _ rfl
        simp only [Act.put, List.setIfInBounds_toArray, List.set_cons_zero, List.set_cons_succ]
        refine E_split [8] (by kernel_rfl) (by simp) (fun i_ hi_ => ?_)
        simp only [List.mem_cons, List.not_mem_nil, or_false] at hi_
        rcases hi_ with rfl
        (apply K_val (i := 8) (T := (some 21)) #[true, true, true, true, true, true, true, true, true, false, true, false]; rfl; rfl; (show _ = _; kernel_rfl); rfl; (apply R_ldRdAll (hS.ownRd (A := A1) (by focus ((repeat (first | exact .here | apply At.there)); done))); (exact hyl.out); decide; rfl; rfl; rfl; rfl); exact KeepS.refl _ _)
        rintro _ rfl
        simp only [Act.put, List.setIfInBounds_toArray, List.set_cons_zero, List.set_cons_succ]
        refine E_split [9] (by kernel_rfl) (by simp) (fun i_ hi_ => ?_)
        simp only [List.mem_cons, List.not_mem_nil, or_false] at hi_
        rcases hi_ with rfl
        refine E_callV1 (i := 9) (N := (some 22)) (args := ?gr2ab_9) #[true, true, true, true, true, true, true, true, true, true, true, false] rfl rfl (by kernel_rfl) (by rfl) hf hname hbd rfl rfl ?hgr2ab_9 ?_
        case hgr2ab_9 => (simp only [List.map_toArray, List.map_cons, List.map_nil, List.append_toArray, List.cons_append, List.nil_append, List.append_nil]; go_simp; with_reducible rfl)
        refine (hcall y _ HYL.out (HCD.out _ _ hS).1 (HCD.out _ _ hS).2).mono ?_
        rw [HZZ.out]
        rintro e w_ ⟨rfl, hb_⟩
        (refine ⟨_, rfl, KeepS.below hb_ hz, ?_⟩; replace hS := hS.ext hb_; replace hz := Nat.le_trans hz hb_.size; clear hb_)
        rintro _ rfl
        simp only [Act.put, List.setIfInBounds_toArray, List.set_cons_zero, List.set_cons_succ]
        refine E_split [11] (by kernel_rfl) (by simp) (fun i_ hi_ => ?_)
        simp only [List.mem_cons, List.not_mem_nil, or_false] at hi_
        rcases hi_ with rfl
        (first | (apply K_stAll (i := 11) hS hz #[true, true, true, true, true, true, true, true, true, true, true, true]; rfl; rfl; kernel_rfl; rfl; rfl; rfl; rfl; (focus ((repeat (first | exact .here | apply At.there)); done)); (first | assumption | (refine Or.inl ?_; assumption) | (refine Or.inr ?_; focus (simp; done))); (first | assumption | (fail) | (focus (simp [bV, Value.oneCell']; done))); (first | rfl | ((rw [hzl.out]; rfl))); (first | rfl | ((rw [hzl.out]; rfl)))) | (apply K_stPart (i := 11) hS hz #[true, true, true, true, true, true, true, true, true, true, true, true]; rfl; rfl; kernel_rfl; rfl; rfl; rfl; rfl; (focus ((repeat (first | exact .here | apply At.there)); done)); (first | assumption | (refine Or.inl ?_; assumption) | (refine Or.inr ?_; focus (simp; done))); (first | assumption | (fail) | (focus (simp [bV, Value.oneCell']; done))); (first | rfl | ((rw [hzl.out]; rfl))); (first | decide | ((rw [hzl.out]; rfl)))))
        clear hS hz
        intro w_ hS hz
        try simp only [List.set_cons_zero, List.set_cons_succ] at hS
        refine E_done (by kernel_rfl) ?_
        exact hrest _ _ _ _ _ _ _ _ _ _ _ _ (hS.sub (by repeat (first | exact List.Sublist.refl _ | apply List.Sublist.cons_cons | apply List.Sublist.cons)))
    · apply K_alloc (i := 10) (T := (some 9)) (z := .agg ([.int .u8 0, .int .u8 0, .int .u8 0, .int .u8 0, .int .u8 0, .int .u8 0, .int .u8 0, .int .u8 0, .int .u8 0, .int .u8 0, .int .u8 0, .int .u8 0, .int .u8 0, .int .u8 0, .int .u8 0, .int .u8 0] : List Value).toArray) (L := [.int .u8 0, .int .u8 0, .int .u8 0, .int .u8 0, .int .u8 0, .int .u8 0, .int .u8 0, .int .u8 0, .int .u8 0, .int .u8 0, .int .u8 0, .int .u8 0, .int .u8 0, .int .u8 0, .int .u8 0, .int .u8 0]) hS hz #[true, true, true, true, true, true, false, false, false, false, true, false]
      (rfl; rfl; (show _ = _; kernel_rfl); rfl; rfl; (show _ = _; kernel_rfl); (show _ = _; rfl))
      clear hS hz
      intro bx w_ hN_bx hS hz
      rintro _ rfl
      simp only [Act.put, List.setIfInBounds_toArray, List.set_cons_zero, List.set_cons_succ]
      refine E_split [6] (by kernel_rfl) (by simp) (fun i_ hi_ => ?_)
      simp only [List.mem_cons, List.not_mem_nil, or_false] at hi_
      rcases hi_ with rfl
      refine E_call1 (i := 6) (N := (some 19)) (args := ?gr2b_6) #[true, true, true, true, true, true, true, false, false, false, true, false] rfl rfl (by kernel_rfl) (by rfl) Try.func23 (by kernel_rfl) rfl rfl ?hgr2b_6 ?_
      case hgr2b_6 => (simp only [List.map_toArray, List.map_cons, List.map_nil]; go_simp; with_reducible rfl)
      refine (xor_any (some ⟨bo, q, none⟩) (some ⟨bu, 1, none⟩) 16 16 16 16 p tk _ HPL.out HTL.out (HRD.out _ _ hS) (un_rd (hS.blkRd (b := bu) (by focus ((repeat (first | exact .here | apply At.there)); done)))) (by decide) (by decide)).mono ?_
      rintro e w_ ⟨v1, rfl, hown_, hb_⟩
      rw [HYY.out, HYL.out] at hown_
      (obtain ⟨A1, c1, rfl, hc_A1, -⟩ := own_rd hown_; refine ⟨_, rfl, KeepS.below hb_ hz, ?_⟩; have hn_A1 : ∀ g, Value.ownBlock (.slice A1 _ c1) = some g → N_ ≤ g := (fun g hg => Nat.le_trans hz (hown_.lt g hg).1); replace hS := hS.got hb_ hown_; replace hz := Nat.le_trans hz hb_.size; clear hb_ hown_)
      rintro _ rfl
      simp only [Act.put, List.setIfInBounds_toArray, List.set_cons_zero, List.set_cons_succ]
      refine E_take (hR := KeepS.pre (SN N_ [])) (i := 7) (N := (some 20)) (v := ?vr2b_7) (a' := ?ar2b_7) #[true, true, true, true, true, true, true, true, false, false, true, false] rfl rfl (by kernel_rfl) (fun _ _ _ h => h) (by rfl) ?hyr2b_7 ?har2b_7 ?_
      case hyr2b_7 =>
        intro w' hx
        (apply Eq.trans; (apply R_s2a; rfl; rfl; rfl; (first | assumption | omega)); with_reducible rfl)
      case har2b_7 => (simp only [Act.put, List.setIfInBounds_toArray, List.set_cons_zero, List.set_cons_succ]; rfl)
      refine E_split [8] (by kernel_rfl) (by simp) (fun i_ hi_ => ?_)
      simp only [List.mem_cons, List.not_mem_nil, or_false] at hi_
      rcases hi_ with rfl
      (apply K_val (i := 8) (T := (some 21)) #[true, true, true, true, true, true, true, true, true, false, true, false]; rfl; rfl; (show _ = _; kernel_rfl); rfl; (apply R_ldRdAll (hS.ownRd (A := A1) (by focus ((repeat (first | exact .here | apply At.there)); done))); (exact hyl.out); decide; rfl; rfl; rfl; rfl); exact KeepS.refl _ _)
      rintro _ rfl
      simp only [Act.put, List.setIfInBounds_toArray, List.set_cons_zero, List.set_cons_succ]
      refine E_split [9] (by kernel_rfl) (by simp) (fun i_ hi_ => ?_)
      simp only [List.mem_cons, List.not_mem_nil, or_false] at hi_
      rcases hi_ with rfl
      refine E_callV1 (i := 9) (N := (some 22)) (args := ?gr2b_9) #[true, true, true, true, true, true, true, true, true, true, true, false] rfl rfl (by kernel_rfl) (by rfl) hf hname hbd rfl rfl ?hgr2b_9 ?_
      case hgr2b_9 => (simp only [List.map_toArray, List.map_cons, List.map_nil, List.append_toArray, List.cons_append, List.nil_append, List.append_nil]; go_simp; with_reducible rfl)
      refine (hcall y _ HYL.out (HCD.out _ _ hS).1 (HCD.out _ _ hS).2).mono ?_
      rw [HZZ.out]
      rintro e w_ ⟨rfl, hb_⟩
      (refine ⟨_, rfl, KeepS.below hb_ hz, ?_⟩; replace hS := hS.ext hb_; replace hz := Nat.le_trans hz hb_.size; clear hb_)
      rintro _ rfl
      simp only [Act.put, List.setIfInBounds_toArray, List.set_cons_zero, List.set_cons_succ]
      refine E_split [11] (by kernel_rfl) (by simp) (fun i_ hi_ => ?_)
      simp only [List.mem_cons, List.not_mem_nil, or_false] at hi_
      rcases hi_ with rfl
      (first | (apply K_stAll (i := 11) hS hz #[true, true, true, true, true, true, true, true, true, true, true, true]; rfl; rfl; kernel_rfl; rfl; rfl; rfl; rfl; (focus ((repeat (first | exact .here | apply At.there)); done)); (first | assumption | (refine Or.inl ?_; assumption) | (refine Or.inr ?_; focus (simp; done))); (first | assumption | (fail) | (focus (simp [bV, Value.oneCell']; done))); (first | rfl | ((rw [hzl.out]; rfl))); (first | rfl | ((rw [hzl.out]; rfl)))) | (apply K_stPart (i := 11) hS hz #[true, true, true, true, true, true, true, true, true, true, true, true]; rfl; rfl; kernel_rfl; rfl; rfl; rfl; rfl; (focus ((repeat (first | exact .here | apply At.there)); done)); (first | assumption | (refine Or.inl ?_; assumption) | (refine Or.inr ?_; focus (simp; done))); (first | assumption | (fail) | (focus (simp [bV, Value.oneCell']; done))); (first | rfl | ((rw [hzl.out]; rfl))); (first | decide | ((rw [hzl.out]; rfl)))))
      clear hS hz
      intro w_ hS hz
      try simp only [List.set_cons_zero, List.set_cons_succ] at hS
      refine E_done (by kernel_rfl) ?_
      exact hrest _ _ _ _ _ _ _ _ _ _ _ _ (hS.sub (by repeat (first | exact List.Sublist.refl _ | apply List.Sublist.cons_cons | apply List.Sublist.cons)))
end Go.Proofs.Ythamhaomfdgdjaa
