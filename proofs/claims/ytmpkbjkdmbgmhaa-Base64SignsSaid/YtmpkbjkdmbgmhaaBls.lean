/- strings.Builder's WriteByte: what else is kept. -/
import Derived.Test.YtmpkbjkdmbgmhaaBld
import Derived.Test.YtmpkbjkdmbgmhaaSet
import Derived.RangeFuncBox
namespace Go.Proofs.Ytmpkbjkdmbgmhaa
open Go.RowKit

/-- The blocks of S lie as they lay. -/
structure KeepS (S : Nat → Prop) (w w' : World) : Prop where
  os : w'.os = w.os
  tape : w'.tape = w.tape
  output : w'.output = w.output
  size : w.heap.size ≤ w'.heap.size
  block : ∀ k, S k → w'.heap[k]? = w.heap[k]?
theorem KeepS.refl (S : Nat → Prop) (w : World) : KeepS S w w := ⟨rfl, rfl, rfl, Nat.le_refl _, fun _ _ => rfl⟩
theorem KeepS.trans {S : Nat → Prop} {a b c : World} (h : KeepS S a b) (k : KeepS S b c) : KeepS S a c := ⟨k.os.trans h.os, k.tape.trans h.tape, k.output.trans h.output, Nat.le_trans h.size k.size, fun i hi => (k.block i hi).trans (h.block i hi)⟩
theorem KeepS.mono {S S' : Nat → Prop} {a b : World} (h : KeepS S a b) (hs : ∀ k, S' k → S k) : KeepS S' a b := ⟨h.os, h.tape, h.output, h.size, fun i hi => h.block i (hs i hi)⟩
theorem KeepS.below {S : Nat → Prop} {B : Nat} {a b : World} (h : KeepS S a b) (hs : ∀ k, k < B → S k) : Below B a b := ⟨h.os, h.tape, h.output, h.size, fun k hk => h.block k (hs k hk)⟩
theorem KeepS.of {S : Nat → Prop} {B : Nat} {a b : World} (h : Below B a b) (hs : ∀ k, S k → k < B) : KeepS S a b := ⟨h.os, h.tape, h.output, h.size, fun k hk => h.block k (hs k hk)⟩
theorem KeepS.grown {S : Nat → Prop} {a b : World} {row : Option Nat} (h : a.grownBy b row) (hs : ∀ k, S k → k < a.heap.size) (hr : ∀ g, row = some g → ¬ S g) : KeepS S a b :=
  ⟨h.os, h.tape, h.output, h.size, fun k hk => h.block k (hs k hk) (fun e => hr k e.symm hk)⟩

/-- A builder at b that holds l; neither it nor its row is of S. -/
def BldS (b : Nat) (S : Nat → Prop) (l : List UInt8) (w : World) : Prop :=
  ∃ p v, (p = .pointer none ∨ p = .pointer (some ⟨b, 0, none⟩)) ∧ w.heap[b]? = some (.cells #[p, v] 41 (0, 0)) ∧ w.ownsRow 0 5 1 v l.length (l.map bV) ∧ v.ownBlock ≠ some b ∧ ¬ S b ∧ (∀ g, v.ownBlock = some g → ¬ S g) ∧ ∀ k, S k → k < w.heap.size

theorem BldS.lt {b : Nat} {S : Nat → Prop} {l : List UInt8} {w : World} (h : BldS b S l w) {k : Nat} (hk : S k) : k < w.heap.size := by
  obtain ⟨p, v, -, -, -, -, -, -, h⟩ := h; exact h k hk

theorem BldS.fresh (w : World) : BldS w.heap.size (· < w.heap.size) [] (w.alloc (.cells #[.pointer none, .slice none 0 0] 41)) :=
  ⟨_, _, .inl rfl, heap_alloc_new w _, World.ownsRow_nil _ _ _ _, by simp [Value.ownBlock], by omega, fun g e => by simp [Value.ownBlock] at e, fun k hk => by rw [World.size_alloc]; omega⟩

/-- .. where nothing below the heap's end turns. -/
theorem BldS.keep {b : Nat} {S : Nat → Prop} {l : List UInt8} {w w' : World} (h : BldS b S l w) (hb : Below w.heap.size w w') : BldS b S l w' := by
  obtain ⟨p, v, hp, hk, ho, hn, h1, h2, h3⟩ := h
  exact ⟨p, v, hp, (hb.block b (Array.getElem?_eq_some_iff.1 hk).1).trans hk, ownsRow_below ho hb, hn, h1, h2, fun k h => Nat.lt_of_lt_of_le (h3 k h) hb.size⟩

/-- New blocks may be guarded too. -/
theorem BldS.more {b : Nat} {S S' : Nat → Prop} {l : List UInt8} {w w' : World} (h : BldS b S l w) (hb : Below w.heap.size w w') (hs : ∀ k, S' k → S k ∨ (w.heap.size ≤ k ∧ k < w'.heap.size)) : BldS b S' l w' := by
  obtain ⟨p, v, hp, hk, ho, hn, h1, h2, h3⟩ := h
  have hbl := (Array.getElem?_eq_some_iff.1 hk).1
  refine ⟨p, v, hp, (hb.block b hbl).trans hk, ownsRow_below ho hb, hn, fun h => ?_, fun g hg h => ?_, fun k h => ?_⟩
  · rcases hs _ h with h | h
    · exact h1 h
    · omega
  · rcases hs _ h with h | h
    · exact h2 g hg h
    · have := (ho.lt g hg).2
      omega
  · rcases hs _ h with h | h
    · exact Nat.lt_of_lt_of_le (h3 k h) hb.size
    · exact h.2

theorem BldS.less {b : Nat} {S S' : Nat → Prop} {l : List UInt8} {w : World} (h : BldS b S l w) (hs : ∀ k, S' k → S k) : BldS b S' l w := h.more (Below.refl _ w) (fun k hk => .inl (hs k hk))

theorem BldS.is {b B : Nat} {S : Nat → Prop} {l : List UInt8} {w : World} (h : BldS b S l w) (hB : ∀ k, k < B → S k) : IsB B b l w := by
  obtain ⟨p, v, hp, hk, ho, hn, h1, h2, h3⟩ := h
  have hBb : B ≤ b := by
    rcases Nat.lt_or_ge b B with h | h
    · exact absurd (hB b h) h1
    · exact h
  have ho' : w.ownsRow B 5 1 v (l.map bV).length (l.map bV) := by
    rw [List.length_map]
    refine ⟨ho.1, ?_⟩
    rcases ho.2 with h | ⟨g, cap, cur, hv, hg0, r⟩
    · exact .inl h
    · refine .inr ⟨g, cap, cur, hv, ?_, r⟩
      rcases Nat.lt_or_ge g B with h | h
      · exact absurd (hB g h) (h2 g (by rw [hv]; rfl))
      · exact h
  rcases hp with rfl | rfl
  · exact .inl ⟨hBb, v, hk, ho', hn⟩
  · exact .inr ⟨hBb, v, hk, ho', hn⟩

set_option maxHeartbeats 1000000 in
theorem copyCheckS_any (b : Nat) (bs : List Value) (w : World) (h : Lib.IsBuilder 41 5 0 b bs w) :
    Calls Try.prog 27 #[.pointer (some ⟨b, 0, none⟩)] w fun e w' => e = .returned (.tuple #[]) ∧ (Lib.BuilderAt 41 5 0 b (.pointer (some ⟨b, 0, none⟩)) bs w' ∧ (w' = w ∨ w' = w.setCell ⟨b, 0, none⟩ (.pointer (some ⟨b, 0, none⟩)))) := by
  have hsz : (Try.prog.info? 41).map (·.size) = some 2 := by kernel_rfl
  obtain ⟨j, hj, hjs⟩ := Option.map_eq_some_iff.1 hsz
  have L70 := Try.underlying39
  have L164 := Try.underlying58
  have hlies : liesAt Try.prog Try.prog.depth 41 (2 / Try.prog.cellsOf 41) 0 41 1 = true := by kernel_rfl
  rcases h with h | h
  · have h0 := h.cell0
    have hsh := h.shape
    have hfz := h.frozen0
    have HB := Lib.hid h
    clear h
    go_enter Try.func27, Try.ntmps27
    go_wp2
    rw [Lib.run_to_unsafe w ⟨b, 0, none⟩ L70 L164 hj (by rw [hjs]; decide) hsh (Nat.zero_lt_succ 1)]
    simp only [Result.andThen]
    rw [Oper.upon_value]
    go_wp2
    rw [run_callFunc_extern Try.func28 (by kernel_rfl) (by kernel_rfl) (by kernel_rfl) (e := Extern.AbiNoEscape.same) (by kernel_rfl)]
    rw [Lib.run_noEscape]
    simp only [Result.andThen]
    rw [Oper.upon_value]
    go_wp2
    rw [Lib.run_from_unsafe w ⟨b, 0, none⟩ L164 L70 hj hsh hlies]
    simp only [Result.andThen]
    rw [Oper.upon_value]
    go_wp2
    go_end0
    exact ⟨rfl, HB.out.used _, .inr rfl⟩
  · have h0 := h.cell0
    have HB := Lib.hid h
    clear h
    go_enter Try.func27, Try.ntmps27
    go_wp2
    rw [Lib.run_neq_ptr_same w _ L70 hj]
    go_wp2
    go_end0
    exact ⟨rfl, HB.out, .inl rfl⟩


set_option maxHeartbeats 1000000 in
theorem writeByteS_any (b : Nat) (S : Nat → Prop) (l : List UInt8) (d : UInt8) (w : World) (h : BldS b S l w) (hlen : l.length + 1 ≤ 140737488355328) :
    Calls Try.prog 25 #[.pointer (some ⟨b, 0, none⟩), .int .u8 (d.toNat : Int)] w fun e w' => e = .returned .nilIface ∧ BldS b S (l ++ [d]) w' ∧ KeepS S w w' := by
  have H := Lib.hid (h.is (B := 0) (fun k hk => by omega))
  have HS := Lib.hid h
  clear h
  go_enter Try.func25, Try.ntmps25
  go_wp2_with (go_at_call 27; refine (copyCheckS_any b _ _ H.out).mono ?_)
  rintro e w1 ⟨rfl, h1, hw1⟩
  have hb1 : KeepS S w w1 := by
    obtain ⟨p, v, hp, hk, ho, hn, hs1, hs2, hs3⟩ := HS.out
    rcases hw1 with rfl | rfl
    · exact KeepS.refl _ _
    · exact KeepS.grown (grownBy_setCell' w b _) hs3 (fun g e => by cases e; exact hs1)
  obtain ⟨hB, v, hbk, hown, hne⟩ := h1
  have hvs : ∀ g, v.ownBlock = some g → ¬ S g := by
    obtain ⟨p, v0, hp, hk, ho, hn, hs1, hs2, hs3⟩ := HS.out
    have e : v = v0 := by
      rcases hw1 with rfl | rfl
      · rw [hk] at hbk; simp at hbk; exact hbk.2.symm
      · rw [show (w.setCell ⟨b, 0, none⟩ (.pointer (some ⟨b, 0, none⟩))).heap[b]? = some (.cells #[.pointer (some ⟨b, 0, none⟩), v0] 41 (0, 0)) by simp [World.setCell, Array.getElem?_modify, hk]] at hbk
        simp at hbk; exact hbk.symm
    rw [e]; exact hs2
  have c0 : w1.cell? ⟨b, 0, none⟩ = some (.pointer (some ⟨b, 0, none⟩)) := by rw [Lib.cell_of_heap hbk]; rfl
  have c1 : w1.cell? ⟨b, 1, none⟩ = some v := by rw [Lib.cell_of_heap hbk]; rfl
  have HO := Lib.hid hown
  have HK := Lib.hid hbk
  have HE := Lib.hid hne
  have HL := Lib.hid (show (l.map bV).length = l.length from List.length_map _)
  clear hown hbk hne hw1
  have hsrc := Lib.hid fun (wx : World) => RdB.src (P := Try.prog) (c := 1) (A := some ⟨wx.heap.size, 0, none⟩) (w := wx.alloc (.cells #[.int .u8 (d.toNat : Int)] 5)) (xs := [d]) (n := 1) Try.underlying23 (Rd.mk (fun i hi => by simp at hi; subst hi; simp [bV])) rfl
  go_wp2_with (at_builtin; go_loud (refine wpList_app2 TBb 0 (HO.out.alloc _) _ (hsrc.out _) rfl rfl rfl rfl (by have := HL.out; unfold maxLen; omega) (by have := HL.out; omega) (Nat.zero_le _) (fun A1 n1 w2 hown' hgrow hwhere => ?_)); have hb3 := blt_after HK.out HE.out hgrow; have d0 : w2.cell? ⟨b, 0, none⟩ = some (.pointer (some ⟨b, 0, none⟩)) := (by rw [Lib.cell_of_heap hb3]; rfl); have d1 : w2.cell? ⟨b, 1, none⟩ = some v := (by rw [Lib.cell_of_heap hb3]; rfl); have f1 : w2.frozen? ⟨b, 1, none⟩ = false := Lib.frozen_of_heap hb3 1; have HO' := Lib.hid hown'; have HK3 := Lib.hid hb3; have HG := Lib.hid hgrow; have HW := Lib.hid hwhere; clear hown' hb3 hsrc hgrow hwhere)
  go_ret
  have e : (l ++ [d]).map bV = l.map bV ++ [bV d] := by simp
  have hk1 : ∀ k, S k → k < w1.heap.size := fun k hk => Nat.lt_of_lt_of_le (HS.out.lt hk) hb1.size
  have hnb : ¬ S b := by obtain ⟨p, v0, hp, hk, ho, hn, hs1, hs2, hs3⟩ := HS.out; exact hs1
  have hkeep : KeepS S w (w2.setCell ⟨b, 1, none⟩ (.slice A1 (l.length + 1) n1)) := by
    refine (hb1.trans (KeepS.grown (World.grownBy_alloc w1 _ none) hk1 (fun g e => by cases e))).trans ((KeepS.grown HG.out (fun k hk => by rw [World.size_alloc]; have := hk1 k hk; omega) hvs).trans ?_)
    exact KeepS.grown (row := some b) ⟨rfl, rfl, rfl, by simp [World.setCell], fun k _ hk => Below.heap_setCell _ _ _ _ (fun e => hk (by simp [e]))⟩ (fun k hk => by have := hk1 k hk; have h2 := HG.out.size; rw [World.size_alloc] at h2; omega) (fun g e => by cases e; exact hnb)
  refine ⟨rfl, ?_, hkeep⟩
  obtain ⟨hB', v', hk', ho', hn'⟩ := Lib.BuilderAt.put (T := 41) (e := 5) hB HK3.out (bs' := (l ++ [d]).map bV) (v' := .slice A1 (l.length + 1) n1) (by rw [e]; simpa using HO'.out) (by decide)
  have hsm : ∀ k, S k → k < w2.heap.size := fun k hk => by have := hk1 k hk; have h2 := HG.out.size; rw [World.size_alloc] at h2; omega
  refine ⟨_, v', .inr rfl, hk', by simpa using ho', hn', hnb, fun g hg hS => ?_, fun k hk => by have := hsm k hk; simpa [World.setCell] using this⟩
  have ev : v' = .slice A1 (l.length + 1) n1 := by
    have h1 := hk'
    rw [show (w2.setCell ⟨b, 1, none⟩ (.slice A1 (l.length + 1) n1)).heap[b]? = some (.cells #[.pointer (some ⟨b, 0, none⟩), .slice A1 (l.length + 1) n1] 41 (0, 0)) by simp [World.setCell, Array.getElem?_modify, HK3.out]] at h1
    simp at h1; exact h1.symm
  rw [ev] at hg
  have hw := HW.out
  rw [HL.out] at hw
  rcases hw with h | h
  · exact hvs g (h.symm.trans hg) hS
  · rw [h] at hg
    cases hg
    have := hk1 _ hS
    rw [World.size_alloc] at this
    omega

theorem keep_freeze {S : Nat → Prop} {w : World} {g : Nat} (hg : ¬ S g) (n : Nat) : KeepS S w (w.freeze ⟨g, 0, none⟩ n) := by
  unfold World.freeze
  split
  · exact KeepS.refl _ _
  · refine ⟨rfl, rfl, rfl, by simp, fun k hk => ?_⟩
    have hne : k ≠ g := fun e => hg (e ▸ hk)
    simp [Array.getElem?_modify, Ne.symm hne]

set_option maxHeartbeats 2000000 in
set_option maxRecDepth 100000 in
theorem stringS_ne (b : Nat) (S : Nat → Prop) (l : List UInt8) (w : World) (h : BldS b S l w) (h0 : l ≠ []) :
    Calls Try.prog 20 #[.pointer (some ⟨b, 0, none⟩)] w fun e w' => e = .returned (.string (str l)) ∧ KeepS S w w' := by
  obtain ⟨p, v, hp, hbk, hown, hne, hs1, hs2, hs3⟩ := h
  have hl0 : l.length ≠ 0 := by simpa using h0
  obtain ⟨g, cap, cur, rfl, hg, hnc, hcm, hcs, htake⟩ : ∃ g cap cur, v = .slice (some ⟨g, 0, none⟩) l.length cap ∧ w.heap[g]? = some (.cells cur 5 (0, 0)) ∧ l.length ≤ cap ∧ cap ≤ maxLen ∧ cur.size = cap * 1 ∧ cur.toList.take (l.length * 1) = l.map bV := by
    rcases hown.2 with ⟨_, hz⟩ | ⟨g, cap, cur, hv, _, r⟩
    · exact absurd hz hl0
    · exact ⟨g, cap, cur, hv, r⟩
  have c1 : w.drew.cell? ⟨b, 1, none⟩ = some (.slice (some ⟨g, 0, none⟩) l.length cap) := by
    have : w.drew.heap[b]? = some (.cells #[p, .slice (some ⟨g, 0, none⟩) l.length cap] 41 (0, 0)) := hbk
    rw [Lib.cell_of_heap this]; rfl
  have hSD : (Builtin.unsafeSliceData_ #[23] 57 #[.slice (some ⟨g, 0, none⟩) l.length cap]).run Try.prog w.drew = .ok (.pointer (some ⟨g, 0, none⟩)) w.drew :=
    Lib.run_unsafeSliceData_row _ _ _ _ _ _ (by omega)
  have hUS : (Builtin.unsafeString_ #[57, 3] 9 #[.pointer (some ⟨g, 0, none⟩), .int .i64 l.length]).run Try.prog w.drew = .ok (.string (str l)) (w.drew.freeze ⟨g, 0, none⟩ l.length) := by
    refine Lib.run_unsafeString_row w.drew 57 3 9 5 Try.underlying57 (by kernel_rfl) g cur.size (by have hg' : w.drew.heap[g]? = some (.cells cur 5 (0, 0)) := hg; simp [World.shape?, hg']) l h0 (by omega) (by unfold maxLen at hcm; omega) ?_
    intro j x hx
    have := hown.cells (g := g) rfl j (.int .u8 x.toNat) (by rw [List.getElem?_map, hx]; rfl)
    exact this
  have HK := Lib.hid (keep_freeze (w := w.drew) (hs2 g rfl) l.length)
  have HG := Lib.hid hg
  clear hown hbk hg htake hcs
  go_enter Try.func20, Try.ntmps20
  go_wp2
  go_region
  all_goals (go_wp2; go_ret; exact ⟨rfl, (show KeepS S w w.drew from ⟨rfl, rfl, rfl, Nat.le_refl _, fun _ _ => rfl⟩).trans HK.out⟩)

theorem stringS_any (b : Nat) (S : Nat → Prop) (l : List UInt8) (w : World) (h : BldS b S l w) :
    Calls Try.prog 20 #[.pointer (some ⟨b, 0, none⟩)] w fun e w' => e = .returned (.string (str l)) ∧ KeepS S w w' := by
  by_cases h0 : l = []
  · subst h0
    have hk : ∀ {e : Ending} {w' : World}, (e = .returned (.string ⟨#[]⟩) ∧ Below w.heap.size w w') → e = .returned (.string (str [])) ∧ KeepS S w w' := fun ⟨h1, h2⟩ => ⟨h1, KeepS.of h2 fun k hk => h.lt hk⟩
    obtain ⟨p, v, hp, hbk, hown, hne, hs1, hs2, hs3⟩ := h
    rcases hown.2 with ⟨rfl, _⟩ | ⟨g, cap, cur, rfl, _, hg, _⟩
    · exact (Any.Builder_String_nil Try.lays169 Try.Builder_Extra_169 w.heap.size b p w hbk).mono fun _ _ h => hk h
    · by_cases hc0 : cap = 0
      · subst hc0
        exact (Any.Builder_String_noroom Try.lays169 Try.Builder_Extra_169 w.heap.size b g p cur w (Nat.le_refl _) hbk hg).mono fun _ _ h => hk h
      · exact (Any.Builder_String_room Try.lays169 Try.Builder_Extra_169 w.heap.size b g cap p w hc0 hbk).mono fun _ _ h => hk h
  · exact stringS_ne b S l w h h0
end Go.Proofs.Ytmpkbjkdmbgmhaa
