/- What is known of the memory, in one hypothesis: a list of blocks and rows; and what each operation does to it. No function of the program. -/
import Derived.Test.YthamhaomfdgdjaaMake
import Derived.Test.YthamhaomfdgdjaaReg
import Derived.Test.YthamhaomfdgdjaaBB
import Derived.Laws.CopyOwn
import Derived.Laws.CopyRow
namespace Go.Proofs.Ythamhaomfdgdjaa
open Go.RowKit

/-- A thing in memory. -/
inductive Ent where
  | blk (b : Nat) (e : TypeId) (L : List Value)
  | own (e : TypeId) (s : Nat) (v : Value) (n : Nat) (xs : List Value)
  | obj (b : Nat) (o : Obj)

def Ent.foot : Ent → Option Nat
  | .blk b _ _ => some b
  | .own _ _ v _ _ => v.ownBlock
  | .obj b _ => some b
def Ent.holds (w : World) : Ent → Prop
  | .blk b e L => w.heap[b]? = some (.cells L.toArray e (0, 0))
  | .own e s v n xs => w.ownsRow 0 e s v n xs
  | .obj b o => w.heap[b]? = some o

/-- Where a thing stands in a list, and the list with another in its place. -/
inductive At : List Ent → Ent → (Ent → List Ent) → Prop where
  | here {x : Ent} {H : List Ent} : At (x :: H) x (fun z => z :: H)
  | there {x y : Ent} {H : List Ent} {f : Ent → List Ent} : At H x f → At (y :: H) x (fun z => y :: f z)

theorem At.split {H : List Ent} {x : Ent} {f : Ent → List Ent} (h : At H x f) : ∃ p q, H = p ++ x :: q ∧ ∀ z, f z = p ++ z :: q := by
  induction h with
  | here => exact ⟨[], _, rfl, fun _ => rfl⟩
  | there _ ih =>
    obtain ⟨p, q, h1, h2⟩ := ih
    exact ⟨_ :: p, q, by rw [h1]; rfl, fun z => by show _ :: _ = _; rw [h2 z]; rfl⟩
theorem At.mem {H : List Ent} {x : Ent} {f : Ent → List Ent} (h : At H x f) : x ∈ H := by
  obtain ⟨p, q, rfl, _⟩ := h.split
  simp

structure St (K : Nat → Prop) (w0 w : World) (H : List Ent) : Prop where
  base : ∀ k, K k → k < w0.heap.size
  os : w.os = w0.os
  tape : w.tape = w0.tape
  output : w.output = w0.output
  size : w0.heap.size ≤ w.heap.size
  keep : ∀ k, K k → w.heap[k]? = w0.heap[k]?
  all : ∀ x ∈ H, x.holds w
  off : ∀ x ∈ H, ∀ b, x.foot = some b → ¬ K b
  apart : H.Pairwise fun x y => ∀ b, x.foot = some b → y.foot ≠ some b

/-- All that was there is kept. -/
def Kp (w0 : World) (k : Nat) : Prop := k < w0.heap.size
/-- All that was there but block b. -/
def Km (w0 : World) (b : Nat) (k : Nat) : Prop := k < w0.heap.size ∧ k ≠ b

section
variable {K : Nat → Prop} {w0 w w' : World} {H : List Ent} {x y : Ent} {f : Ent → List Ent}

theorem Ent.lt (h : x.holds w) {b : Nat} (hb : x.foot = some b) : b < w.heap.size := by
  cases x with
  | blk b' e L => cases hb; exact (Array.getElem?_eq_some_iff.1 h).1
  | obj b' o => cases hb; exact (Array.getElem?_eq_some_iff.1 h).1
  | own e s v n xs => exact (World.ownsRow.lt h b hb).2
theorem Ent.keep (h : x.holds w) (hk : ∀ k, x.foot = some k → w'.heap[k]? = w.heap[k]?) : x.holds w' := by
  cases x with
  | blk b e L => exact (hk b rfl).trans h
  | obj b o => exact (hk b rfl).trans h
  | own e s v n xs =>
    refine ⟨h.1, ?_⟩
    rcases h.2 with h2 | ⟨g, cap, cur, rfl, hB, hg, r⟩
    · exact .inl h2
    · exact .inr ⟨g, cap, cur, rfl, hB, (hk g rfl).trans hg, r⟩

theorem St.start (w : World) : St (Kp w) w w [] := ⟨fun _ h => h, rfl, rfl, rfl, Nat.le_refl _, fun _ _ => rfl, fun _ h => (by cases h), fun _ h => (by cases h), .nil⟩
theorem St.start1 (hx : x.holds w) {b : Nat} (hb : x.foot = some b) : St (Km w b) w w [x] :=
  ⟨fun _ h => h.1, rfl, rfl, rfl, Nat.le_refl _, fun _ _ => rfl, fun z h => (by rw [List.mem_singleton.1 h]; exact hx), fun z h k hk hK => (by rw [List.mem_singleton.1 h, hb] at hk; cases hk; exact hK.2 rfl), List.pairwise_singleton _ _⟩
theorem St.of_below (h : Below w0.heap.size w0 w) : St (Kp w0) w0 w [] := ⟨fun _ h => h, h.os, h.tape, h.output, h.size, h.block, fun _ h => (by cases h), fun _ h => (by cases h), .nil⟩
theorem St.below (h : St (Kp w0) w0 w H) : Below w0.heap.size w0 w := ⟨h.os, h.tape, h.output, h.size, h.keep⟩
theorem St.grownBy {b : Nat} (h : St (Km w0 b) w0 w H) : w0.grownBy w (some b) := ⟨h.os, h.tape, h.output, h.size, fun k hk hne => h.keep k ⟨hk, fun e => hne (by rw [e])⟩⟩

theorem grown_of_ext (h : Below w.heap.size w w') : w.grownBy w' none := ⟨h.os, h.tape, h.output, h.size, fun k hk _ => h.block k hk⟩
theorem ext_of_grown (h : w.grownBy w' none) : Below w.heap.size w w' := ⟨h.os, h.tape, h.output, h.size, fun k hk => h.block k hk (by simp)⟩

theorem St.get (h : St K w0 w H) (hat : At H x f) : x.holds w := h.all x hat.mem

/-- One thing is turned into another. -/
theorem St.upd (h : St K w0 w H) (hat : At H x f) (hg : w.grownBy w' x.foot) (hy : y.holds w') (hf : ∀ b, y.foot = some b → x.foot = some b ∨ w.heap.size ≤ b) : St K w0 w' (f y) := by
  obtain ⟨p, q, rfl, hf2⟩ := hat.split
  rw [hf2]
  have hap := List.pairwise_append.1 h.apart
  have hap2 := List.pairwise_cons.1 hap.2.1
  have hx := h.all x (by simp)
  have hne : ∀ z, z ∈ p ∨ z ∈ q → ∀ k, z.foot = some k → x.foot ≠ some k := by
    rintro z (hz | hz) k hk
    · exact hap.2.2 z hz x (by simp) k hk
    · exact fun e => hap2.1 z hz k e hk
  have hlt : ∀ z, z ∈ p ∨ z ∈ q → ∀ k, z.foot = some k → k < w.heap.size := fun z hz k hk => Ent.lt (h.all z (by rcases hz with hz | hz <;> simp [hz])) hk
  have hyz : ∀ z, z ∈ p ∨ z ∈ q → ∀ k, z.foot = some k → y.foot ≠ some k := fun z hz k hk e => by
    rcases hf k e with h1 | h1
    · exact hne z hz k hk h1
    · have := hlt z hz k hk; omega
  refine ⟨h.base, hg.os.trans h.os, hg.tape.trans h.tape, hg.output.trans h.output, Nat.le_trans h.size hg.size, fun k hk => (hg.block k (Nat.lt_of_lt_of_le (h.base k hk) h.size) (fun e => h.off x (by simp) k e.symm hk)).trans (h.keep k hk), fun z hz => ?_, fun z hz b hb => ?_, ?_⟩
  · rcases List.mem_append.1 hz with hz | hz
    · exact Ent.keep (h.all z (by simp [hz])) fun k hk => hg.block k (hlt z (.inl hz) k hk) (fun e => hne z (.inl hz) k hk e.symm)
    · rcases List.mem_cons.1 hz with rfl | hz
      · exact hy
      · exact Ent.keep (h.all z (by simp [hz])) fun k hk => hg.block k (hlt z (.inr hz) k hk) (fun e => hne z (.inr hz) k hk e.symm)
  · rcases List.mem_append.1 hz with hz | hz
    · exact h.off z (by simp [hz]) b hb
    · rcases List.mem_cons.1 hz with rfl | hz
      · rcases hf b hb with h1 | h1
        · exact h.off x (by simp) b h1
        · intro hK; have := h.base b hK; have := h.size; omega
      · exact h.off z (by simp [hz]) b hb
  · refine List.pairwise_append.2 ⟨hap.1, List.pairwise_cons.2 ⟨fun z hz b hb e => hyz z (.inr hz) b e hb, hap2.2⟩, fun z hz u hu b hb => ?_⟩
    rcases List.mem_cons.1 hu with rfl | hu
    · exact hyz z (.inl hz) b hb
    · exact hap.2.2 z hz u (by simp [hu]) b hb

/-- Something new. -/
theorem St.add (h : St K w0 w H) (hg : w.grownBy w' none) (hy : y.holds w') (hf : ∀ b, y.foot = some b → w.heap.size ≤ b) : St K w0 w' (y :: H) := by
  have hlt : ∀ z ∈ H, ∀ k, z.foot = some k → k < w.heap.size := fun z hz k hk => Ent.lt (h.all z hz) hk
  refine ⟨h.base, hg.os.trans h.os, hg.tape.trans h.tape, hg.output.trans h.output, Nat.le_trans h.size hg.size, fun k hk => (hg.block k (Nat.lt_of_lt_of_le (h.base k hk) h.size) (by simp)).trans (h.keep k hk), fun z hz => ?_, fun z hz b hb => ?_, List.pairwise_cons.2 ⟨fun z hz b hb e => ?_, h.apart⟩⟩
  · rcases List.mem_cons.1 hz with rfl | hz
    · exact hy
    · exact Ent.keep (h.all z hz) fun k hk => hg.block k (hlt z hz k hk) (by simp)
  · rcases List.mem_cons.1 hz with rfl | hz
    · intro hK; have := hf b hb; have := h.base b hK; have := h.size; omega
    · exact h.off z hz b hb
  · have := hlt z hz b e; have := hf b hb; omega
theorem St.same (h : St K w0 w H) (hg : w.grownBy w' none) : St K w0 w' H :=
  ⟨h.base, hg.os.trans h.os, hg.tape.trans h.tape, hg.output.trans h.output, Nat.le_trans h.size hg.size, fun k hk => (hg.block k (Nat.lt_of_lt_of_le (h.base k hk) h.size) (by simp)).trans (h.keep k hk), fun z hz => Ent.keep (h.all z hz) fun k hk => hg.block k (Ent.lt (h.all z hz) hk) (by simp), h.off, h.apart⟩
theorem St.ext (h : St K w0 w H) (hb : Below w.heap.size w w') : St K w0 w' H := h.same (grown_of_ext hb)
theorem St.drew (h : St K w0 w H) : St K w0 w.drew H := h.ext ((Below.refl _ w).drew)
theorem St.drop (h : St K w0 w (x :: H)) : St K w0 w H := ⟨h.base, h.os, h.tape, h.output, h.size, h.keep, fun z hz => h.all z (by simp [hz]), fun z hz => h.off z (by simp [hz]), (List.pairwise_cons.1 h.apart).2⟩
theorem St.sub {H' : List Ent} (h : St K w0 w H) (hs : H'.Sublist H) : St K w0 w H' := ⟨h.base, h.os, h.tape, h.output, h.size, h.keep, fun z hz => h.all z (hs.subset hz), fun z hz => h.off z (hs.subset hz), h.apart.sublist hs⟩
theorem St.swap (h : St K w0 w (x :: y :: H)) : St K w0 w (y :: x :: H) := by
  have h1 := List.pairwise_cons.1 h.apart
  have h2 := List.pairwise_cons.1 h1.2
  refine ⟨h.base, h.os, h.tape, h.output, h.size, h.keep, fun z hz => h.all z (by simp at hz ⊢; rcases hz with h | h | h <;> simp [h]), fun z hz => h.off z (by simp at hz ⊢; rcases hz with h | h | h <;> simp [h]), ?_⟩
  refine List.pairwise_cons.2 ⟨fun z hz b hb e => ?_, List.pairwise_cons.2 ⟨fun z hz => h1.1 z (by simp [hz]), h2.2⟩⟩
  rcases List.mem_cons.1 hz with rfl | hz
  · exact h1.1 y (by simp) b e hb
  · exact h2.1 z hz b hb e
theorem St.nil (h : St K w0 w H) (e : TypeId) (s : Nat) : St K w0 w (.own e s (.slice none 0 0) 0 [] :: H) :=
  h.add ⟨rfl, rfl, rfl, Nat.le_refl _, fun _ _ _ => rfl⟩ ⟨by simp, .inl ⟨rfl, rfl⟩⟩ (fun b hb => by cases hb)

theorem St.dist {y : Ent} {c d : Nat} (h : St K w0 w H) (i j : Nat) (hij : i < j) (hx : H[i]? = some x) (hy : H[j]? = some y) (hc : x.foot = some c) (hd : y.foot = some d) : c ≠ d := by
  intro e
  subst e
  obtain ⟨hi, rfl⟩ := List.getElem?_eq_some_iff.1 hx
  obtain ⟨hj, rfl⟩ := List.getElem?_eq_some_iff.1 hy
  exact List.pairwise_iff_getElem.1 h.apart i j hi hj hij c hc hd
/-- A row of a callee's. -/
theorem St.got {e : TypeId} {s : Nat} {v : Value} {n : Nat} {xs : List Value} (h : St K w0 w H) (hb : Below w.heap.size w w') (hown : w'.ownsRow w.heap.size e s v n xs) : St K w0 w' (.own e s v n xs :: H) :=
  h.add (grown_of_ext hb) (ownsRow_base hown (Nat.zero_le _)) (fun b hb => (hown.lt b hb).1)
/-- A row, from the world at first. -/
theorem St.own {e : TypeId} {s : Nat} {v : Value} {n : Nat} {xs : List Value} (h : St (Kp w0) w0 w H) (hat : At H (.own e s v n xs) f) : w.ownsRow w0.heap.size e s v n xs := by
  have h1 := h.get hat
  refine ⟨h1.1, ?_⟩
  rcases h1.2 with h2 | ⟨g, cap, cur, rfl, hB, r⟩
  · exact .inl h2
  · exact .inr ⟨g, cap, cur, rfl, Nat.le_of_not_lt (h.off _ hat.mem g rfl), r⟩
theorem St.blkOwn {b : Nat} {e : TypeId} {L : List Value} {n : Nat} (h : St (Kp w0) w0 w H) (hat : At H (.blk b e L) f) (hn : L.length = n) (hm : n ≤ maxLen) : w.ownsRow w0.heap.size e 1 (.slice (some ⟨b, 0, none⟩) n n) n L :=
  Blk.own (h.get hat) (Nat.le_of_not_lt (h.off _ hat.mem b rfl)) hn hm

/-! ### Reading -/
theorem St.rd {A : Option Addr} {xs : List Value} (h : St K w0 w H) (hr : Rd w0 A xs) (hK : ∀ a, A = some a → a.block < w0.heap.size → K a.block) : Rd w A xs := by
  rcases hr with hr | ⟨b, o, rfl, hr⟩
  · exact .inl hr
  · by_cases hx : xs = []
    · exact .inl hx
    · obtain ⟨b', o', hA, hlt⟩ := Rd.lt (.inr ⟨b, o, rfl, hr⟩) hx
      cases hA
      exact .inr ⟨b, o, rfl, fun i hi => (World.cell?_of_block (a := ⟨b, o + i, none⟩) (h.keep b (hK _ rfl hlt))).trans (hr i hi)⟩
theorem St.rdp {A : Option Addr} {xs : List Value} (h : St (Kp w0) w0 w H) (hr : Rd w0 A xs) : Rd w A xs := h.rd hr fun _ _ hlt => hlt
theorem St.rdm {A : Option Addr} {xs : List Value} {b : Nat} (h : St (Km w0 b) w0 w H) (hr : Rd w0 A xs) (hne : ∀ a, A = some a → a.block ≠ b) : Rd w A xs := h.rd hr fun _ ha hlt => ⟨hlt, hne _ ha⟩
theorem St.blkRd {b : Nat} {e : TypeId} {L : List Value} (h : St K w0 w H) (hat : At H (.blk b e L) f) : Rd w (some ⟨b, 0, none⟩) L := Blk.rd (h.get hat)
theorem St.ownRd {e : TypeId} {A : Option Addr} {n n' c : Nat} {xs : List Value} (h : St K w0 w H) (hat : At H (.own e 1 (.slice A n c) n' xs) f) : Rd w A xs := by
  obtain ⟨A', c', e1, -, -, hr, -⟩ := own_rd (h.get hat)
  cases e1; exact hr
theorem Rd.take {A : Option Addr} {xs : List Value} (h : Rd w A xs) (n : Nat) : Rd w A (xs.take n) := by
  rcases h with h | ⟨b, o, rfl, h⟩
  · exact .inl (by rw [h]; simp)
  · refine Rd.mk fun i hi => ?_
    rw [List.length_take] at hi
    rw [h i (by omega), List.getElem?_take, if_pos (by omega)]
theorem Rd.drop {b o : Nat} {xs : List Value} (h : Rd w (some ⟨b, o, none⟩) xs) (n : Nat) : Rd w (some ⟨b, o + n, none⟩) (xs.drop n) := by
  rcases h with h | ⟨b', o', e, h⟩
  · exact .inl (by rw [h]; simp)
  · cases e
    refine Rd.mk fun i hi => ?_
    rw [List.length_drop] at hi
    rw [show o + n + i = o + (n + i) by omega, h (n + i) (by omega), List.getElem?_drop]
theorem Rd.cell {b o : Nat} {xs : List Value} (h : Rd w (some ⟨b, o, none⟩) xs) {i : Nat} (hi : i < xs.length) : w.cell? ⟨b, o + i, none⟩ = xs[i]? := by
  rcases h with h | ⟨b', o', e, h⟩
  · rw [h] at hi; exact absurd hi (Nat.not_lt_zero _)
  · cases e; exact h i hi
theorem mapGet {α : Type} {g : α → Value} {xs : List α} {i : Nat} (d : α) (h : i < xs.length) : (xs.map g)[i]? = some (g (xs.getD i d)) := by
  rw [List.getElem?_map, List.getD_eq_getElem?_getD, List.getElem?_eq_getElem h]; rfl
theorem mapGetB {xs : List UInt8} {i : Nat} (h : i < xs.length) : (xs.map bV)[i]? = some (.int .u8 ((xs.getD i 0).toNat : Int)) := mapGet 0 h
theorem arrGet {α : Type} {g : α → Value} {xs : List α} {i : Nat} (d : α) (h : i < xs.length) : (xs.map g).toArray[i]? = some (g (xs.getD i d)) := by
  rw [List.getElem?_toArray]; exact mapGet d h
/-- The block and the place of a slice's first cell. -/
def ab (A : Option Addr) : Nat := (A.map (·.block)).getD 0
def ao (A : Option Addr) : Nat := (A.map (·.off)).getD 0
theorem Rd.at {A : Option Addr} {xs : List Value} (h : Rd w A xs) {i : Nat} (hi : i < xs.length) : A = some ⟨ab A, ao A, none⟩ ∧ w.cell? ⟨ab A, ao A + i, none⟩ = xs[i]? := by
  rcases h with h | ⟨b, o, rfl, h⟩
  · rw [h] at hi; exact absurd hi (Nat.not_lt_zero _)
  · exact ⟨rfl, h i hi⟩

/-! ### Writing -/
theorem addr_add (b o j : Nat) : (⟨b, o, none⟩ : Addr).add j = ⟨b, o + j, none⟩ := by unfold Addr.add; split <;> simp_all
theorem setCell_grownBy (w : World) (b i : Nat) (v : Value) : w.grownBy (w.setCell ⟨b, i, none⟩ v) (some b) := grownBy_setCells b [v] i w
theorem setRow_grownBy (w : World) (b : Nat) (cs : Array Value) : w.grownBy (w.setRow b cs) (some b) := ⟨rfl, rfl, rfl, by simp, fun k _ hne => setRow_other w b k cs (fun e => hne (by rw [e]))⟩
theorem alloc_grownBy (w : World) (o : Obj) : w.grownBy (w.alloc o) none := ⟨rfl, rfl, rfl, by simp, fun k hk _ => Below.heap_alloc w o k hk⟩
theorem St.blk {b : Nat} {e : TypeId} {L : List Value} (h : St K w0 w H) (hat : At H (.blk b e L) f) : Blk w b e L := h.get hat
theorem St.updB {b : Nat} {e : TypeId} {L L' : List Value} (h : St K w0 w H) (hat : At H (.blk b e L) f) (hg : w.grownBy w' (some b)) (hB : Blk w' b e L') : St K w0 w' (f (.blk b e L')) := h.upd hat hg (y := .blk b e L') hB fun _ h => .inl h
theorem St.setCell {b : Nat} {e : TypeId} {L : List Value} (h : St K w0 w H) (hat : At H (.blk b e L) f) (i : Nat) (v : Value) : St K w0 (w.setCell ⟨b, i, none⟩ v) (f (.blk b e (L.set i v))) :=
  h.upd hat (setCell_grownBy w b i v) (Blk.set (h.get hat) i v) fun k hk => .inl (by simpa [Ent.foot] using hk)
theorem St.setRow {b : Nat} {e : TypeId} {L : List Value} (h : St K w0 w H) (hat : At H (.blk b e L) f) (L' : List Value) : St K w0 (w.setRow b L'.toArray) (f (.blk b e L')) :=
  h.upd hat (setRow_grownBy w b _) (setRow_heap w b _ _ e _ (h.get hat)) fun k hk => .inl (by simpa [Ent.foot] using hk)
theorem St.alloc (h : St K w0 w H) (L : List Value) (e : TypeId) : St K w0 (w.alloc (.cells L.toArray e)) (.blk w.heap.size e L :: H) :=
  h.add (alloc_grownBy w _) (heap_alloc_new w _) fun b hb => by cases hb; exact Nat.le_refl _
theorem St.allocOwn (h : St K w0 w H) (L : List Value) (e : TypeId) (n : Nat) (hn : L.length = n) (hm : n ≤ maxLen) : St K w0 (w.alloc (.cells L.toArray e)) (.own e 1 (.slice (some ⟨w.heap.size, 0, none⟩) n n) n L :: H) :=
  h.add (alloc_grownBy w _) (Blk.own (B := 0) (Blk.new w L e) (Nat.zero_le _) hn hm) fun b hb => by cases hb; exact Nat.le_refl _
theorem ownSetCell {e : TypeId} {g n c : Nat} {xs : List Value} (h : w.ownsRow 0 e 1 (.slice (some ⟨g, 0, none⟩) n c) n xs) (i : Nat) (hi : i < n) (v : Value) : (w.setCell ⟨g, i, none⟩ v).ownsRow 0 e 1 (.slice (some ⟨g, 0, none⟩) n c) n (xs.set i v) := by
  obtain ⟨h1, h2⟩ := h
  refine ⟨by simpa using h1, ?_⟩
  rcases h2 with ⟨h2, _⟩ | ⟨g', cap, cur, e1, hB, hg, hn, hc, hs, ht⟩
  · cases h2
  · cases e1
    refine .inr ⟨g, c, cur.setIfInBounds i v, rfl, hB, ?_, hn, hc, by simpa using hs, ?_⟩
    · simp [World.setCell, Array.getElem?_modify, hg]
    · rw [Array.toList_setIfInBounds, List.take_set, ht]
theorem St.setOwn {e : TypeId} {g n c : Nat} {xs : List Value} (h : St K w0 w H) (hat : At H (.own e 1 (.slice (some ⟨g, 0, none⟩) n c) n xs) f) (i : Nat) (hi : i < n) (v : Value) : St K w0 (w.setCell ⟨g, i, none⟩ v) (f (.own e 1 (.slice (some ⟨g, 0, none⟩) n c) n (xs.set i v))) :=
  h.upd hat (setCell_grownBy w g i v) (ownSetCell (h.get hat) i hi v) fun k hk => .inl (by simpa [Ent.foot] using hk)
theorem ownBlock_frozen {e : TypeId} {g n n' c : Nat} {xs : List Value} (h : w.ownsRow 0 e 1 (.slice (some ⟨g, 0, none⟩) n c) n' xs) (i : Nat) : w.frozen? ⟨g, i, none⟩ = false := by
  rcases h.2 with ⟨h2, _⟩ | ⟨g', cap, cur, e1, hB, hg, r⟩
  · cases h2
  · cases e1; simp [World.frozen?, hg]
end

/-! ### Operations -/
section
variable {P : Program} {K : Nat → Prop} {w0 w w' : World} {H : List Ent} {f : Ent → List Ent} {ops : Array Oper} {rest : List Oper} {o : Oper} {a : Act} {Q : Exit → Act → World → Prop}

theorem S_val {v : Value} (hgd : o.guard = none) (hr : (execOp a.eval o).run P w = .ok (.value v) w') (h : wpList P ops Q rest (a.put o.dst v) w') : wpList P ops Q (o :: rest) a w := by
  refine wpList_plain hgd fun _ hK => ?_
  unfold Oper.wp
  rw [hr]
  exact hK _ _ h
theorem S_skip (hgd : o.guard = none) (hr : (execOp a.eval o).run P w = .ok .skip w') (h : wpList P ops Q rest (a.put o.dst undef) w') : wpList P ops Q (o :: rest) a w := by
  refine wpList_plain hgd fun _ hK => ?_
  unfold Oper.wp
  rw [hr]
  exact hK _ _ h

/-- A guarded operation. -/
theorem S_guard {g : Nat} {want t : Bool} {dst : Option Tmp} {op : Op} {ty : TypeId} {pos : String} {after : Array Edge} (ho : o = ⟨dst, op, ty, pos, after, some (g, want)⟩) (hy : yielded ops a.tmps g = some t)
    (h1 : t = want → wpList P ops Q (⟨dst, op, ty, pos, after, none⟩ :: rest) a w) (h2 : t = !want → wpList P ops Q rest (a.put dst undef) w) : wpList P ops Q (o :: rest) a w := by
  subst ho
  by_cases h : t = want
  · have := h1 h
    have hw : Region.wanted ⟨dst, op, ty, pos, after, some (g, want)⟩ (yielded ops a.tmps) = true := by simp [Region.wanted, hy, h]
    unfold wpList at this ⊢
    rw [if_pos hw]
    rw [if_pos (show Region.wanted ⟨dst, op, ty, pos, after, none⟩ (yielded ops a.tmps) = true from rfl)] at this
    exact this
  · have hw : ¬ Region.wanted ⟨dst, op, ty, pos, after, some (g, want)⟩ (yielded ops a.tmps) = true := by simp [Region.wanted, hy, h]
    unfold wpList
    rw [if_neg hw]
    exact h2 (by cases t <;> cases want <;> simp_all)
theorem S_guardT {g : Nat} {want t : Bool} {dst : Option Tmp} {op : Op} {ty : TypeId} {pos : String} {after : Array Edge} (ho : o = ⟨dst, op, ty, pos, after, some (g, want)⟩) (hy : yielded ops a.tmps g = some t) (ht : t = want)
    (h1 : wpList P ops Q (⟨dst, op, ty, pos, after, none⟩ :: rest) a w) : wpList P ops Q (o :: rest) a w :=
  S_guard ho hy (fun _ => h1) (fun h => absurd (ht.symm.trans h) (by cases want <;> simp))
theorem S_guardF {g : Nat} {want t : Bool} {dst : Option Tmp} {op : Op} {ty : TypeId} {pos : String} {after : Array Edge} (ho : o = ⟨dst, op, ty, pos, after, some (g, want)⟩) (hy : yielded ops a.tmps g = some t) (ht : t = !want)
    (h2 : wpList P ops Q rest (a.put dst undef) w) : wpList P ops Q (o :: rest) a w :=
  S_guard ho hy (fun h => absurd (h.symm.trans ht) (by cases want <;> simp)) (fun _ => h2)

/-- Is a type an array's or a struct's? -/
def agg? (P : Program) (t : TypeId) : Option Bool := (P.underlying t).map fun d => match d with | .struct _ | .array _ _ => true | _ => false
theorem run_isAgg {t : TypeId} {b : Bool} (h : agg? P t = some b) (w : World) : (isAgg t).run P w = .ok b w := by
  unfold agg? at h
  cases hu : P.underlying t with
  | none => rw [hu] at h; cases h
  | some d =>
    rw [hu] at h
    unfold isAgg
    rw [Sem.run_bind, run_underlying hu w]
    cases d <;> simp_all
theorem run_sizeOf {t : TypeId} {n : Nat} (h : (P.info? t).map (·.size) = some n) (w : World) : (Go.sizeOf t).run P w = .ok n w := by
  cases hq : P.info? t with
  | none => simp [hq] at h
  | some i => have : i.size = n := (by simpa [hq] using h); simp [Go.sizeOf, typeInfo, hq, this]

theorem run_ld {ty : TypeId} {x : Operand} {p : Addr} {v : Value} (ho : o.op = .load ty x) (hx : a.eval x = .pointer (some p)) (ht : agg? P ty = some false) (hc : w.cell? p = some v) : (execOp a.eval o).run P w = .ok (.value v) w := by
  simp [execOp, ho, hx, Instr.loadAt, Instr.sureAddr, loadVar, run_isAgg ht, hc]
theorem run_loadPart {ty t : TypeId} {g off m : Nat} {L : List Value} (hg : w.heap[g]? = some (.cells L.toArray t (0, 0))) (ht : agg? P ty = some true) (hs : (P.info? ty).map (·.size) = some m) (hm : off + m ≤ L.length) :
    (loadVar ty ⟨g, off, none⟩).run P w = .ok (.agg ((L.drop off).take m).toArray) w := by
  have hl : (loadCells ⟨g, off, none⟩ m).run P w = .ok ((L.drop off).take m).toArray w := by
    have := run_loadCells_list (P := P) w ⟨g, off, none⟩ ((L.drop off).take m) (fun j v hv => by
      have hadd : (⟨g, off, none⟩ : Addr).add j = ⟨g, off + j, none⟩ := by unfold Addr.add; split <;> simp_all
      have hj : j < m := by have := (List.getElem?_eq_some_iff.1 hv).1; rw [List.length_take] at this; omega
      rw [hadd, cell_of_row w g (off + j) _ t _ hg, List.getElem?_toArray]
      rw [List.getElem?_take, if_pos hj, List.getElem?_drop] at hv
      exact hv)
    rwa [List.length_take, List.length_drop, Nat.min_eq_left (by omega)] at this
  simp [loadVar, run_isAgg ht, run_sizeOf hs, hl]
theorem run_ldPart {ty t : TypeId} {x : Operand} {g off m : Nat} {L : List Value} (ho : o.op = .load ty x) (hx : a.eval x = .pointer (some ⟨g, off, none⟩)) (hg : w.heap[g]? = some (.cells L.toArray t (0, 0))) (ht : agg? P ty = some true) (hs : (P.info? ty).map (·.size) = some m) (hm : off + m ≤ L.length) :
    (execOp a.eval o).run P w = .ok (.value (.agg ((L.drop off).take m).toArray)) w := by
  simp [execOp, ho, hx, Instr.loadAt, Instr.sureAddr, run_loadPart hg ht hs hm]
theorem run_storePart {ty t : TypeId} {g off : Nat} {L vs : List Value} {v : Value} (hv : v.cells = vs.toArray) (h1 : ∀ u ∈ vs, u.oneCell' = true) (hg : w.heap[g]? = some (.cells L.toArray t (0, 0))) (hs : (P.info? ty).map (·.size) = some vs.length) (hm : off + vs.length ≤ L.length) :
    (storeVar ty ⟨g, off, none⟩ v).run P w = .ok () (w.setRow g (splice L off vs).toArray) := by
  have hst := run_storeCells_at P g off t vs 0 L.toArray w hg (by simpa using hm) h1
  simp only [Nat.add_zero] at hst
  simp [storeVar, run_sizeOf hs, hv, hst, splice]
theorem run_stPart {ty t : TypeId} {x y : Operand} {g off : Nat} {L vs : List Value} {v : Value} (ho : o.op = .store ty x y) (hx : a.eval x = .pointer (some ⟨g, off, none⟩)) (hy : a.eval y = v) (hv : v.cells = vs.toArray) (h1 : ∀ u ∈ vs, u.oneCell' = true) (hg : w.heap[g]? = some (.cells L.toArray t (0, 0))) (hs : (P.info? ty).map (·.size) = some vs.length) (hm : off + vs.length ≤ L.length) :
    (execOp a.eval o).run P w = .ok .skip (w.setRow g (splice L off vs).toArray) := by
  simp [execOp, ho, hx, hy, Instr.storeAt, Instr.sureAddr, run_storePart hv h1 hg hs hm]
theorem splice_one (L : List Value) (i : Nat) (v : Value) (h : i < L.length) : splice L i [v] = L.set i v := by
  unfold splice
  rw [List.set_eq_take_append_cons_drop, if_pos h]; simp
theorem run_st {ty t : TypeId} {x y : Operand} {g i : Nat} {L : List Value} {v : Value} (ho : o.op = .store ty x y) (hx : a.eval x = .pointer (some ⟨g, i, none⟩)) (hy : a.eval y = v) (h1 : v.oneCell' = true) (hg : w.heap[g]? = some (.cells L.toArray t (0, 0))) (hs : (P.info? ty).map (·.size) = some 1) (hm : i < L.length) :
    (execOp a.eval o).run P w = .ok .skip (w.setCell ⟨g, i, none⟩ v) := by
  have hc : v.cells = [v].toArray := by cases v <;> first | rfl | cases h1
  rw [run_stPart ho hx hy hc (by simpa using h1) hg (by simpa using hs) (by simp; omega), splice_one L i v hm, setCell_eq_setRow w g i _ t _ v hg]
  simp
theorem run_stOwn {ty e : TypeId} {x y : Operand} {g i n c : Nat} {xs : List Value} {v : Value} (ho : o.op = .store ty x y) (hx : a.eval x = .pointer (some ⟨g, i, none⟩)) (hy : a.eval y = v) (h1 : v.oneCell' = true) (hg : w.ownsRow 0 e 1 (.slice (some ⟨g, 0, none⟩) n c) n xs) (hs : (P.info? ty).map (·.size) = some 1) (hm : i < n) :
    (execOp a.eval o).run P w = .ok .skip (w.setCell ⟨g, i, none⟩ v) := by
  rcases hg.2 with ⟨h2, _⟩ | ⟨g', cap, cur, e1, hB, hg', hn, hc, hsz, ht⟩
  · cases h2
  · cases e1
    have hg2 : w.heap[g]? = some (.cells cur.toList.toArray e (0, 0)) := by simpa using hg'
    exact run_st ho hx hy h1 hg2 hs (by simp; omega)

theorem R_ld (hS : St K w0 w H) {ty : TypeId} {x : Operand} {b i : Nat} {e : TypeId} {L : List Value} {v : Value} (ho : o.op = .load ty x) (hx : a.eval x = .pointer (some ⟨b, i, none⟩)) (hat : At H (.blk b e L) f) (ht : agg? P ty = some false) (hv : L[i]? = some v) : (execOp a.eval o).run P w = .ok (.value v) w :=
  run_ld ho hx ht ((Blk.cell (hS.get hat) i).trans hv)
theorem R_ldAll (hS : St K w0 w H) {ty : TypeId} {x : Operand} {b : Nat} {e : TypeId} {L : List Value} (ho : o.op = .load ty x) (hx : a.eval x = .pointer (some ⟨b, 0, none⟩)) (hat : At H (.blk b e L) f) (ht : agg? P ty = some true) (hs : (P.info? ty).map (·.size) = some L.length) : (execOp a.eval o).run P w = .ok (.value (.agg L.toArray)) w := by
  have := run_ldPart ho hx (hS.get hat) ht hs (by omega)
  simpa using this
theorem R_ldPart (hS : St K w0 w H) {ty : TypeId} {x : Operand} {b i m : Nat} {e : TypeId} {L : List Value} (ho : o.op = .load ty x) (hx : a.eval x = .pointer (some ⟨b, i, none⟩)) (hat : At H (.blk b e L) f) (ht : agg? P ty = some true) (hs : (P.info? ty).map (·.size) = some m) (hm : i + m ≤ L.length) : (execOp a.eval o).run P w = .ok (.value (.agg ((L.drop i).take m).toArray)) w :=
  run_ldPart ho hx (hS.get hat) ht hs hm
theorem R_ldOwn (hS : St K w0 w H) {ty : TypeId} {x : Operand} {g i n n' c : Nat} {e : TypeId} {xs : List Value} {v : Value} (ho : o.op = .load ty x) (hx : a.eval x = .pointer (some ⟨g, i, none⟩)) (hat : At H (.own e 1 (.slice (some ⟨g, 0, none⟩) n c) n' xs) f) (ht : agg? P ty = some false) (hv : xs[i]? = some v) : (execOp a.eval o).run P w = .ok (.value v) w :=
  run_ld ho hx ht (by have := (hS.ownRd hat).cell (i := i) (List.getElem?_eq_some_iff.1 hv).1; rw [Nat.zero_add] at this; exact this.trans hv)
theorem R_ldRd {ty : TypeId} {x : Operand} {A : Option Addr} {i : Nat} {xs : List Value} {v : Value} (hr : Rd w A xs) (ho : o.op = .load ty x) (hx : a.eval x = .pointer (some ⟨ab A, ao A + i, none⟩)) (ht : agg? P ty = some false) (hv : xs[i]? = some v) : (execOp a.eval o).run P w = .ok (.value v) w :=
  run_ld ho hx ht ((hr.at (List.getElem?_eq_some_iff.1 hv).1).2.trans hv)

/-! As laws of the walk. -/
theorem S_ld (hS : St K w0 w H) {ty : TypeId} {x : Operand} {b i : Nat} {e : TypeId} {L : List Value} {v : Value} (hgd : o.guard = none) (ho : o.op = .load ty x) (hx : a.eval x = .pointer (some ⟨b, i, none⟩)) (hat : At H (.blk b e L) f) (ht : agg? P ty = some false) (hv : L[i]? = some v)
    (h : wpList P ops Q rest (a.put o.dst v) w) : wpList P ops Q (o :: rest) a w :=
  S_val hgd (run_ld ho hx ht ((Blk.cell (hS.get hat) i).trans hv)) h
theorem S_ldOwn (hS : St K w0 w H) {ty : TypeId} {x : Operand} {g i n n' c : Nat} {e : TypeId} {xs : List Value} {v : Value} (hgd : o.guard = none) (ho : o.op = .load ty x) (hx : a.eval x = .pointer (some ⟨g, i, none⟩)) (hat : At H (.own e 1 (.slice (some ⟨g, 0, none⟩) n c) n' xs) f) (ht : agg? P ty = some false) (hv : xs[i]? = some v)
    (h : wpList P ops Q rest (a.put o.dst v) w) : wpList P ops Q (o :: rest) a w :=
  S_val hgd (run_ld ho hx ht (by have := (hS.ownRd hat).cell (i := i) (List.getElem?_eq_some_iff.1 hv).1; rw [Nat.zero_add] at this; exact this.trans hv)) h
theorem S_ldRd {ty : TypeId} {x : Operand} {A : Option Addr} {i : Nat} {xs : List Value} {v : Value} (hr : Rd w A xs) (hgd : o.guard = none) (ho : o.op = .load ty x) (hx : a.eval x = .pointer (some ⟨ab A, ao A + i, none⟩)) (ht : agg? P ty = some false) (hv : xs[i]? = some v)
    (h : wpList P ops Q rest (a.put o.dst v) w) : wpList P ops Q (o :: rest) a w :=
  S_val hgd (run_ld ho hx ht ((hr.at (List.getElem?_eq_some_iff.1 hv).1).2.trans hv)) h
theorem S_ldPart (hS : St K w0 w H) {ty : TypeId} {x : Operand} {b i m : Nat} {e : TypeId} {L : List Value} (hgd : o.guard = none) (ho : o.op = .load ty x) (hx : a.eval x = .pointer (some ⟨b, i, none⟩)) (hat : At H (.blk b e L) f) (ht : agg? P ty = some true) (hs : (P.info? ty).map (·.size) = some m) (hm : i + m ≤ L.length)
    (h : wpList P ops Q rest (a.put o.dst (.agg ((L.drop i).take m).toArray)) w) : wpList P ops Q (o :: rest) a w :=
  S_val hgd (run_ldPart ho hx (hS.get hat) ht hs hm) h
theorem S_ldAll (hS : St K w0 w H) {ty : TypeId} {x : Operand} {b : Nat} {e : TypeId} {L : List Value} (hgd : o.guard = none) (ho : o.op = .load ty x) (hx : a.eval x = .pointer (some ⟨b, 0, none⟩)) (hat : At H (.blk b e L) f) (ht : agg? P ty = some true) (hs : (P.info? ty).map (·.size) = some L.length)
    (h : wpList P ops Q rest (a.put o.dst (.agg L.toArray)) w) : wpList P ops Q (o :: rest) a w :=
  S_val hgd (run_ldPart ho hx (hS.get hat) ht hs (by omega)) (by simpa using h)
theorem S_st (hS : St K w0 w H) {ty : TypeId} {x y : Operand} {b i : Nat} {e : TypeId} {L : List Value} {v : Value} (hgd : o.guard = none) (ho : o.op = .store ty x y) (hx : a.eval x = .pointer (some ⟨b, i, none⟩)) (hy : a.eval y = v) (hat : At H (.blk b e L) f) (h1 : v.oneCell' = true) (hs : (P.info? ty).map (·.size) = some 1) (hm : i < L.length)
    (h : ∀ w', St K w0 w' (f (.blk b e (L.set i v))) → wpList P ops Q rest (a.put o.dst undef) w') : wpList P ops Q (o :: rest) a w :=
  S_skip hgd (run_st ho hx hy h1 (hS.get hat) hs hm) (h _ (hS.setCell hat i v))
theorem S_stOwn (hS : St K w0 w H) {ty : TypeId} {x y : Operand} {g i n c : Nat} {e : TypeId} {xs : List Value} {v : Value} (hgd : o.guard = none) (ho : o.op = .store ty x y) (hx : a.eval x = .pointer (some ⟨g, i, none⟩)) (hy : a.eval y = v) (hat : At H (.own e 1 (.slice (some ⟨g, 0, none⟩) n c) n xs) f) (h1 : v.oneCell' = true) (hs : (P.info? ty).map (·.size) = some 1) (hm : i < n)
    (h : ∀ w', St K w0 w' (f (.own e 1 (.slice (some ⟨g, 0, none⟩) n c) n (xs.set i v))) → wpList P ops Q rest (a.put o.dst undef) w') : wpList P ops Q (o :: rest) a w :=
  S_skip hgd (run_stOwn ho hx hy h1 (hS.get hat) hs hm) (h _ (hS.setOwn hat i hm v))
theorem S_stPart (hS : St K w0 w H) {ty : TypeId} {x y : Operand} {b i : Nat} {e : TypeId} {L vs : List Value} (hgd : o.guard = none) (ho : o.op = .store ty x y) (hx : a.eval x = .pointer (some ⟨b, i, none⟩)) (hy : a.eval y = .agg vs.toArray) (hat : At H (.blk b e L) f) (h1 : ∀ u ∈ vs, u.oneCell' = true) (hs : (P.info? ty).map (·.size) = some vs.length) (hm : i + vs.length ≤ L.length)
    (h : ∀ w', St K w0 w' (f (.blk b e (splice L i vs))) → wpList P ops Q rest (a.put o.dst undef) w') : wpList P ops Q (o :: rest) a w :=
  S_skip hgd (run_stPart ho hx hy rfl h1 (hS.get hat) hs hm) (h _ (hS.setRow hat _))
theorem splice_all (L vs : List Value) (h : vs.length = L.length) : splice L 0 vs = vs := by
  unfold splice; rw [Nat.zero_add, h]; simp
theorem S_stAll (hS : St K w0 w H) {ty : TypeId} {x y : Operand} {b : Nat} {e : TypeId} {L vs : List Value} (hgd : o.guard = none) (ho : o.op = .store ty x y) (hx : a.eval x = .pointer (some ⟨b, 0, none⟩)) (hy : a.eval y = .agg vs.toArray) (hat : At H (.blk b e L) f) (h1 : ∀ u ∈ vs, u.oneCell' = true) (hs : (P.info? ty).map (·.size) = some vs.length) (hm : vs.length = L.length)
    (h : ∀ w', St K w0 w' (f (.blk b e vs)) → wpList P ops Q rest (a.put o.dst undef) w') : wpList P ops Q (o :: rest) a w :=
  S_stPart hS hgd ho hx hy hat h1 hs (by omega) fun w' h' => h w' (by rw [splice_all L vs hm] at h'; exact h')

theorem run_alloc {t : TypeId} {z : Value} (ho : o.op = .alloc t) (hz : (P.info? t).map (·.zero) = some (some z)) : (execOp a.eval o).run P w = .ok (.value (.pointer (some ⟨w.heap.size, 0, none⟩))) (w.alloc (.cells z.cells t)) := by
  cases hq : P.info? t with
  | none => simp [hq] at hz
  | some i =>
    have hz' : i.zero = some z := by simpa [hq] using hz
    simp [execOp, ho, Instr.alloc, zeroValue, typeInfo, hq, hz', newVar, newRow]
theorem S_alloc (hS : St K w0 w H) {t : TypeId} {z : Value} {L : List Value} (hgd : o.guard = none) (ho : o.op = .alloc t) (hz : (P.info? t).map (·.zero) = some (some z)) (hL : z.cells = L.toArray)
    (h : ∀ b w', St K w0 w' (.blk b t L :: H) → wpList P ops Q rest (a.put o.dst (.pointer (some ⟨b, 0, none⟩))) w') : wpList P ops Q (o :: rest) a w :=
  S_val hgd (run_alloc ho hz) (h _ _ (by rw [hL]; exact hS.alloc L t))
theorem run_boxV {t : TypeId} {x : Operand} {v : Value} (ho : o.op = .box t x) (hx : a.eval x = v) : (execOp a.eval o).run P w = .ok (.value (.pointer (some ⟨w.heap.size, 0, none⟩))) (w.alloc (.cells v.cells t)) := by
  simp [execOp, ho, hx, Instr.box, newVar, newRow]
theorem S_box (hS : St K w0 w H) {t : TypeId} {x : Operand} {v : Value} {L : List Value} (hgd : o.guard = none) (ho : o.op = .box t x) (hx : a.eval x = v) (hL : v.cells = L.toArray)
    (h : ∀ b w', St K w0 w' (.blk b t L :: H) → wpList P ops Q rest (a.put o.dst (.pointer (some ⟨b, 0, none⟩))) w') : wpList P ops Q (o :: rest) a w :=
  S_val hgd (run_boxV ho hx) (h _ _ (by rw [hL]; exact hS.alloc L t))
theorem S_make (hS : St K w0 w H) {t e : TypeId} {z : Value} {bytes : Nat} (T : ElemT P t e z bytes) {l c : Operand} {kl kc : IntKind} {i j : Int} (n : Nat) (hgd : o.guard = none) (ho : o.op = .makeSlice t l c) (hl : a.eval l = .int kl i) (hc : a.eval c = .int kc j) (hi : i = (n : Int)) (hj : j = (n : Int)) (hz : z.cells = #[z]) (hb : bytes * n ≤ 140737488355328) (hm : n ≤ maxLen)
    (h : ∀ b w', St K w0 w' (.own e 1 (.slice (some ⟨b, 0, none⟩) n n) n (List.replicate n z) :: H) → wpList P ops Q rest (a.put o.dst (.slice (some ⟨b, 0, none⟩) n n)) w') : wpList P ops Q (o :: rest) a w := by
  subst hi hj
  have hr : (execOp a.eval o).run P w = .ok (.value (.slice (some ⟨w.heap.size, 0, none⟩) n n)) (w.alloc (.cells (rep n z) e)) := by
    simp [execOp, ho, hl, hc, run_make_rep T w kl kc n hz (by omega) (by unfold maxLen at hm; omega)]
  exact S_val hgd hr (h _ _ (hS.allocOwn (List.replicate n z) e n (by simp) hm))
theorem S_bslice (hS : St K w0 w H) {t e : TypeId} {n m : Nat} {parts : Array (Nat × Operand)} {L : List Value} {C : Array Value} (hgd : o.guard = none) (hr : (execOp a.eval o).run P w = .ok (.value (.slice (some ⟨w.heap.size, 0, none⟩) n n)) (w.alloc (.cells C e))) (hm : decide (n ≤ 16777216) = true) (ho : o.op = .buildSlice t m parts) (hC : C = L.toArray) (hn : L.length = n)
    (h : ∀ b w', St K w0 w' (.own e 1 (.slice (some ⟨b, 0, none⟩) n n) n L :: H) → wpList P ops Q rest (a.put o.dst (.slice (some ⟨b, 0, none⟩) n n)) w') : wpList P ops Q (o :: rest) a w := by
  subst hC
  exact S_val hgd hr (h _ _ (hS.allocOwn L e n hn (by have := of_decide_eq_true hm; unfold maxLen; omega)))
/-- append onto a row of ours. -/
theorem S_app {t e : TypeId} {z : Value} {bytes : Nat} (T : ElemT P t e z bytes) (hS : St K w0 w H) {s x : Operand} {tx : TypeId} {v : Value} {n : Nat} {xs : List Value} (hgd : o.guard = none)
    (ho : o.op = .call { callee := .builtin .append, args := #[s, x], argTypes := #[t, tx] }) (hsv : a.eval s = v) (hat : At H (.own e 1 v n xs) f) {xv : Value} (hxv : a.eval x = xv) {m : Nat} {news : List Value} (hs : Src P 1 tx xv m news w)
    (h63 : n + m ≤ maxLen) (hbytes : (n + m) * bytes ≤ 140737488355328)
    (h : ∀ A c w', St K w0 w' (f (.own e 1 (.slice A (n + m) c) (n + m) (xs ++ news))) → wpList P ops Q rest (a.put o.dst (.slice A (n + m) c)) w') : wpList P ops Q (o :: rest) a w := by
  have hown := hS.get hat
  obtain ⟨i, hi, hz, h1, h2⟩ := info_parts T.hi
  obtain ⟨v', w', hr, k1, k2, k3⟩ := run_append_src2 w 0 t tx (o.type) e i z bytes T.ht hi hz h1 h2 T.hz v n xs hown xv m news hs h63 hbytes (Nat.zero_le _)
  obtain ⟨A, c, rfl, -⟩ := own_rd k1
  refine S_val hgd (exec_append ho hsv hxv hr) (h A c w' (hS.upd hat k2 k1 fun b hb => ?_))
  rcases k3 with k3 | k3
  · exact .inl (by rw [← hb]; exact k3.symm)
  · right
    have : some b = some w.heap.size := by rw [← hb]; exact k3
    injection this with this
    omega
/-- append([]T(nil) or a nil row, ..): onto nothing. -/
theorem S_app0 {t e : TypeId} {z : Value} {bytes : Nat} (T : ElemT P t e z bytes) (hS : St K w0 w H) {s x : Operand} {tx : TypeId} (hgd : o.guard = none)
    (ho : o.op = .call { callee := .builtin .append, args := #[s, x], argTypes := #[t, tx] }) (hsv : a.eval s = .slice none 0 0) {xv : Value} (hxv : a.eval x = xv) {m : Nat} {news : List Value} (hs : Src P 1 tx xv m news w)
    (h63 : m ≤ maxLen) (hbytes : m * bytes ≤ 140737488355328)
    (h : ∀ A c w', St K w0 w' (.own e 1 (.slice A m c) m news :: H) → wpList P ops Q rest (a.put o.dst (.slice A m c)) w') : wpList P ops Q (o :: rest) a w :=
  S_app T (hS.nil e 1) hgd ho hsv .here hxv hs (by omega) (by rw [Nat.zero_add]; exact hbytes) fun A c w' h' => by
    simp only [Nat.zero_add, List.nil_append] at h' ⊢
    exact h A c w' h'
theorem S_copy (hS : St K w0 w H) {s x : Operand} {t tx el : TypeId} {b off dl dc : Nat} {e : TypeId} {L : List Value} {A : Option Addr} {sl sc : Nat} {xs : List Value} (hgd : o.guard = none)
    (ho : o.op = .call { callee := .builtin .copy, args := #[s, x], argTypes := #[t, tx] }) (hu : P.underlying t = some (.slice el)) (hsz : (P.info? el).map (·.size) = some 1) (hd : a.eval s = .slice (some ⟨b, off, none⟩) dl dc) (hat : At H (.blk b e L) f)
    (hx : a.eval x = .slice A sl sc) (hr : Rd w A xs) (hsl : xs.length = sl) (hn : sl ≤ dl) (hfit : off + sl ≤ L.length) (h1 : ∀ u ∈ xs, u.oneCell' = true) (hnil : A = none → sc = 0)
    (h : ∀ w', St K w0 w' (f (.blk b e (splice L off xs))) → wpList P ops Q rest (a.put o.dst (goInt (sl : Int))) w') : wpList P ops Q (o :: rest) a w := by
  subst hsl
  have hg := hS.get hat
  cases A with
  | none =>
    have hx0 : xs = [] := by
      rcases hr with h | ⟨_, _, h, _⟩
      · exact h
      · cases h
    subst hx0
    have := hnil rfl
    subst this
    refine S_val hgd (exec_copy ho hd hx (run_copy_nil (P := P) w t tx o.type el ⟨b, off, none⟩ dl dc hu (by rw [Option.isSome_map]; cases hq : P.info? el <;> simp_all))) (h _ ?_)
    have e1 : splice L off [] = L := by simp [splice]
    rw [e1]
    have := hS.upd hat (w' := w) ⟨rfl, rfl, rfl, Nat.le_refl _, fun _ _ _ => rfl⟩ (y := .blk b e L) hg fun k hk => .inl hk
    exact this
  | some p =>
    have hrow := run_copy_row (P := P) w t tx o.type el b off dl dc p xs.length sc L.toArray e xs hu hsz hg (Nat.min_eq_left hn).symm (fun j u hu => by
      have hj : j < xs.length := (List.getElem?_eq_some_iff.1 hu).1
      obtain ⟨e1, e2⟩ := hr.at hj
      have hp : p = ⟨ab (some p), ao (some p), none⟩ := by injection e1
      have hadd : p.add j = ⟨ab (some p), ao (some p) + j, none⟩ := by
        obtain ⟨pb, po, ps⟩ := p
        have hps : ps = none := by injection hp
        subst hps
        exact addr_add _ _ _
      rw [hadd, e2, hu]) (by simpa using hfit) h1
    refine S_val hgd (exec_copy ho hd hx hrow) (h _ ?_)
    have := hS.setRow hat (splice L off xs)
    simpa [splice] using this

/-- An element's address, of a slice that is read. -/
theorem run_idxRd0 {t e : TypeId} {b off n c : Nat} {q : IntKind} {k : Nat} (hlt : k < n) (ht : P.underlying t = some (.slice e)) (hs : (P.info? e).map (·.size) = some 1) :
    (Instr.indexAt t (.slice (some ⟨b, off, none⟩) n c) (.int q (k : Int))).run P w = .ok (.pointer (some ⟨b, off + k, none⟩)) w := by
  have hb : (0 : Int) ≤ (k : Int) ∧ (k : Int) < (n : Int) := by omega
  simp [Instr.indexAt, asIntOf, run_underlying ht, run_sizeOf hs, hb, hlt, addr_add]
theorem run_idxRd {t e : TypeId} {x ix : Operand} {A : Option Addr} {n c : Nat} {q : IntKind} {i : Int} {k : Nat} {xs : List Value} (hr : Rd w A xs) (hn : xs.length = n) (ho : o.op = .indexAddr t x ix) (hx : a.eval x = .slice A n c) (hi : a.eval ix = .int q i) (hk : i = (k : Int)) (hlt : k < n) (ht : P.underlying t = some (.slice e)) (hs : (P.info? e).map (·.size) = some 1) :
    (execOp a.eval o).run P w' = .ok (.value (.pointer (some ⟨ab A, ao A + k, none⟩))) w' := by
  subst hn hk
  obtain ⟨e1, -⟩ := hr.at hlt
  have hadd := addr_add (ab A) (ao A) k
  rw [e1] at hx
  have h1 := run_idxRd0 (P := P) (w := w') (b := ab A) (off := ao A) (c := c) (q := q) hlt ht hs
  simp [execOp, ho, hx, hi, h1]
theorem S_idxRd {t e : TypeId} {x ix : Operand} {A : Option Addr} {n c : Nat} {q : IntKind} {i : Int} {k : Nat} {xs : List Value} (hr : Rd w A xs) (hn : xs.length = n) (hgd : o.guard = none) (ho : o.op = .indexAddr t x ix) (hx : a.eval x = .slice A n c) (hi : a.eval ix = .int q i) (hk : i = (k : Int)) (hlt : k < n) (ht : P.underlying t = some (.slice e)) (hs : (P.info? e).map (·.size) = some 1)
    (h : wpList P ops Q rest (a.put o.dst (.pointer (some ⟨ab A, ao A + k, none⟩))) w) : wpList P ops Q (o :: rest) a w :=
  S_val hgd (run_idxRd hr hn ho hx hi hk hlt ht hs) h

/-! Cuts of slices. -/
/-- Where x[l:] begins. -/
def cutA (A : Option Addr) (c l : Nat) : Option Addr := if c = l then A else A.map (·.add l)
theorem cutA_zero (A : Option Addr) (c : Nat) : cutA A c 0 = A := by
  unfold cutA; split
  · rfl
  · cases A <;> simp [Addr.add]
theorem cutA_none (c l : Nat) : cutA none c l = none := by unfold cutA; split <;> rfl
theorem Rd.cut {A : Option Addr} {xs : List Value} (h : Rd w A xs) {c l : Nat} (hc : xs.length ≤ c) : Rd w (cutA A c l) (xs.drop l) := by
  unfold cutA
  split
  · rename_i e
    exact .inl (List.drop_of_length_le (by omega))
  · rcases h with h | ⟨b, o, rfl, h⟩
    · exact .inl (by rw [h]; simp)
    · show Rd w (some ((⟨b, o, none⟩ : Addr).add l)) _
      rw [addr_add]
      exact Rd.drop (Rd.mk h) l
theorem Rd.sub {A : Option Addr} {xs : List Value} (h : Rd w A xs) {c l r : Nat} (hc : xs.length ≤ c) : Rd w (cutA A c l) ((xs.take r).drop l) :=
  (h.take r).cut (by rw [List.length_take]; omega)
/-- A bound of a cut. -/
def SB (v : Option Value) (d l : Nat) : Prop := (v = none ∧ l = d) ∨ ∃ q, v = some (.int q (l : Int))
theorem SB.no {d : Nat} : SB none d d := .inl ⟨rfl, rfl⟩
theorem SB.so {q : IntKind} {d l : Nat} : SB (some (.int q (l : Int))) d l := .inr ⟨q, rfl⟩
theorem SB.lit {q : IntKind} {i : Int} {d : Nat} (h : 0 ≤ i) : SB (some (.int q i)) d i.toNat := .inr ⟨q, by rw [Int.toNat_of_nonneg h]⟩
theorem run_sliceS {t e : TypeId} {A : Option Addr} {n c l h : Nat} {lo hi : Option Value} (ht : P.underlying t = some (.slice e)) (hs : (P.info? e).map (·.size) = some 1) (hlo : SB lo 0 l) (hhi : SB hi n h) (hlh : l ≤ h) (hhc : h ≤ c) (w : World) :
    (Instr.slice t (.slice A n c) lo hi none).run P w = .ok (.slice (cutA A c l) (h - l) (c - l)) w := by
  have b1 : (Instr.sliceBounds true n c lo hi none).run P w = .ok (l, h, c) w := by
    rcases hlo with ⟨rfl, rfl⟩ | ⟨q, rfl⟩ <;> rcases hhi with ⟨rfl, rfl⟩ | ⟨q', rfl⟩
    · simp [Instr.sliceBounds]
    · have k1 : (0 : Int) ≤ (h : Int) ∧ (h : Int) ≤ (c : Int) := by omega
      simp [Instr.sliceBounds, Instr.sliceBound, asIntOf, k1, hhc]
    · have k1 : (0 : Int) ≤ (l : Int) ∧ (l : Int) ≤ (h : Int) := by omega
      simp [Instr.sliceBounds, Instr.sliceBound, asIntOf, k1, hlh]
    · have k1 : (0 : Int) ≤ (h : Int) ∧ (h : Int) ≤ (c : Int) := by omega
      have k2 : (0 : Int) ≤ (l : Int) ∧ (l : Int) ≤ (h : Int) := by omega
      simp [Instr.sliceBounds, Instr.sliceBound, asIntOf, k1, k2, hhc, hlh]
  simp only [Instr.slice, Sem.run_bind, run_underlying ht, Result.andThen_ok, b1, run_sizeOf hs, Sem.run_pure, Nat.mul_one, cutA]
theorem R_slice {t e : TypeId} {x : Operand} {lo hi : Option Operand} {A : Option Addr} {n c l h : Nat} (ho : o.op = .slice t x lo hi none) (hx : a.eval x = .slice A n c) (hlo : SB (lo.map a.eval) 0 l) (hhi : SB (hi.map a.eval) n h) (ht : P.underlying t = some (.slice e)) (hs : (P.info? e).map (·.size) = some 1) (hlh : l ≤ h) (hhc : h ≤ c) :
    (execOp a.eval o).run P w = .ok (.value (.slice (cutA A c l) (h - l) (c - l))) w := by
  have h1 : (Instr.sliceAt t (.slice A n c) (lo.map a.eval) (hi.map a.eval) none).run P w = .ok (.slice (cutA A c l) (h - l) (c - l)) w := by
    simp only [Instr.sliceAt, Sem.run_bind, run_underlying ht, Result.andThen_ok]
    exact run_sliceS ht hs hlo hhi hlh hhc w
  simp [execOp, ho, hx, h1]
theorem S_slice {t e : TypeId} {x : Operand} {lo hi : Option Operand} {A : Option Addr} {n c l h : Nat} (hgd : o.guard = none) (ho : o.op = .slice t x lo hi none) (hx : a.eval x = .slice A n c) (hlo : SB (lo.map a.eval) 0 l) (hhi : SB (hi.map a.eval) n h) (ht : P.underlying t = some (.slice e)) (hs : (P.info? e).map (·.size) = some 1) (hlh : l ≤ h) (hhc : h ≤ c)
    (hK : wpList P ops Q rest (a.put o.dst (.slice (cutA A c l) (h - l) (c - l))) w) : wpList P ops Q (o :: rest) a w :=
  S_val hgd (R_slice ho hx hlo hhi ht hs hlh hhc) hK

theorem RdB.sub {A : Option Addr} {xs : List UInt8} (h : RdB w A xs) {c l r : Nat} (hc : xs.length ≤ c) : RdB w (cutA A c l) ((xs.take r).drop l) := by
  unfold RdB
  rw [List.map_drop, List.map_take]
  exact Rd.sub h (by simpa using hc)
theorem St.ownCap {e : TypeId} {A : Option Addr} {n n' c : Nat} {xs : List Value} (h : St K w0 w H) (hat : At H (.own e 1 (.slice A n c) n' xs) f) : n ≤ c := by
  obtain ⟨A', c', e1, h1, -⟩ := own_rd (h.get hat)
  cases e1; exact h1

/-! In a region whose order is open. -/
theorem E_new {R : World → World → Prop} {md : Region.Mode} {i : Nat} {N : Option Tmp} {oi : Oper} {fuel : Nat} {l : Array Bool} (hS : St K w0 w H) (hR : ∀ o, R w (w.alloc o)) (l' : Array Bool) (hi : ops[i]? = some oi) (hN : oi.dst = N) (hc : oneC md ops l l' i = true) (hw : Region.wanted oi (yielded ops a.tmps) = true) {C : Array Value} {e : TypeId} {n : Nat} {L : List Value}
    (hrun : (execOp a.eval oi).run P w = .ok (.value (.slice (some ⟨w.heap.size, 0, none⟩) n n)) (w.alloc (.cells C e))) (hC : C = L.toArray) (hn : L.length = n) (hm : decide (n ≤ 16777216) = true)
    (h : ∀ b w1, St K w0 w1 (.own e 1 (.slice (some ⟨b, 0, none⟩) n n) n L :: H) → ∀ a', a.put N (.slice (some ⟨b, 0, none⟩) n n) = a' → wpE R P md ops Q fuel l' a' w1) : wpE R P md ops Q (fuel + 1) l a w := by
  subst hC
  exact E_run l' hi hN hc hw hrun (hR _) rfl (h _ _ (hS.allocOwn L e n hn (by have := of_decide_eq_true hm; unfold maxLen; omega)) _ rfl)
theorem E_new1 {R : World → World → Prop} {md : Region.Mode} {i : Nat} {N : Option Tmp} {oi : Oper} {fuel : Nat} {l : Array Bool} (hS : St K w0 w H) (hR : ∀ o, R w (w.alloc o)) (l' : Array Bool) (hi : ops[i]? = some oi) (hN : oi.dst = N) (hc : (l.setIfInBounds i true == l') = true) (hw : Region.wanted oi (yielded ops a.tmps) = true) {C : Array Value} {e : TypeId} {n : Nat} {L : List Value}
    (hrun : (execOp a.eval oi).run P w = .ok (.value (.slice (some ⟨w.heap.size, 0, none⟩) n n)) (w.alloc (.cells C e))) (hC : C = L.toArray) (hn : L.length = n) (hm : decide (n ≤ 16777216) = true)
    (h : ∀ b w1, St K w0 w1 (.own e 1 (.slice (some ⟨b, 0, none⟩) n n) n L :: H) → ∀ a', a.put N (.slice (some ⟨b, 0, none⟩) n n) = a' → wpE R P md ops Q fuel l' a' w1) : wpE1 R P md ops Q fuel l a w i := by
  subst hC
  exact E_run1 l' hi hN hc hw hrun (hR _) rfl (h _ _ (hS.allocOwn L e n hn (by have := of_decide_eq_true hm; unfold maxLen; omega)) _ rfl)
end

/-! Slices of slices of bytes. -/
/-- Each slice reads its text. -/
def Slcs (w : World) (vs : List Value) (xss : List (List UInt8)) : Prop := vs.length = xss.length ∧ ∀ (i : Nat) (xs : List UInt8), xss[i]? = some xs → ∃ (Ai : Option Addr) (ci : Nat), vs[i]? = some (.slice Ai xs.length ci) ∧ RdB w Ai xs
theorem Slcs.nil (w : World) : Slcs w [] [] := ⟨rfl, fun i xs h => by simp at h⟩
theorem Slcs.cons {w : World} {vs : List Value} {xss : List (List UInt8)} (h : Slcs w vs xss) {A : Option Addr} {n c : Nat} {xs : List UInt8} (hr : RdB w A xs) (hn : xs.length = n) : Slcs w (.slice A n c :: vs) (xs :: xss) := by
  subst hn
  refine ⟨by simp [h.1], fun i ys hi => ?_⟩
  cases i with
  | zero => cases hi; exact ⟨A, c, rfl, hr⟩
  | succ i => exact h.2 i ys hi
theorem cut3 (xs : List UInt8) {p q n : Nat} (hpq : p ≤ q) (hn : xs.length = n) : [(xs.take p).drop 0, (xs.take q).drop p, (xs.take n).drop q].flatten = xs := by
  subst hn
  simp only [List.drop_zero, List.take_length, List.flatten_cons, List.flatten_nil, List.append_nil]
  rw [← List.append_assoc]
  have : xs.take p ++ (xs.take q).drop p = xs.take q := by
    conv => rhs; rw [← List.take_append_drop p (xs.take q), List.take_take, Nat.min_eq_left hpq]
  rw [this, List.take_append_drop]
theorem RdBB.of {w : World} {A : Option Addr} {vs : List Value} {xss : List (List UInt8)} (h : Rd w A vs) (hs : Slcs w vs xss) : RdBB w A vs xss := ⟨h, hs.1, hs.2⟩
end Go.Proofs.Ythamhaomfdgdjaa
