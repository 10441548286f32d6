/- A law of make([]T, n), and of values of new blocks. -/
import Derived.Test.YthamhaomfdgdjaaBase
namespace Go.Proofs.Ythamhaomfdgdjaa
open Go.RowKit

/-- n times one value. -/
def rep (n : Nat) (z : Value) : Array Value := (List.replicate n z).toArray

theorem made_rep (z : Value) (n : Nat) : madeCells #[z] n = rep n z := by
  apply Array.ext'
  rw [toList_madeCells_one]
  simp [rep]

theorem run_make_rep {P : Program} {t e : TypeId} {z : Value} {bytes : Nat} (T : ElemT P t e z bytes) (w : World) (kl kc : IntKind) (n : Nat) (hz : z.cells = #[z]) (hb : bytes * n ≤ 281474976710656) (h63 : n ≤ 9223372036854775807) :
    (Instr.makeSlice t (.int kl (n : Int)) (.int kc (n : Int))).run P w = .ok (.slice (some ⟨w.heap.size, 0, none⟩) n n) (w.alloc (.cells (rep n z) e)) := by
  obtain ⟨i, hi, hz0, h1, h2⟩ := info_parts T.hi
  have hb' : (i.bytes : Int) * (n : Int) ≤ 281474976710656 := by
    rw [h2, ← Int.natCast_mul]; omega
  have hr := run_make (P := P) w t e i z T.ht hi hz0 kl kc n n (by omega) (Int.le_refl _) hb' (by omega)
  simp only [Int.toNat_natCast] at hr
  rw [hr, hz, h1, Nat.mul_one, made_rep]

theorem own_rep (w : World) (B : Nat) (e : TypeId) (z : Value) (n : Nat) (hB : B ≤ w.heap.size) (h63 : n ≤ maxLen) :
    (w.alloc (.cells (rep n z) e)).ownsRow B e 1 (.slice (some ⟨w.heap.size, 0, none⟩) n n) n (List.replicate n z) := by
  have := World.ownsRow_lit (base := B) (e := e) (size := 1) w (rep n z) n hB h63 (by simp [rep])
  simpa [rep] using this

theorem own_src {P : Program} {tx e' : TypeId} {w : World} {B : Nat} {e : TypeId} {v : Value} {n : Nat} {xs : List Value} (hk : P.underlying tx = some (.slice e')) (h : w.ownsRow B e 1 v n xs) (h1 : ∀ u ∈ xs, u.oneCell' = true) : Src P 1 tx v n xs w := by
  have hl : xs.length = n := by have := h.1; omega
  obtain ⟨A, c, rfl, _, _, hr, _⟩ := own_rd h
  subst hl
  exact Src.of_rd hk hr h1

theorem one_bV (xs : List UInt8) : ∀ u ∈ xs.map bV, u.oneCell' = true := fun u hu => by obtain ⟨x, _, rfl⟩ := List.mem_map.1 hu; rfl

/-- Block b holds just these cells. -/
def Blk (w : World) (b : Nat) (e : TypeId) (L : List Value) : Prop := w.heap[b]? = some (.cells L.toArray e (0, 0))

section
variable {w w' : World} {b : Nat} {e : TypeId} {L : List Value}
theorem Blk.new (w : World) (L : List Value) (e : TypeId) : Blk (w.alloc (.cells L.toArray e)) w.heap.size e L := heap_alloc_new w _
theorem Blk.made (w : World) (n : Nat) (z : Value) (e : TypeId) : Blk (w.alloc (.cells (rep n z) e)) w.heap.size e (List.replicate n z) := heap_alloc_new w _
theorem Blk.lt (h : Blk w b e L) : b < w.heap.size := (Array.getElem?_eq_some_iff.1 h).1
theorem Blk.cell (h : Blk w b e L) (i : Nat) : w.cell? ⟨b, i, none⟩ = L[i]? := by
  rw [cell_of_row w b i L.toArray e (0, 0) h]; exact List.getElem?_toArray
theorem Blk.frozen (h : Blk w b e L) (i : Nat) : w.frozen? ⟨b, i, none⟩ = false := by
  unfold Blk at h; simp [World.frozen?, h]
theorem Blk.set (h : Blk w b e L) (i : Nat) (v : Value) : Blk (w.setCell ⟨b, i, none⟩ v) b e (L.set i v) := by
  unfold Blk at *
  simp [World.setCell, Array.getElem?_modify, h]
theorem Blk.setOther (h : Blk w b e L) {p : Addr} (hp : b ≠ p.block) (v : Value) : Blk (w.setCell p v) b e L := by
  unfold Blk at *
  rw [Below.heap_setCell _ _ _ _ hp]; exact h
theorem Blk.alloc (h : Blk w b e L) (o : Obj) : Blk (w.alloc o) b e L := by
  have := h.lt
  unfold Blk at *
  rw [Below.heap_alloc _ _ _ this]; exact h
theorem Blk.keep (h : Blk w b e L) (hb : Below w.heap.size w w') : Blk w' b e L := by
  have := h.lt
  unfold Blk at *
  rw [hb.block b this]; exact h
theorem Blk.below {B : Nat} (h : Blk w b e L) (hb : Below B w w') (hB : b < B) : Blk w' b e L := by
  unfold Blk at *
  rw [hb.block b hB]; exact h
theorem Blk.own (h : Blk w b e L) {B n : Nat} (hB : B ≤ b) (hn : L.length = n) (hm : n ≤ maxLen) : w.ownsRow B e 1 (.slice (some ⟨b, 0, none⟩) n n) n L := by
  refine ⟨by omega, .inr ⟨b, n, L.toArray, rfl, hB, h, Nat.le_refl _, hm, by simp; omega, ?_⟩⟩
  simp [← hn]
theorem Blk.rd (h : Blk w b e L) : Rd w (some ⟨b, 0, none⟩) L := Rd.mk fun i _ => by rw [Nat.zero_add]; exact h.cell i
theorem setCell_size (w : World) (p : Addr) (v : Value) : (w.setCell p v).heap.size = w.heap.size := by simp [World.setCell]
end
end Go.Proofs.Ythamhaomfdgdjaa
