/- A law of make([]T, n), and of values of new blocks. -/
import Derived.Test.YtjnmpeehadgeoaaBase
namespace Go.Proofs.Ytjnmpeehadgeoaa
open Go.RowKit

/-- n times one value. -/
def rep (n : Nat) (z : Value) : Array Value := (List.replicate n z).toArray

theorem made_rep (z : Value) (n : Nat) : madeCells #[z] n = rep n z := by
  apply Array.ext'
  rw [toList_madeCells_one]
  simp [rep]

theorem run_make_rep {P : Program} {t e : TypeId} {z : Value} {bytes : Nat} (T : ElemT P t e z bytes) (w : World) (kl kc : IntKind) (n : Nat) (hz : z.cells = #[z]) (hb : bytes * n ≤ 281474976710656) (h63 : n ≤ 9223372036854775807) :
    (Instr.makeSlice t (.int kl (n : Int)) (.int kc (n : Int))).run P w = .ok (.slice (some ⟨w.heap.size, 0, none⟩) n n) (w.alloc (.cells (rep n z) e)) := by
  obtain ⟨i, hi, hz0, h1, h2⟩ := info_parts T.hi
  have hb' : (i.bytes : Int) * (n : Int) ≤ 281474976710656 := by
    rw [h2, ← Int.natCast_mul]; omega
  have hr := run_make (P := P) w t e i z T.ht hi hz0 kl kc n n (by omega) (Int.le_refl _) hb' (by omega)
  simp only [Int.toNat_natCast] at hr
  rw [hr, hz, h1, Nat.mul_one, made_rep]

theorem own_rep (w : World) (B : Nat) (e : TypeId) (z : Value) (n : Nat) (hB : B ≤ w.heap.size) (h63 : n ≤ maxLen) :
    (w.alloc (.cells (rep n z) e)).ownsRow B e 1 (.slice (some ⟨w.heap.size, 0, none⟩) n n) n (List.replicate n z) := by
  have := World.ownsRow_lit (base := B) (e := e) (size := 1) w (rep n z) n hB h63 (by simp [rep])
  simpa [rep] using this
end Go.Proofs.Ytjnmpeehadgeoaa
