/- Octets of an argument; a slice of one element as a source. -/
import Derived.Test.YthamhaomfdgdjaaStR
namespace Go.Proofs.Ythamhaomfdgdjaa
open Go.RowKit

theorem ints_u8 : ∀ (z : List Int), (∀ y ∈ z, (Lit.int .u8 y).wf = true) → ∃ bs : List UInt8, bs.length = z.length ∧ z.map (Value.int .u8) = bs.map bV
  | [], _ => ⟨[], rfl, rfl⟩
  | y :: z, h => by
    obtain ⟨bs, h1, h2⟩ := ints_u8 z fun x hx => h x (List.mem_cons_of_mem _ hx)
    have hy : 0 ≤ y ∧ y ≤ 255 := by
      have := h y (List.mem_cons_self ..)
      simpa [Lit.wf, IntKind.min, IntKind.max, IntKind.signed, IntKind.bits] using this
    refine ⟨UInt8.ofNat y.toNat :: bs, by simp [h1], ?_⟩
    rw [List.map_cons, List.map_cons, h2]
    congr 1
    unfold bV
    congr 1
    have : (UInt8.ofNat y.toNat).toNat = y.toNat := UInt8.toNat_ofNat_of_lt' (by show y.toNat < 256; omega)
    rw [this]; omega
theorem map_bV_inj {a b : List UInt8} : a.map bV = b.map bV ↔ a = b := by
  constructor
  · intro h
    refine List.map_inj_right (f := bV) (fun x y hxy => ?_) |>.1 h
    unfold bV at hxy
    injection hxy with _ h2
    exact UInt8.toNat_inj.1 (by omega)
  · intro h; rw [h]
theorem src1 {w : World} {b : Nat} {v : Value} (h : Rd w (some ⟨b, 0, none⟩) [v]) (h1 : v.oneCell' = true) : Src Try.prog 1 26 (.slice (some ⟨b, 0, none⟩) 1 1) 1 [v] w :=
  Src.of_rd (c := 1) Try.underlying26 h (fun u hu => by cases List.mem_singleton.1 hu; exact h1)
end Go.Proofs.Ythamhaomfdgdjaa
