/- AES: the reference's Encrypt, in plain lists. -/
import Derived.Test.YtaacnbponodagaaAesP
namespace Go.Proofs.Ytaacnbponodagaa
open Go.RowKit

/-- A byte as an int's value. -/
def iV (x : UInt8) : Value := .int .i64 (x.toNat : Int)
/-- The first k of F, the rest of o. -/
def ov (F : Nat → UInt8) (o : List UInt8) (k : Nat) : List UInt8 := (List.range 16).map fun j => if j < k then F j else o.getD j 0
theorem ov_len (F : Nat → UInt8) (o : List UInt8) (k : Nat) : (ov F o k).length = 16 := by simp [ov]
theorem ov_set (F : Nat → UInt8) (o : List UInt8) {k : Nat} (hk : k < 16) : (ov F o k).set k (F k) = ov F o (k + 1) := by
  apply List.ext_getElem?
  intro j
  unfold ov
  rw [List.getElem?_set, List.length_map, List.length_range, List.getElem?_map, List.getElem?_map]
  by_cases hj : j < 16
  · rw [List.getElem?_range hj]
    by_cases hkj : k = j
    · subst hkj; simp [hk]
    · rw [if_neg hkj]
      simp only [Option.map_some]
      by_cases h1 : j < k
      · rw [if_pos h1, if_pos (by omega)]
      · rw [if_neg h1, if_neg (by omega)]
  · rw [if_neg (by omega), List.getElem?_eq_none (by simp; omega)]; rfl
theorem ov_zero (F : Nat → UInt8) {o : List UInt8} (h : o.length = 16) : ov F o 0 = o := by
  apply List.ext_getElem?
  intro j
  unfold ov
  rw [List.getElem?_map]
  by_cases hj : j < 16
  · rw [List.getElem?_range hj, List.getElem?_eq_getElem (by omega)]; simp [List.getD_eq_getElem?_getD, List.getElem?_eq_getElem (show j < o.length by omega)]
  · rw [List.getElem?_eq_none (by simp; omega), List.getElem?_eq_none (by omega)]; rfl
theorem ov_end (F : Nat → UInt8) (o : List UInt8) : ov F o 16 = (List.range 16).map F := by
  unfold ov
  apply List.map_congr_left
  intro j hj
  rw [if_pos (List.mem_range.1 hj)]
theorem ov_get (F : Nat → UInt8) (o : List UInt8) {k j : Nat} (hj : j < 16) (hk : k ≤ j) : (ov F o k).getD j 0 = o.getD j 0 := by
  unfold ov
  rw [List.getD_eq_getElem?_getD, List.getElem?_map, List.getElem?_range hj]
  simp only [Option.map_some, Option.getD_some]
  rw [if_neg (by omega)]
theorem add_range {b k : List UInt8} (h : b.length = 16) (hk : k.length = 16) : (List.range 16).map (fun j => b.getD j 0 ^^^ k.getD j 0) = addF b k := by
  obtain ⟨a0, a1, a2, a3, a4, a5, a6, a7, a8, a9, a10, a11, a12, a13, a14, a15, rfl⟩ := ex16 h
  obtain ⟨c0, c1, c2, c3, c4, c5, c6, c7, c8, c9, c10, c11, c12, c13, c14, c15, rfl⟩ := ex16 hk
  rfl
theorem rk_getD {K : List UInt8} {r k : Nat} (hk : k < 16) : (rk K r).getD k 0 = K.getD (16 * r + k) 0 := by
  unfold rk
  rw [List.getD_eq_getElem?_getD, List.getD_eq_getElem?_getD, List.getElem?_take_of_lt hk, List.getElem?_drop]
theorem row_idx {x : List UInt8} {i : Nat} (hi : i < 16) : rowE x i = sb (x.getD ((i + 4 * (i % 4)) % 16) 0) := by
  unfold rowE
  rw [show 4 * ((i / 4 + i % 4) % 4) + i % 4 = (i + 4 * (i % 4)) % 16 by omega]
theorem gm1 (a : UInt8) : gm 1 a = a := u8_all (p := fun a => gm 1 a = a) (by decide +kernel) a
theorem mix_idx {x : List UInt8} {c k : Nat} (hk : k < 4) : mixI mE x (4 * c + k) = gm 2 (x.getD (4 * c + k) 0) ^^^ gm 3 (x.getD (4 * c + (k + 1) % 4) 0) ^^^ x.getD (4 * c + (k + 2) % 4) 0 ^^^ x.getD (4 * c + (k + 3) % 4) 0 := by
  unfold mixI mE mc
  rw [gm1, gm1, show (4 * c + k) / 4 = c by omega, show (4 * c + k) % 4 = k by omega]
end Go.Proofs.Ytaacnbponodagaa
