/- AES: the round keys, in plain lists. -/
import Derived.Test.YthamhaomfdgdjaaAesP
import Derived.Test.YthamhaomfdgdjaaXoP
namespace Go.Proofs.Ythamhaomfdgdjaa
open Go.RowKit

def wd (W : List UInt8) (i : Nat) : List UInt8 := (W.drop (4 * i)).take 4
def rot4 (t : List UInt8) : List UInt8 := [t.getD 1 0, t.getD 2 0, t.getD 3 0, t.getD 0 0]
/-- The first m through S. -/
def sbs (t : List UInt8) (m : Nat) : List UInt8 := (t.take m).map sb ++ t.drop m
def pwr : Nat → UInt8
  | 0 => 1
  | n + 1 => xt (pwr n)
def xor0 (t : List UInt8) (p : UInt8) : List UInt8 := t.set 0 (t.getD 0 0 ^^^ p)
/-- What is xored to the word eight ahead. -/
def tw (t : List UInt8) (i : Nat) : List UInt8 := if i % 8 = 0 then xor0 ((rot4 t).map sb) (pwr (i / 8 - 1)) else if i % 8 = 4 then t.map sb else t
/-- The first i words, as octets. -/
def kx (key : List UInt8) : Nat → List UInt8
  | 0 => []
  | i + 1 => kx key i ++ (if i < 8 then wd key i else xorF (wd (kx key i) (i - 8)) (tw (wd (kx key i) (i - 1)) i))
def keysF (key : List UInt8) : List UInt8 := kx key 60
theorem wd_len {W : List UInt8} {i : Nat} (h : 4 * i + 4 ≤ W.length) : (wd W i).length = 4 := by unfold wd; rw [List.length_take, List.length_drop]; omega
theorem wd_get {W : List UInt8} {i k : Nat} (hk : k < 4) : (wd W i).getD k 0 = W.getD (4 * i + k) 0 := by
  unfold wd
  rw [List.getD_eq_getElem?_getD, List.getD_eq_getElem?_getD, List.getElem?_take_of_lt hk, List.getElem?_drop]
theorem xor0_len (t : List UInt8) (p : UInt8) : (xor0 t p).length = t.length := by unfold xor0; rw [List.length_set]
theorem rot4_len (t : List UInt8) : (rot4 t).length = 4 := rfl
theorem tw_len {t : List UInt8} (h : t.length = 4) (i : Nat) : (tw t i).length = 4 := by
  unfold tw
  split
  · rw [xor0_len, List.length_map, rot4_len]
  · split
    · rw [List.length_map, h]
    · exact h
theorem kx_len {key : List UInt8} (hk : key.length = 32) : ∀ i, (kx key i).length = 4 * i
  | 0 => rfl
  | i + 1 => by
    have ih := kx_len hk i
    rw [kx, List.length_append, ih]
    by_cases h : i < 8
    · rw [if_pos h, wd_len (by omega)]; omega
    · rw [if_neg h, xorF_length, wd_len (by omega), tw_len (wd_len (by omega))]; omega
theorem keysF_len {key : List UInt8} (hk : key.length = 32) : (keysF key).length = 240 := kx_len hk 60
theorem sbs_zero (t : List UInt8) : sbs t 0 = t := by simp [sbs]
theorem sbs_end {t : List UInt8} (h : t.length = 4) : sbs t 4 = t.map sb := by
  unfold sbs; rw [List.take_of_length_le (by omega), List.drop_of_length_le (by omega), List.append_nil]
theorem sbs_len (t : List UInt8) (m : Nat) : (sbs t m).length = t.length := by unfold sbs; simp; omega
theorem sbs_get {t : List UInt8} {m : Nat} (hm : m < t.length) : (sbs t m)[m]? = some (t.getD m 0) := by
  unfold sbs
  rw [List.getElem?_append_right (by simp; omega), List.length_map, List.length_take, Nat.min_eq_left (by omega), Nat.sub_self, List.getElem?_drop, Nat.add_zero, List.getD_eq_getElem?_getD, List.getElem?_eq_getElem hm]
  rfl
theorem sbs_set {t : List UInt8} {m : Nat} (hm : m < t.length) : (sbs t m).set m (sb (t.getD m 0)) = sbs t (m + 1) := by
  unfold sbs
  have hl : ((t.take m).map sb).length = m := by rw [List.length_map, List.length_take]; omega
  rw [List.set_append_right _ _ (by omega), hl, Nat.sub_self, List.drop_eq_getElem_cons hm, List.set_cons_zero, List.take_succ_eq_append_getElem hm, List.map_append, List.append_assoc]
  rw [List.getD_eq_getElem?_getD, List.getElem?_eq_getElem hm]
  rfl
/-- The words' block, when m octets of word i are laid. -/
def wL (A v : List UInt8) (m : Nat) : List UInt8 := A ++ v.take m ++ List.replicate (240 - A.length - m) 0
theorem wL_len {A v : List UInt8} {m : Nat} (hA : A.length + v.length ≤ 240) (hm : m ≤ v.length) : (wL A v m).length = 240 := by unfold wL; simp; omega
theorem wL_set {A v : List UInt8} {m : Nat} (hA : A.length + v.length ≤ 240) (hm : m < v.length) : (wL A v m).set (A.length + m) (v.getD m 0) = wL A v (m + 1) := by
  unfold wL
  have hl : (A ++ v.take m).length = A.length + m := by rw [List.length_append, List.length_take]; omega
  rw [List.set_append_right _ _ (by omega), hl, Nat.sub_self]
  have hr : 240 - A.length - m = (240 - A.length - (m + 1)) + 1 := by omega
  rw [hr, List.replicate_succ, List.set_cons_zero, List.take_succ_eq_append_getElem hm, ← List.append_assoc, List.append_assoc (A ++ v.take m)]
  rw [List.getD_eq_getElem?_getD, List.getElem?_eq_getElem hm]
  rfl
theorem wL_get {A v : List UInt8} {m j : Nat} (hj : j < A.length) : (wL A v m).getD j 0 = A.getD j 0 := by
  unfold wL
  rw [List.getD_eq_getElem?_getD, List.getD_eq_getElem?_getD, List.append_assoc, List.getElem?_append_left hj]
theorem wL_zero (A v : List UInt8) : wL A v 0 = A ++ List.replicate (240 - A.length) 0 := by simp [wL]
theorem wL_end {A v : List UInt8} (hA : A.length + v.length ≤ 240) : wL A v v.length = (A ++ v) ++ List.replicate (240 - (A ++ v).length) 0 := by
  unfold wL; rw [List.take_length, List.length_append, Nat.sub_add_eq]
end Go.Proofs.Ythamhaomfdgdjaa
