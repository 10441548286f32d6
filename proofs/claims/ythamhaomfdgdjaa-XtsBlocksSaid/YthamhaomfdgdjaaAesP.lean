/- AES in plain lists: the cipher, its inverse, and that each undoes the other. No program in sight. -/
import Derived.Test.YthamhaomfdgdjaaBase
namespace Go.Proofs.Ythamhaomfdgdjaa
open Go.RowKit

def sbT : List UInt8 := [99, 124, 119, 123, 242, 107, 111, 197, 48, 1, 103, 43, 254, 215, 171, 118, 202, 130, 201, 125, 250, 89, 71, 240, 173, 212, 162, 175, 156, 164, 114, 192, 183, 253, 147, 38, 54, 63, 247, 204, 52, 165, 229, 241, 113, 216, 49, 21, 4, 199, 35, 195, 24, 150, 5, 154, 7, 18, 128, 226, 235, 39, 178, 117, 9, 131, 44, 26, 27, 110, 90, 160, 82, 59, 214, 179, 41, 227, 47, 132, 83, 209, 0, 237, 32, 252, 177, 91, 106, 203, 190, 57, 74, 76, 88, 207, 208, 239, 170, 251, 67, 77, 51, 133, 69, 249, 2, 127, 80, 60, 159, 168, 81, 163, 64, 143, 146, 157, 56, 245, 188, 182, 218, 33, 16, 255, 243, 210, 205, 12, 19, 236, 95, 151, 68, 23, 196, 167, 126, 61, 100, 93, 25, 115, 96, 129, 79, 220, 34, 42, 144, 136, 70, 238, 184, 20, 222, 94, 11, 219, 224, 50, 58, 10, 73, 6, 36, 92, 194, 211, 172, 98, 145, 149, 228, 121, 231, 200, 55, 109, 141, 213, 78, 169, 108, 86, 244, 234, 101, 122, 174, 8, 186, 120, 37, 46, 28, 166, 180, 198, 232, 221, 116, 31, 75, 189, 139, 138, 112, 62, 181, 102, 72, 3, 246, 14, 97, 53, 87, 185, 134, 193, 29, 158, 225, 248, 152, 17, 105, 217, 142, 148, 155, 30, 135, 233, 206, 85, 40, 223, 140, 161, 137, 13, 191, 230, 66, 104, 65, 153, 45, 15, 176, 84, 187, 22]
def bkT : List UInt8 := [82, 9, 106, 213, 48, 54, 165, 56, 191, 64, 163, 158, 129, 243, 215, 251, 124, 227, 57, 130, 155, 47, 255, 135, 52, 142, 67, 68, 196, 222, 233, 203, 84, 123, 148, 50, 166, 194, 35, 61, 238, 76, 149, 11, 66, 250, 195, 78, 8, 46, 161, 102, 40, 217, 36, 178, 118, 91, 162, 73, 109, 139, 209, 37, 114, 248, 246, 100, 134, 104, 152, 22, 212, 164, 92, 204, 93, 101, 182, 146, 108, 112, 72, 80, 253, 237, 185, 218, 94, 21, 70, 87, 167, 141, 157, 132, 144, 216, 171, 0, 140, 188, 211, 10, 247, 228, 88, 5, 184, 179, 69, 6, 208, 44, 30, 143, 202, 63, 15, 2, 193, 175, 189, 3, 1, 19, 138, 107, 58, 145, 17, 65, 79, 103, 220, 234, 151, 242, 207, 206, 240, 180, 230, 115, 150, 172, 116, 34, 231, 173, 53, 133, 226, 249, 55, 232, 28, 117, 223, 110, 71, 241, 26, 113, 29, 41, 197, 137, 111, 183, 98, 14, 170, 24, 190, 27, 252, 86, 62, 75, 198, 210, 121, 32, 154, 219, 192, 254, 120, 205, 90, 244, 31, 221, 168, 51, 136, 7, 199, 49, 177, 18, 16, 89, 39, 128, 236, 95, 96, 81, 127, 169, 25, 181, 74, 13, 45, 229, 122, 159, 147, 201, 156, 239, 160, 224, 59, 77, 174, 42, 245, 176, 200, 235, 187, 60, 131, 83, 153, 97, 23, 43, 4, 126, 186, 119, 214, 38, 225, 105, 20, 99, 85, 33, 12, 125]
def sb (a : UInt8) : UInt8 := sbT.getD a.toNat 0
def bk (a : UInt8) : UInt8 := bkT.getD a.toNat 0
theorem u8_all {p : UInt8 → Prop} [DecidablePred p] (h : ∀ a : Fin 256, p (UInt8.ofNat a.1)) (a : UInt8) : p a := by
  have := h ⟨a.toNat, a.toNat_lt⟩
  simpa using this
theorem bk_sb (a : UInt8) : bk (sb a) = a := u8_all (p := fun a => bk (sb a) = a) (by decide +kernel) a
theorem sb_bk (a : UInt8) : sb (bk a) = a := u8_all (p := fun a => sb (bk a) = a) (by decide +kernel) a

/-- x times an octet. -/
def xt (a : UInt8) : UInt8 := if a.toNat < 128 then a <<< 1 else (a <<< 1) ^^^ 27
def sel (b : Bool) (a : UInt8) : UInt8 := if b then a else 0
/-- The product by one of less than 16. -/
def gm (c a : UInt8) : UInt8 := sel (c.toNat % 2 == 1) a ^^^ sel (c.toNat / 2 % 2 == 1) (xt a) ^^^ sel (c.toNat / 4 % 2 == 1) (xt (xt a)) ^^^ sel (c.toNat / 8 % 2 == 1) (xt (xt (xt a)))
def m27 (u : UInt8) : UInt8 := if u = 0 then 0 else 27
theorem xt_eq (a : UInt8) : xt a = (a <<< 1) ^^^ m27 (a >>> 7) := u8_all (p := fun a => xt a = (a <<< 1) ^^^ m27 (a >>> 7)) (by decide +kernel) a
theorem top_bit (a : UInt8) : a >>> 7 = 0 ∨ a >>> 7 = 1 := u8_all (p := fun a => a >>> 7 = 0 ∨ a >>> 7 = 1) (by decide +kernel) a
theorem shl1_xor (a b : UInt8) : (a ^^^ b) <<< (1 : UInt8) = (a <<< 1) ^^^ (b <<< 1) := by
  apply UInt8.toBitVec_inj.1; simp [BitVec.shiftLeft_xor_distrib]
theorem shr7_xor (a b : UInt8) : (a ^^^ b) >>> (7 : UInt8) = (a >>> 7) ^^^ (b >>> 7) := by
  apply UInt8.toBitVec_inj.1; simp [BitVec.ushiftRight_xor_distrib]
theorem xt_xor (a b : UInt8) : xt (a ^^^ b) = xt a ^^^ xt b := by
  have h : m27 (a >>> 7 ^^^ b >>> 7) = m27 (a >>> 7) ^^^ m27 (b >>> 7) := by
    rcases top_bit a with h1 | h1 <;> rcases top_bit b with h2 | h2 <;> rw [h1, h2] <;> decide
  rw [xt_eq, xt_eq, xt_eq, shl1_xor, shr7_xor, h]
  ac_rfl
theorem sel_xor (c : Bool) (a b : UInt8) : sel c (a ^^^ b) = sel c a ^^^ sel c b := by cases c <;> simp [sel]
theorem gm_xor (c a b : UInt8) : gm c (a ^^^ b) = gm c a ^^^ gm c b := by
  unfold gm
  rw [xt_xor, xt_xor, xt_xor, sel_xor, sel_xor, sel_xor, sel_xor]
  ac_rfl
def i4 (f : Nat → UInt8) : UInt8 := f 0 ^^^ f 1 ^^^ f 2 ^^^ f 3

/-- One column, mixed by the numbers of its first row. -/
def mc (m0 m1 m2 m3 a b c d : UInt8) : UInt8 := gm m0 a ^^^ gm m1 b ^^^ gm m2 c ^^^ gm m3 d
section
theorem e0 (x : UInt8) : gm 14 (gm 2 x) ^^^ gm 11 (gm 1 x) ^^^ gm 13 (gm 1 x) ^^^ gm 9 (gm 3 x) = x := u8_all (p := fun x => gm 14 (gm 2 x) ^^^ gm 11 (gm 1 x) ^^^ gm 13 (gm 1 x) ^^^ gm 9 (gm 3 x) = x) (by decide +kernel) x
theorem e1 (x : UInt8) : gm 14 (gm 3 x) ^^^ gm 11 (gm 2 x) ^^^ gm 13 (gm 1 x) ^^^ gm 9 (gm 1 x) = 0 := u8_all (p := fun x => gm 14 (gm 3 x) ^^^ gm 11 (gm 2 x) ^^^ gm 13 (gm 1 x) ^^^ gm 9 (gm 1 x) = 0) (by decide +kernel) x
theorem e2 (x : UInt8) : gm 14 (gm 1 x) ^^^ gm 11 (gm 3 x) ^^^ gm 13 (gm 2 x) ^^^ gm 9 (gm 1 x) = 0 := u8_all (p := fun x => gm 14 (gm 1 x) ^^^ gm 11 (gm 3 x) ^^^ gm 13 (gm 2 x) ^^^ gm 9 (gm 1 x) = 0) (by decide +kernel) x
theorem e3 (x : UInt8) : gm 14 (gm 1 x) ^^^ gm 11 (gm 1 x) ^^^ gm 13 (gm 3 x) ^^^ gm 9 (gm 2 x) = 0 := u8_all (p := fun x => gm 14 (gm 1 x) ^^^ gm 11 (gm 1 x) ^^^ gm 13 (gm 3 x) ^^^ gm 9 (gm 2 x) = 0) (by decide +kernel) x
theorem d0 (x : UInt8) : gm 2 (gm 14 x) ^^^ gm 3 (gm 9 x) ^^^ gm 1 (gm 13 x) ^^^ gm 1 (gm 11 x) = x := u8_all (p := fun x => gm 2 (gm 14 x) ^^^ gm 3 (gm 9 x) ^^^ gm 1 (gm 13 x) ^^^ gm 1 (gm 11 x) = x) (by decide +kernel) x
theorem d1 (x : UInt8) : gm 2 (gm 11 x) ^^^ gm 3 (gm 14 x) ^^^ gm 1 (gm 9 x) ^^^ gm 1 (gm 13 x) = 0 := u8_all (p := fun x => gm 2 (gm 11 x) ^^^ gm 3 (gm 14 x) ^^^ gm 1 (gm 9 x) ^^^ gm 1 (gm 13 x) = 0) (by decide +kernel) x
theorem d2 (x : UInt8) : gm 2 (gm 13 x) ^^^ gm 3 (gm 11 x) ^^^ gm 1 (gm 14 x) ^^^ gm 1 (gm 9 x) = 0 := u8_all (p := fun x => gm 2 (gm 13 x) ^^^ gm 3 (gm 11 x) ^^^ gm 1 (gm 14 x) ^^^ gm 1 (gm 9 x) = 0) (by decide +kernel) x
theorem d3 (x : UInt8) : gm 2 (gm 9 x) ^^^ gm 3 (gm 13 x) ^^^ gm 1 (gm 11 x) ^^^ gm 1 (gm 14 x) = 0 := u8_all (p := fun x => gm 2 (gm 9 x) ^^^ gm 3 (gm 13 x) ^^^ gm 1 (gm 11 x) ^^^ gm 1 (gm 14 x) = 0) (by decide +kernel) x
end
/-- The four of a column encrypted, and back. -/
def mE (a b c d : UInt8) : UInt8 := mc 2 3 1 1 a b c d
def mD (a b c d : UInt8) : UInt8 := mc 14 11 13 9 a b c d
theorem mDE (a b c d : UInt8) : mD (mE a b c d) (mE b c d a) (mE c d a b) (mE d a b c) = a := by
  unfold mD mE mc
  simp only [gm_xor]
  have h : ∀ a0 a1 a2 a3 b0 b1 b2 b3 c0 c1 c2 c3 q0 q1 q2 q3 : UInt8, (a0 ^^^ b0 ^^^ c0 ^^^ q0) ^^^ (b1 ^^^ c1 ^^^ q1 ^^^ a1) ^^^ (c2 ^^^ q2 ^^^ a2 ^^^ b2) ^^^ (q3 ^^^ a3 ^^^ b3 ^^^ c3) = (a0 ^^^ a1 ^^^ a2 ^^^ a3) ^^^ (b0 ^^^ b1 ^^^ b2 ^^^ b3) ^^^ (c0 ^^^ c1 ^^^ c2 ^^^ c3) ^^^ (q0 ^^^ q1 ^^^ q2 ^^^ q3) := by intros; ac_rfl
  rw [h, e0 a, e1 b, e2 c, e3 d]
  simp
theorem mED (a b c d : UInt8) : mE (mD a b c d) (mD b c d a) (mD c d a b) (mD d a b c) = a := by
  unfold mD mE mc
  simp only [gm_xor]
  have h : ∀ a0 a1 a2 a3 b0 b1 b2 b3 c0 c1 c2 c3 q0 q1 q2 q3 : UInt8, (a0 ^^^ b0 ^^^ c0 ^^^ q0) ^^^ (b1 ^^^ c1 ^^^ q1 ^^^ a1) ^^^ (c2 ^^^ q2 ^^^ a2 ^^^ b2) ^^^ (q3 ^^^ a3 ^^^ b3 ^^^ c3) = (a0 ^^^ a1 ^^^ a2 ^^^ a3) ^^^ (b0 ^^^ b1 ^^^ b2 ^^^ b3) ^^^ (c0 ^^^ c1 ^^^ c2 ^^^ c3) ^^^ (q0 ^^^ q1 ^^^ q2 ^^^ q3) := by intros; ac_rfl
  rw [h, d0 a, d1 b, d2 c, d3 d]
  simp

/-- The i-th octet of what rows gives, by a table and a turn of j columns for each row. -/
def rowE (b : List UInt8) (i : Nat) : UInt8 := sb (b.getD (4 * ((i / 4 + i % 4) % 4) + i % 4) 0)
def rowD (b : List UInt8) (i : Nat) : UInt8 := bk (b.getD (4 * ((i / 4 + 3 * (i % 4)) % 4) + i % 4) 0)
def rowsE (b : List UInt8) : List UInt8 := (List.range 16).map (rowE b)
def rowsD (b : List UInt8) : List UInt8 := (List.range 16).map (rowD b)
/-- The i-th octet of what mix gives. -/
def mixI (f : UInt8 → UInt8 → UInt8 → UInt8 → UInt8) (b : List UInt8) (i : Nat) : UInt8 :=
  f (b.getD (4 * (i / 4) + i % 4) 0) (b.getD (4 * (i / 4) + (i % 4 + 1) % 4) 0) (b.getD (4 * (i / 4) + (i % 4 + 2) % 4) 0) (b.getD (4 * (i / 4) + (i % 4 + 3) % 4) 0)
def mixE (b : List UInt8) : List UInt8 := (List.range 16).map (mixI mE b)
def mixD (b : List UInt8) : List UInt8 := (List.range 16).map (mixI mD b)
theorem ex16 {b : List UInt8} (h : b.length = 16) : ∃ a0 a1 a2 a3 a4 a5 a6 a7 a8 a9 a10 a11 a12 a13 a14 a15, b = [a0, a1, a2, a3, a4, a5, a6, a7, a8, a9, a10, a11, a12, a13, a14, a15] := by
  match b, h with
  | [a0, a1, a2, a3, a4, a5, a6, a7, a8, a9, a10, a11, a12, a13, a14, a15], _ => exact ⟨a0, a1, a2, a3, a4, a5, a6, a7, a8, a9, a10, a11, a12, a13, a14, a15, rfl⟩
theorem rowsDE {b : List UInt8} (h : b.length = 16) : rowsD (rowsE b) = b := by
  obtain ⟨a0, a1, a2, a3, a4, a5, a6, a7, a8, a9, a10, a11, a12, a13, a14, a15, rfl⟩ := ex16 h
  show [bk (sb a0), bk (sb a1), bk (sb a2), bk (sb a3), bk (sb a4), bk (sb a5), bk (sb a6), bk (sb a7), bk (sb a8), bk (sb a9), bk (sb a10), bk (sb a11), bk (sb a12), bk (sb a13), bk (sb a14), bk (sb a15)] = _
  simp only [bk_sb]
theorem rowsED {b : List UInt8} (h : b.length = 16) : rowsE (rowsD b) = b := by
  obtain ⟨a0, a1, a2, a3, a4, a5, a6, a7, a8, a9, a10, a11, a12, a13, a14, a15, rfl⟩ := ex16 h
  show [sb (bk a0), sb (bk a1), sb (bk a2), sb (bk a3), sb (bk a4), sb (bk a5), sb (bk a6), sb (bk a7), sb (bk a8), sb (bk a9), sb (bk a10), sb (bk a11), sb (bk a12), sb (bk a13), sb (bk a14), sb (bk a15)] = _
  simp only [sb_bk]
theorem mixDE {b : List UInt8} (h : b.length = 16) : mixD (mixE b) = b := by
  obtain ⟨a0, a1, a2, a3, a4, a5, a6, a7, a8, a9, a10, a11, a12, a13, a14, a15, rfl⟩ := ex16 h
  show [mD (mE a0 a1 a2 a3) (mE a1 a2 a3 a0) (mE a2 a3 a0 a1) (mE a3 a0 a1 a2), mD (mE a1 a2 a3 a0) (mE a2 a3 a0 a1) (mE a3 a0 a1 a2) (mE a0 a1 a2 a3), mD (mE a2 a3 a0 a1) (mE a3 a0 a1 a2) (mE a0 a1 a2 a3) (mE a1 a2 a3 a0), mD (mE a3 a0 a1 a2) (mE a0 a1 a2 a3) (mE a1 a2 a3 a0) (mE a2 a3 a0 a1),
    mD (mE a4 a5 a6 a7) (mE a5 a6 a7 a4) (mE a6 a7 a4 a5) (mE a7 a4 a5 a6), mD (mE a5 a6 a7 a4) (mE a6 a7 a4 a5) (mE a7 a4 a5 a6) (mE a4 a5 a6 a7), mD (mE a6 a7 a4 a5) (mE a7 a4 a5 a6) (mE a4 a5 a6 a7) (mE a5 a6 a7 a4), mD (mE a7 a4 a5 a6) (mE a4 a5 a6 a7) (mE a5 a6 a7 a4) (mE a6 a7 a4 a5),
    mD (mE a8 a9 a10 a11) (mE a9 a10 a11 a8) (mE a10 a11 a8 a9) (mE a11 a8 a9 a10), mD (mE a9 a10 a11 a8) (mE a10 a11 a8 a9) (mE a11 a8 a9 a10) (mE a8 a9 a10 a11), mD (mE a10 a11 a8 a9) (mE a11 a8 a9 a10) (mE a8 a9 a10 a11) (mE a9 a10 a11 a8), mD (mE a11 a8 a9 a10) (mE a8 a9 a10 a11) (mE a9 a10 a11 a8) (mE a10 a11 a8 a9),
    mD (mE a12 a13 a14 a15) (mE a13 a14 a15 a12) (mE a14 a15 a12 a13) (mE a15 a12 a13 a14), mD (mE a13 a14 a15 a12) (mE a14 a15 a12 a13) (mE a15 a12 a13 a14) (mE a12 a13 a14 a15), mD (mE a14 a15 a12 a13) (mE a15 a12 a13 a14) (mE a12 a13 a14 a15) (mE a13 a14 a15 a12), mD (mE a15 a12 a13 a14) (mE a12 a13 a14 a15) (mE a13 a14 a15 a12) (mE a14 a15 a12 a13)] = _
  simp only [mDE]
theorem mixED {b : List UInt8} (h : b.length = 16) : mixE (mixD b) = b := by
  obtain ⟨a0, a1, a2, a3, a4, a5, a6, a7, a8, a9, a10, a11, a12, a13, a14, a15, rfl⟩ := ex16 h
  show [mE (mD a0 a1 a2 a3) (mD a1 a2 a3 a0) (mD a2 a3 a0 a1) (mD a3 a0 a1 a2), mE (mD a1 a2 a3 a0) (mD a2 a3 a0 a1) (mD a3 a0 a1 a2) (mD a0 a1 a2 a3), mE (mD a2 a3 a0 a1) (mD a3 a0 a1 a2) (mD a0 a1 a2 a3) (mD a1 a2 a3 a0), mE (mD a3 a0 a1 a2) (mD a0 a1 a2 a3) (mD a1 a2 a3 a0) (mD a2 a3 a0 a1),
    mE (mD a4 a5 a6 a7) (mD a5 a6 a7 a4) (mD a6 a7 a4 a5) (mD a7 a4 a5 a6), mE (mD a5 a6 a7 a4) (mD a6 a7 a4 a5) (mD a7 a4 a5 a6) (mD a4 a5 a6 a7), mE (mD a6 a7 a4 a5) (mD a7 a4 a5 a6) (mD a4 a5 a6 a7) (mD a5 a6 a7 a4), mE (mD a7 a4 a5 a6) (mD a4 a5 a6 a7) (mD a5 a6 a7 a4) (mD a6 a7 a4 a5),
    mE (mD a8 a9 a10 a11) (mD a9 a10 a11 a8) (mD a10 a11 a8 a9) (mD a11 a8 a9 a10), mE (mD a9 a10 a11 a8) (mD a10 a11 a8 a9) (mD a11 a8 a9 a10) (mD a8 a9 a10 a11), mE (mD a10 a11 a8 a9) (mD a11 a8 a9 a10) (mD a8 a9 a10 a11) (mD a9 a10 a11 a8), mE (mD a11 a8 a9 a10) (mD a8 a9 a10 a11) (mD a9 a10 a11 a8) (mD a10 a11 a8 a9),
    mE (mD a12 a13 a14 a15) (mD a13 a14 a15 a12) (mD a14 a15 a12 a13) (mD a15 a12 a13 a14), mE (mD a13 a14 a15 a12) (mD a14 a15 a12 a13) (mD a15 a12 a13 a14) (mD a12 a13 a14 a15), mE (mD a14 a15 a12 a13) (mD a15 a12 a13 a14) (mD a12 a13 a14 a15) (mD a13 a14 a15 a12), mE (mD a15 a12 a13 a14) (mD a12 a13 a14 a15) (mD a13 a14 a15 a12) (mD a14 a15 a12 a13)] = _
  simp only [mED]

/-- A round's key, xored. -/
def rk (K : List UInt8) (r : Nat) : List UInt8 := (K.drop (16 * r)).take 16
def addF (b k : List UInt8) : List UInt8 := List.zipWith (· ^^^ ·) b k
theorem addF_len {b k : List UInt8} (h : b.length = 16) (hk : k.length = 16) : (addF b k).length = 16 := by unfold addF; rw [List.length_zipWith, h, hk]; rfl
theorem addF_twice {b k : List UInt8} (h : b.length = 16) (hk : k.length = 16) : addF (addF b k) k = b := by
  unfold addF
  apply List.ext_getElem
  · rw [List.length_zipWith, List.length_zipWith, h, hk]; rfl
  · intro i h1 h2
    simp [UInt8.xor_assoc]
theorem rk_len {K : List UInt8} (hK : K.length = 240) {r : Nat} (hr : r ≤ 14) : (rk K r).length = 16 := by unfold rk; rw [List.length_take, List.length_drop, hK]; omega
theorem rowsE_len (b : List UInt8) : (rowsE b).length = 16 := by simp [rowsE]
theorem rowsD_len (b : List UInt8) : (rowsD b).length = 16 := by simp [rowsD]
theorem mixE_len (b : List UInt8) : (mixE b).length = 16 := by simp [mixE]
theorem mixD_len (b : List UInt8) : (mixD b).length = 16 := by simp [mixD]
def mxE (r : Nat) (b : List UInt8) : List UInt8 := if r < 14 then mixE b else b
def mxD (r : Nat) (b : List UInt8) : List UInt8 := if r < 14 then mixD b else b
theorem mxE_len (r : Nat) {b : List UInt8} (h : b.length = 16) : (mxE r b).length = 16 := by unfold mxE; split; exact mixE_len b; exact h
theorem mxD_len (r : Nat) {b : List UInt8} (h : b.length = 16) : (mxD r b).length = 16 := by unfold mxD; split; exact mixD_len b; exact h
theorem mxDE (r : Nat) {b : List UInt8} (h : b.length = 16) : mxD r (mxE r b) = b := by unfold mxD mxE; split; exact mixDE h; rfl
theorem mxED (r : Nat) {b : List UInt8} (h : b.length = 16) : mxE r (mxD r b) = b := by unfold mxD mxE; split; exact mixED h; rfl
def encR (K b : List UInt8) : Nat → List UInt8
  | 0 => addF b (rk K 0)
  | r + 1 => addF (mxE (r + 1) (rowsE (encR K b r))) (rk K (r + 1))
def encF (K b : List UInt8) : List UInt8 := encR K b 14
/-- Backward: what stands behind the rounds 14 down to r + 1. -/
def decR (K b : List UInt8) : Nat → List UInt8
  | 0 => b
  | k + 1 => rowsD (mxD (14 - k) (addF (decR K b k) (rk K (14 - k))))
def decF (K b : List UInt8) : List UInt8 := addF (decR K b 14) (rk K 0)
theorem encR_len {K b : List UInt8} (hK : K.length = 240) (hb : b.length = 16) : ∀ r, r ≤ 14 → (encR K b r).length = 16
  | 0, _ => addF_len hb (rk_len hK (by omega))
  | r + 1, h => addF_len (mxE_len _ (rowsE_len _)) (rk_len hK h)
theorem decR_len (K : List UInt8) {b : List UInt8} (hb : b.length = 16) : ∀ k, (decR K b k).length = 16
  | 0 => hb
  | k + 1 => rowsD_len _
theorem encF_len {K b : List UInt8} (hK : K.length = 240) (hb : b.length = 16) : (encF K b).length = 16 := encR_len hK hb 14 (by omega)
theorem decF_len {K b : List UInt8} (hK : K.length = 240) (hb : b.length = 16) : (decF K b).length = 16 := addF_len (decR_len K hb 14) (rk_len hK (by omega))
theorem dec_enc {K b : List UInt8} (hK : K.length = 240) (hb : b.length = 16) : decF K (encF K b) = b := by
  have key : ∀ k, k ≤ 14 → decR K (encF K b) k = encR K b (14 - k) := by
    intro k
    induction k with
    | zero => intro _; rfl
    | succ k ih =>
      intro hk
      obtain ⟨r, hr⟩ : ∃ r, 14 - k = r + 1 := ⟨13 - k, by omega⟩
      show rowsD (mxD (14 - k) (addF (decR K (encF K b) k) (rk K (14 - k)))) = _
      rw [ih (by omega), hr, show 14 - (k + 1) = r by omega]
      show rowsD (mxD (r + 1) (addF (addF (mxE (r + 1) (rowsE (encR K b r))) (rk K (r + 1))) (rk K (r + 1)))) = _
      rw [addF_twice (mxE_len _ (rowsE_len _)) (rk_len hK (by omega)), mxDE _ (rowsE_len _), rowsDE (encR_len hK hb r (by omega))]
  unfold decF
  rw [key 14 (by omega)]
  exact addF_twice hb (rk_len hK (by omega))
theorem enc_dec {K b : List UInt8} (hK : K.length = 240) (hb : b.length = 16) : encF K (decF K b) = b := by
  have key : ∀ r, r ≤ 14 → encR K (decF K b) r = decR K b (14 - r) := by
    intro r
    induction r with
    | zero => intro _; exact addF_twice (decR_len K hb 14) (rk_len hK (by omega))
    | succ r ih =>
      intro hr
      obtain ⟨k, hk⟩ : ∃ k, 14 - r = k + 1 := ⟨13 - r, by omega⟩
      show addF (mxE (r + 1) (rowsE (encR K (decF K b) r))) (rk K (r + 1)) = _
      rw [ih (by omega), hk, show 14 - (r + 1) = k by omega]
      show addF (mxE (r + 1) (rowsE (rowsD (mxD (14 - k) (addF (decR K b k) (rk K (14 - k))))))) (rk K (r + 1)) = _
      rw [rowsED (mxD_len _ (addF_len (decR_len K hb k) (rk_len hK (by omega)))), show 14 - k = r + 1 by omega, mxED _ (addF_len (decR_len K hb k) (rk_len hK (by omega))), addF_twice (decR_len K hb k) (rk_len hK (by omega))]
  exact key 14 (by omega)
end Go.Proofs.Ythamhaomfdgdjaa
