/- Words of 32 bits: the code's arithmetic on them. -/
import Derived.Test.YtebhagmleojdiaaDoorPBx
import Derived.Test.YtebhagmleojdiaaDoorBits
import Derived.Test.YtebhagmleojdiaaDoorKd
namespace Go.Proofs.YtebhagmleojdiaaDoor.Pure
open Go.RowKit Go.Proofs.YtebhagmleojdiaaDoor Go.Proofs.YtebhagmleojdiaaDoor.PB Go.Proofs.YtebhagmleojdiaaDoorW.PrintWords Go.Proofs.YtebhagmleojdiaaDoorW.PrintLast Go.Proofs.YtebhagmleojdiaaDoorW.PrintMore

abbrev W := BitVec 32
/-- A word as the code has it. -/
def tn (x : W) : Int := (x.toNat : Int)
theorem tn_lt (x : W) : 0 ≤ tn x ∧ tn x < 4294967296 := by have := x.isLt; unfold tn; omega
theorem tn_of {n : Nat} (h : n < 4294967296) : tn (BitVec.ofNat 32 n) = (n : Int) := by
  unfold tn; rw [BitVec.toNat_ofNat, Nat.mod_eq_of_lt h]

theorem wrapW (z : Int) : IntKind.u32.wrap z = z % 4294967296 := by first | exact IntKind.wrap_u32 z | exact u64_wrap z
theorem wrapW_nat (n : Nat) : ((n : Int)) % (4294967296 : Int) = tn (BitVec.ofNat 32 n) := by
  unfold tn
  rw [BitVec.toNat_ofNat]
  first
    | (rw [wrapW]; omega)
    | omega
theorem addW (x y : W) : (tn x + tn y) % (4294967296 : Int) = tn (x + y) := by
  have e : tn x + tn y = ((x.toNat + y.toNat : Nat) : Int) := by unfold tn; omega
  rw [e, wrapW_nat, BitVec.ofNat_add, BitVec.ofNat_toNat, BitVec.ofNat_toNat, BitVec.setWidth_eq, BitVec.setWidth_eq]

theorem ofInt_tn (x : W) : BitVec.ofInt 32 (tn x) = x := by
  unfold tn; rw [BitVec.ofInt_natCast, BitVec.ofNat_toNat, BitVec.setWidth_eq]
theorem wrap_tn (x : W) : IntKind.u32.wrap ((x.toNat : Nat) : Int) = tn x := by
  have := x.isLt; rw [wrapW]; unfold tn; omega
theorem xorW (x y : W) : Go.bits .xor .u32 (tn x) (tn y) = tn (x ^^^ y) := by
  show IntKind.u32.wrap ((BitVec.ofInt 32 (tn x) ^^^ BitVec.ofInt 32 (tn y)).toNat : Int) = _
  rw [ofInt_tn, ofInt_tn, wrap_tn]
theorem andW (x y : W) : Go.bits .and .u32 (tn x) (tn y) = tn (x &&& y) := by
  show IntKind.u32.wrap ((BitVec.ofInt 32 (tn x) &&& BitVec.ofInt 32 (tn y)).toNat : Int) = _
  rw [ofInt_tn, ofInt_tn, wrap_tn]
theorem orW (x y : W) : Go.bits .or .u32 (tn x) (tn y) = tn (x ||| y) := by
  show IntKind.u32.wrap ((BitVec.ofInt 32 (tn x) ||| BitVec.ofInt 32 (tn y)).toNat : Int) = _
  rw [ofInt_tn, ofInt_tn, wrap_tn]
theorem maxW : IntKind.u32.max = tn (BitVec.allOnes 32) := by decide +kernel
theorem notW (x : W) : Go.bits .xor .u32 IntKind.u32.max (tn x) = tn (~~~x) := by
  rw [maxW, xorW, BitVec.allOnes_xor]
theorem shrW (x : W) (n : Nat) : tn x / 2 ^ n = tn (x >>> n) := by
  unfold tn
  rw [BitVec.toNat_ushiftRight, Nat.shiftRight_eq_div_pow, Int.natCast_ediv]
  congr 1
theorem shlW (x : W) (n : Nat) : IntKind.u32.wrap (tn x * 2 ^ n) = tn (x <<< n) := by
  unfold tn
  rw [BitVec.toNat_shiftLeft, Nat.shiftLeft_eq, wrapW, Int.natCast_emod, Int.natCast_mul, Int.natCast_pow]
  rfl
theorem shr_f (x : W) (n : Nat) (h : n < 32) : shr .u32 (tn x) (n : Int) = tn (x >>> n) := by
  unfold shr
  rw [Int.toNat_natCast, Nat.min_eq_left (by show n ≤ 32; omega), shrW]
theorem shl_f (x : W) (n : Nat) (h : n < 32) : shl .u32 (tn x) (n : Int) = tn (x <<< n) := by
  unfold shl
  rw [Int.toNat_natCast, Nat.min_eq_left (by show n ≤ 32; omega), shlW]

/-- A word turned to the right. -/
def rotr (x : W) (n : Nat) : W := x >>> n ||| x <<< (32 - n)
theorem ref_rotr (x : W) (n : Nat) (h0 : 0 < n) (h : n < 32) : turnkeyref03_rotr.f (tn x) (n : Int) = some (tn (rotr x n)) := by
  unfold turnkeyref03_rotr.f
  have e : wrap64 (32 - (n : Int)) = ((32 - n : Nat) : Int) := by rw [wrap64_id (by omega) (by omega)]; omega
  rw [if_pos (by omega), e, if_pos (by omega), shr_f x n h, shl_f x _ (by omega), orW]; rfl

theorem rotl_f (x : W) (n : Nat) (m : Nat) (hm : m = 32 - n) (h0 : 0 < n) (h : n < 32) (a : Int) (ha : Go.bits .and .u64 (IntKind.u64.wrap a) 31 = (m : Int)) : bits_RotateLeft32.f (tn x) a = some (tn (rotr x n)) := by
  unfold bits_RotateLeft32.f
  have e : IntKind.u64.wrap (32 - (m : Int)) = (n : Int) := by rw [u64_wrap]; omega
  rw [ha, if_pos (by omega), e, if_pos (by omega), shr_f x n h, shl_f x m (by omega), orW]
  unfold rotr
  rw [hm, BitVec.or_comm]

theorem w_sub (n m : Nat) (h : m ≤ n) (hn : n ≤ 1000000000) : wrap64 ((n : Int) - (m : Int)) = ((n - m : Nat) : Int) := by
  rw [wrap64_id (by omega) (by omega)]; omega
theorem w_add (n m : Nat) (hn : n + m ≤ 1000000000) : wrap64 ((n : Int) + (m : Int)) = ((n + m : Nat) : Int) := by
  rw [wrap64_id (by omega) (by omega)]; omega
theorem w_mul (n m : Nat) (hn : n * m ≤ 1000000000) : wrap64 ((n : Int) * (m : Int)) = ((n * m : Nat) : Int) := by
  rw [← Int.natCast_mul, wrap64_id (by omega) (by omega)]
theorem rd_i8s (xs : List UInt8) (i : Nat) (h : i < xs.length) : rd (i8s xs) (i : Int) = ((xs[i]).toNat : Int) := by
  unfold rd i8s
  rw [Int.toNat_natCast, List.getD_eq_getElem?_getD, List.getElem?_map, List.getElem?_eq_getElem h]; rfl
theorem strOfNums_i8s (xs : List UInt8) : strOfNums (i8s xs) = str xs := by
  apply ByteArray.ext
  unfold strOfNums i8s str
  simp [List.map_map, Function.comp_def]

def smallF (x : W) (a b c : Nat) : W := rotr x a ^^^ rotr x b ^^^ x >>> c
def greatF (x : W) (a b c : Nat) : W := rotr x a ^^^ rotr x b ^^^ rotr x c
theorem small1 (x : W) : sha256_small.f (tn x) 17 19 10 = some (tn (smallF x 17 19 10)) := by
  unfold sha256_small.f
  rw [rotl_f x 17 (32 - 17) rfl (by decide) (by decide) _ (by decide +kernel), Option.bind_some, rotl_f x 19 (32 - 19) rfl (by decide) (by decide) _ (by decide +kernel), Option.bind_some, if_pos (by decide), xorW, show (10 : Int) = ((10 : Nat) : Int) from rfl, shr_f x 10 (by decide), xorW]; rfl
theorem small2 (x : W) : sha256_small.f (tn x) 7 18 3 = some (tn (smallF x 7 18 3)) := by
  unfold sha256_small.f
  rw [rotl_f x 7 (32 - 7) rfl (by decide) (by decide) _ (by decide +kernel), Option.bind_some, rotl_f x 18 (32 - 18) rfl (by decide) (by decide) _ (by decide +kernel), Option.bind_some, if_pos (by decide), xorW, show (3 : Int) = ((3 : Nat) : Int) from rfl, shr_f x 3 (by decide), xorW]; rfl
theorem great1 (x : W) : sha256_great.f (tn x) 6 11 25 = some (tn (greatF x 6 11 25)) := by
  unfold sha256_great.f
  rw [rotl_f x 6 (32 - 6) rfl (by decide) (by decide) _ (by decide +kernel), Option.bind_some, rotl_f x 11 (32 - 11) rfl (by decide) (by decide) _ (by decide +kernel), Option.bind_some, rotl_f x 25 (32 - 25) rfl (by decide) (by decide) _ (by decide +kernel), Option.bind_some, xorW, xorW]; rfl
theorem great2 (x : W) : sha256_great.f (tn x) 2 13 22 = some (tn (greatF x 2 13 22)) := by
  unfold sha256_great.f
  rw [rotl_f x 2 (32 - 2) rfl (by decide) (by decide) _ (by decide +kernel), Option.bind_some, rotl_f x 13 (32 - 13) rfl (by decide) (by decide) _ (by decide +kernel), Option.bind_some, rotl_f x 22 (32 - 22) rfl (by decide) (by decide) _ (by decide +kernel), Option.bind_some, xorW, xorW]; rfl

theorem ch_eq (e f g : W) : g ^^^ (e &&& (f ^^^ g)) = (e &&& f) ^^^ (~~~e &&& g) := by
  apply BitVec.eq_of_getLsbD_eq
  intro i hi
  simp only [BitVec.getLsbD_xor, BitVec.getLsbD_and, BitVec.getLsbD_not, hi, decide_true, Bool.true_and]
  cases e.getLsbD i <;> cases f.getLsbD i <;> cases g.getLsbD i <;> rfl
theorem maj_eq (a b c : W) : (a &&& b) ||| ((a ||| b) &&& c) = (a &&& b) ^^^ (a &&& c) ^^^ (b &&& c) := by
  apply BitVec.eq_of_getLsbD_eq
  intro i hi
  simp only [BitVec.getLsbD_xor, BitVec.getLsbD_and, BitVec.getLsbD_or]
  cases a.getLsbD i <;> cases b.getLsbD i <;> cases c.getLsbD i <;> rfl
end Go.Proofs.YtebhagmleojdiaaDoor.Pure
