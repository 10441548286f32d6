/- Words of 64 bits: the code's arithmetic on them. -/
import Derived.Test.YtfmfpckpldlahaaDoorPBx
import Derived.Test.YtfmfpckpldlahaaDoorBits
import Derived.Test.YtfmfpckpldlahaaDoorKd
namespace Go.Proofs.YtfmfpckpldlahaaDoor.Pure
open Go.RowKit Go.Proofs.YtfmfpckpldlahaaDoor Go.Proofs.YtfmfpckpldlahaaDoor.PB Go.Proofs.YtfmfpckpldlahaaDoorW.PrintWords Go.Proofs.YtfmfpckpldlahaaDoorW.PrintLast Go.Proofs.YtfmfpckpldlahaaDoorW.PrintMore

abbrev W := BitVec 64
/-- A word as the code has it. -/
def tn (x : W) : Int := (x.toNat : Int)
theorem tn_lt (x : W) : 0 ≤ tn x ∧ tn x < 18446744073709551616 := by have := x.isLt; unfold tn; omega
theorem tn_of {n : Nat} (h : n < 18446744073709551616) : tn (BitVec.ofNat 64 n) = (n : Int) := by
  unfold tn; rw [BitVec.toNat_ofNat, Nat.mod_eq_of_lt h]

theorem wrapW (z : Int) : IntKind.u64.wrap z = z % 18446744073709551616 := by first | exact IntKind.wrap_u32 z | exact u64_wrap z
theorem wrapW_nat (n : Nat) : IntKind.u64.wrap ((n : Int)) = tn (BitVec.ofNat 64 n) := by
  unfold tn
  rw [BitVec.toNat_ofNat]
  first
    | (rw [wrapW]; omega)
    | omega
theorem addW (x y : W) : IntKind.u64.wrap (tn x + tn y) = tn (x + y) := by
  have e : tn x + tn y = ((x.toNat + y.toNat : Nat) : Int) := by unfold tn; omega
  rw [e, wrapW_nat, BitVec.ofNat_add, BitVec.ofNat_toNat, BitVec.ofNat_toNat, BitVec.setWidth_eq, BitVec.setWidth_eq]

theorem ofInt_tn (x : W) : BitVec.ofInt 64 (tn x) = x := by
  unfold tn; rw [BitVec.ofInt_natCast, BitVec.ofNat_toNat, BitVec.setWidth_eq]
theorem wrap_tn (x : W) : IntKind.u64.wrap ((x.toNat : Nat) : Int) = tn x := by
  have := x.isLt; rw [wrapW]; unfold tn; omega
theorem xorW (x y : W) : Go.bits .xor .u64 (tn x) (tn y) = tn (x ^^^ y) := by
  show IntKind.u64.wrap ((BitVec.ofInt 64 (tn x) ^^^ BitVec.ofInt 64 (tn y)).toNat : Int) = _
  rw [ofInt_tn, ofInt_tn, wrap_tn]
theorem andW (x y : W) : Go.bits .and .u64 (tn x) (tn y) = tn (x &&& y) := by
  show IntKind.u64.wrap ((BitVec.ofInt 64 (tn x) &&& BitVec.ofInt 64 (tn y)).toNat : Int) = _
  rw [ofInt_tn, ofInt_tn, wrap_tn]
theorem orW (x y : W) : Go.bits .or .u64 (tn x) (tn y) = tn (x ||| y) := by
  show IntKind.u64.wrap ((BitVec.ofInt 64 (tn x) ||| BitVec.ofInt 64 (tn y)).toNat : Int) = _
  rw [ofInt_tn, ofInt_tn, wrap_tn]
theorem maxW : IntKind.u64.max = tn (BitVec.allOnes 64) := by decide +kernel
theorem notW (x : W) : Go.bits .xor .u64 IntKind.u64.max (tn x) = tn (~~~x) := by
  rw [maxW, xorW, BitVec.allOnes_xor]
theorem shrW (x : W) (n : Nat) : tn x / 2 ^ n = tn (x >>> n) := by
  unfold tn
  rw [BitVec.toNat_ushiftRight, Nat.shiftRight_eq_div_pow, Int.natCast_ediv]
  congr 1
theorem shlW (x : W) (n : Nat) : IntKind.u64.wrap (tn x * 2 ^ n) = tn (x <<< n) := by
  unfold tn
  rw [BitVec.toNat_shiftLeft, Nat.shiftLeft_eq, wrapW, Int.natCast_emod, Int.natCast_mul, Int.natCast_pow]
  rfl
theorem shr_f (x : W) (n : Nat) (h : n < 64) : shr .u64 (tn x) (n : Int) = tn (x >>> n) := by
  unfold shr
  rw [Int.toNat_natCast, Nat.min_eq_left (by show n ≤ 64; omega), shrW]
theorem shl_f (x : W) (n : Nat) (h : n < 64) : shl .u64 (tn x) (n : Int) = tn (x <<< n) := by
  unfold shl
  rw [Int.toNat_natCast, Nat.min_eq_left (by show n ≤ 64; omega), shlW]

/-- A word turned to the right. -/
def rotr (x : W) (n : Nat) : W := x >>> n ||| x <<< (64 - n)
theorem ref_rotr (x : W) (n : Nat) (h0 : 0 < n) (h : n < 64) : turnkeyref04_rotr.f (tn x) (n : Int) = some (tn (rotr x n)) := by
  unfold turnkeyref04_rotr.f
  have e : wrap64 (64 - (n : Int)) = ((64 - n : Nat) : Int) := by rw [wrap64_id (by omega) (by omega)]; omega
  rw [if_pos (by omega), e, if_pos (by omega), shr_f x n h, shl_f x _ (by omega), orW]; rfl

theorem rotl_f (x : W) (n : Nat) (m : Nat) (hm : m = 64 - n) (h0 : 0 < n) (h : n < 64) (a : Int) (ha : Go.bits .and .u64 (IntKind.u64.wrap a) 63 = (m : Int)) : bits_RotateLeft64.f (tn x) a = some (tn (rotr x n)) := by
  unfold bits_RotateLeft64.f
  have e : IntKind.u64.wrap (64 - (m : Int)) = (n : Int) := by rw [u64_wrap]; omega
  rw [ha, if_pos (by omega), e, if_pos (by omega), shr_f x n h, shl_f x m (by omega), orW]
  unfold rotr
  rw [hm, BitVec.or_comm]

theorem w_sub (n m : Nat) (h : m ≤ n) (hn : n ≤ 1000000000) : wrap64 ((n : Int) - (m : Int)) = ((n - m : Nat) : Int) := by
  rw [wrap64_id (by omega) (by omega)]; omega
theorem w_add (n m : Nat) (hn : n + m ≤ 1000000000) : wrap64 ((n : Int) + (m : Int)) = ((n + m : Nat) : Int) := by
  rw [wrap64_id (by omega) (by omega)]; omega
theorem w_mul (n m : Nat) (hn : n * m ≤ 1000000000) : wrap64 ((n : Int) * (m : Int)) = ((n * m : Nat) : Int) := by
  rw [← Int.natCast_mul, wrap64_id (by omega) (by omega)]
theorem rd_i8s (xs : List UInt8) (i : Nat) (h : i < xs.length) : rd (i8s xs) (i : Int) = ((xs[i]).toNat : Int) := by
  unfold rd i8s
  rw [Int.toNat_natCast, List.getD_eq_getElem?_getD, List.getElem?_map, List.getElem?_eq_getElem h]; rfl
theorem strOfNums_i8s (xs : List UInt8) : strOfNums (i8s xs) = str xs := by
  apply ByteArray.ext
  unfold strOfNums i8s str
  simp [List.map_map, Function.comp_def]

def smallF (x : W) (a b c : Nat) : W := rotr x a ^^^ rotr x b ^^^ x >>> c
def greatF (x : W) (a b c : Nat) : W := rotr x a ^^^ rotr x b ^^^ rotr x c
theorem small1 (x : W) : sha512_small.f (tn x) 19 61 6 = some (tn (smallF x 19 61 6)) := by
  unfold sha512_small.f
  rw [rotl_f x 19 (64 - 19) rfl (by decide) (by decide) _ (by decide +kernel), Option.bind_some, rotl_f x 61 (64 - 61) rfl (by decide) (by decide) _ (by decide +kernel), Option.bind_some, if_pos (by decide), xorW, show (6 : Int) = ((6 : Nat) : Int) from rfl, shr_f x 6 (by decide), xorW]; rfl
theorem small2 (x : W) : sha512_small.f (tn x) 1 8 7 = some (tn (smallF x 1 8 7)) := by
  unfold sha512_small.f
  rw [rotl_f x 1 (64 - 1) rfl (by decide) (by decide) _ (by decide +kernel), Option.bind_some, rotl_f x 8 (64 - 8) rfl (by decide) (by decide) _ (by decide +kernel), Option.bind_some, if_pos (by decide), xorW, show (7 : Int) = ((7 : Nat) : Int) from rfl, shr_f x 7 (by decide), xorW]; rfl
theorem great1 (x : W) : sha512_great.f (tn x) 14 18 41 = some (tn (greatF x 14 18 41)) := by
  unfold sha512_great.f
  rw [rotl_f x 14 (64 - 14) rfl (by decide) (by decide) _ (by decide +kernel), Option.bind_some, rotl_f x 18 (64 - 18) rfl (by decide) (by decide) _ (by decide +kernel), Option.bind_some, rotl_f x 41 (64 - 41) rfl (by decide) (by decide) _ (by decide +kernel), Option.bind_some, xorW, xorW]; rfl
theorem great2 (x : W) : sha512_great.f (tn x) 28 34 39 = some (tn (greatF x 28 34 39)) := by
  unfold sha512_great.f
  rw [rotl_f x 28 (64 - 28) rfl (by decide) (by decide) _ (by decide +kernel), Option.bind_some, rotl_f x 34 (64 - 34) rfl (by decide) (by decide) _ (by decide +kernel), Option.bind_some, rotl_f x 39 (64 - 39) rfl (by decide) (by decide) _ (by decide +kernel), Option.bind_some, xorW, xorW]; rfl

theorem ch_eq (e f g : W) : g ^^^ (e &&& (f ^^^ g)) = (e &&& f) ^^^ (~~~e &&& g) := by
  apply BitVec.eq_of_getLsbD_eq
  intro i hi
  simp only [BitVec.getLsbD_xor, BitVec.getLsbD_and, BitVec.getLsbD_not, hi, decide_true, Bool.true_and]
  cases e.getLsbD i <;> cases f.getLsbD i <;> cases g.getLsbD i <;> rfl
theorem maj_eq (a b c : W) : (a &&& b) ||| ((a ||| b) &&& c) = (a &&& b) ^^^ (a &&& c) ^^^ (b &&& c) := by
  apply BitVec.eq_of_getLsbD_eq
  intro i hi
  simp only [BitVec.getLsbD_xor, BitVec.getLsbD_and, BitVec.getLsbD_or]
  cases a.getLsbD i <;> cases b.getLsbD i <;> cases c.getLsbD i <;> rfl
end Go.Proofs.YtfmfpckpldlahaaDoor.Pure
