/- base64.group. -/
import Derived.Test.YtmpkbjkdmbgmhaaBls
import Derived.Test.YtmpkbjkdmbgmhaaMake
import Derived.Test.YtmpkbjkdmbgmhaaCat
import Derived.Test.YtmpkbjkdmbgmhaaBits
namespace Go.Proofs.Ytmpkbjkdmbgmhaa
open Go.RowKit

def signs : List UInt8 := [65, 66, 67, 68, 69, 70, 71, 72, 73, 74, 75, 76, 77, 78, 79, 80, 81, 82, 83, 84, 85, 86, 87, 88, 89, 90, 97, 98, 99, 100, 101, 102, 103, 104, 105, 106, 107, 108, 109, 110, 111, 112, 113, 114, 115, 116, 117, 118, 119, 120, 121, 122, 48, 49, 50, 51, 52, 53, 54, 55, 56, 57, 45, 95]
def sgn (n : Nat) : UInt8 := signs.getD n 0

/-- The four numbers of three bytes. -/
def six (x y z : Nat) : List Nat := [x / 4, x % 4 * 16 + y / 16, y % 16 * 4 + z / 64, z % 64]
def sixF (p : List UInt8) : List Nat := (six (p.getD 0 0).toNat (p.getD 1 0).toNat (p.getD 2 0).toNat).take (p.length + 1)
def groupF (p : List UInt8) : List UInt8 := (sixF p).map sgn

theorem splice_three {p : List UInt8} (h3 : p.length ≤ 3) : splice (List.replicate 3 (.int .u8 0)) 0 (p.map bV) = [bV (p.getD 0 0), bV (p.getD 1 0), bV (p.getD 2 0)] := by
  match p, h3 with
  | [], _ => rfl
  | [a], _ => rfl
  | [a, b], _ => rfl
  | [a, b, c], _ => rfl
  | _ :: _ :: _ :: _ :: _, h => simp at h

theorem RdB.srcAt {w : World} {A : Option Addr} {p : List UInt8} (h : RdB w A p) (hn : 1 ≤ p.length) : ∃ ad, A = some ad ∧ ∀ (j : Nat) (v : Value), (p.map bV)[j]? = some v → w.cell? (ad.add j) = some v := by
  rcases h with h | ⟨b, o, rfl, h⟩
  · have : p = [] := by simpa using h
    subst this; simp at hn
  · refine ⟨_, rfl, fun j v hv => ?_⟩
    have hj := (List.getElem?_eq_some_iff.1 hv).1
    have hadd : (⟨b, o, none⟩ : Addr).add j = ⟨b, o + j, none⟩ := by unfold Addr.add; split <;> simp_all
    rw [hadd, h j hj]; exact hv

theorem or_join8 (k a b : Nat) (ha : a % 2 ^ k = 0) (hb : b < 2 ^ k) (h : a + b < 256) : bits .or .u8 (a : Int) (b : Int) = ((a + b : Nat) : Int) := by
  show IntKind.u8.wrap ((BitVec.ofInt 8 a ||| BitVec.ofInt 8 b).toNat : Int) = _
  rw [IntKind.wrap_u8, BitVec.ofInt_natCast, BitVec.ofInt_natCast, BitVec.toNat_or, BitVec.toNat_ofNat, BitVec.toNat_ofNat, Nat.mod_eq_of_lt (show a < 2 ^ 8 by omega), Nat.mod_eq_of_lt (show b < 2 ^ 8 by omega), nat_join k a b ha hb]
  omega

theorem idx_sgn {P : Program} {t : TypeId} (h : P.underlying t = some .string) (l : List UInt8) (kd : IntKind) (k : Nat) (hk : k < l.length) (w : World) :
    (Instr.index t (.string (str l)) (.int kd (k : Int))).run P w = .ok (.int .u8 ((l.getD k 0).toNat : Int)) w := by
  have hs : k < (str l).size := by rw [str_size]; exact hk
  have hi : 0 ≤ (k : Int) ∧ (k : Int) < ((str l).size : Int) := by omega
  rw [run_index_string w t (str l) kd k h, dif_pos hi]
  have e : (str l)[(k : Int).toNat]'(by simpa using hs) = l[k] := rfl
  rw [e, List.getD_eq_getElem?_getD, List.getElem?_eq_getElem hk]
  rfl

set_option maxHeartbeats 1600000 in
theorem group_any (b : Nat) (S : Nat → Prop) (l : List UInt8) (A : Option Addr) (n c : Nat) (p : List UInt8) (w : World) (hB : BldS b S l w) (hl : l.length ≤ 70368744177664) (hn : p.length = n) (h : RdB w A p) (h3 : n ≤ 3) :
    Calls Try.prog 19 #[.pointer (some ⟨b, 0, none⟩), .slice A n c] w fun e w' => (∃ v, e = .returned v) ∧ BldS b S (l ++ groupF p) w' ∧ KeepS S w w' := by
  have HN := Lib.hid hn
  have H := Lib.hid h
  have HB := Lib.hid hB
  clear hn h hB
  go_enter Try.func19, Try.ntmps19
  have HX := Lib.hid (splice_three (p := p) (by rw [HN.out]; exact h3))
  have hx0 := UInt8.toNat_lt (p.getD 0 0)
  have hx1 := UInt8.toNat_lt (p.getD 1 0)
  have hx2 := UInt8.toNat_lt (p.getD 2 0)
  have HSX : Hid (sixF p = (six (p.getD 0 0).toNat (p.getD 1 0).toNat (p.getD 2 0).toNat).take (n + 1)) := Lib.hid (by unfold sixF; rw [HN.out])
  generalize p.getD 0 0 = X at *
  generalize p.getD 1 0 = Y at *
  generalize p.getD 2 0 = Z at *
  have b1 : bits .or .u8 ((X.toNat : Int) * 16 % 64) ((Y.toNat : Int) / 16) = (X.toNat : Int) % 4 * 16 + (Y.toNat : Int) / 16 := by
    rw [show (X.toNat : Int) * 16 % 64 = ((X.toNat % 4 * 16 : Nat) : Int) by omega, show (Y.toNat : Int) / 16 = ((Y.toNat / 16 : Nat) : Int) by omega]
    rw [or_join8 4 _ _ (by omega) (by omega) (by omega)]; omega
  have b2 : bits .or .u8 ((Y.toNat : Int) * 4 % 64) ((Z.toNat : Int) / 64) = (Y.toNat : Int) % 16 * 4 + (Z.toNat : Int) / 64 := by
    rw [show (Y.toNat : Int) * 4 % 64 = ((Y.toNat % 16 * 4 : Nat) : Int) by omega, show (Z.toNat : Int) / 64 = ((Z.toNat / 64 : Nat) : Int) by omega]
    rw [or_join8 2 _ _ (by omega) (by omega) (by omega)]; omega
  have hn4 : (n : Int) + 1 ≤ 4 := by omega
  have hn5 : n + 1 ≤ 4 := by omega
  have hn6 : 0 ≤ (n : Int) + 1 := by omega
  go_wp2_with ((with_reducible show wpList _ _ _ (⟨some 10, _, _, _, _, _⟩ :: _) _ _); refine wpList_copy_splice (o := ⟨some 10, _, _, _, _, _⟩) rfl _ _ _ _ rfl 5 Try.underlying23 (by kernel_rfl) _ _ _ _ _ _ rfl rfl w.heap.size 0 (List.replicate 3 (.int .u8 0)) 52 (heap_alloc_new w _) (p.map bV) (by rw [List.length_map, HN.out]; exact (Nat.min_eq_left h3).symm) (fun hq => ⟨rfl, RdB.srcAt (H.out.keep ((Below.refl _ w).alloc (Nat.le_refl _) _)) (by rw [List.length_map] at hq; exact hq)⟩) (by rw [List.length_map, HN.out]; simp; omega) (one_bV p) w.heap.size w ((Below.refl _ w).alloc (Nat.le_refl _) _) (Nat.le_refl _) (fun w1 hk1 hb1 => ?_); rw [HX.out] at hk1; go_loud (have BK := (show Blk w1 w.heap.size 52 [bV X, bV Y, bV Z] from hk1.out); have hc0 : w1.cell? ⟨w.heap.size, 0, none⟩ = some (.int .u8 (X.toNat : Int)) := BK.cell 0; have hc1 : w1.cell? ⟨w.heap.size, 1, none⟩ = some (.int .u8 (Y.toNat : Int)) := BK.cell 1; have hc2 : w1.cell? ⟨w.heap.size, 2, none⟩ = some (.int .u8 (Z.toNat : Int)) := BK.cell 2))
  have HL := Lib.hid (show [Value.int .u8 ((X.toNat : Int) / 4), .int .u8 ((X.toNat : Int) % 4 * 16 + (Y.toNat : Int) / 16), .int .u8 ((Y.toNat : Int) % 16 * 4 + (Z.toNat : Int) / 64), .int .u8 ((Z.toNat : Int) % 64)] = (six X.toNat Y.toNat Z.toNat).map fun n => .int .u8 (n : Int) by simp [six])
  have B0 : Blk (w1.alloc (.cells ([Value.int .u8 ((X.toNat : Int) / 4), .int .u8 ((X.toNat : Int) % 4 * 16 + (Y.toNat : Int) / 16), .int .u8 ((Y.toNat : Int) % 16 * 4 + (Z.toNat : Int) / 64), .int .u8 ((Z.toNat : Int) % 64)]).toArray 53)) w1.heap.size 53 _ := Blk.new w1 _ _
  have hbW := hb1.alloc hb1.size (.cells ([Value.int .u8 ((X.toNat : Int) / 4), .int .u8 ((X.toNat : Int) % 4 * 16 + (Y.toNat : Int) / 16), .int .u8 ((Y.toNat : Int) % 16 * 4 + (Z.toNat : Int) / 64), .int .u8 ((Z.toNat : Int) % 64)]).toArray 53)
  obtain ⟨W0, hW0⟩ : ∃ W0, w1.alloc (.cells ([Value.int .u8 ((X.toNat : Int) / 4), .int .u8 ((X.toNat : Int) % 4 * 16 + (Y.toNat : Int) / 16), .int .u8 ((Y.toNat : Int) % 16 * 4 + (Z.toNat : Int) / 64), .int .u8 ((Z.toNat : Int) % 64)]).toArray 53) = W0 := ⟨_, rfl⟩
  rw [hW0] at B0 hbW
  rw [HL.out] at B0
  have hg0 : w.heap.size ≤ w1.heap.size := hb1.size
  change Code.wp _ _ _ _ (w1.alloc (.cells ([Value.int .u8 ((X.toNat : Int) / 4), .int .u8 ((X.toNat : Int) % 4 * 16 + (Y.toNat : Int) / 16), .int .u8 ((Y.toNat : Int) % 16 * 4 + (Z.toNat : Int) / 64), .int .u8 ((Z.toNat : Int) % 64)]).toArray 53))
  rw [hW0]
  clear hW0
  have hSx : Hid (BldS b (fun k => S k ∨ k = w1.heap.size) l W0) := Lib.hid (HB.out.more hbW fun k hk => by
    rcases hk with h | rfl
    · exact .inl h
    · exact .inr ⟨hg0, B0.lt⟩)
  have hSw : Hid (KeepS S w W0) := Lib.hid (KeepS.of hbW fun k hk => HB.out.lt hk)
  have hN : Hid (∀ k, k < n + 1 → ∃ m, m < 64 ∧ (six X.toNat Y.toNat Z.toNat)[k]? = some m ∧ (sixF p).take (k + 1) = (sixF p).take k ++ [m]) := Lib.hid fun k hk => by
    have hk4 : k < 4 := by omega
    have hlt : k < (six X.toNat Y.toNat Z.toNat).length := hk4
    refine ⟨(six X.toNat Y.toNat Z.toNat)[k], ?_, List.getElem?_eq_getElem hlt, ?_⟩
    · match k, hk4 with
      | 0, _ => show X.toNat / 4 < 64; omega
      | 1, _ => show X.toNat % 4 * 16 + Y.toNat / 16 < 64; omega
      | 2, _ => show Y.toNat % 16 * 4 + Z.toNat / 64 < 64; omega
      | 3, _ => show Z.toNat % 64 < 64; omega
    · have hlt2 : k < (sixF p).length := by rw [HSX.out, List.length_take]; show k < min (n + 1) 4; omega
      rw [List.take_succ_eq_append_getElem hlt2]
      congr 2
      simp only [HSX.out, List.getElem_take]
  clear hc0 hc1 hc2 BK hk1 hb1 b1 b2
  simp only [show (X.toNat : Int) * 16 % 256 % 64 = (X.toNat : Int) * 16 % 64 by omega, show (Y.toNat : Int) * 4 % 256 % 64 = (Y.toNat : Int) * 4 % 64 by omega]
  go_loopw [39] (fun i wr => ∃ k : Nat, i = .int .i64 (k : Int) ∧ k ≤ n + 1 ∧ Hid (BldS b (fun k => S k ∨ k = w1.heap.size) (l ++ ((sixF p).take k).map sgn) wr) ∧ Hid (KeepS (fun k => S k ∨ k = w1.heap.size) W0 wr)) (fun i _ => n + 1 - (intOf i).toNat)
  case atStart => exact ⟨0, rfl, Nat.zero_le _, Lib.hid (by simpa using hSx.out), Lib.hid (KeepS.refl _ _)⟩
  case round =>
    obtain ⟨k, rfl, hk, hBk, hKk⟩ := hrel
    by_cases hlt : k < n + 1
    · have hlt' : (k : Int) < (n : Int) + 1 := by omega
      obtain ⟨m, hm64, hm1, hm2⟩ := hN.out k hlt
      have hcell : wr.cell? ⟨w1.heap.size, k, none⟩ = some (.int .u8 (m : Int)) := by
        have hblk : Blk wr w1.heap.size 53 ((six X.toNat Y.toNat Z.toNat).map fun (n : Nat) => Value.int .u8 (n : Int)) := (hKk.out.block _ (.inr rfl)).trans B0
        rw [hblk.cell, List.getElem?_map, hm1]; rfl
      have hi : ∀ wx, (Instr.index 9 (.string { data := #[65, 66, 67, 68, 69, 70, 71, 72, 73, 74, 75, 76, 77, 78, 79, 80, 81, 82, 83, 84, 85, 86, 87, 88, 89, 90, 97, 98, 99, 100, 101, 102, 103, 104, 105, 106, 107, 108, 109, 110, 111, 112, 113, 114, 115, 116, 117, 118, 119, 120, 121, 122, 48, 49, 50, 51, 52, 53, 54, 55, 56, 57, 45, 95] }) (.int .u8 (m : Int))).run Try.prog wx = .ok (.int .u8 ((sgn m).toNat : Int)) wx := fun wx => idx_sgn Try.underlying9 signs .u8 m (by show _ < 64; omega) wx
      have HM2 := Lib.hid hm2
      have HM1 := Lib.hid hm1
      clear hm1 hm2
      have hll : (l ++ ((sixF p).take k).map sgn).length + 1 ≤ 140737488355328 := by
        rw [List.length_append, List.length_map, List.length_take]; omega
      go_wp2_with (go_at_call 25; refine (writeByteS_any b _ _ _ _ hBk.out hll).mono ?_; rintro e w2 ⟨rfl, hB2, hK2⟩; have HB2 := Lib.hid hB2; have HK2 := Lib.hid (hKk.out.trans hK2); clear hB2 hK2 hi)
      go_roundw
      case rel => exact ⟨k + 1, by simp, by omega, Lib.hid (by rw [HM2.out, List.map_append, ← List.append_assoc]; exact HB2.out), HK2⟩
      case measure => simp [intOf]; omega
    · have hlt' : ¬ (k : Int) < (n : Int) + 1 := by omega
      have hall : (sixF p).take k = sixF p := List.take_of_length_le (by rw [HSX.out, List.length_take]; omega)
      have HALL := Lib.hid hall
      clear hall
      go_wp2
      go_end0
      refine ⟨⟨_, rfl⟩, ?_, hSw.out.trans (hKk.out.mono fun k hk => .inl hk)⟩
      have := hBk.out.less (S' := S) fun k hk => .inl hk
      rw [HALL.out] at this
      exact this
end Go.Proofs.Ytmpkbjkdmbgmhaa
