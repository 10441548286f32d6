/- Contract of the reference's Hex. -/
import Derived.Test.YthamhaomfdgdjaaBase
import Derived.Laws.BitsLemmas
import Derived.IntWalk
namespace Go.Proofs.Ythamhaomfdgdjaa
open Go.RowKit

def digs : List UInt8 := [48, 49, 50, 51, 52, 53, 54, 55, 56, 57, 97, 98, 99, 100, 101, 102]
def hexD (n : Nat) : UInt8 := digs.getD n 0
def hexF (l : List UInt8) : List UInt8 := l.flatMap fun c => [hexD (c.toNat / 16), hexD (c.toNat % 16)]
theorem hexF_snoc (l : List UInt8) (c : UInt8) : hexF (l ++ [c]) = hexF l ++ [hexD (c.toNat / 16)] ++ [hexD (c.toNat % 16)] := by simp [hexF]
theorem hexF_length (l : List UInt8) : (hexF l).length = 2 * l.length := by
  induction l with
  | nil => rfl
  | cons c l ih => simp [hexF] at *; omega

theorem rd_atH {w : World} {b o : Nat} {xs : List UInt8} (hc : ∀ i, i < (xs.map bV).length → w.cell? ⟨b, o + i, none⟩ = (xs.map bV)[i]?) {k : Nat} (hk : k < xs.length) :
    w.cell? ⟨b, o + k, none⟩ = some (.int .u8 ((xs.getD k 0).toNat : Int)) := by
  rw [hc k (by simpa using hk), List.getElem?_map, List.getD_eq_getElem?_getD, List.getElem?_eq_getElem hk]; rfl

theorem concat_str (a b : List UInt8) : str a ++ str b = str (a ++ b) := by
  apply ByteArray.ext
  simp [str]

theorem dig_ext : ∀ a : Fin 16, ({ data := #[48, 49, 50, 51, 52, 53, 54, 55, 56, 57, 97, 98, 99, 100, 101, 102] } : ByteArray).extract a.1 (a.1 + 1) = str [hexD a.1] := by decide +kernel

set_option maxHeartbeats 800000 in
theorem refHex_any (A : Option Addr) (n c : Nat) (xs : List UInt8) (w : World) (hn : xs.length = n) (h : RdB w A xs) (hm : n ≤ 35184372088832) :
    Calls Try.prog 11 #[.slice A n c] w fun e w' => e = .returned (.string (str (hexF xs))) ∧ Below w.heap.size w w' := by
  have H := Lib.hid h
  have HN := Lib.hid hn
  clear h hn
  go_enter Try.func11, Try.ntmps11
  go_wp2
  go_loopw [3, 5, 6, 7] (fun s i _ _ wr => ∃ k : Nat, k ≤ n ∧ i = .int .i64 k ∧ s = .string (str (hexF (xs.take k))) ∧ Below w.heap.size w wr) (fun _ i _ _ _ => n - (intOf i).toNat)
  case atStart => exact ⟨0, Nat.zero_le _, rfl, rfl, Below.refl _ w⟩
  case round =>
    obtain ⟨k, hk, rfl, rfl, hbel⟩ := hrel
    by_cases hlt : k < n
    · rcases H.out.keep hbel with h0 | ⟨b, o, rfl, hc⟩
      · have := HN.out; have : xs = [] := (by simpa using h0); subst this; simp at *; omega
      · have hcell' : wr.cell? ⟨b, o + k, none⟩ = some (.int .u8 ((xs.getD k 0).toNat : Int)) := rd_atH hc (by have := HN.out; omega)
        have hsn := Lib.hid (take_snoc xs k 0 (by have := HN.out; omega))
        have hd : (xs.getD k 0).toNat < 256 := UInt8.toNat_lt _
        have hlen : (str (hexF (xs.take k))).size ≤ 2 * k := by rw [str_size, hexF_length, List.length_take]; omega
        clear hc
        generalize xs.getD k 0 = d at *
        have b0 : 0 ≤ (k : Int) := by omega
        have b1 : (k : Int) < n := by omega
        go_wp2
        go_quiet (fail)
        go_wp2
        have e1 := Lib.hid (dig_ext ⟨d.toNat / 16, by omega⟩)
        have e2 := Lib.hid (dig_ext ⟨d.toNat % 16, by omega⟩)
        have a0 : 0 ≤ (d.toNat : Int) / 16 := by omega
        have a1 : (d.toNat : Int) / 16 < 16 := by omega
        have c0 : 0 ≤ (d.toNat : Int) % 16 := by omega
        have c1 : (d.toNat : Int) % 16 < 16 := by omega
        have t1 : ((d.toNat : Int) / 16).toNat = d.toNat / 16 := by omega
        have t2 : ((d.toNat : Int) / 16 + 1).toNat = d.toNat / 16 + 1 := by omega
        have t3 : ((d.toNat : Int) % 16).toNat = d.toNat % 16 := by omega
        have t4 : ((d.toNat : Int) % 16 + 1).toNat = d.toNat % 16 + 1 := by omega
        have v1 : IntKind.i64.wrap ((d.toNat : Int) / 16 + 1) = (d.toNat : Int) / 16 + 1 := IntWalk.i64_in _ (by omega)
        have v2 : IntKind.i64.wrap ((d.toNat : Int) % 16 + 1) = (d.toNat : Int) % 16 + 1 := IntWalk.i64_in _ (by omega)
        go_quiet (fail)
        clear v1 v2 t1 t2 t3 t4
        go_wp2
        go_roundw
        case rel =>
          refine ⟨k + 1, by omega, by go_num, ?_, ?_⟩
          · rw [hsn.out, hexF_snoc, e1.out, e2.out, concat_str, concat_str]
          · exact ⟨hbel.os, hbel.tape, hbel.output, hbel.size, hbel.block⟩
        case measure => simp [intOf]; omega
    · have hk' : xs.take k = xs := List.take_of_length_le (by have := HN.out; omega)
      rw [hk']
      clear hk'
      go_wp2
      go_ret
      exact ⟨rfl, hbel⟩
end Go.Proofs.Ythamhaomfdgdjaa
