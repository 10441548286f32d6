/- octets.Xor, octets.Same. -/
import Derived.Test.YthamhaomfdgdjaaBits
import Derived.Test.YthamhaomfdgdjaaSet
import Derived.Test.YthamhaomfdgdjaaXoP
import Derived.Test.YthamhaomfdgdjaaReg
namespace Go.Proofs.Ythamhaomfdgdjaa
open Go.RowKit

set_option maxHeartbeats 3200000 in
theorem xor_any (A B : Option Addr) (n m c c' : Nat) (a b : List UInt8) (w : World) (hn : a.length = n) (hm : b.length = m) (h : RdB w A a) (h' : RdB w B b) (hc : n ≤ c) (hb : n ≤ 70368744177664) :
    Calls Try.prog 23 #[.slice A n c, .slice B m c'] w (GivesB (xorF a b) w) := by
  have HN := Lib.hid hn
  have HM := Lib.hid hm
  have H := Lib.hid h
  have H' := Lib.hid h'
  clear hn hm h h'
  rcases Nat.lt_or_ge m n with hnm | hnm
  · have hq1 : m ≤ n := by omega
    have hq2 : m ≤ m := Nat.le_refl m
    have hq3 : m ≤ c := by omega
    have hq4 : min (n : Int) (m : Int) = (m : Int) := by omega
    have hq6 : n ≤ m ∨ m ≤ m := by omega
    have hx : ((a.take m).length) = m := by rw [List.length_take, HN.out]; omega
    have HX := Lib.hid hx
    have HT := Lib.hid (RdB.take H.out m)
    clear hx
    have hq5 : m ≤ 70368744177664 := by omega
    go_enter Try.func23, Try.ntmps23
    go_upto_region 2 with (go_at_call 33; refine (clone_any _ m _ (a.take m) _ HX.out HT.out hq5).mono ?_; rintro e w1 ⟨v, rfl, hown, hbel⟩)
    rw [HX.out] at hown
    obtain ⟨A1, c1, rfl, -⟩ := own_rd hown
    go_wp2
    go_loopw [17] (fun i wr => ∃ k : Nat, i = .int .i64 (k : Int) ∧ k ≤ m ∧ wr.ownsRow w.heap.size 5 1 (.slice A1 m c1) m ((xorK (a.take m) b k).map bV) ∧ Below w.heap.size w wr) (fun i _ => m - (intOf i).toNat)
    case atStart => exact ⟨0, rfl, Nat.zero_le _, by rw [xorK_zero]; exact hown, hbel⟩
    case round =>
      clear hown hbel
      obtain ⟨k, rfl, hk, hown, hbel⟩ := hrel
      by_cases hlt : k < m
      · obtain ⟨g, c2, e, hg1, hg2, hg3, hcell, hset⟩ := own_at hown (by omega)
        cases e
        obtain ⟨hc1, hf1⟩ := hcell k hlt
        have hka : k < (a.take m).length := by rw [HX.out]; exact hlt
        have hkb : k < b.length := by rw [HM.out]; omega
        rw [List.getElem?_map, xorK_at hka hkb] at hc1
        obtain ⟨b1, o1, rfl, hc2, -⟩ := (RdB.keep H'.out hbel).at hkb
        generalize hxa : (a.take m)[k] = x at *
        generalize hyb : b[k] = y at *
        have XA := Lib.hid hxa
        have YB := Lib.hid hyb
        clear hxa hyb
        replace hc1 : wr.cell? ⟨g, k, none⟩ = some (.int .u8 (x.toNat : Int)) := hc1
        have hxor := xor8 x y
        have HS := Lib.hid (hset k (bV (x ^^^ y)) hlt)
        have HB := Lib.hid hbel
        clear hset hcell hown hbel
        go_wp2
        go_region
        have EX := Lib.hid (show bV (x ^^^ y) = .int .u8 ((x.toNat ^^^ y.toNat : Nat) : Int) by unfold bV; rw [UInt8.toNat_xor])
        go_wp2
        go_roundw
        case rel =>
          refine ⟨k + 1, by simp, by omega, ?_, below_set (Below.drew HB.out) hg1 _⟩
          have := HS.out
          rw [set_map_bV, ← XA.out, ← YB.out, xorK_set hka hkb, XA.out, YB.out, EX.out] at this
          exact this
        case measure => simp [intOf]; omega
      · obtain rfl : k = m := by omega
        have hown2 : wr.ownsRow w.heap.size 5 1 (.slice A1 k c1) k ((xorF a b).map bV) := by
          have e := xorK_end (a := a.take k) (b := b) HX.out (by rw [HM.out]; exact hq2)
          rw [e] at hown
          have e2 : xorF (a.take k) b = xorF a b := by
            unfold xorF; apply List.ext_getElem?; intro i; simp only [List.getElem?_zipWith, List.getElem?_take]
            by_cases hi : i < k
            · rw [if_pos hi]
            · have h2 : b[i]? = none ∨ a[i]? = none := by
                have h1 := HN.out; have h2 := HM.out
                by_cases hx : i < b.length
                · exact .inr (List.getElem?_eq_none (by omega))
                · exact .inl (List.getElem?_eq_none (by omega))
              rw [if_neg hi]
              rcases h2 with h2 | h2
              · rw [h2]; cases a[i]? <;> rfl
              · rw [h2]
          rw [e2] at hown
          exact hown
        have hl : (xorF a b).length = k := by rw [xorF_length, HN.out, HM.out]; omega
        have HL := Lib.hid hl
        clear hl
        go_wp2
        go_ret
        refine ⟨_, rfl, ?_, hbel⟩
        rw [HL.out]; exact hown2
  · have hq1 : n ≤ n := Nat.le_refl n
    have hq2 : n ≤ m := by omega
    have hq3 : n ≤ c := by omega
    have hq4 : min (n : Int) (m : Int) = (n : Int) := by omega
    have hq6 : n ≤ n ∨ m ≤ n := by omega
    have hx : ((a.take n).length) = n := by rw [List.length_take, HN.out]; omega
    have HX := Lib.hid hx
    have HT := Lib.hid (RdB.take H.out n)
    clear hx
    have hq5 : n ≤ 70368744177664 := by omega
    go_enter Try.func23, Try.ntmps23
    go_upto_region 2 with (go_at_call 33; refine (clone_any _ n _ (a.take n) _ HX.out HT.out hq5).mono ?_; rintro e w1 ⟨v, rfl, hown, hbel⟩)
    rw [HX.out] at hown
    obtain ⟨A1, c1, rfl, -⟩ := own_rd hown
    go_wp2
    go_loopw [17] (fun i wr => ∃ k : Nat, i = .int .i64 (k : Int) ∧ k ≤ n ∧ wr.ownsRow w.heap.size 5 1 (.slice A1 n c1) n ((xorK (a.take n) b k).map bV) ∧ Below w.heap.size w wr) (fun i _ => n - (intOf i).toNat)
    case atStart => exact ⟨0, rfl, Nat.zero_le _, by rw [xorK_zero]; exact hown, hbel⟩
    case round =>
      clear hown hbel
      obtain ⟨k, rfl, hk, hown, hbel⟩ := hrel
      by_cases hlt : k < n
      · obtain ⟨g, c2, e, hg1, hg2, hg3, hcell, hset⟩ := own_at hown (by omega)
        cases e
        obtain ⟨hc1, hf1⟩ := hcell k hlt
        have hka : k < (a.take n).length := by rw [HX.out]; exact hlt
        have hkb : k < b.length := by rw [HM.out]; omega
        rw [List.getElem?_map, xorK_at hka hkb] at hc1
        obtain ⟨b1, o1, rfl, hc2, -⟩ := (RdB.keep H'.out hbel).at hkb
        generalize hxa : (a.take n)[k] = x at *
        generalize hyb : b[k] = y at *
        have XA := Lib.hid hxa
        have YB := Lib.hid hyb
        clear hxa hyb
        replace hc1 : wr.cell? ⟨g, k, none⟩ = some (.int .u8 (x.toNat : Int)) := hc1
        have hxor := xor8 x y
        have HS := Lib.hid (hset k (bV (x ^^^ y)) hlt)
        have HB := Lib.hid hbel
        clear hset hcell hown hbel
        go_wp2
        go_region
        have EX := Lib.hid (show bV (x ^^^ y) = .int .u8 ((x.toNat ^^^ y.toNat : Nat) : Int) by unfold bV; rw [UInt8.toNat_xor])
        go_wp2
        go_roundw
        case rel =>
          refine ⟨k + 1, by simp, by omega, ?_, below_set (Below.drew HB.out) hg1 _⟩
          have := HS.out
          rw [set_map_bV, ← XA.out, ← YB.out, xorK_set hka hkb, XA.out, YB.out, EX.out] at this
          exact this
        case measure => simp [intOf]; omega
      · obtain rfl : k = n := by omega
        have hown2 : wr.ownsRow w.heap.size 5 1 (.slice A1 k c1) k ((xorF a b).map bV) := by
          have e := xorK_end (a := a.take k) (b := b) HX.out (by rw [HM.out]; exact hq2)
          rw [e] at hown
          have e2 : xorF (a.take k) b = xorF a b := by
            unfold xorF; apply List.ext_getElem?; intro i; simp only [List.getElem?_zipWith, List.getElem?_take]
            by_cases hi : i < k
            · rw [if_pos hi]
            · have h2 : b[i]? = none ∨ a[i]? = none := by
                have h1 := HN.out; have h2 := HM.out
                by_cases hx : i < b.length
                · exact .inr (List.getElem?_eq_none (by omega))
                · exact .inl (List.getElem?_eq_none (by omega))
              rw [if_neg hi]
              rcases h2 with h2 | h2
              · rw [h2]; cases a[i]? <;> rfl
              · rw [h2]
          rw [e2] at hown
          exact hown
        have hl : (xorF a b).length = k := by rw [xorF_length, HN.out, HM.out]; omega
        have HL := Lib.hid hl
        clear hl
        go_wp2
        go_ret
        refine ⟨_, rfl, ?_, hbel⟩
        rw [HL.out]; exact hown2

theorem xorF_snoc {a b : List UInt8} {k : Nat} (h1 : k < a.length) (h2 : k < b.length) : xorF (a.take (k + 1)) (b.take (k + 1)) = xorF (a.take k) (b.take k) ++ [a[k] ^^^ b[k]] := by
  rw [List.take_succ_eq_append_getElem h1, List.take_succ_eq_append_getElem h2]
  unfold xorF
  rw [List.zipWith_append (by rw [List.length_take, List.length_take]; omega)]
  rfl
theorem xorF_take_end {a b : List UInt8} {k : Nat} (h : a.length ≤ k ∨ b.length ≤ k) : xorF (a.take k) (b.take k) = xorF a b := by
  unfold xorF; apply List.ext_getElem?; intro i; simp only [List.getElem?_zipWith, List.getElem?_take]
  by_cases hi : i < k
  · rw [if_pos hi, if_pos hi]
  · rw [if_neg hi, if_neg hi]
    rcases h with h | h
    · rw [List.getElem?_eq_none (l := a) (by omega)]
    · rw [List.getElem?_eq_none (l := b) (by omega)]; cases a[i]? <;> rfl

end Go.Proofs.Ythamhaomfdgdjaa
