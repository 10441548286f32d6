/- base64.four. -/
import Derived.Test.YtmpkbjkdmbgmhaaRev
import Derived.Test.YtmpkbjkdmbgmhaaEnc
import Derived.Test.YtmpkbjkdmbgmhaaIdx
namespace Go.Proofs.Ytmpkbjkdmbgmhaa
open Go.RowKit

def sval (c : UInt8) : Nat := (Lib.indexByte signs c).toNat
def isSign (c : UInt8) : Bool := decide (0 ≤ Lib.indexByte signs c)
theorem byte_all2 {p : UInt8 → Prop} (h : ∀ n : Fin 256, p (UInt8.ofNat n.1)) (c : UInt8) : p c := by
  have := h ⟨c.toNat, UInt8.toNat_lt c⟩
  rwa [UInt8.ofNat_toNat] at this
theorem sval_spec (c : UInt8) : isSign c = true → Lib.indexByte signs c = (sval c : Int) ∧ sval c < 64 ∧ sgn (sval c) = c :=
  byte_all2 (p := fun c => isSign c = true → Lib.indexByte signs c = (sval c : Int) ∧ sval c < 64 ∧ sgn (sval c) = c) (by decide +kernel) c

/-- The number of the first k signs; noughts where there are none. -/
def nK (s : List UInt8) : Nat → Nat
  | 0 => 0
  | k + 1 => nK s k * 64 + (if k < s.length then sval (s.getD k 0) else 0)
def fourF (s : List UInt8) : List UInt8 := ([UInt8.ofNat (nK s 4 / 65536 % 256), UInt8.ofNat (nK s 4 / 256 % 256), UInt8.ofNat (nK s 4 % 256)]).take (s.length - 1)

theorem nK_lt {s : List UInt8} (h : s.all isSign = true) : ∀ k, nK s k < 64 ^ k
  | 0 => by simp [nK]
  | k + 1 => by
    have ih := nK_lt h k
    have : (if k < s.length then sval (s.getD k 0) else 0) < 64 := by
      split
      · rename_i hk
        have : isSign (s.getD k 0) = true := by
          rw [List.getD_eq_getElem?_getD, List.getElem?_eq_getElem hk]
          exact List.all_eq_true.1 h _ (List.getElem_mem hk)
        exact (sval_spec _ this).2.1
      · decide
    rw [nK, Nat.pow_succ]
    omega

theorem or_join64 {a d : Int} (k : Nat) (ha : a % 2 ^ k = 0) (h0 : 0 ≤ a) (h1 : a < 4294967296) (hd0 : 0 ≤ d) (hd : d < 2 ^ k) (hk : k ≤ 32) : bits .or .i64 a d = a + d := by
  obtain ⟨x, rfl⟩ : ∃ x : Nat, a = x := ⟨a.toNat, by omega⟩
  obtain ⟨y, rfl⟩ : ∃ y : Nat, d = y := ⟨d.toNat, by omega⟩
  have hp : (2 : Nat) ^ k ≤ 2 ^ 32 := Nat.pow_le_pow_right (by decide) hk
  have hy : y < 2 ^ k := by exact_mod_cast hd
  have hx : x % 2 ^ k = 0 := by exact_mod_cast ha
  show IntKind.i64.wrap ((BitVec.ofInt 64 x ||| BitVec.ofInt 64 y).toNat : Int) = _
  rw [i64_wrap, BitVec.ofInt_natCast, BitVec.ofInt_natCast, BitVec.toNat_or, BitVec.toNat_ofNat, BitVec.toNat_ofNat, Nat.mod_eq_of_lt (show x < 2 ^ 64 by omega), Nat.mod_eq_of_lt (show y < 2 ^ 64 by omega), nat_join k x y hx hy, wrap64_id (by omega) (by omega)]
  omega

theorem idxSgn_any (c : UInt8) (w : World) :
    Calls Try.prog 14 #[.string { data := #[65, 66, 67, 68, 69, 70, 71, 72, 73, 74, 75, 76, 77, 78, 79, 80, 81, 82, 83, 84, 85, 86, 87, 88, 89, 90, 97, 98, 99, 100, 101, 102, 103, 104, 105, 106, 107, 108, 109, 110, 111, 112, 113, 114, 115, 116, 117, 118, 119, 120, 121, 122, 48, 49, 50, 51, 52, 53, 54, 55, 56, 57, 45, 95] }, .int .u8 (c.toNat : Int)] w fun e w' => e = .returned (.int .i64 (Lib.indexByte signs c)) ∧ w = w' := by
  refine (indexByte_any (str signs) (c.toNat : Int) w).mono fun e w' ⟨he, hw⟩ => ⟨?_, hw⟩
  rw [he]
  refine ret_int ?_
  rw [str_data, Int.toNat_natCast, show c.toNat.toUInt8 = c from UInt8.ofNat_toNat]

theorem bV_ofNat (m : Nat) : bV (UInt8.ofNat (m % 256)) = .int .u8 ((m : Int) % 256) := by
  unfold bV
  rw [UInt8.toNat_ofNat_of_lt' (by simp [UInt8.size]; omega)]
  congr 1

theorem lit_srcV (w : World) (z : Int) : Src Try.prog 1 23 (.slice (some ⟨w.heap.size, 0, none⟩) 1 1) 1 [.int .u8 z] (w.alloc (.cells #[.int .u8 z] 5)) :=
  Src.of_rd (xs := [.int .u8 z]) (Try.underlying23) (Rd.mk fun i hi => by
    have : i = 0 := by simpa using hi
    subst this
    rw [Nat.zero_add, cell_of_row _ w.heap.size 0 _ 5 (0, 0) (heap_alloc_new w _)]; rfl) (fun u hu => by rw [List.mem_singleton.1 hu]; rfl)

set_option maxHeartbeats 1600000 in
theorem four_any (s : List UInt8) (w : World) (h1 : 1 ≤ s.length) (h4 : s.length ≤ 4) (hok : s.all isSign = true) :
    Calls Try.prog 15 #[.string (str s)] w (GivesB (fourF s) w) := by
  have hsz := str_size s
  have hix := Lib.hid (idx_str (P := Try.prog) Try.underlying9 s)
  have OK := Lib.hid hok
  clear hok
  go_enter Try.func15, Try.ntmps15
  go_wp2
  go_loopw [6, 3] (fun i v wr => ∃ k : Nat, i = .int .i64 (k : Int) ∧ v = .int .i64 ((nK s k : Nat) : Int) ∧ k ≤ 4 ∧ w = wr) (fun i _ _ => 4 - (intOf i).toNat)
  case atStart => exact ⟨0, rfl, rfl, by decide, rfl⟩
  case round =>
    obtain ⟨k, rfl, rfl, hk, rfl⟩ := hrel
    by_cases hlt : k < 4
    · by_cases hks : k < s.length
      · have hi := hix.out k hks
        have hsg : isSign (s.getD k 0) = true := by
          rw [List.getD_eq_getElem?_getD, List.getElem?_eq_getElem hks]
          exact List.all_eq_true.1 OK.out _ (List.getElem_mem hks)
        have hnk : Hid (nK s (k + 1) = nK s k * 64 + sval (s.getD k 0)) := Lib.hid (by rw [nK, if_pos hks])
        obtain ⟨hv1, hv2, -⟩ := sval_spec _ hsg
        have hN := nK_lt OK.out k
        have hN2 : nK s k < 16777216 := Nat.lt_of_lt_of_le hN (Nat.pow_le_pow_right (n := 64) (by decide) (show k ≤ 4 by omega))
        clear hN hsg
        generalize s.getD k 0 = d at *
        generalize nK s k = N at *
        have HV := Lib.hid hv1
        clear hv1
        generalize sval d = v at *
        have hor := or_join64 (a := (N : Int) * 64) (d := (v : Int)) 6 (by omega) (by omega) (by omega) (by omega) (by omega) (by decide)
        go_wp2_with (go_at_call 14; refine (idxSgn_any d _).mono ?_; rintro e w' ⟨rfl, rfl⟩; rw [HV.out])
        go_roundw
        case rel => exact ⟨k + 1, by simp, by rw [hnk.out]; simp, by omega, trivial⟩
        case measure => simp [intOf]; omega
      · have hnk : Hid (nK s (k + 1) = nK s k * 64) := Lib.hid (by rw [nK, if_neg hks, Nat.add_zero])
        have hN := nK_lt OK.out k
        have hN2 : nK s k < 16777216 := Nat.lt_of_lt_of_le hN (Nat.pow_le_pow_right (n := 64) (by decide) (show k ≤ 4 by omega))
        clear hN
        generalize nK s k = N at *
        go_wp2
        go_roundw
        case rel => exact ⟨k + 1, by simp, by rw [hnk.out]; simp, by omega, trivial⟩
        case measure => simp [intOf]; omega
    · obtain rfl : k = 4 := by omega
      have hN := nK_lt OK.out 4
      generalize hNN : nK s 4 = N at *
      have HN := Lib.hid hNN
      clear hNN OK hix hlt hk
      have H1 := Lib.hid (show bV (UInt8.ofNat (N % 256)) = .int .u8 ((N : Int) % 256) from bV_ofNat N)
      have H2 := Lib.hid (show bV (UInt8.ofNat (N / 256 % 256)) = .int .u8 ((N : Int) / 256 % 256) from bV_ofNat (N / 256))
      have H3 := Lib.hid (show bV (UInt8.ofNat (N / 65536 % 256)) = .int .u8 ((N : Int) / 65536) from (bV_ofNat (N / 65536)).trans (by congr 1; omega))
      rcases (show s.length = 4 ∨ s.length = 3 ∨ s.length = 2 ∨ s.length = 1 by omega) with hL | hL | hL | hL
      · have HF : Hid (fourF s = [UInt8.ofNat (N % 256), UInt8.ofNat (N / 256 % 256), UInt8.ofNat (N / 65536 % 256)].reverse) := Lib.hid (by unfold fourF; rw [hL, HN.out]; rfl)
        rw [hL] at hsz
        clear hL h1 h4
        have ho := World.ownsRow_nil w w.heap.size 5 1
        have hb := Below.refl w.heap.size w
        go_wp2_with (first | (at_builtin; go_loud (refine wpList_app' TB w.heap.size (ho.alloc _) _ (lit_srcV _ _) rfl rfl rfl rfl (by unfold maxLen; omega) (by omega) (by have := hb.size; rw [World.size_alloc]; omega) (hb.alloc hb.size _) (fun A1 c1 w1 ho1 hg hb1 => ?_)); clear ho hb hg; have ho := ho1; have hb := hb1; clear ho1 hb1) | (go_at_call 22; go_loud (refine (reverse3_any w.heap.size _ 3 _ [UInt8.ofNat (N % 256), UInt8.ofNat (N / 256 % 256), UInt8.ofNat (N / 65536 % 256)] _ rfl (by decide) (by simp only [List.map_cons, List.map_nil, H1.out, H2.out, H3.out]; exact ho)).mono ?_); rintro e w2 ⟨⟨v, rfl⟩, ho2, hb2⟩))
        go_ret
        refine ⟨_, rfl, ?_, hb.trans hb2⟩
        rw [HF.out]
        exact ho2
      · have HF : Hid (fourF s = [UInt8.ofNat (N / 256 % 256), UInt8.ofNat (N / 65536 % 256)].reverse) := Lib.hid (by unfold fourF; rw [hL, HN.out]; rfl)
        rw [hL] at hsz
        clear hL h1 h4
        have ho := World.ownsRow_nil w w.heap.size 5 1
        have hb := Below.refl w.heap.size w
        go_wp2_with (first | (at_builtin; go_loud (refine wpList_app' TB w.heap.size (ho.alloc _) _ (lit_srcV _ _) rfl rfl rfl rfl (by unfold maxLen; omega) (by omega) (by have := hb.size; rw [World.size_alloc]; omega) (hb.alloc hb.size _) (fun A1 c1 w1 ho1 hg hb1 => ?_)); clear ho hb hg; have ho := ho1; have hb := hb1; clear ho1 hb1) | (go_at_call 22; go_loud (refine (reverse3_any w.heap.size _ 2 _ [UInt8.ofNat (N / 256 % 256), UInt8.ofNat (N / 65536 % 256)] _ rfl (by decide) (by simp only [List.map_cons, List.map_nil, H2.out, H3.out]; exact ho)).mono ?_); rintro e w2 ⟨⟨v, rfl⟩, ho2, hb2⟩))
        go_ret
        refine ⟨_, rfl, ?_, hb.trans hb2⟩
        rw [HF.out]
        exact ho2
      · have HF : Hid (fourF s = [UInt8.ofNat (N / 65536 % 256)].reverse) := Lib.hid (by unfold fourF; rw [hL, HN.out]; rfl)
        rw [hL] at hsz
        clear hL h1 h4
        have ho := World.ownsRow_nil w w.heap.size 5 1
        have hb := Below.refl w.heap.size w
        go_wp2_with (first | (at_builtin; go_loud (refine wpList_app' TB w.heap.size (ho.alloc _) _ (lit_srcV _ _) rfl rfl rfl rfl (by unfold maxLen; omega) (by omega) (by have := hb.size; rw [World.size_alloc]; omega) (hb.alloc hb.size _) (fun A1 c1 w1 ho1 hg hb1 => ?_)); clear ho hb hg; have ho := ho1; have hb := hb1; clear ho1 hb1) | (go_at_call 22; go_loud (refine (reverse3_any w.heap.size _ 1 _ [UInt8.ofNat (N / 65536 % 256)] _ rfl (by decide) (by simp only [List.map_cons, List.map_nil, H3.out]; exact ho)).mono ?_); rintro e w2 ⟨⟨v, rfl⟩, ho2, hb2⟩))
        go_ret
        refine ⟨_, rfl, ?_, hb.trans hb2⟩
        rw [HF.out]
        exact ho2
      · have HF : Hid (fourF s = [].reverse) := Lib.hid (by unfold fourF; rw [hL, HN.out]; rfl)
        rw [hL] at hsz
        clear hL h1 h4
        have ho := World.ownsRow_nil w w.heap.size 5 1
        have hb := Below.refl w.heap.size w
        go_wp2_with (first | (at_builtin; go_loud (refine wpList_app' TB w.heap.size (ho.alloc _) _ (lit_srcV _ _) rfl rfl rfl rfl (by unfold maxLen; omega) (by omega) (by have := hb.size; rw [World.size_alloc]; omega) (hb.alloc hb.size _) (fun A1 c1 w1 ho1 hg hb1 => ?_)); clear ho hb hg; have ho := ho1; have hb := hb1; clear ho1 hb1) | (go_at_call 22; go_loud (refine (reverse3_any w.heap.size _ 0 _ [] _ rfl (by decide) (by exact ho)).mono ?_); rintro e w2 ⟨⟨v, rfl⟩, ho2, hb2⟩))
        go_ret
        refine ⟨_, rfl, ?_, hb.trans hb2⟩
        rw [HF.out]
        exact ho2
end Go.Proofs.Ytmpkbjkdmbgmhaa
