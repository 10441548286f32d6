/- base64.Decode. -/
import Derived.Test.YtmpkbjkdmbgmhaaFour
namespace Go.Proofs.Ytmpkbjkdmbgmhaa
open Go.RowKit

/-- What a function that gives a new slice of bytes and a bool comes to. -/
def GivesBO (xs : List UInt8) (ok : Bool) (w : World) (e : Ending) (w' : World) : Prop :=
  ∃ v, e = .returned (.tuple #[v, .bool ok]) ∧ w'.ownsRow w.heap.size 5 1 v xs.length (xs.map bV) ∧ Below w.heap.size w w'

def piece4 (s : List UInt8) (j : Nat) : List UInt8 := (s.drop (j * 4)).take 4
def decP (s : List UInt8) (js : List Nat) : List UInt8 := js.flatMap fun j => fourF (piece4 s j)
def decR (s : List UInt8) : List UInt8 := decP s (List.range (nCh s.length 4))
def okD (s : List UInt8) : Bool := s.all isSign && (encF (decR s) == s)
def decF (s : List UInt8) : List UInt8 := if okD s then decR s else []

theorem decP_snoc (s : List UInt8) (js : List Nat) (j : Nat) : decP s (js ++ [j]) = decP s js ++ fourF (piece4 s j) := by simp [decP]

theorem fourF_length (p : List UInt8) : (fourF p).length ≤ 3 := by
  unfold fourF; rw [List.length_take]; exact Nat.min_le_right _ _
theorem decP_length (s : List UInt8) (js : List Nat) {n : Nat} (h : js.length = n) : (decP s js).length ≤ 3 * n := by
  subst h
  induction js with
  | nil => simp [decP]
  | cons j js ih =>
    have : decP s (j :: js) = fourF (piece4 s j) ++ decP s js := by simp [decP]
    rw [this, List.length_append, List.length_cons]
    have := fourF_length (piece4 s j)
    omega

theorem lit1_bb (w : World) (A : Option Addr) (l c : Nat) (d : List UInt8) (hl : d.length = l) (h : RdB w A d) : RdBB (w.alloc (.cells #[.slice A l c] 23)) (some ⟨w.heap.size, 0, none⟩) [.slice A l c] [d] := by
  refine ⟨Rd.mk fun i hi => ?_, rfl, fun i xs hi => ?_⟩
  · have : i = 0 := by simpa using hi
    subst this
    rw [Nat.zero_add, cell_of_row _ w.heap.size 0 _ 23 (0, 0) (heap_alloc_new w _)]; rfl
  · match i, hi with
    | 0, hi => cases hi; exact ⟨A, c, by rw [hl]; rfl, h.keep ((Below.refl _ w).alloc (Nat.le_refl _) _)⟩
    | i + 1, hi => simp at hi

theorem okD_no {s : List UInt8} {k : Nat} (hk : k < s.length) (h : isSign (s.getD k 0) = false) : okD s = false := by
  have : s.all isSign = false := by
    rw [List.all_eq_false]
    refine ⟨s[k], List.getElem_mem hk, ?_⟩
    rw [List.getD_eq_getElem?_getD, List.getElem?_eq_getElem hk] at h
    simpa using h
  unfold okD; rw [this]; rfl

theorem str_cut (s : List UInt8) (i j : Nat) : (str s).extract i j = str ((s.take j).drop i) := by
  apply ByteArray.ext
  simp [str, ByteArray.data_extract, List.drop_take]

set_option maxHeartbeats 1600000 in
theorem decode_any (s : List UInt8) (w : World) (hm : s.length ≤ 1099511627776) :
    Calls Try.prog 8 #[.string (str s)] w (GivesBO (decF s) (okD s) w) := by
  have hsz := str_size s
  have hix := Lib.hid (idx_str (P := Try.prog) Try.underlying9 s)
  go_enter Try.func8, Try.ntmps8
  go_wp2
  go_loopw [10] (fun i wr => ∃ k : Nat, i = .int .i64 (k : Int) ∧ k ≤ s.length ∧ Hid ((s.take k).all isSign = true) ∧ w = wr) (fun i _ => s.length - (intOf i).toNat)
  case atStart => exact ⟨0, rfl, Nat.zero_le _, Lib.hid rfl, rfl⟩
  case round =>
    obtain ⟨k, rfl, hk, HA, rfl⟩ := hrel
    by_cases hlt : k < s.length
    · have hi := hix.out k hlt
      cases hsg : isSign (s.getD k 0) with
      | false =>
        have ho : okD s = false := okD_no hlt hsg
        have HF : Hid (decF s = []) := Lib.hid (by unfold decF; rw [ho]; rfl)
        have HO := Lib.hid ho
        have hv : Lib.indexByte signs (s.getD k 0) < 0 := by unfold isSign at hsg; simpa using hsg
        clear ho hsg
        generalize s.getD k 0 = d at *
        go_wp2_with (go_at_call 14; refine (idxSgn_any d _).mono ?_; rintro e w' ⟨rfl, rfl⟩)
        go_ret2
        refine ⟨_, by rw [HO.out]; rfl, ?_, Below.refl _ _⟩
        rw [HF.out]
        exact World.ownsRow_nil _ _ _ _
      | true =>
        obtain ⟨hv1, hv2, -⟩ := sval_spec _ hsg
        have hall : Hid ((s.take (k + 1)).all isSign = true) := Lib.hid (by
          rw [List.take_succ_eq_append_getElem hlt, List.all_append, HA.out]
          rw [List.getD_eq_getElem?_getD, List.getElem?_eq_getElem hlt] at hsg
          simpa using hsg)
        clear hsg
        generalize s.getD k 0 = d at *
        have HV := Lib.hid hv1
        clear hv1
        generalize sval d = v at *
        go_wp2_with (go_at_call 14; refine (idxSgn_any d _).mono ?_; rintro e w' ⟨rfl, rfl⟩; rw [HV.out])
        go_roundw
        case rel => exact ⟨k + 1, by simp, by omega, hall, trivial⟩
        case measure => simp [intOf]; omega
    · obtain rfl : k = s.length := by omega
      rw [List.take_length] at HA
      go_wp2
      go_loopw [6, 4] (fun left v wr => ∃ (j l : Nat) (A1 : Option Addr) (c1 : Nat), left = .string (str (s.drop (j * 4))) ∧ v = .slice A1 l c1 ∧ Hid ((decP s (List.range j)).length = l) ∧ (j = 0 ∨ (j - 1) * 4 < s.length) ∧ wr.ownsRow w.heap.size 5 1 (.slice A1 l c1) l ((decP s (List.range j)).map bV) ∧ Below w.heap.size w wr) (fun left _ _ => match left with | .string b => b.size | _ => 0)
      case atStart => exact ⟨0, 0, none, 0, by simp, rfl, Lib.hid rfl, .inl rfl, World.ownsRow_nil _ _ _ _, Below.refl _ _⟩
      case round =>
        obtain ⟨j, l, A1, c1, rfl, rfl, HL, hj, hown, hbel⟩ := hrel
        have hrl : (s.drop (j * 4)).length = s.length - j * 4 := List.length_drop
        generalize hrr : s.drop (j * 4) = r at *
        have HRR := Lib.hid hrr
        clear hrr
        have hrs := str_size r
        rw [hrl] at hrs
        have HRL := Lib.hid hrl
        clear hrl
        by_cases h0 : j * 4 < s.length
        · have hne : r ≠ [] := by intro e; have := HRL.out; rw [e] at this; simp at this; omega
          obtain ⟨m, hm1, hm2, hm3⟩ : ∃ m : Nat, min (4 : Int) ((s.length - j * 4 : Nat) : Int) = (m : Int) ∧ m ≤ s.length - j * 4 ∧ m ≤ 4 := ⟨min 4 (s.length - j * 4), by omega, by omega, by omega⟩
          have hem : (str r).toList.isEmpty = false := by rw [str_toList]; cases r with | nil => exact absurd rfl hne | cons => rfl
          have he1 : (str r).extract 0 m = str (piece4 s j) := by
            rw [str_cut, List.drop_zero]
            unfold piece4
            rw [HRR.out]
            congr 1
            by_cases h4 : m = 4
            · rw [h4]
            · have hlm : r.length = m := by have := HRL.out; omega
              rw [List.take_of_length_le (by omega), List.take_of_length_le (by omega)]
          have he2 : (str r).extract m (s.length - j * 4) = str (s.drop ((j + 1) * 4)) := by
            rw [str_cut, ← HRL.out, List.take_length, ← HRR.out, List.drop_drop]
            congr 1
            by_cases h4 : m = 4
            · rw [h4, Nat.succ_mul]
            · rw [List.drop_of_length_le (by omega), List.drop_of_length_le (by omega)]
          have hpl : (piece4 s j).length = m := by
            unfold piece4; rw [List.length_take, List.length_drop]; omega
          have hok : (piece4 s j).all isSign = true := by
            rw [List.all_eq_true]
            intro c hc
            exact List.all_eq_true.1 HA.out c (List.mem_of_mem_drop (List.mem_of_mem_take hc))
          have HPL := Lib.hid hpl
          have HOK := Lib.hid hok
          clear hpl hok hne
          have hsn := decP_snoc s (List.range j) j
          rw [← List.range_succ] at hsn
          have hpd : (decP s (List.range j)).length ≤ 3 * j := decP_length s (List.range j) (by simp)
          rw [HL.out] at hpd
          generalize piece4 s j = p4 at *
          have HSN := Lib.hid hsn
          clear hsn
          have hfl := fourF_length p4
          go_wp2_with (first | (go_at_call 15; refine (four_any p4 _ (by rw [HPL.out]; omega) (by rw [HPL.out]; omega) HOK.out).mono ?_; rintro e w1 ⟨v, rfl, hown1, hbel1⟩; obtain ⟨A4, c4, rfl, _, _, hr4, _⟩ := own_rd hown1; have hsrc := Lib.hid (RdB.src (P := Try.prog) (c := c4) (xs := fourF p4) Try.underlying23 hr4 rfl); have HO := Lib.hid (ownsRow_below hown hbel1); have hb1 := hbel.trans (hbel1.mono hbel.size); clear hown hown1 hr4 hbel hbel1) | (at_builtin; go_loud (refine wpList_app' TB w.heap.size HO.out _ hsrc.out rfl rfl rfl rfl (by unfold maxLen; omega) (by omega) (by have := hb1.size; omega) hb1 (fun A2 c2 w2 hown2 hg hb2 => ?_))))
          go_roundw
          case rel =>
            refine ⟨j + 1, l + (fourF p4).length, A2, c2, rfl, rfl, Lib.hid ?_, .inr (by rw [Nat.add_sub_cancel]; exact h0), ?_, hb2⟩
            · rw [HSN.out, List.length_append, HL.out]
            · rw [HSN.out, List.map_append]; exact hown2
          case measure =>
            show (str (s.drop ((j + 1) * 4))).size < (str r).size
            rw [str_size, hrs, List.length_drop]; omega
        · have hr0 : r = [] := List.eq_nil_of_length_eq_zero (by rw [HRL.out]; omega)
          subst hr0
          have hjn : nCh s.length 4 = j := nCh_eq (by decide) (by omega) hj
          have hem : (str []).toList.isEmpty = true := by rw [str_toList]; rfl
          have hD : Hid (decR s = decP s (List.range j)) := Lib.hid (by unfold decR; rw [hjn])
          have hl3 : l ≤ 3 * j := by have := decP_length s (List.range j) (n := j) (by simp); have h2 := HL.out; omega
          have hj4 : j ≤ s.length := by rw [← hjn]; exact nCh_le (by decide)
          have hOK : Hid (okD s = (encF (decR s) == s)) := Lib.hid (by unfold okD; rw [HA.out]; rfl)
          rw [← hD.out] at hown HL
          generalize hd : decR s = d at *
          have HD := Lib.hid hd
          clear hd hjn
          have htest : ((str (encF d)).toList == (str s).toList) = (encF d == s) := by rw [str_toList, str_toList]
          obtain ⟨A0, c0, e0, _, _, hr, _⟩ := own_rd hown
          cases e0
          have HR : Hid (RdB wr A1 d) := Lib.hid hr
          have HW := Lib.hid hown
          clear hr hown
          cases hb : (encF d == s) with
          | true =>
            rw [hb] at htest
            have ho : okD s = true := by rw [hOK.out, hb]
            have HF : Hid (decF s = d) := Lib.hid (by unfold decF; rw [ho, if_pos rfl, HD.out])
            have HO := Lib.hid ho
            clear ho hb
            go_wp2_with (go_at_call 10; refine (encode_any _ 1 1 [.slice A1 l c1] [d] _ rfl (lit1_bb wr A1 l c1 d HL.out HR.out) (by simp; have := HL.out; omega) (by decide)).mono ?_; rintro e w2 ⟨rfl, hb2⟩; rw [show [d].flatten = d by simp])
            go_ret2
            refine ⟨_, by rw [HO.out]; rfl, ?_, (hbel.alloc hbel.size _).trans (hb2.mono (by have := hbel.size; rw [World.size_alloc]; omega))⟩
            rw [HF.out, HL.out]
            exact ownsRow_below (HW.out.alloc _) hb2
          | false =>
            rw [hb] at htest
            have ho : okD s = false := by rw [hOK.out, hb]
            have HF : Hid (decF s = []) := Lib.hid (by unfold decF; rw [ho]; rfl)
            have HO := Lib.hid ho
            clear ho hb
            go_wp2_with (go_at_call 10; refine (encode_any _ 1 1 [.slice A1 l c1] [d] _ rfl (lit1_bb wr A1 l c1 d HL.out HR.out) (by simp; have := HL.out; omega) (by decide)).mono ?_; rintro e w2 ⟨rfl, hb2⟩; rw [show [d].flatten = d by simp])
            go_ret2
            refine ⟨_, by rw [HO.out]; rfl, ?_, (hbel.alloc hbel.size _).trans (hb2.mono (by have := hbel.size; rw [World.size_alloc]; omega))⟩
            rw [HF.out]
            exact World.ownsRow_nil _ _ _ _
end Go.Proofs.Ytmpkbjkdmbgmhaa
