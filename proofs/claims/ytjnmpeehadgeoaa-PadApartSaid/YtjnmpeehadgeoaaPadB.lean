/- A contract of pad.Strip. -/
import Derived.Test.YtjnmpeehadgeoaaPadA
namespace Go.Proofs.Ytjnmpeehadgeoaa
open Go.RowKit

theorem indexByte_is (s : ByteArray) (c i : Int) (w : World) (h : Lib.indexByte s.data.toList c.toNat.toUInt8 = i) :
    Calls Try.prog 17 #[.string s, .int .u8 c] w fun e w' => e = .returned (.int .i64 i) ∧ w = w' := by
  subst h; exact indexByte_any s c w

def headF (b : List UInt8) : List UInt8 := b.takeWhile (· != 0)

theorem head_cases (b : List UInt8) : (Lib.indexByte b 0 = -1 ∧ headF b = b) ∨ ∃ k : Nat, k < b.length ∧ Lib.indexByte b 0 = k ∧ headF b = b.take k := by
  induction b with
  | nil => exact .inl ⟨rfl, rfl⟩
  | cons x b ih =>
    by_cases hx : x = 0
    · subst hx
      exact .inr ⟨0, by simp, rfl, rfl⟩
    · have h1 : (x == 0) = false := beq_eq_false_iff_ne.2 hx
      have h2 : (x != 0) = true := bne_iff_ne.2 hx
      rcases ih with ⟨e1, e2⟩ | ⟨k, hk, e1, e2⟩
      · refine .inl ⟨?_, ?_⟩
        · simp [Lib.indexByte, h1, e1]
        · unfold headF at e2 ⊢; rw [List.takeWhile_cons, if_pos h2, e2]
      · refine .inr ⟨k + 1, by simp; omega, ?_, ?_⟩
        · have h3 : ((k : Int) == -1) = false := beq_eq_false_iff_ne.2 (by omega)
          simp [Lib.indexByte, h1, e1, h3]
        · unfold headF at e2 ⊢; rw [List.takeWhile_cons, if_pos h2, e2, List.take_succ_cons]

def hitF (b : List UInt8) (u : Int) : Bool := okF (headF b) u && (padF (headF b) u == b)
def stripOk (b : List UInt8) : Bool := hitF b 16 || hitF b 32
def stripF (b : List UInt8) : List UInt8 := if stripOk b then headF b else []

theorem str_extract (b : List UInt8) (k : Nat) : (str b).extract 0 k = str (b.take k) := by
  apply ByteArray.ext
  simp [str, ByteArray.data_extract]

theorem headF_len (b : List UInt8) : (headF b).length ≤ b.length := by
  unfold headF; exact (List.takeWhile_sublist _).length_le

theorem strip_hit {b : List UInt8} {u : Int} (hu : u = 16 ∨ u = 32) (h : hitF b u = true) : stripF b = headF b ∧ stripOk b = true := by
  have : stripOk b = true := by unfold stripOk; rcases hu with rfl | rfl <;> simp [h]
  exact ⟨by unfold stripF; rw [this]; rfl, this⟩

theorem strip_miss {b : List UInt8} (h1 : hitF b 16 = false) (h2 : hitF b 32 = false) : stripF b = [] ∧ stripOk b = false := by
  have : stripOk b = false := by unfold stripOk; simp [h1, h2]
  exact ⟨by unfold stripF; rw [this]; rfl, this⟩

set_option maxHeartbeats 800000 in
theorem strip_any (A : Option Addr) (n c : Nat) (b : List UInt8) (w : World) (hn : b.length = n) (h : RdB w A b) (hb : n ≤ 70368744177664) :
    Calls Try.prog 14 #[.slice A n c] w fun e w' => e = .returned (.tuple #[.string (str (stripF b)), .bool (stripOk b)]) ∧ Below w.heap.size w w' := by
  have HN := Lib.hid hn
  have H := Lib.hid h
  have hstr := run_str w (P := Try.prog) (c := c) Try.underlying23 Try.underlying5 h hn Try.underlying9
  have HC := Lib.hid (head_cases b)
  have HL : (str (headF b)).size ≤ 70368744177664 := by rw [str_size]; have := headF_len b; omega
  clear hn h
  have i0 : ∀ w, (Instr.index 39 (.agg #[.int .i64 16, .int .i64 32]) (.int .i64 0)).run Try.prog w = .ok (.int .i64 16) w := fun _ => by kernel_rfl
  have i1 : ∀ w, (Instr.index 39 (.agg #[.int .i64 16, .int .i64 32]) (.int .i64 1)).run Try.prog w = .ok (.int .i64 32) w := fun _ => by kernel_rfl
  go_enter Try.func14, Try.ntmps14
  go_upto_if 15 with (go_at_call 17; refine (indexByte_any (str b) 0 _).mono ?_; rintro e w' ⟨rfl, rfl⟩)
  go_cut [4, 5, 13, 14, 15] (fun s4 _ _ _ _ wx => s4 = .string (str (headF b)) ∧ w = wx)
  case first =>
    clear i0 i1
    simp only [str_data]
    rcases HC.out with ⟨e1, e2⟩ | ⟨k, hk, e1, e2⟩
    · rw [e1]
      have HE := Lib.hid e2
      clear e1 e2
      go_wp2
      go_meet
      case rel => exact ⟨by rw [HE.out], rfl⟩
    · rw [e1]
      have HE := Lib.hid e2
      have hk2 : k ≤ (str b).size := by rw [str_size]; omega
      clear e1 e2
      go_wp2
      go_meet
      case rel => exact ⟨by rw [HE.out, str_extract], rfl⟩
  case rest =>
    obtain ⟨rfl, rfl⟩ := hcut
    clear hstr
    go_wp2
    go_loopw [20, 7, 8, 9] (fun i _ _ _ wr => ∃ k : Nat, k ≤ 2 ∧ i = .int .i64 k ∧ Below w.heap.size w wr ∧ Hid (1 ≤ k → hitF b 16 = false) ∧ Hid (2 ≤ k → hitF b 32 = false)) (fun i _ _ _ _ => 2 - (intOf i).toNat)
    case atStart => exact ⟨0, by omega, rfl, Below.refl _ _, fun h => by omega, fun h => by omega⟩
    case round =>
      obtain ⟨k, hk, rfl, hbel, H16, H32⟩ := hrel
      by_cases h2 : k = 2
      · subst h2
        go_wp2
        go_ret2
        obtain ⟨e1, e2⟩ := strip_miss (H16 (by omega)) (H32 (by omega))
        rw [e1, e2]
        exact ⟨rfl, hbel⟩
      · have hstr := run_str wr (P := Try.prog) (c := c) Try.underlying23 Try.underlying5 (H.out.keep hbel) HN.out Try.underlying9
        have key : ∀ u : Int, (hitF b u = true ∧ okF (headF b) u = true ∧ (padF (headF b) u == b) = true) ∨ (hitF b u = false ∧ okF (headF b) u = false) ∨ (hitF b u = false ∧ okF (headF b) u = true ∧ (padF (headF b) u == b) = false) := by
          intro u
          unfold hitF
          cases okF (headF b) u <;> cases (padF (headF b) u == b) <;> simp
        have hu : k = 0 ∨ k = 1 := by omega
        rcases hu with rfl | rfl
        · rcases key 16 with ⟨k1, k2, k3⟩ | ⟨k1, k2⟩ | ⟨k1, k2, k3⟩
          · have hc : codeF (headF b) 16 = 0 := by unfold codeF; rw [k2]; rfl
            have hq := Lib.hid (strip_hit (.inl rfl) k1)
            have hcmp : ((str (padF (headF b) 16)).toList == (str b).toList) = true := by rw [str_toList, str_toList]; exact k3
            clear k1 k2 k3 key
            go_wp2_with (go_at_call 8; refine (padFill_any _ _ _ HL).mono ?_; rintro e w1 ⟨v, rfl, hown, hbel1⟩; rw [str_data, hc]; rw [str_data] at hown; obtain ⟨A1, c1, rfl, _, _, hrd, _⟩ := own_rd hown; have hs1 := run_str w1 (P := Try.prog) (c := c1) Try.underlying23 Try.underlying5 hrd rfl Try.underlying9; have hs2 := run_str w1 (P := Try.prog) (c := c) Try.underlying23 Try.underlying5 ((H.out.keep hbel).keep hbel1) HN.out Try.underlying9; clear hrd hstr)
            go_ret2
            rw [hq.out.1, hq.out.2]
            exact ⟨rfl, hbel.trans (hbel1.mono hbel.size)⟩
          · have hc : codeF (headF b) 16 = 2 := by unfold codeF; rw [k2]; rfl
            have K1 := Lib.hid k1
            clear k1 k2 key
            go_wp2_with (go_at_call 8; refine (padFill_any _ _ _ HL).mono ?_; rintro e w1 ⟨v, rfl, hown, hbel1⟩; rw [str_data, hc]; rw [str_data] at hown; obtain ⟨A1, c1, rfl, _, _, hrd, _⟩ := own_rd hown; clear hrd hstr)
            go_roundw
            case rel => exact ⟨1, by omega, rfl, hbel.trans (hbel1.mono hbel.size), fun _ => K1.out, fun h => by omega⟩
            case measure => simp [intOf]
          · have hc : codeF (headF b) 16 = 0 := by unfold codeF; rw [k2]; rfl
            have K1 := Lib.hid k1
            have hcmp : ((str (padF (headF b) 16)).toList == (str b).toList) = false := by rw [str_toList, str_toList]; exact k3
            clear k1 k2 k3 key
            go_wp2_with (go_at_call 8; refine (padFill_any _ _ _ HL).mono ?_; rintro e w1 ⟨v, rfl, hown, hbel1⟩; rw [str_data, hc]; rw [str_data] at hown; obtain ⟨A1, c1, rfl, _, _, hrd, _⟩ := own_rd hown; have hs1 := run_str w1 (P := Try.prog) (c := c1) Try.underlying23 Try.underlying5 hrd rfl Try.underlying9; have hs2 := run_str w1 (P := Try.prog) (c := c) Try.underlying23 Try.underlying5 ((H.out.keep hbel).keep hbel1) HN.out Try.underlying9; clear hrd hstr)
            go_roundw
            case rel => exact ⟨1, by omega, rfl, hbel.trans (hbel1.mono hbel.size), fun _ => K1.out, fun h => by omega⟩
            case measure => simp [intOf]
        · rcases key 32 with ⟨k1, k2, k3⟩ | ⟨k1, k2⟩ | ⟨k1, k2, k3⟩
          · have hc : codeF (headF b) 32 = 0 := by unfold codeF; rw [k2]; rfl
            have hq := Lib.hid (strip_hit (.inr rfl) k1)
            have hcmp : ((str (padF (headF b) 32)).toList == (str b).toList) = true := by rw [str_toList, str_toList]; exact k3
            clear k1 k2 k3 key
            go_wp2_with (go_at_call 8; refine (padFill_any _ _ _ HL).mono ?_; rintro e w1 ⟨v, rfl, hown, hbel1⟩; rw [str_data, hc]; rw [str_data] at hown; obtain ⟨A1, c1, rfl, _, _, hrd, _⟩ := own_rd hown; have hs1 := run_str w1 (P := Try.prog) (c := c1) Try.underlying23 Try.underlying5 hrd rfl Try.underlying9; have hs2 := run_str w1 (P := Try.prog) (c := c) Try.underlying23 Try.underlying5 ((H.out.keep hbel).keep hbel1) HN.out Try.underlying9; clear hrd hstr)
            go_ret2
            rw [hq.out.1, hq.out.2]
            exact ⟨rfl, hbel.trans (hbel1.mono hbel.size)⟩
          · have hc : codeF (headF b) 32 = 2 := by unfold codeF; rw [k2]; rfl
            have K1 := Lib.hid k1
            clear k1 k2 key
            go_wp2_with (go_at_call 8; refine (padFill_any _ _ _ HL).mono ?_; rintro e w1 ⟨v, rfl, hown, hbel1⟩; rw [str_data, hc]; rw [str_data] at hown; obtain ⟨A1, c1, rfl, _, _, hrd, _⟩ := own_rd hown; clear hrd hstr)
            go_roundw
            case rel => exact ⟨2, by omega, rfl, hbel.trans (hbel1.mono hbel.size), fun _ => H16 (by omega), fun _ => K1.out⟩
            case measure => simp [intOf]
          · have hc : codeF (headF b) 32 = 0 := by unfold codeF; rw [k2]; rfl
            have K1 := Lib.hid k1
            have hcmp : ((str (padF (headF b) 32)).toList == (str b).toList) = false := by rw [str_toList, str_toList]; exact k3
            clear k1 k2 k3 key
            go_wp2_with (go_at_call 8; refine (padFill_any _ _ _ HL).mono ?_; rintro e w1 ⟨v, rfl, hown, hbel1⟩; rw [str_data, hc]; rw [str_data] at hown; obtain ⟨A1, c1, rfl, _, _, hrd, _⟩ := own_rd hown; have hs1 := run_str w1 (P := Try.prog) (c := c1) Try.underlying23 Try.underlying5 hrd rfl Try.underlying9; have hs2 := run_str w1 (P := Try.prog) (c := c) Try.underlying23 Try.underlying5 ((H.out.keep hbel).keep hbel1) HN.out Try.underlying9; clear hrd hstr)
            go_roundw
            case rel => exact ⟨2, by omega, rfl, hbel.trans (hbel1.mono hbel.size), fun _ => H16 (by omega), fun _ => K1.out⟩
            case measure => simp [intOf]
end Go.Proofs.Ytjnmpeehadgeoaa
