/- The reference's hmac. -/
import Derived.Test.YtfmfpckpldlahaaDoorHmA
import Derived.Test.YtfmfpckpldlahaaDoorKd
namespace Go.Proofs.YtfmfpckpldlahaaDoor
open Go.RowKit Go.Proofs.YtfmfpckpldlahaaDoor.Pure Go.Proofs.YtfmfpckpldlahaaDoor.PB Go.Proofs.YtfmfpckpldlahaaDoorW.PrintWords

theorem refSum_any (A : Option Addr) (n c : Nat) (xs : List UInt8) (w : World) (hn : xs.length = n) (hr : RdB w A xs) (hc : n ≤ c) (hb : n ≤ 1000000) :
    Calls Tryd.prog 17 #[.slice A n c] w fun e w' => e = .returned (.string (str (sumF xs))) ∧ Below w.heap.size w w' := by
  subst hn
  obtain ⟨kr, hkr⟩ := refSum xs (by omega)
  have h := PB.turnkeyref04_Sum.calls kr A c (i8s xs) (str (sumF xs)) w (C_of_RdB hr (by rw [i8s_length]) (by rw [i8s_length]; omega)) (by rw [i8s_length]; exact hc) (hkr kr (Nat.le_refl _))
  rw [i8s_length] at h
  exact h

theorem src1 {w : World} {b : Nat} {v : Value} (h : Rd w (some ⟨b, 0, none⟩) [v]) (h1 : v.oneCell' = true) : Src Tryd.prog 1 22 (.slice (some ⟨b, 0, none⟩) 1 1) 1 [v] w :=
  Src.of_rd (c := 1) Tryd.underlying22 h (fun u hu => by cases List.mem_singleton.1 hu; exact h1)
theorem srcS (w : World) (s : List UInt8) {n : Nat} (hn : s.length = n) : Src Tryd.prog 1 9 (.string (str s)) n (s.map bV) w := by
  have := Src.ofString (P := Tryd.prog) w Tryd.underlying9 (str s)
  unfold byteCells at this
  rw [str_data, str_size, hn] at this
  exact this

theorem e54 (y : UInt8) : Value.int .u8 (bits .xor .u8 (y.toNat : Int) 54) = bV (y ^^^ 54) := congrArg (Value.int .u8) (xor8 y 54)
theorem e92 (y : UInt8) : Value.int .u8 (bits .xor .u8 (y.toNat : Int) 92) = bV (y ^^^ 92) := congrArg (Value.int .u8) (xor8 y 92)
theorem e54z : Value.int .u8 (bits .xor .u8 0 54) = bV (0 ^^^ 54) := e54 0
theorem e92z : Value.int .u8 (bits .xor .u8 0 92) = bV (0 ^^^ 92) := e92 0

/-- The reference's inner and outer key, as far as it is made. -/
def kx (key : List UInt8) (d : UInt8) (i : Nat) : List UInt8 := (padK key d).take i
theorem kx_step (key : List UInt8) (d : UInt8) {i : Nat} (hi : i < 128) : kx key d (i + 1) = kx key d i ++ [(keyF key).getD i 0 ^^^ d] := by
  unfold kx
  have hl := padK_len key d
  rw [List.take_succ_eq_append_getElem (by omega)]
  congr 1
  congr 1
  have h2 : (fillF (keyF key) 128)[i]? = some ((keyF key).getD i 0) := by
    unfold fillF
    by_cases h : i < (keyF key).length
    · rw [List.getElem?_append_left h, List.getD_eq_getElem?_getD, List.getElem?_eq_getElem h]; rfl
    · have hk := keyF_le key
      rw [List.getElem?_append_right (by omega), List.getElem?_replicate, if_pos (by omega), List.getD_eq_getElem?_getD, List.getElem?_eq_none (by omega)]; rfl
  have h3 : (padK key d)[i]? = some ((keyF key).getD i 0 ^^^ d) := by
    unfold padK xorF
    rw [List.getElem?_zipWith, h2, List.getElem?_replicate, if_pos hi]
  rw [List.getElem?_eq_getElem (by omega)] at h3
  exact Option.some.inj h3
theorem kx_zero (key : List UInt8) (d : UInt8) : kx key d 0 = [] := rfl
theorem kx_end (key : List UInt8) (d : UInt8) : kx key d 128 = padK key d := List.take_of_length_le (by rw [padK_len]; decide)
theorem kx_len (key : List UInt8) (d : UInt8) {i : Nat} (hi : i ≤ 128) : (kx key d i).length = i := by unfold kx; rw [List.length_take, padK_len]; omega

set_option maxRecDepth 8000 in
set_option maxHeartbeats 1600000 in
theorem refH_any (A B : Option Addr) (n c m c' : Nat) (key text : List UInt8) (w : World) (hn : key.length = n) (hr : RdB w A key) (hc : n ≤ c) (hm : text.length = m) (hB : RdB w B text) (hk : n ≤ 100000) (hm2 : m ≤ 100000) :
    Calls Tryd.prog 9 #[.slice A n c, .slice B m c'] w fun e w' => e = .returned (.string (str (hmacF key text))) ∧ Below w.heap.size w w' := by
  have hS := St.start w
  have HN := Lib.hid hn
  have HR := Lib.hid hr
  have HM := Lib.hid hm
  have HB := Lib.hid hB
  have HL := Lib.hid (fun s => sumF_length s)
  have HKL := Lib.hid (keyF_le key)
  have hH := Lib.hid (show sumF (padK key 92 ++ sumF (padK key 54 ++ text)) = hmacF key text from rfl)
  clear hn hr hm hB
  by_cases h128 : 128 < n
  · have hgt : (128 : Int) < (n : Int) := by omega
    have HK := Lib.hid (show keyF key = sumF key by unfold keyF; rw [if_pos (by rw [HN.out]; exact h128)])
    go_enter Tryd.func9, Tryd.ntmps9
    go_wp2_with (first | ((with_reducible show wpList _ _ _ (⟨some 12, Op.convert _ _ _, _, _, _, _⟩ :: _) _ _); go_loud (refine S_strc Tryd.underlying22 Tryd.underlying5 Tryd.underlying9 (hS.rdp HR.out : RdB _ _ key) HN.out rfl rfl rfl ?_)) | (go_at_call 17; refine (refSum_any A n c key _ HN.out (hS.rdp HR.out) hc (by omega)).mono ?_; rw [← HK.out]; rintro e w_ ⟨rfl, hb_⟩; replace hS := hS.ext hb_; clear hb_))
    have hsz := str_size (keyF key)
    have hix := Lib.hid (idx_str (P := Tryd.prog) Tryd.underlying9 (keyF key))
    replace hS := (hS.nil 5 1).nil 5 1
    go_loopw [6, 7, 8] (fun v6 v7 i wr => ∃ (k : Nat) (A6 A7 : Option Addr) (c6 c7 : Nat), i = .int .i64 (k : Int) ∧ k ≤ 128 ∧ v6 = .slice A6 k c6 ∧ v7 = .slice A7 k c7 ∧ St (Kp w) w wr [.own 5 1 (.slice A6 k c6) k ((kx key 54 k).map bV), .own 5 1 (.slice A7 k c7) k ((kx key 92 k).map bV)]) (fun _ _ i _ => 128 - (intOf i).toNat)
    case atStart => exact ⟨0, none, none, 0, 0, rfl, by omega, rfl, rfl, by simpa [kx_zero] using hS⟩
    case round =>
      clear hS
      obtain ⟨k, A6, A7, c6, c7, rfl, hk, rfl, rfl, hS⟩ := hrel
      by_cases hlt : k < 128
      · have h54 := Lib.hid (kx_step key 54 hlt)
        have h92 := Lib.hid (kx_step key 92 hlt)
        by_cases hin : k < (keyF key).length
        · have hx := hix.out k hin
          generalize (keyF key).getD k 0 = y at *
          go_wp2_with (first | ((with_reducible show wpList _ _ _ (⟨some 32, Op.buildSlice _ _ _, _, _, _, _⟩ :: _) _ _); go_loud (apply S_bslice hS; rfl; (go_simp; first | with_reducible rfl | (refine ⟨?_, ?_⟩ <;> with_reducible rfl)); rfl; rfl; rfl; rfl; clear hS; intro b32 w_ hS)) | ((with_reducible show wpList _ _ _ (⟨some 37, Op.buildSlice _ _ _, _, _, _, _⟩ :: _) _ _); go_loud (apply S_bslice hS; rfl; (go_simp; first | with_reducible rfl | (refine ⟨?_, ?_⟩ <;> with_reducible rfl)); rfl; rfl; rfl; rfl; clear hS; intro b37 w_ hS)) | ((with_reducible show wpList _ _ _ (⟨some 33, Op.call _, _, _, _, _⟩ :: _) _ _); go_loud (apply S_app TB hS; rfl; rfl; rfl; (focus ((repeat (first | exact .here | apply At.there)); done)); rfl; exact (src1 (hS.ownRd (A := some ⟨b32, 0, none⟩) (by focus ((repeat (first | exact .here | apply At.there)); done))) rfl); (unfold maxLen; omega); omega; clear hS; intro B6 d6 w_ hS; (try simp only [Nat.zero_add, List.nil_append] at hS ⊢))) | ((with_reducible show wpList _ _ _ (⟨some 38, Op.call _, _, _, _, _⟩ :: _) _ _); go_loud (apply S_app TB hS; rfl; rfl; rfl; (focus ((repeat (first | exact .here | apply At.there)); done)); rfl; exact (src1 (hS.ownRd (A := some ⟨b37, 0, none⟩) (by focus ((repeat (first | exact .here | apply At.there)); done))) rfl); (unfold maxLen; omega); omega; clear hS; intro B7 d7 w_ hS; (try simp only [Nat.zero_add, List.nil_append] at hS ⊢))))
          go_roundw
          case rel => exact ⟨k + 1, B6, B7, d6, d7, by go_num, by omega, rfl, rfl, by rw [h54.out, h92.out, List.map_append, List.map_append]; have := hS.drop.drop; rw [e54 y, e92 y] at this; exact this⟩
          case measure => simp [intOf]; omega
        · have hin2 : ¬ (k : Int) < ((keyF key).length : Int) := by omega
          have hy := Lib.hid (show (keyF key).getD k 0 = 0 by rw [List.getD_eq_getElem?_getD, List.getElem?_eq_none (by omega)]; rfl)
          go_wp2_with (first | ((with_reducible show wpList _ _ _ (⟨some 32, Op.buildSlice _ _ _, _, _, _, _⟩ :: _) _ _); go_loud (apply S_bslice hS; rfl; (go_simp; first | with_reducible rfl | (refine ⟨?_, ?_⟩ <;> with_reducible rfl)); rfl; rfl; rfl; rfl; clear hS; intro b32 w_ hS)) | ((with_reducible show wpList _ _ _ (⟨some 37, Op.buildSlice _ _ _, _, _, _, _⟩ :: _) _ _); go_loud (apply S_bslice hS; rfl; (go_simp; first | with_reducible rfl | (refine ⟨?_, ?_⟩ <;> with_reducible rfl)); rfl; rfl; rfl; rfl; clear hS; intro b37 w_ hS)) | ((with_reducible show wpList _ _ _ (⟨some 33, Op.call _, _, _, _, _⟩ :: _) _ _); go_loud (apply S_app TB hS; rfl; rfl; rfl; (focus ((repeat (first | exact .here | apply At.there)); done)); rfl; exact (src1 (hS.ownRd (A := some ⟨b32, 0, none⟩) (by focus ((repeat (first | exact .here | apply At.there)); done))) rfl); (unfold maxLen; omega); omega; clear hS; intro B6 d6 w_ hS; (try simp only [Nat.zero_add, List.nil_append] at hS ⊢))) | ((with_reducible show wpList _ _ _ (⟨some 38, Op.call _, _, _, _, _⟩ :: _) _ _); go_loud (apply S_app TB hS; rfl; rfl; rfl; (focus ((repeat (first | exact .here | apply At.there)); done)); rfl; exact (src1 (hS.ownRd (A := some ⟨b37, 0, none⟩) (by focus ((repeat (first | exact .here | apply At.there)); done))) rfl); (unfold maxLen; omega); omega; clear hS; intro B7 d7 w_ hS; (try simp only [Nat.zero_add, List.nil_append] at hS ⊢))))
          go_roundw
          case rel => exact ⟨k + 1, B6, B7, d6, d7, by go_num, by omega, rfl, rfl, by rw [h54.out, h92.out, hy.out, List.map_append, List.map_append]; have := hS.drop.drop; rw [e54z, e92z] at this; exact this⟩
          case measure => simp [intOf]; omega
      · have hk8 : k = 128 := by omega
        subst hk8
        rw [kx_end, kx_end] at hS
        have hp5 := Lib.hid (padK_len key 54)
        have hp9 := Lib.hid (padK_len key 92)
        go_wp2_with (first | ((with_reducible show wpList _ _ _ (⟨some 41, Op.call _, _, _, _, _⟩ :: _) _ _); go_loud (apply S_app TB hS; rfl; rfl; rfl; (focus ((repeat (first | exact .here | apply At.there)); done)); rfl; exact (RdB.src (c := c') Tryd.underlying22 (hS.rdp HB.out) HM.out); (unfold maxLen; omega); omega; clear hS; intro A8 c8 w_ hS; (try simp only [Nat.zero_add, List.nil_append] at hS ⊢))) | ((with_reducible show Calls _ 17 #[.slice A8 _ _] _ _); refine (refSum_any A8 _ c8 (padK key 54 ++ text) _ (by rw [List.length_append, hp5.out, HM.out]) (by have := hS.ownRd (A := A8) (by focus ((repeat (first | exact .here | apply At.there)); done)); rw [← List.map_append] at this; exact this) (hS.ownCap (A := A8) (by focus ((repeat (first | exact .here | apply At.there)); done))) (by omega)).mono ?_; rintro e w_ ⟨rfl, hb_⟩; replace hS := hS.ext hb_; clear hb_; have hl8 := Lib.hid (sumF_length (padK key 54 ++ text)); have hz8 := Lib.hid (str_size (sumF (padK key 54 ++ text)))) | ((with_reducible show wpList _ _ _ (⟨some 45, Op.call _, _, _, _, _⟩ :: _) _ _); go_loud (apply S_app TB hS; rfl; rfl; rfl; (focus ((repeat (first | exact .here | apply At.there)); done)); rfl; exact srcS _ _ hl8.out; (unfold maxLen; omega); omega; clear hS; intro A9 c9 w_ hS)) | ((with_reducible show Calls _ 17 #[.slice A9 _ _] _ _); refine (refSum_any A9 _ c9 (padK key 92 ++ sumF (padK key 54 ++ text)) _ (by rw [List.length_append, hp9.out, hl8.out]) (by have := hS.ownRd (A := A9) (by focus ((repeat (first | exact .here | apply At.there)); done)); rw [← List.map_append] at this; exact this) (hS.ownCap (A := A9) (by focus ((repeat (first | exact .here | apply At.there)); done))) (by decide)).mono ?_; rintro e w_ ⟨rfl, hb_⟩; replace hS := hS.ext hb_; clear hb_; rw [hH.out]))
        go_ret
        exact ⟨rfl, hS.below⟩
  · have hgt : ¬ (128 : Int) < (n : Int) := by omega
    have HK := Lib.hid (show keyF key = key by unfold keyF; rw [if_neg (by rw [HN.out]; exact h128)])
    go_enter Tryd.func9, Tryd.ntmps9
    go_wp2_with (first | ((with_reducible show wpList _ _ _ (⟨some 12, Op.convert _ _ _, _, _, _, _⟩ :: _) _ _); go_loud (refine S_strc Tryd.underlying22 Tryd.underlying5 Tryd.underlying9 (show RdB _ _ (keyF key) by rw [HK.out]; exact hS.rdp HR.out) (by rw [HK.out]; exact HN.out) rfl rfl rfl ?_)))
    have hsz := str_size (keyF key)
    have hix := Lib.hid (idx_str (P := Tryd.prog) Tryd.underlying9 (keyF key))
    replace hS := (hS.nil 5 1).nil 5 1
    go_loopw [6, 7, 8] (fun v6 v7 i wr => ∃ (k : Nat) (A6 A7 : Option Addr) (c6 c7 : Nat), i = .int .i64 (k : Int) ∧ k ≤ 128 ∧ v6 = .slice A6 k c6 ∧ v7 = .slice A7 k c7 ∧ St (Kp w) w wr [.own 5 1 (.slice A6 k c6) k ((kx key 54 k).map bV), .own 5 1 (.slice A7 k c7) k ((kx key 92 k).map bV)]) (fun _ _ i _ => 128 - (intOf i).toNat)
    case atStart => exact ⟨0, none, none, 0, 0, rfl, by omega, rfl, rfl, by simpa [kx_zero] using hS⟩
    case round =>
      clear hS
      obtain ⟨k, A6, A7, c6, c7, rfl, hk, rfl, rfl, hS⟩ := hrel
      by_cases hlt : k < 128
      · have h54 := Lib.hid (kx_step key 54 hlt)
        have h92 := Lib.hid (kx_step key 92 hlt)
        by_cases hin : k < (keyF key).length
        · have hx := hix.out k hin
          generalize (keyF key).getD k 0 = y at *
          go_wp2_with (first | ((with_reducible show wpList _ _ _ (⟨some 32, Op.buildSlice _ _ _, _, _, _, _⟩ :: _) _ _); go_loud (apply S_bslice hS; rfl; (go_simp; first | with_reducible rfl | (refine ⟨?_, ?_⟩ <;> with_reducible rfl)); rfl; rfl; rfl; rfl; clear hS; intro b32 w_ hS)) | ((with_reducible show wpList _ _ _ (⟨some 37, Op.buildSlice _ _ _, _, _, _, _⟩ :: _) _ _); go_loud (apply S_bslice hS; rfl; (go_simp; first | with_reducible rfl | (refine ⟨?_, ?_⟩ <;> with_reducible rfl)); rfl; rfl; rfl; rfl; clear hS; intro b37 w_ hS)) | ((with_reducible show wpList _ _ _ (⟨some 33, Op.call _, _, _, _, _⟩ :: _) _ _); go_loud (apply S_app TB hS; rfl; rfl; rfl; (focus ((repeat (first | exact .here | apply At.there)); done)); rfl; exact (src1 (hS.ownRd (A := some ⟨b32, 0, none⟩) (by focus ((repeat (first | exact .here | apply At.there)); done))) rfl); (unfold maxLen; omega); omega; clear hS; intro B6 d6 w_ hS; (try simp only [Nat.zero_add, List.nil_append] at hS ⊢))) | ((with_reducible show wpList _ _ _ (⟨some 38, Op.call _, _, _, _, _⟩ :: _) _ _); go_loud (apply S_app TB hS; rfl; rfl; rfl; (focus ((repeat (first | exact .here | apply At.there)); done)); rfl; exact (src1 (hS.ownRd (A := some ⟨b37, 0, none⟩) (by focus ((repeat (first | exact .here | apply At.there)); done))) rfl); (unfold maxLen; omega); omega; clear hS; intro B7 d7 w_ hS; (try simp only [Nat.zero_add, List.nil_append] at hS ⊢))))
          go_roundw
          case rel => exact ⟨k + 1, B6, B7, d6, d7, by go_num, by omega, rfl, rfl, by rw [h54.out, h92.out, List.map_append, List.map_append]; have := hS.drop.drop; rw [e54 y, e92 y] at this; exact this⟩
          case measure => simp [intOf]; omega
        · have hin2 : ¬ (k : Int) < ((keyF key).length : Int) := by omega
          have hy := Lib.hid (show (keyF key).getD k 0 = 0 by rw [List.getD_eq_getElem?_getD, List.getElem?_eq_none (by omega)]; rfl)
          go_wp2_with (first | ((with_reducible show wpList _ _ _ (⟨some 32, Op.buildSlice _ _ _, _, _, _, _⟩ :: _) _ _); go_loud (apply S_bslice hS; rfl; (go_simp; first | with_reducible rfl | (refine ⟨?_, ?_⟩ <;> with_reducible rfl)); rfl; rfl; rfl; rfl; clear hS; intro b32 w_ hS)) | ((with_reducible show wpList _ _ _ (⟨some 37, Op.buildSlice _ _ _, _, _, _, _⟩ :: _) _ _); go_loud (apply S_bslice hS; rfl; (go_simp; first | with_reducible rfl | (refine ⟨?_, ?_⟩ <;> with_reducible rfl)); rfl; rfl; rfl; rfl; clear hS; intro b37 w_ hS)) | ((with_reducible show wpList _ _ _ (⟨some 33, Op.call _, _, _, _, _⟩ :: _) _ _); go_loud (apply S_app TB hS; rfl; rfl; rfl; (focus ((repeat (first | exact .here | apply At.there)); done)); rfl; exact (src1 (hS.ownRd (A := some ⟨b32, 0, none⟩) (by focus ((repeat (first | exact .here | apply At.there)); done))) rfl); (unfold maxLen; omega); omega; clear hS; intro B6 d6 w_ hS; (try simp only [Nat.zero_add, List.nil_append] at hS ⊢))) | ((with_reducible show wpList _ _ _ (⟨some 38, Op.call _, _, _, _, _⟩ :: _) _ _); go_loud (apply S_app TB hS; rfl; rfl; rfl; (focus ((repeat (first | exact .here | apply At.there)); done)); rfl; exact (src1 (hS.ownRd (A := some ⟨b37, 0, none⟩) (by focus ((repeat (first | exact .here | apply At.there)); done))) rfl); (unfold maxLen; omega); omega; clear hS; intro B7 d7 w_ hS; (try simp only [Nat.zero_add, List.nil_append] at hS ⊢))))
          go_roundw
          case rel => exact ⟨k + 1, B6, B7, d6, d7, by go_num, by omega, rfl, rfl, by rw [h54.out, h92.out, hy.out, List.map_append, List.map_append]; have := hS.drop.drop; rw [e54z, e92z] at this; exact this⟩
          case measure => simp [intOf]; omega
      · have hk8 : k = 128 := by omega
        subst hk8
        rw [kx_end, kx_end] at hS
        have hp5 := Lib.hid (padK_len key 54)
        have hp9 := Lib.hid (padK_len key 92)
        go_wp2_with (first | ((with_reducible show wpList _ _ _ (⟨some 41, Op.call _, _, _, _, _⟩ :: _) _ _); go_loud (apply S_app TB hS; rfl; rfl; rfl; (focus ((repeat (first | exact .here | apply At.there)); done)); rfl; exact (RdB.src (c := c') Tryd.underlying22 (hS.rdp HB.out) HM.out); (unfold maxLen; omega); omega; clear hS; intro A8 c8 w_ hS; (try simp only [Nat.zero_add, List.nil_append] at hS ⊢))) | ((with_reducible show Calls _ 17 #[.slice A8 _ _] _ _); refine (refSum_any A8 _ c8 (padK key 54 ++ text) _ (by rw [List.length_append, hp5.out, HM.out]) (by have := hS.ownRd (A := A8) (by focus ((repeat (first | exact .here | apply At.there)); done)); rw [← List.map_append] at this; exact this) (hS.ownCap (A := A8) (by focus ((repeat (first | exact .here | apply At.there)); done))) (by omega)).mono ?_; rintro e w_ ⟨rfl, hb_⟩; replace hS := hS.ext hb_; clear hb_; have hl8 := Lib.hid (sumF_length (padK key 54 ++ text)); have hz8 := Lib.hid (str_size (sumF (padK key 54 ++ text)))) | ((with_reducible show wpList _ _ _ (⟨some 45, Op.call _, _, _, _, _⟩ :: _) _ _); go_loud (apply S_app TB hS; rfl; rfl; rfl; (focus ((repeat (first | exact .here | apply At.there)); done)); rfl; exact srcS _ _ hl8.out; (unfold maxLen; omega); omega; clear hS; intro A9 c9 w_ hS)) | ((with_reducible show Calls _ 17 #[.slice A9 _ _] _ _); refine (refSum_any A9 _ c9 (padK key 92 ++ sumF (padK key 54 ++ text)) _ (by rw [List.length_append, hp9.out, hl8.out]) (by have := hS.ownRd (A := A9) (by focus ((repeat (first | exact .here | apply At.there)); done)); rw [← List.map_append] at this; exact this) (hS.ownCap (A := A9) (by focus ((repeat (first | exact .here | apply At.there)); done))) (by decide)).mono ?_; rintro e w_ ⟨rfl, hb_⟩; replace hS := hS.ext hb_; clear hb_; rw [hH.out]))
        go_ret
        exact ⟨rfl, hS.below⟩

theorem str_take (s : List UInt8) (k : Nat) : (str s).extract 0 k = str (s.take k) := by
  apply ByteArray.ext
  simp [str, ByteArray.data_extract]

end Go.Proofs.YtfmfpckpldlahaaDoor
