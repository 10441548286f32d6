/- the reference's Cut. -/
import Derived.Test.YtnopoiidekklfaaRCut
import Derived.Test.YtnopoiidekklfaaOctK
namespace Go.Proofs.Ytnopoiidekklfaa
open Go.RowKit

theorem pieces_succ (xs : List UInt8) (s k : Nat) : (List.range (k + 1)).map (pieceF xs s) = (List.range k).map (pieceF xs s) ++ [pieceF xs s k] := by
  rw [List.range_succ, List.map_append]; rfl

theorem own_row_keep {w w1 : World} {base size n : Nat} {e : TypeId} {v : Value} {xs : List Value} (h : w.ownsRow base e size v n xs) (hg : w.grownBy w1 none) : w1.ownsRow base e size v n xs :=
  h.kept hg (by
    cases hv : v.ownBlock with
    | none => exact .inl rfl
    | some g => exact .inr (by simp))

theorem rest_rd {w : World} {b o n k s l m : Nat} {xs : List UInt8} (h : RdB w (some ⟨b, o, none⟩) (xs.drop (k * s))) (hn : xs.length = n) (hl : l = n - k * s) (hm : m = min s l) :
    RdB w (some ⟨b, o + m, none⟩) (xs.drop ((k + 1) * s)) ∧ l - m = n - (k + 1) * s := by
  have e : (k + 1) * s = k * s + s := Nat.succ_mul k s
  refine ⟨?_, by omega⟩
  by_cases hsl : l ≤ s
  · rw [List.drop_of_length_le (by omega)]; exact Rd.nil _ _
  · obtain rfl : m = s := by omega
    rcases h with h | ⟨b', o', e', h⟩
    · have : (xs.drop (k * m)).length = 0 := by have := congrArg List.length h; simpa using this
      rw [List.length_drop] at this; omega
    · cases e'
      refine Rd.mk fun i hi => ?_
      rw [List.length_map, List.length_drop] at hi
      rw [Nat.add_assoc, h (m + i) (by rw [List.length_map, List.length_drop]; omega), List.getElem?_map, List.getElem?_map, List.getElem?_drop, List.getElem?_drop, e, Nat.add_assoc]

theorem lit1_src (w : World) (A : Option Addr) (m c : Nat) : Src Try.prog 1 31 (.slice (some ⟨w.heap.size, 0, none⟩) 1 1) 1 [.slice A m c] (w.alloc (.cells #[.slice A m c] 22)) :=
  Src.of_rd (xs := [.slice A m c]) (Try.underlying31) (rd_litV w [.slice A m c] _) (fun u hu => by rw [List.mem_singleton.1 hu]; rfl)

set_option maxHeartbeats 4000000 in
theorem refCut_any (A : Option Addr) (n c : Nat) (size : Int) (xs : List UInt8) (w : World) (hn : xs.length = n) (h : RdB w A xs) (hc : n ≤ c) (hb : n ≤ 1099511627776) (hs2 : size ≤ 9223372036854775807) :
    Calls Try.prog 17 #[.slice A n c, .int .i64 size] w (GivesBB (cutF xs size) w) := by
  have HN := Lib.hid hn; clear hn
  have H := Lib.hid h; clear h
  by_cases hs : size < 1
  · have e : cutF xs size = [] := by unfold cutF; rw [if_pos hs]
    rw [e]; clear e
    have hs0 : ¬ (0 : Int) < size := by omega
    go_enter Try.func17, Try.ntmps17
    go_wp2
    go_loopw [0, 5] (fun v0 v5 wr => v0 = .slice A n c ∧ v5 = .slice none 0 0 ∧ w = wr) (fun _ _ _ => 0)
    case atStart => exact ⟨rfl, rfl, rfl⟩
    case round =>
      obtain ⟨rfl, rfl, rfl⟩ := hrel
      go_wp2
      go_ret
      exact ⟨_, [], rfl, World.ownsRow_nil _ _ _ _, Each.nil _ _, Below.refl _ _⟩
  · obtain ⟨s, rfl⟩ : ∃ s : Nat, size = (s : Int) := ⟨size.toNat, by omega⟩
    have hs1 : 1 ≤ s := by omega
    have e : cutF xs (s : Int) = (List.range (nCh n s)).map (pieceF xs s) := by unfold cutF; rw [if_neg hs, HN.out]; rfl
    rw [e]; clear e hs
    have hs0 : (0 : Int) < (s : Int) := by omega
    go_enter Try.func17, Try.ntmps17
    go_wp2
    go_loopw [0, 5] (fun v0 v5 wr => ∃ (k l : Nat) (A' : Option Addr) (c' : Nat) (A1 : Option Addr) (c1 : Nat) (vs : List Value), v0 = .slice A' l c' ∧ v5 = .slice A1 k c1 ∧ l ≤ c' ∧ Hid (l = n - k * s) ∧ Hid (RdB w A' (xs.drop (k * s))) ∧ (k = 0 ∨ (k - 1) * s < n) ∧ wr.ownsRow w.heap.size 22 1 (.slice A1 k c1) k vs ∧ Each wr w.heap.size vs ((List.range k).map (pieceF xs s)) ∧ Below w.heap.size w wr) (fun v0 _ _ => match v0 with | .slice _ l _ => l | _ => 0)
    case atStart => exact ⟨0, n, A, c, none, 0, [], rfl, rfl, hc, Lib.hid (by simp), Lib.hid (by simpa using H.out), .inl rfl, World.ownsRow_nil _ _ _ _, Each.nil _ _, Below.refl _ _⟩
    case round =>
      obtain ⟨k, l, A', c', A1, c1, vs, rfl, rfl, hlc, HL, HR, hk, hown, heach, hbel⟩ := hrel
      by_cases hl0 : 0 < l
      · obtain ⟨m, hm1, hm2, hm3⟩ : ∃ m : Nat, m = min s l ∧ m ≤ l ∧ 0 < m := ⟨min s l, rfl, by omega, by omega⟩
        have hkn : k < nCh n s := lt_nCh hs1 (by have := HL.out; omega)
        have hkn2 : k < n := Nat.lt_of_lt_of_le hkn (nCh_le hs1)
        have hks : k * s < n := by have := HL.out; omega
        have hln : l ≤ n := by have := HL.out; omega
        have hmn : m ≤ n := by omega
        have HPL := Lib.hid (show (pieceF xs s k).length = m by rw [piece_len, HN.out, hm1, HL.out])
        obtain ⟨b0, o0, rfl, -, -⟩ := RdB.at HR.out (k := 0) (by rw [List.length_drop, HN.out, ← HL.out]; exact hl0)
        have HPR : Hid (RdB w (some ⟨b0, o0, none⟩) (pieceF xs s k)) := Lib.hid (RdB.take HR.out s)
        have HM := Lib.hid hm1
        have HRN : Hid (RdB w (some ⟨b0, o0 + m, none⟩) (xs.drop ((k + 1) * s)) ∧ l - m = n - (k + 1) * s) := Lib.hid (rest_rd HR.out HN.out HL.out hm1)
        have hml : ¬ c' = m → m < c' := by omega
        clear hm1
        by_cases hsl : l < s
        · obtain rfl : m = l := by have := HM.out; omega
          have hnil : xs.drop ((k + 1) * s) = [] := by
            have h1 := HRN.out.2
            exact List.drop_of_length_le (by rw [HN.out]; omega)
          have HNIL := Lib.hid hnil
          clear hnil
          by_cases hcm : c' = m
          · go_wp2_with (first | (at_builtin; go_loud (refine wpList_app0 (World.ownsRow_made wr #[] 0 hbel.size (Nat.zero_le _) rfl) (HPR.out.keep (hbel.alloc hbel.size _)) HPL.out rfl rfl rfl rfl (by omega) (by have := hbel.size; rw [World.size_alloc]; omega) (fun A2 c2 w1 hown1 hg => ?_)); have ho1 := own_row_keep (hown.alloc _) hg; have he1 := heach.map (fun _ _ _ h => own_row_keep (World.ownsRow.alloc h _) hg); have hb1 := (hbel.alloc hbel.size (.cells #[] 5)).grown hg (by have := hbel.size; rw [World.size_alloc]; omega) (fun k e => by cases e); clear hown heach hbel hg) | (at_builtin; go_loud (refine wpList_app' TBB w.heap.size (ho1.alloc _) _ (lit1_src w1 A2 m c2) rfl rfl rfl rfl (by unfold maxLen; omega) (by omega) (by have := hb1.size; rw [World.size_alloc]; omega) (hb1.alloc hb1.size _) (fun A3 c3 w2 hown2 hg2 hb2 => ?_)); have he2 := (he1.map (fun _ _ _ h => own_kept_ne (World.ownsRow.alloc h _) (ho1.alloc _) (by decide) hg2)).push (v := .slice A2 m c2) (xs := pieceF xs s k) (by rw [HPL.out]; exact own_kept_ne (World.ownsRow.alloc hown1 _) (ho1.alloc _) (by decide) hg2); rw [← pieces_succ] at he2; clear ho1 he1 hb1 hown1 hg2))
            go_roundw
            case rel => exact ⟨k + 1, _, _, _, A3, c3, _, rfl, rfl, by omega, Lib.hid (by have := HRN.out.2; omega), Lib.hid (by rw [HNIL.out]; exact Rd.nil _ _), .inr (by rw [Nat.add_sub_cancel]; exact hks), hown2, he2, hb2⟩
            case measure => dsimp only; omega
          · go_wp2_with (first | (at_builtin; go_loud (refine wpList_app0 (World.ownsRow_made wr #[] 0 hbel.size (Nat.zero_le _) rfl) (HPR.out.keep (hbel.alloc hbel.size _)) HPL.out rfl rfl rfl rfl (by omega) (by have := hbel.size; rw [World.size_alloc]; omega) (fun A2 c2 w1 hown1 hg => ?_)); have ho1 := own_row_keep (hown.alloc _) hg; have he1 := heach.map (fun _ _ _ h => own_row_keep (World.ownsRow.alloc h _) hg); have hb1 := (hbel.alloc hbel.size (.cells #[] 5)).grown hg (by have := hbel.size; rw [World.size_alloc]; omega) (fun k e => by cases e); clear hown heach hbel hg) | (at_builtin; go_loud (refine wpList_app' TBB w.heap.size (ho1.alloc _) _ (lit1_src w1 A2 m c2) rfl rfl rfl rfl (by unfold maxLen; omega) (by omega) (by have := hb1.size; rw [World.size_alloc]; omega) (hb1.alloc hb1.size _) (fun A3 c3 w2 hown2 hg2 hb2 => ?_)); have he2 := (he1.map (fun _ _ _ h => own_kept_ne (World.ownsRow.alloc h _) (ho1.alloc _) (by decide) hg2)).push (v := .slice A2 m c2) (xs := pieceF xs s k) (by rw [HPL.out]; exact own_kept_ne (World.ownsRow.alloc hown1 _) (ho1.alloc _) (by decide) hg2); rw [← pieces_succ] at he2; clear ho1 he1 hb1 hown1 hg2))
            go_roundw
            case rel => exact ⟨k + 1, _, _, _, A3, c3, _, rfl, rfl, by omega, Lib.hid (by have := HRN.out.2; omega), Lib.hid (by rw [HNIL.out]; exact Rd.nil _ _), .inr (by rw [Nat.add_sub_cancel]; exact hks), hown2, he2, hb2⟩
            case measure => dsimp only; omega
        · obtain rfl : m = s := by have := HM.out; omega
          by_cases hcm : c' = m
          · have hnil : xs.drop ((k + 1) * m) = [] := by
              have h1 := HRN.out.2
              exact List.drop_of_length_le (by rw [HN.out]; omega)
            have HNIL := Lib.hid hnil
            clear hnil
            go_wp2_with (first | (at_builtin; go_loud (refine wpList_app0 (World.ownsRow_made wr #[] 0 hbel.size (Nat.zero_le _) rfl) (HPR.out.keep (hbel.alloc hbel.size _)) HPL.out rfl rfl rfl rfl (by omega) (by have := hbel.size; rw [World.size_alloc]; omega) (fun A2 c2 w1 hown1 hg => ?_)); have ho1 := own_row_keep (hown.alloc _) hg; have he1 := heach.map (fun _ _ _ h => own_row_keep (World.ownsRow.alloc h _) hg); have hb1 := (hbel.alloc hbel.size (.cells #[] 5)).grown hg (by have := hbel.size; rw [World.size_alloc]; omega) (fun k e => by cases e); clear hown heach hbel hg) | (at_builtin; go_loud (refine wpList_app' TBB w.heap.size (ho1.alloc _) _ (lit1_src w1 A2 m c2) rfl rfl rfl rfl (by unfold maxLen; omega) (by omega) (by have := hb1.size; rw [World.size_alloc]; omega) (hb1.alloc hb1.size _) (fun A3 c3 w2 hown2 hg2 hb2 => ?_)); have he2 := (he1.map (fun _ _ _ h => own_kept_ne (World.ownsRow.alloc h _) (ho1.alloc _) (by decide) hg2)).push (v := .slice A2 m c2) (xs := pieceF xs m k) (by rw [HPL.out]; exact own_kept_ne (World.ownsRow.alloc hown1 _) (ho1.alloc _) (by decide) hg2); rw [← pieces_succ] at he2; clear ho1 he1 hb1 hown1 hg2))
            go_roundw
            case rel => exact ⟨k + 1, _, _, _, A3, c3, _, rfl, rfl, by omega, Lib.hid (by have := HRN.out.2; omega), Lib.hid (by rw [HNIL.out]; exact Rd.nil _ _), .inr (by rw [Nat.add_sub_cancel]; exact hks), hown2, he2, hb2⟩
            case measure => dsimp only; omega
          · go_wp2_with (first | (at_builtin; go_loud (refine wpList_app0 (World.ownsRow_made wr #[] 0 hbel.size (Nat.zero_le _) rfl) (HPR.out.keep (hbel.alloc hbel.size _)) HPL.out rfl rfl rfl rfl (by omega) (by have := hbel.size; rw [World.size_alloc]; omega) (fun A2 c2 w1 hown1 hg => ?_)); have ho1 := own_row_keep (hown.alloc _) hg; have he1 := heach.map (fun _ _ _ h => own_row_keep (World.ownsRow.alloc h _) hg); have hb1 := (hbel.alloc hbel.size (.cells #[] 5)).grown hg (by have := hbel.size; rw [World.size_alloc]; omega) (fun k e => by cases e); clear hown heach hbel hg) | (at_builtin; go_loud (refine wpList_app' TBB w.heap.size (ho1.alloc _) _ (lit1_src w1 A2 m c2) rfl rfl rfl rfl (by unfold maxLen; omega) (by omega) (by have := hb1.size; rw [World.size_alloc]; omega) (hb1.alloc hb1.size _) (fun A3 c3 w2 hown2 hg2 hb2 => ?_)); have he2 := (he1.map (fun _ _ _ h => own_kept_ne (World.ownsRow.alloc h _) (ho1.alloc _) (by decide) hg2)).push (v := .slice A2 m c2) (xs := pieceF xs m k) (by rw [HPL.out]; exact own_kept_ne (World.ownsRow.alloc hown1 _) (ho1.alloc _) (by decide) hg2); rw [← pieces_succ] at he2; clear ho1 he1 hb1 hown1 hg2))
            go_roundw
            case rel => exact ⟨k + 1, _, _, _, A3, c3, _, rfl, rfl, by omega, Lib.hid HRN.out.2, Lib.hid HRN.out.1, .inr (by rw [Nat.add_sub_cancel]; exact hks), hown2, he2, hb2⟩
            case measure => dsimp only; omega
      · obtain rfl : l = 0 := by omega
        have hkk : nCh n s = k := nCh_eq hs1 (by have := HL.out; omega) hk
        have hl : ((List.range k).map (pieceF xs s)).length = k := by simp
        have HLN := Lib.hid hl
        have HK := Lib.hid hkk
        clear hl hkk hl0
        go_wp2
        go_ret
        refine ⟨_, vs, rfl, ?_, ?_, hbel⟩
        · rw [HK.out, HLN.out]; exact hown
        · rw [HK.out]; exact heach
end Go.Proofs.Ytnopoiidekklfaa
