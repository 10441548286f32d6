/- Base64Signs: the printed function answers true. -/
import Derived.Test.YtmpkbjkdmbgmhaaPureBase64Texts
import Derived.Test.YtmpkbjkdmbgmhaaPAll
namespace Go.Proofs.Ytmpkbjkdmbgmhaa.Pure
open Go.RowKit Go.Proofs.Ytmpkbjkdmbgmhaa Go.Proofs.Ytmpkbjkdmbgmhaa.PB Go.Proofs.YtmpkbjkdmbgmhaaW.PrintWords Go.Proofs.YtmpkbjkdmbgmhaaW.PrintLast

theorem sgn_spec (n : Nat) (h : n < 64) : isSign (sgn n) = true ∧ sval (sgn n) = n := by
  have : ∀ n : Fin 64, isSign (sgn n.1) = true ∧ sval (sgn n.1) = n.1 := by decide +kernel
  exact this ⟨n, h⟩

theorem encR_signs : ∀ xs : List UInt8, (encR xs).all isSign = true
  | [] => rfl
  | [a] => by
    have := UInt8.toNat_lt a
    simp only [encR, groupF, sixF, six, List.length_cons, List.length_nil, List.getD_cons_zero]
    simp [(sgn_spec (a.toNat / 4) (by omega)).1, (sgn_spec (a.toNat % 4 * 16) (by omega)).1]
  | [a, b] => by
    have := UInt8.toNat_lt a; have := UInt8.toNat_lt b
    simp only [encR, groupF, sixF, six, List.length_cons, List.length_nil, List.getD_cons_zero, List.getD_cons_succ]
    simp [(sgn_spec (a.toNat / 4) (by omega)).1, (sgn_spec (a.toNat % 4 * 16 + b.toNat / 16) (by omega)).1, (sgn_spec (b.toNat % 16 * 4) (by omega)).1]
  | a :: b :: c :: r => by
    have := UInt8.toNat_lt a; have := UInt8.toNat_lt b; have := UInt8.toNat_lt c
    rw [encR, List.all_append, encR_signs r, Bool.and_true]
    simp only [groupF, sixF, six, List.length_cons, List.length_nil, List.getD_cons_zero, List.getD_cons_succ]
    simp [(sgn_spec (a.toNat / 4) (by omega)).1, (sgn_spec (a.toNat % 4 * 16 + b.toNat / 16) (by omega)).1, (sgn_spec (b.toNat % 16 * 4 + c.toNat / 64) (by omega)).1, (sgn_spec (c.toNat % 64) (by omega)).1]

theorem ofNat_of {m : Nat} {a : UInt8} (h : m = a.toNat) : UInt8.ofNat m = a := by rw [h, UInt8.ofNat_toNat]

theorem decR_encR : ∀ xs : List UInt8, decR (encR xs) = xs
  | [] => rfl
  | [a] => by
    have := UInt8.toNat_lt a
    have e : encR [a] = [sgn (a.toNat / 4), sgn (a.toNat % 4 * 16)] := by simp [encR, groupF, sixF, six]
    rw [e, decR_short (by simp) (by simp)]
    simp only [fourF, nK, List.length_cons, List.length_nil, List.getD_cons_zero, List.getD_cons_succ, (sgn_spec (a.toNat / 4) (by omega)).2, (sgn_spec (a.toNat % 4 * 16) (by omega)).2]
    simp
    exact ofNat_of (by omega)
  | [a, b] => by
    have := UInt8.toNat_lt a; have := UInt8.toNat_lt b
    have e : encR [a, b] = [sgn (a.toNat / 4), sgn (a.toNat % 4 * 16 + b.toNat / 16), sgn (b.toNat % 16 * 4)] := by simp [encR, groupF, sixF, six]
    rw [e, decR_short (by simp) (by simp)]
    simp only [fourF, nK, List.length_cons, List.length_nil, List.getD_cons_zero, List.getD_cons_succ, (sgn_spec (a.toNat / 4) (by omega)).2, (sgn_spec (a.toNat % 4 * 16 + b.toNat / 16) (by omega)).2, (sgn_spec (b.toNat % 16 * 4) (by omega)).2]
    simp
    exact ⟨ofNat_of (by omega), ofNat_of (by omega)⟩
  | a :: b :: c :: r => by
    have := UInt8.toNat_lt a; have := UInt8.toNat_lt b; have := UInt8.toNat_lt c
    have e : encR (a :: b :: c :: r) = sgn (a.toNat / 4) :: sgn (a.toNat % 4 * 16 + b.toNat / 16) :: sgn (b.toNat % 16 * 4 + c.toNat / 64) :: sgn (c.toNat % 64) :: encR r := by simp [encR, groupF, sixF, six]
    rw [e, decR_four, decR_encR r]
    simp only [fourF, nK, List.length_cons, List.length_nil, List.getD_cons_zero, List.getD_cons_succ, (sgn_spec (a.toNat / 4) (by omega)).2, (sgn_spec (a.toNat % 4 * 16 + b.toNat / 16) (by omega)).2, (sgn_spec (b.toNat % 16 * 4 + c.toNat / 64) (by omega)).2, (sgn_spec (c.toNat % 64) (by omega)).2]
    simp
    exact ⟨ofNat_of (by omega), ofNat_of (by omega), ofNat_of (by omega)⟩

theorem okD_encF (xs : List UInt8) : okD (encF xs) = true ∧ decF (encF xs) = xs := by
  have h1 : okD (encF xs) = true := by unfold okD; rw [encF_R, encR_signs, decR_encR, encF_R]; simp
  refine ⟨h1, ?_⟩
  unfold decF
  rw [if_pos h1, encF_R, decR_encR]

theorem encF_inj {a b : List UInt8} (h : encF a = encF b) : a = b := by rw [← (okD_encF a).2, h, (okD_encF b).2]

theorem encR_length : ∀ xs : List UInt8, ((encR xs).length : Int) = if xs.length % 3 = 0 then ((xs.length / 3 * 4 : Nat) : Int) else ((xs.length / 3 * 4 + xs.length % 3 + 1 : Nat) : Int)
  | [] => rfl
  | [a] => by simp [encR, groupF, sixF, six]
  | [a, b] => by simp [encR, groupF, sixF, six]
  | a :: b :: c :: r => by
    have ih := encR_length r
    have e : (encR (a :: b :: c :: r)).length = (encR r).length + 4 := by simp [encR, groupF, sixF, six]
    rw [e]
    simp only [List.length_cons]
    have h1 : (r.length + 1 + 1 + 1) % 3 = r.length % 3 := by omega
    have h2 : (r.length + 1 + 1 + 1) / 3 = r.length / 3 + 1 := by omega
    rw [h1, h2]
    split at ih <;> rename_i h <;> simp only [h] <;> simp <;> omega

theorem len_f (xs : List UInt8) (h : xs.length ≤ 1000000) : base64_Len.f (xs.length : Int) = some ((encF xs).length : Int) := by
  rw [encF_R, encR_length]
  unfold base64_Len.f
  have t1 : Int.tdiv (xs.length : Int) 3 = ((xs.length / 3 : Nat) : Int) := by rw [show (3 : Int) = ((3 : Nat) : Int) from rfl, ← Int.ofNat_tdiv]
  have t2 : Int.tmod (xs.length : Int) 3 = ((xs.length % 3 : Nat) : Int) := by rw [show (3 : Int) = ((3 : Nat) : Int) from rfl, ← Int.ofNat_tmod]
  rw [t1, t2]
  have hq : xs.length = 3 * (xs.length / 3) + xs.length % 3 := by omega
  have hr : xs.length % 3 < 3 := Nat.mod_lt _ (by decide)
  generalize xs.length / 3 = q at *
  generalize xs.length % 3 = m at *
  rw [wrap64_id (x := (q : Int)) (by omega) (by omega), wrap64_id (x := (q : Int) * 4) (by omega) (by omega), wrap64_id (x := (q : Int) * 4 + 1) (by omega) (by omega), wrap64_id (x := (q : Int) * 4 + 1 + 2) (by omega) (by omega), wrap64_id (x := (q : Int) * 4 + 2) (by omega) (by omega)]
  by_cases h0 : xs.length < 1
  · rw [if_pos (by omega), if_pos (by omega)]; congr 1; omega
  · rw [if_neg (by omega)]
    rcases (show m = 0 ∨ m = 1 ∨ m = 2 by omega) with rfl | rfl | rfl
    · rw [if_neg (by omega), if_neg (by omega), if_pos rfl]; congr 1
    · rw [if_neg (by omega), if_pos (by rfl), if_neg (by omega)]; congr 1
    · rw [if_pos (by rfl), if_neg (by omega)]; congr 1

theorem len_neg (n : Int) (h : ¬ n > 0) : base64_Len.f n = some 0 := by unfold base64_Len.f; rw [if_pos (by omega)]

theorem flat_u8s (l : List (List Int)) : (l.map u8s).flatten = u8s l.flatten := by
  unfold u8s; rw [List.map_flatten]
theorem isB8_flat {l : List (List Int)} (h : l.all isB8 = true) : isB8 l.flatten = true := by
  rw [isB8, List.all_eq_true]
  intro z hz
  obtain ⟨x, hx, hzx⟩ := List.mem_flatten.1 hz
  exact List.all_eq_true.1 (List.all_eq_true.1 h x hx) z hzx

theorem signs_l0 (l : List (List Int)) (a1 : Int) (hb : l.all isB8 = true) (hl : l.length ≤ 20) :
    ∀ d i : Nat, i + d = l.length → (∀ x ∈ l.take i, x.length ≤ 100) → Ev (fun k => turnkeylaw02_Base64Signs.l0 k l a1 (i : Int)) true
  | 0, i, hi, hs => by
    rw [List.take_of_length_le (by omega)] at hs
    have hfl : l.flatten.length ≤ 2000 := by
      have : ∀ m : List (List Int), (∀ x ∈ m, x.length ≤ 100) → m.flatten.length ≤ 100 * m.length := by
        intro m
        induction m with
        | nil => intro _; simp
        | cons x m ih =>
          intro h
          have h1 := h x (by simp)
          have h2 := ih fun y hy => h y (by simp [hy])
          simp only [List.flatten_cons, List.length_append, List.length_cons]; omega
      have := this l hs
      omega
    have hfb := isB8_flat hb
    obtain ⟨xs, hxs⟩ : ∃ xs, xs = u8s l.flatten := ⟨_, rfl⟩
    have hix : l.flatten = i8s xs := by rw [hxs, i8s_u8s hfb]
    have hxl : xs.length ≤ 2000 := by rw [hxs, u8s_length]; exact hfl
    have hE : base64_Encode.f l = some (str (encF xs)) := by
      unfold base64_Encode.f
      rw [flat_u8s, ← hxs, if_pos ⟨hb, by omega, by omega⟩]
    have hD : base64_Decode.f (str (encF xs)) = some (i8s xs, true) := by
      unfold base64_Decode.f
      have : (encF xs).length ≤ 10000 := by
        rw [encF_R]
        have := encR_length xs
        split at this <;> omega
      rw [if_pos (by rw [str_size]; omega), str_data, (okD_encF xs).1, (okD_encF xs).2]
    refine Ev.step (f := fun k => (turnkeyref01_All.f k l).bind fun t166 => (turnkeyref02_Encode.f k t166).bind fun t174 => (if (str (encF xs)).toList = t174.toList then (if (strOfNums (i8s xs)).toList = (strOfNums t166).toList then ((base64_Len.f (t166.length : Int)).bind fun t175 => (if t175 = ((str (encF xs)).size : Int) then (if a1 > 0 then (some true) else ((base64_Len.f a1).bind fun t176 => (some (t176 == 0)))) else (some false))) else (some false)) else (some false))) (fun k => ?_) ?_
    · show turnkeylaw02_Base64Signs.l0 (k + 1) _ _ _ = _
      rw [turnkeylaw02_Base64Signs.l0, if_neg (by omega), hE]
      congr 1
      funext t
      rw [Option.bind_some, hD, Option.bind_some]
      simp only [if_true]
    · refine Ev.bind (refAll l (by omega) (by omega)) ?_
      rw [hix]
      refine Ev.bind (refEncode xs (by omega)) ?_
      rw [if_pos rfl, if_pos rfl, i8s_length, len_f xs (by omega), Option.bind_some, if_pos (by rw [str_size])]
      by_cases ha : a1 > 0
      · rw [if_pos ha]; exact Ev.now _
      · rw [if_neg ha, len_neg a1 ha, Option.bind_some]; exact Ev.now _
  | d + 1, i, hi, hs => by
    have hlt : i < l.length := by omega
    have hr : rd_L2 l (i : Int) = l[i] := by unfold rd_L2; rw [Int.toNat_natCast, List.getD_eq_getElem?_getD, List.getElem?_eq_getElem hlt]; rfl
    have hw : wrap64 ((i : Int) + 1) = ((i + 1 : Nat) : Int) := by rw [wrap64_id (by omega) (by omega)]; omega
    by_cases hx : l[i].length > 100
    · refine Ev.step (f := fun _ => some true) (fun k => ?_) (Ev.now _)
      show turnkeylaw02_Base64Signs.l0 (k + 1) _ _ _ = _
      rw [turnkeylaw02_Base64Signs.l0, if_pos (by omega), if_pos (by omega), hr, if_pos (by omega)]
    · have ih := signs_l0 l a1 hb hl d (i + 1) (by omega) (fun x hx' => by
        rw [List.take_succ_eq_append_getElem hlt, List.mem_append, List.mem_singleton] at hx'
        rcases hx' with h | rfl
        · exact hs x h
        · omega)
      refine Ev.step (fun k => ?_) ih
      show turnkeylaw02_Base64Signs.l0 (k + 1) _ _ _ = _
      rw [turnkeylaw02_Base64Signs.l0, if_pos (by omega), if_pos (by omega), hr, if_neg (by omega), hw]

theorem Base64Signs (l : List (List Int)) (a1 : Int) (hb : l.all isB8 = true) : ∃ k, turnkeylaw02_Base64Signs.f k l a1 = some true := by
  refine Ev.rounds (r := true) ?_
  refine Ev.congr (f := fun k => turnkeylaw02_Base64Signs.j0 k l a1 (decide ((l.length : Int) > 20))) (fun k => by
    unfold turnkeylaw02_Base64Signs.f turnkeylaw02_awake.f
    rw [Option.bind_some, if_pos rfl]) ?_
  by_cases hs : (l.length : Int) > 20
  · refine Ev.step (f := fun _ => some true) (fun k => ?_) (Ev.now _)
    rw [turnkeylaw02_Base64Signs.j0, if_pos (decide_eq_true hs)]
    unfold turnkeylaw02_awake.f
    rw [Option.bind_some]
  · refine Ev.step (fun k => ?_) (signs_l0 l a1 hb (by omega) l.length 0 (by omega) (by simp))
    show turnkeylaw02_Base64Signs.j0 (k + 1) _ _ _ = _
    rw [turnkeylaw02_Base64Signs.j0, if_neg (by simpa using hs)]; rfl
end Go.Proofs.Ytmpkbjkdmbgmhaa.Pure
