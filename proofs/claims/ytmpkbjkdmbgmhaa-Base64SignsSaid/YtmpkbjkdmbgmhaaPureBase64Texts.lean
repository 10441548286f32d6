/- The pure part of Base64Texts: the printed function answers true, whatever the text. -/
import Derived.Test.YtmpkbjkdmbgmhaaP02b
namespace Go.Proofs.Ytmpkbjkdmbgmhaa.Pure
open Go.RowKit Go.Proofs.Ytmpkbjkdmbgmhaa Go.Proofs.Ytmpkbjkdmbgmhaa.PB Go.Proofs.YtmpkbjkdmbgmhaaW.PrintWords Go.Proofs.YtmpkbjkdmbgmhaaW.PrintLast

theorem strOfNums_i8s (xs : List UInt8) : strOfNums (i8s xs) = str xs := by
  apply ByteArray.ext
  unfold strOfNums i8s str
  simp [List.map_map, Function.comp_def]

theorem enc1 (xs : List UInt8) (h : xs.length ≤ 100000) : base64_Encode.f [i8s xs] = some (str (encF xs)) := by
  unfold base64_Encode.f
  have e : ([i8s xs].map u8s).flatten = xs := by simp [u8s_i8s]
  rw [e, if_pos ⟨by simp [isB8_i8s], by omega, by simp⟩]

theorem Base64Texts : turnkeylaw02_Base64Texts.Pure := by
  intro a0 _
  obtain ⟨s, rfl⟩ : ∃ s, a0 = str s := ⟨a0.data.toList, (str_of a0).symm⟩
  refine Ev.rounds (r := true) ?_
  refine Ev.congr (f := fun k => turnkeylaw02_Base64Texts.j0 k (str s) (decide (((str s).size : Int) > 300))) (fun k => by
    unfold turnkeylaw02_Base64Texts.f turnkeylaw02_awake.f
    rw [Option.bind_some, if_pos rfl]) ?_
  by_cases hs : ((str s).size : Int) > 300
  · refine Ev.step (f := fun _ => some true) (fun k => ?_) (Ev.now _)
    rw [turnkeylaw02_Base64Texts.j0, if_pos (decide_eq_true hs)]
    unfold turnkeylaw02_awake.f
    rw [Option.bind_some]
  · have hl : s.length ≤ 300 := by rw [str_size] at hs; omega
    refine Ev.step (f := fun k => (turnkeyref02_Decode.f k (str s)).bind fun bt149 => (if (strOfNums (i8s (decF s))).toList = (strOfNums bt149.1).toList then (if (okD s == bt149.2) = true then (if okD s = true then ((base64_Encode.f (([i8s (decF s)] : List (List Int)))).bind fun t156 => (some (t156.toList == (str s).toList))) else (some true)) else (some false)) else (some false))) (fun k => ?_) ?_
    · have hd : base64_Decode.f (str s) = some (i8s (decF s), okD s) := by
        unfold base64_Decode.f
        rw [if_pos (by rw [str_size]; omega), str_data]
      rw [turnkeylaw02_Base64Texts.j0, if_neg (by simpa using hs), hd, Option.bind_some]
    · refine Ev.bind (refDecode s (by omega)) ?_
      rw [if_pos rfl, if_pos (by simp)]
      by_cases ho : okD s = true
      · have hF : decF s = decR s := by unfold decF; rw [if_pos ho]
        have hE : encF (decR s) = s := by
          unfold okD at ho
          rw [Bool.and_eq_true] at ho
          exact beq_iff_eq.1 ho.2
        have hlen := decR_length s (by omega)
        rw [if_pos ho, hF, enc1 _ (by omega), Option.bind_some, hE]
        simp only [beq_self_eq_true]
        exact Ev.now _
      · rw [if_neg ho]
        exact Ev.now _
end Go.Proofs.Ytmpkbjkdmbgmhaa.Pure
