/- The reference's one: the schedule. -/
import Derived.Test.YtfmfpckpldlahaaDoorSha2
namespace Go.Proofs.YtfmfpckpldlahaaDoor.Pure
open Go.RowKit Go.Proofs.YtfmfpckpldlahaaDoor Go.Proofs.YtfmfpckpldlahaaDoor.PB Go.Proofs.YtfmfpckpldlahaaDoorW.PrintWords Go.Proofs.YtfmfpckpldlahaaDoorW.PrintLast Go.Proofs.YtfmfpckpldlahaaDoorW.PrintMore

theorem one_l2_step {x0 : List Int} {p : List UInt8} {r : List Int} (t : Nat) (ht : t < 64) (h : Ev (fun k => turnkeyref04_one.l2 k x0 ((sch p (t + 1)).map tn) ((16 + (t + 1) : Nat) : Int)) r) :
    Ev (fun k => turnkeyref04_one.l2 k x0 ((sch p t).map tn) ((16 + t : Nat) : Int)) r := by
  have hl := sch_length p t
  have hL : ((sch p t).map tn).length = 16 + t := by rw [List.length_map, hl]
  have h2 : 2 ≤ 16 + t := by omega
  have h15 : 15 ≤ 16 + t := by omega
  have h7 : 7 ≤ 16 + t := by omega
  have h16 : 16 ≤ 16 + t := by omega
  have hbig : 16 + t ≤ 1000000000 := by omega
  have hbig1 : 16 + t + 1 ≤ 1000000000 := by omega
  have hL' : (((sch p t).map tn).length : Int) = ((16 + t : Nat) : Int) := by rw [hL]
  have hlim : ((sch p t).map tn).length < 1000 := by rw [hL]; omega
  have c0 : ((16 + t : Nat) : Int) < 80 := by omega
  have a1 : (0 : Int) ≤ ((16 + t - 2 : Nat) : Int) := Int.natCast_nonneg _
  have a2 : (0 : Int) ≤ ((16 + t - 15 : Nat) : Int) := Int.natCast_nonneg _
  have a3 : (0 : Int) ≤ ((16 + t - 7 : Nat) : Int) := Int.natCast_nonneg _
  have a4 : (0 : Int) ≤ ((16 + t - 16 : Nat) : Int) := Int.natCast_nonneg _
  have b1 : ((16 + t - 2 : Nat) : Int) < (((sch p t).map tn).length : Int) := by rw [hL']; omega
  have b2 : ((16 + t - 15 : Nat) : Int) < (((sch p t).map tn).length : Int) := by rw [hL']; omega
  have b3 : ((16 + t - 7 : Nat) : Int) < (((sch p t).map tn).length : Int) := by rw [hL']; omega
  have b4 : ((16 + t - 16 : Nat) : Int) < (((sch p t).map tn).length : Int) := by rw [hL']; omega
  have w1 : wrap64 (((16 + t : Nat) : Int) - 2) = ((16 + t - 2 : Nat) : Int) := w_sub (16 + t) 2 h2 hbig
  have w2 : wrap64 (((16 + t : Nat) : Int) - 15) = ((16 + t - 15 : Nat) : Int) := w_sub (16 + t) 15 h15 hbig
  have w3 : wrap64 (((16 + t : Nat) : Int) - 7) = ((16 + t - 7 : Nat) : Int) := w_sub (16 + t) 7 h7 hbig
  have w4 : wrap64 (((16 + t : Nat) : Int) - 16) = ((16 + t - 16 : Nat) : Int) := w_sub (16 + t) 16 h16 hbig
  have w5 : wrap64 (((16 + t : Nat) : Int) + 1) = ((16 + (t + 1) : Nat) : Int) := w_add (16 + t) 1 hbig1
  have g2 := rd_tn (sch p t) ((16 + t - 2 : Nat) : Int) (16 + t - 2) rfl
  have g15 := rd_tn (sch p t) ((16 + t - 15 : Nat) : Int) (16 + t - 15) rfl
  have g7 := rd_tn (sch p t) ((16 + t - 7 : Nat) : Int) (16 + t - 7) rfl
  have g16 := rd_tn (sch p t) ((16 + t - 16 : Nat) : Int) (16 + t - 16) rfl
  have hn : (sch p (t + 1)).map tn = (sch p t).map tn ++ [tn (smallF ((sch p t).getD (16 + t - 2) 0) 19 61 6 + (sch p t).getD (16 + t - 7) 0 + smallF ((sch p t).getD (16 + t - 15) 0) 1 8 7 + (sch p t).getD (16 + t - 16) 0)] := by
    rw [sch, ext, hl, List.map_append]; rfl
  rw [hn] at h
  unfold smallF at h
  generalize (sch p t).getD (16 + t - 2) 0 = X at *
  generalize (sch p t).getD (16 + t - 15) 0 = Y at *
  generalize (sch p t).getD (16 + t - 7) 0 = Z at *
  generalize (sch p t).getD (16 + t - 16) 0 = U at *
  generalize (sch p t).map tn = L at *
  have q1 : turnkeyref04_rotr.f (tn X) 19 = _ := ref_rotr X 19 (by decide) (by decide)
  have q2 : turnkeyref04_rotr.f (tn X) 61 = _ := ref_rotr X 61 (by decide) (by decide)
  have q3 : turnkeyref04_rotr.f (tn Y) 1 = _ := ref_rotr Y 1 (by decide) (by decide)
  have q4 : turnkeyref04_rotr.f (tn Y) 8 = _ := ref_rotr Y 8 (by decide) (by decide)
  have e1 : tn X / (64 : Int) = tn (X >>> 6) := shrW X 6
  have e2 : tn Y / (128 : Int) = tn (Y >>> 7) := shrW Y 7
  refine Ev.step (fun k => ?_) h
  show turnkeyref04_one.l2 (k + 1) _ _ _ = _
  rw [turnkeyref04_one.l2]
  with_reducible rw [if_pos c0, w1, w2, w3, w4, w5, if_pos a1, if_pos b1, if_pos a2, if_pos b2, g2, g15, g7, g16, q1, Option.bind_some, q2, Option.bind_some, q3, Option.bind_some, q4, Option.bind_some]
  with_reducible rw [if_pos a3, if_pos b3, if_pos a4, if_pos b4, if_pos (Nat.lt_trans hlim (by decide)), xorW, xorW, e1, e2, xorW, xorW, addW, addW, addW]

theorem one_l2 {x0 : List Int} {p : List UInt8} {r : List Int} (h : Ev (fun k => turnkeyref04_one.l2 k x0 ((sch p 64).map tn) ((80 : Nat) : Int)) r) : Ev (fun k => turnkeyref04_one.l2 k x0 ((words0 p).map tn) 16) r := by
  have key : ∀ N, N = 64 → ∀ d t : Nat, t + d = N → Ev (fun k => turnkeyref04_one.l2 k x0 ((sch p t).map tn) ((16 + t : Nat) : Int)) r := by
    intro N hN d
    induction d with
    | zero =>
      intro t e
      obtain rfl : t = N := e
      have : ((16 + t : Nat) : Int) = ((80 : Nat) : Int) := by omega
      rw [this, hN]
      exact h
    | succ d ih => intro t e; exact one_l2_step t (by omega) (ih (t + 1) (by omega))
  exact key 64 rfl 64 0 (by omega)

end Go.Proofs.YtfmfpckpldlahaaDoor.Pure
