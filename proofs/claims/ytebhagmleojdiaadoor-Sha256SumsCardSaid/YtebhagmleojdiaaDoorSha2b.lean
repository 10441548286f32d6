/- The reference's one: the schedule. -/
import Derived.Test.YtebhagmleojdiaaDoorSha2
namespace Go.Proofs.YtebhagmleojdiaaDoor.Pure
open Go.RowKit Go.Proofs.YtebhagmleojdiaaDoor Go.Proofs.YtebhagmleojdiaaDoor.PB Go.Proofs.YtebhagmleojdiaaDoorW.PrintWords Go.Proofs.YtebhagmleojdiaaDoorW.PrintLast Go.Proofs.YtebhagmleojdiaaDoorW.PrintMore

theorem one_l2_step {x0 : List Int} {p : List UInt8} {r : List Int} (t : Nat) (ht : t < 48) (h : Ev (fun k => turnkeyref03_one.l2 k x0 ((sch p (t + 1)).map tn) ((16 + (t + 1) : Nat) : Int)) r) :
    Ev (fun k => turnkeyref03_one.l2 k x0 ((sch p t).map tn) ((16 + t : Nat) : Int)) r := by
  have hl := sch_length p t
  have hL : ((sch p t).map tn).length = 16 + t := by rw [List.length_map, hl]
  have h2 : 2 ≤ 16 + t := by omega
  have h15 : 15 ≤ 16 + t := by omega
  have h7 : 7 ≤ 16 + t := by omega
  have h16 : 16 ≤ 16 + t := by omega
  have hbig : 16 + t ≤ 1000000000 := by omega
  have hbig1 : 16 + t + 1 ≤ 1000000000 := by omega
  have hL' : (((sch p t).map tn).length : Int) = ((16 + t : Nat) : Int) := by rw [hL]
  have hlim : ((sch p t).map tn).length < 1000 := by rw [hL]; omega
  have c0 : ((16 + t : Nat) : Int) < 64 := by omega
  have a1 : (0 : Int) ≤ ((16 + t - 2 : Nat) : Int) := Int.natCast_nonneg _
  have a2 : (0 : Int) ≤ ((16 + t - 15 : Nat) : Int) := Int.natCast_nonneg _
  have a3 : (0 : Int) ≤ ((16 + t - 7 : Nat) : Int) := Int.natCast_nonneg _
  have a4 : (0 : Int) ≤ ((16 + t - 16 : Nat) : Int) := Int.natCast_nonneg _
  have b1 : ((16 + t - 2 : Nat) : Int) < (((sch p t).map tn).length : Int) := by rw [hL']; omega
  have b2 : ((16 + t - 15 : Nat) : Int) < (((sch p t).map tn).length : Int) := by rw [hL']; omega
  have b3 : ((16 + t - 7 : Nat) : Int) < (((sch p t).map tn).length : Int) := by rw [hL']; omega
  have b4 : ((16 + t - 16 : Nat) : Int) < (((sch p t).map tn).length : Int) := by rw [hL']; omega
  have w1 : wrap64 (((16 + t : Nat) : Int) - 2) = ((16 + t - 2 : Nat) : Int) := w_sub (16 + t) 2 h2 hbig
  have w2 : wrap64 (((16 + t : Nat) : Int) - 15) = ((16 + t - 15 : Nat) : Int) := w_sub (16 + t) 15 h15 hbig
  have w3 : wrap64 (((16 + t : Nat) : Int) - 7) = ((16 + t - 7 : Nat) : Int) := w_sub (16 + t) 7 h7 hbig
  have w4 : wrap64 (((16 + t : Nat) : Int) - 16) = ((16 + t - 16 : Nat) : Int) := w_sub (16 + t) 16 h16 hbig
  have w5 : wrap64 (((16 + t : Nat) : Int) + 1) = ((16 + (t + 1) : Nat) : Int) := w_add (16 + t) 1 hbig1
  have g2 := rd_tn (sch p t) ((16 + t - 2 : Nat) : Int) (16 + t - 2) rfl
  have g15 := rd_tn (sch p t) ((16 + t - 15 : Nat) : Int) (16 + t - 15) rfl
  have g7 := rd_tn (sch p t) ((16 + t - 7 : Nat) : Int) (16 + t - 7) rfl
  have g16 := rd_tn (sch p t) ((16 + t - 16 : Nat) : Int) (16 + t - 16) rfl
  have hn : (sch p (t + 1)).map tn = (sch p t).map tn ++ [tn (smallF ((sch p t).getD (16 + t - 2) 0) 17 19 10 + (sch p t).getD (16 + t - 7) 0 + smallF ((sch p t).getD (16 + t - 15) 0) 7 18 3 + (sch p t).getD (16 + t - 16) 0)] := by
    rw [sch, ext, hl, List.map_append]; rfl
  rw [hn] at h
  unfold smallF at h
  generalize (sch p t).getD (16 + t - 2) 0 = X at *
  generalize (sch p t).getD (16 + t - 15) 0 = Y at *
  generalize (sch p t).getD (16 + t - 7) 0 = Z at *
  generalize (sch p t).getD (16 + t - 16) 0 = U at *
  generalize (sch p t).map tn = L at *
  have q1 : turnkeyref03_rotr.f (tn X) 17 = _ := ref_rotr X 17 (by decide) (by decide)
  have q2 : turnkeyref03_rotr.f (tn X) 19 = _ := ref_rotr X 19 (by decide) (by decide)
  have q3 : turnkeyref03_rotr.f (tn Y) 7 = _ := ref_rotr Y 7 (by decide) (by decide)
  have q4 : turnkeyref03_rotr.f (tn Y) 18 = _ := ref_rotr Y 18 (by decide) (by decide)
  have e1 : tn X / (1024 : Int) = tn (X >>> 10) := shrW X 10
  have e2 : tn Y / (8 : Int) = tn (Y >>> 3) := shrW Y 3
  refine Ev.step (fun k => ?_) h
  show turnkeyref03_one.l2 (k + 1) _ _ _ = _
  rw [turnkeyref03_one.l2]
  with_reducible rw [if_pos c0, w1, w2, w3, w4, w5, if_pos a1, if_pos b1, if_pos a2, if_pos b2, g2, g15, g7, g16, q1, Option.bind_some, q2, Option.bind_some, q3, Option.bind_some, q4, Option.bind_some]
  with_reducible rw [if_pos a3, if_pos b3, if_pos a4, if_pos b4, if_pos (Nat.lt_trans hlim (by decide)), xorW, xorW, e1, e2, xorW, xorW, addW, addW, addW]

theorem one_l2 {x0 : List Int} {p : List UInt8} {r : List Int} (h : Ev (fun k => turnkeyref03_one.l2 k x0 ((sch p 48).map tn) ((64 : Nat) : Int)) r) : Ev (fun k => turnkeyref03_one.l2 k x0 ((words0 p).map tn) 16) r := by
  have key : ∀ N, N = 48 → ∀ d t : Nat, t + d = N → Ev (fun k => turnkeyref03_one.l2 k x0 ((sch p t).map tn) ((16 + t : Nat) : Int)) r := by
    intro N hN d
    induction d with
    | zero =>
      intro t e
      obtain rfl : t = N := e
      have : ((16 + t : Nat) : Int) = ((64 : Nat) : Int) := by omega
      rw [this, hN]
      exact h
    | succ d ih => intro t e; exact one_l2_step t (by omega) (ih (t + 1) (by omega))
  exact key 48 rfl 48 0 (by omega)

end Go.Proofs.YtebhagmleojdiaaDoor.Pure
