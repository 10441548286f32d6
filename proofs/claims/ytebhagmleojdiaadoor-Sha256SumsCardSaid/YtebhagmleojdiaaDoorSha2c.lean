/- The reference's one: the rounds, and the whole. -/
import Derived.Test.YtebhagmleojdiaaDoorSha2b
namespace Go.Proofs.YtebhagmleojdiaaDoor.Pure
open Go.RowKit Go.Proofs.YtebhagmleojdiaaDoor Go.Proofs.YtebhagmleojdiaaDoor.PB Go.Proofs.YtebhagmleojdiaaDoorW.PrintWords Go.Proofs.YtebhagmleojdiaaDoorW.PrintLast Go.Proofs.YtebhagmleojdiaaDoorW.PrintMore

/-! ### the rounds -/
theorem one_l3_step {x0 : List Int} {ws : List W} (hw : ws.length = 64) {t : Nat} (ht : t < 64) (s : S8) {r : List Int}
    (h : Ev (fun k => turnkeyref03_one.l3 k x0 (ws.map tn) (tn (rnd s (ks.getD t 0) (ws.getD t 0)).a) (tn (rnd s (ks.getD t 0) (ws.getD t 0)).b) (tn (rnd s (ks.getD t 0) (ws.getD t 0)).c) (tn (rnd s (ks.getD t 0) (ws.getD t 0)).d) (tn (rnd s (ks.getD t 0) (ws.getD t 0)).e) (tn (rnd s (ks.getD t 0) (ws.getD t 0)).f) (tn (rnd s (ks.getD t 0) (ws.getD t 0)).g) (tn (rnd s (ks.getD t 0) (ws.getD t 0)).h) (ks.map tn) ((t + 1 : Nat) : Int)) r) :
    Ev (fun k => turnkeyref03_one.l3 k x0 (ws.map tn) (tn s.a) (tn s.b) (tn s.c) (tn s.d) (tn s.e) (tn s.f) (tn s.g) (tn s.h) (ks.map tn) (t : Int)) r := by
  have w5 : wrap64 ((t : Int) + 1) = ((t + 1 : Nat) : Int) := w_add t 1 (by omega)
  have hk : ((ks.map tn).length : Int) = 64 := rfl
  have hw' : ((ws.map tn).length : Int) = 64 := by rw [List.length_map, hw]; rfl
  have c0 : (t : Int) < 64 := by omega
  have c1 : (0 : Int) ≤ (t : Int) := Int.natCast_nonneg _
  have c2 : (t : Int) < ((ks.map tn).length : Int) := by rw [hk]; exact c0
  have c3 : (t : Int) < ((ws.map tn).length : Int) := by rw [hw']; exact c0
  have g1 := rd_tn ks (t : Int) t rfl
  have g2 := rd_tn ws (t : Int) t rfl
  obtain ⟨a, b, c, d, e, f, g, hh⟩ := s
  have r1 : turnkeyref03_rotr.f (tn e) 6 = _ := ref_rotr e 6 (by decide) (by decide)
  have r2 : turnkeyref03_rotr.f (tn e) 11 = _ := ref_rotr e 11 (by decide) (by decide)
  have r3 : turnkeyref03_rotr.f (tn e) 25 = _ := ref_rotr e 25 (by decide) (by decide)
  have r4 : turnkeyref03_rotr.f (tn a) 2 = _ := ref_rotr a 2 (by decide) (by decide)
  have r5 : turnkeyref03_rotr.f (tn a) 13 = _ := ref_rotr a 13 (by decide) (by decide)
  have r6 : turnkeyref03_rotr.f (tn a) 22 = _ := ref_rotr a 22 (by decide) (by decide)
  generalize ks.getD t 0 = K at *
  generalize ws.getD t 0 = X at *
  generalize ks.map tn = KL at *
  generalize ws.map tn = WL at *
  simp only [rnd, greatF] at h
  refine Ev.step (fun k => ?_) h
  show turnkeyref03_one.l3 (k + 1) _ _ (tn a) (tn b) (tn c) (tn d) (tn e) (tn f) (tn g) (tn hh) _ _ = _
  rw [turnkeyref03_one.l3]
  with_reducible rw [if_pos c0, r1, Option.bind_some, r2, Option.bind_some, r3, Option.bind_some, if_pos c1, if_pos c2, if_pos c3, r4, Option.bind_some, r5, Option.bind_some, r6, Option.bind_some, g1, g2, w5]
  simp only [xorW, andW, notW, addW]

theorem one_l3 {x0 : List Int} {ws : List W} (hw : ws.length = 64) (s : S8) {r : List Int}
    (h : Ev (fun k => turnkeyref03_one.l3 k x0 (ws.map tn) (tn (rnds s ws 64).a) (tn (rnds s ws 64).b) (tn (rnds s ws 64).c) (tn (rnds s ws 64).d) (tn (rnds s ws 64).e) (tn (rnds s ws 64).f) (tn (rnds s ws 64).g) (tn (rnds s ws 64).h) (ks.map tn) ((64 : Nat) : Int)) r) (N : Nat) (hN : N = 64) :
    ∀ d t : Nat, t + d = N → Ev (fun k => turnkeyref03_one.l3 k x0 (ws.map tn) (tn (rnds s ws t).a) (tn (rnds s ws t).b) (tn (rnds s ws t).c) (tn (rnds s ws t).d) (tn (rnds s ws t).e) (tn (rnds s ws t).f) (tn (rnds s ws t).g) (tn (rnds s ws t).h) (ks.map tn) (t : Int)) r := by
  rw [← hN] at h
  intro d
  induction d with
  | zero =>
    intro t e
    obtain rfl : t = N := e
    exact h
  | succ d ih =>
    intro t e
    exact one_l3_step hw (by omega) _ (ih (t + 1) (by omega))

theorem refK : turnkeyref03_k.f = some (ks.map tn) := by decide +kernel
theorem iv_ints : iv.map tn = ([1779033703, 3144134277, 1013904242, 2773480762, 1359893119, 2600822924, 528734635, 1541459225] : List Int) := by decide +kernel

theorem refOne (h : List W) (p : List UInt8) (hh : h.length = 8) (hp : p.length = 64) : Ev (fun k => turnkeyref03_one.f k (h.map tn) (i8s p)) ((oneF h p).map tn) := by
  have hl : (h.map tn).length = 8 := by rw [List.length_map, hh]
  have up : ∀ (z : Int) (α : Type) (x y : α), z < 8 → (if z < ((h.map tn).length : Int) then x else y) = x := fun z α x y hz => if_pos (by rw [hl]; exact hz)
  have hi0 : ∀ x y : Option (List Int), (if (0 : Int) < ((h.map tn).length : Int) then x else y) = x := fun x y => up 0 _ x y (by decide)
  have hi1 : ∀ x y : Option (List Int), (if (1 : Int) < ((h.map tn).length : Int) then x else y) = x := fun x y => up 1 _ x y (by decide)
  have hi2 : ∀ x y : Option (List Int), (if (2 : Int) < ((h.map tn).length : Int) then x else y) = x := fun x y => up 2 _ x y (by decide)
  have hi3 : ∀ x y : Option (List Int), (if (3 : Int) < ((h.map tn).length : Int) then x else y) = x := fun x y => up 3 _ x y (by decide)
  have hi4 : ∀ x y : Option (List Int), (if (4 : Int) < ((h.map tn).length : Int) then x else y) = x := fun x y => up 4 _ x y (by decide)
  have hi5 : ∀ x y : Option (List Int), (if (5 : Int) < ((h.map tn).length : Int) then x else y) = x := fun x y => up 5 _ x y (by decide)
  have hi6 : ∀ x y : Option (List Int), (if (6 : Int) < ((h.map tn).length : Int) then x else y) = x := fun x y => up 6 _ x y (by decide)
  have hi7 : ∀ x y : Option (List Int), (if (7 : Int) < ((h.map tn).length : Int) then x else y) = x := fun x y => up 7 _ x y (by decide)
  have g0 := rd_tn h 0 0 rfl
  have g1 := rd_tn h 1 1 rfl
  have g2 := rd_tn h 2 2 rfl
  have g3 := rd_tn h 3 3 rfl
  have g4 := rd_tn h 4 4 rfl
  have g5 := rd_tn h 5 5 rfl
  have g6 := rd_tn h 6 6 rfl
  have g7 := rd_tn h 7 7 rfl
  refine one_l0 hp ?_
  refine one_l2 ?_
  have hs : (sch p 48).length = 64 := by rw [sch_length]
  refine Ev.step (f := fun k => turnkeyref03_one.l3 k (h.map tn) ((sch p 48).map tn) (tn (rnds (s8 h) (sch p 48) 0).a) (tn (rnds (s8 h) (sch p 48) 0).b) (tn (rnds (s8 h) (sch p 48) 0).c) (tn (rnds (s8 h) (sch p 48) 0).d) (tn (rnds (s8 h) (sch p 48) 0).e) (tn (rnds (s8 h) (sch p 48) 0).f) (tn (rnds (s8 h) (sch p 48) 0).g) (tn (rnds (s8 h) (sch p 48) 0).h) (ks.map tn) ((0 : Nat) : Int)) (fun k => ?_) ?_
  · show turnkeyref03_one.l2 (k + 1) _ _ _ = _
    rw [turnkeyref03_one.l2]
    with_reducible rw [if_neg (show ¬ (((64 : Nat) : Int) < 64) by decide), hi0, hi1, hi2, hi3, hi4, hi5, hi6, hi7, refK, Option.bind_some, g0, g1, g2, g3, g4, g5, g6, g7]
    rfl
  · refine one_l3 hs (s8 h) ?_ 64 rfl 64 0 rfl
    refine Ev.step (f := fun _ => some ((oneF h p).map tn)) (fun k => ?_) (Ev.now _)
    show turnkeyref03_one.l3 (k + 1) _ _ _ _ _ _ _ _ _ _ _ _ = _
    rw [turnkeyref03_one.l3]
    with_reducible rw [if_neg (show ¬ (((64 : Nat) : Int) < 64) by decide), hi0, hi1, hi2, hi3, hi4, hi5, hi6, hi7, g0, g1, g2, g3, g4, g5, g6, g7]
    simp only [addW]
    rfl
end Go.Proofs.YtebhagmleojdiaaDoor.Pure
