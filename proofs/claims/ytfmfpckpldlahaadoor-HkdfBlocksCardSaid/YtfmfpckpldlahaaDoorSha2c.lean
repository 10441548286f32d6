/- The reference's one: the rounds, and the whole. -/
import Derived.Test.YtfmfpckpldlahaaDoorSha2b
namespace Go.Proofs.YtfmfpckpldlahaaDoor.Pure
open Go.RowKit Go.Proofs.YtfmfpckpldlahaaDoor Go.Proofs.YtfmfpckpldlahaaDoor.PB Go.Proofs.YtfmfpckpldlahaaDoorW.PrintWords Go.Proofs.YtfmfpckpldlahaaDoorW.PrintLast Go.Proofs.YtfmfpckpldlahaaDoorW.PrintMore

/-! ### the rounds -/
theorem one_l3_step {x0 : List Int} {ws : List W} (hw : ws.length = 80) {t : Nat} (ht : t < 80) (s : S8) {r : List Int}
    (h : Ev (fun k => turnkeyref04_one.l3 k x0 (ws.map tn) (tn (rnd s (ks.getD t 0) (ws.getD t 0)).a) (tn (rnd s (ks.getD t 0) (ws.getD t 0)).b) (tn (rnd s (ks.getD t 0) (ws.getD t 0)).c) (tn (rnd s (ks.getD t 0) (ws.getD t 0)).d) (tn (rnd s (ks.getD t 0) (ws.getD t 0)).e) (tn (rnd s (ks.getD t 0) (ws.getD t 0)).f) (tn (rnd s (ks.getD t 0) (ws.getD t 0)).g) (tn (rnd s (ks.getD t 0) (ws.getD t 0)).h) (ks.map tn) ((t + 1 : Nat) : Int)) r) :
    Ev (fun k => turnkeyref04_one.l3 k x0 (ws.map tn) (tn s.a) (tn s.b) (tn s.c) (tn s.d) (tn s.e) (tn s.f) (tn s.g) (tn s.h) (ks.map tn) (t : Int)) r := by
  have w5 : wrap64 ((t : Int) + 1) = ((t + 1 : Nat) : Int) := w_add t 1 (by omega)
  have hk : ((ks.map tn).length : Int) = 80 := rfl
  have hw' : ((ws.map tn).length : Int) = 80 := by rw [List.length_map, hw]; rfl
  have c0 : (t : Int) < 80 := by omega
  have c1 : (0 : Int) ≤ (t : Int) := Int.natCast_nonneg _
  have c2 : (t : Int) < ((ks.map tn).length : Int) := by rw [hk]; exact c0
  have c3 : (t : Int) < ((ws.map tn).length : Int) := by rw [hw']; exact c0
  have g1 := rd_tn ks (t : Int) t rfl
  have g2 := rd_tn ws (t : Int) t rfl
  obtain ⟨a, b, c, d, e, f, g, hh⟩ := s
  have r1 : turnkeyref04_rotr.f (tn e) 14 = _ := ref_rotr e 14 (by decide) (by decide)
  have r2 : turnkeyref04_rotr.f (tn e) 18 = _ := ref_rotr e 18 (by decide) (by decide)
  have r3 : turnkeyref04_rotr.f (tn e) 41 = _ := ref_rotr e 41 (by decide) (by decide)
  have r4 : turnkeyref04_rotr.f (tn a) 28 = _ := ref_rotr a 28 (by decide) (by decide)
  have r5 : turnkeyref04_rotr.f (tn a) 34 = _ := ref_rotr a 34 (by decide) (by decide)
  have r6 : turnkeyref04_rotr.f (tn a) 39 = _ := ref_rotr a 39 (by decide) (by decide)
  generalize ks.getD t 0 = K at *
  generalize ws.getD t 0 = X at *
  generalize ks.map tn = KL at *
  generalize ws.map tn = WL at *
  simp only [rnd, greatF] at h
  refine Ev.step (fun k => ?_) h
  show turnkeyref04_one.l3 (k + 1) _ _ (tn a) (tn b) (tn c) (tn d) (tn e) (tn f) (tn g) (tn hh) _ _ = _
  rw [turnkeyref04_one.l3]
  with_reducible rw [if_pos c0, r1, Option.bind_some, r2, Option.bind_some, r3, Option.bind_some, if_pos c1, if_pos c2, if_pos c3, r4, Option.bind_some, r5, Option.bind_some, r6, Option.bind_some, g1, g2, w5]
  simp only [xorW, andW, notW, addW]

theorem one_l3 {x0 : List Int} {ws : List W} (hw : ws.length = 80) (s : S8) {r : List Int}
    (h : Ev (fun k => turnkeyref04_one.l3 k x0 (ws.map tn) (tn (rnds s ws 80).a) (tn (rnds s ws 80).b) (tn (rnds s ws 80).c) (tn (rnds s ws 80).d) (tn (rnds s ws 80).e) (tn (rnds s ws 80).f) (tn (rnds s ws 80).g) (tn (rnds s ws 80).h) (ks.map tn) ((80 : Nat) : Int)) r) (N : Nat) (hN : N = 80) :
    ∀ d t : Nat, t + d = N → Ev (fun k => turnkeyref04_one.l3 k x0 (ws.map tn) (tn (rnds s ws t).a) (tn (rnds s ws t).b) (tn (rnds s ws t).c) (tn (rnds s ws t).d) (tn (rnds s ws t).e) (tn (rnds s ws t).f) (tn (rnds s ws t).g) (tn (rnds s ws t).h) (ks.map tn) (t : Int)) r := by
  rw [← hN] at h
  intro d
  induction d with
  | zero =>
    intro t e
    obtain rfl : t = N := e
    exact h
  | succ d ih =>
    intro t e
    exact one_l3_step hw (by omega) _ (ih (t + 1) (by omega))

theorem refK : turnkeyref04_k.f = some (ks.map tn) := by decide +kernel
theorem iv_ints : iv.map tn = ([7640891576956012808, 13503953896175478587, 4354685564936845355, 11912009170470909681, 5840696475078001361, 11170449401992604703, 2270897969802886507, 6620516959819538809] : List Int) := by decide +kernel

theorem refOne (h : List W) (p : List UInt8) (hh : h.length = 8) (hp : p.length = 128) : Ev (fun k => turnkeyref04_one.f k (h.map tn) (i8s p)) ((oneF h p).map tn) := by
  have hl : (h.map tn).length = 8 := by rw [List.length_map, hh]
  have up : ∀ (z : Int) (α : Type) (x y : α), z < 8 → (if z < ((h.map tn).length : Int) then x else y) = x := fun z α x y hz => if_pos (by rw [hl]; exact hz)
  have hi0 : ∀ x y : Option (List Int), (if (0 : Int) < ((h.map tn).length : Int) then x else y) = x := fun x y => up 0 _ x y (by decide)
  have hi1 : ∀ x y : Option (List Int), (if (1 : Int) < ((h.map tn).length : Int) then x else y) = x := fun x y => up 1 _ x y (by decide)
  have hi2 : ∀ x y : Option (List Int), (if (2 : Int) < ((h.map tn).length : Int) then x else y) = x := fun x y => up 2 _ x y (by decide)
  have hi3 : ∀ x y : Option (List Int), (if (3 : Int) < ((h.map tn).length : Int) then x else y) = x := fun x y => up 3 _ x y (by decide)
  have hi4 : ∀ x y : Option (List Int), (if (4 : Int) < ((h.map tn).length : Int) then x else y) = x := fun x y => up 4 _ x y (by decide)
  have hi5 : ∀ x y : Option (List Int), (if (5 : Int) < ((h.map tn).length : Int) then x else y) = x := fun x y => up 5 _ x y (by decide)
  have hi6 : ∀ x y : Option (List Int), (if (6 : Int) < ((h.map tn).length : Int) then x else y) = x := fun x y => up 6 _ x y (by decide)
  have hi7 : ∀ x y : Option (List Int), (if (7 : Int) < ((h.map tn).length : Int) then x else y) = x := fun x y => up 7 _ x y (by decide)
  have g0 := rd_tn h 0 0 rfl
  have g1 := rd_tn h 1 1 rfl
  have g2 := rd_tn h 2 2 rfl
  have g3 := rd_tn h 3 3 rfl
  have g4 := rd_tn h 4 4 rfl
  have g5 := rd_tn h 5 5 rfl
  have g6 := rd_tn h 6 6 rfl
  have g7 := rd_tn h 7 7 rfl
  refine one_l0 hp ?_
  refine one_l2 ?_
  have hs : (sch p 64).length = 80 := by rw [sch_length]
  refine Ev.step (f := fun k => turnkeyref04_one.l3 k (h.map tn) ((sch p 64).map tn) (tn (rnds (s8 h) (sch p 64) 0).a) (tn (rnds (s8 h) (sch p 64) 0).b) (tn (rnds (s8 h) (sch p 64) 0).c) (tn (rnds (s8 h) (sch p 64) 0).d) (tn (rnds (s8 h) (sch p 64) 0).e) (tn (rnds (s8 h) (sch p 64) 0).f) (tn (rnds (s8 h) (sch p 64) 0).g) (tn (rnds (s8 h) (sch p 64) 0).h) (ks.map tn) ((0 : Nat) : Int)) (fun k => ?_) ?_
  · show turnkeyref04_one.l2 (k + 1) _ _ _ = _
    rw [turnkeyref04_one.l2]
    with_reducible rw [if_neg (show ¬ (((80 : Nat) : Int) < 80) by decide), hi0, hi1, hi2, hi3, hi4, hi5, hi6, hi7, refK, Option.bind_some, g0, g1, g2, g3, g4, g5, g6, g7]
    rfl
  · refine one_l3 hs (s8 h) ?_ 80 rfl 80 0 rfl
    refine Ev.step (f := fun _ => some ((oneF h p).map tn)) (fun k => ?_) (Ev.now _)
    show turnkeyref04_one.l3 (k + 1) _ _ _ _ _ _ _ _ _ _ _ _ = _
    rw [turnkeyref04_one.l3]
    with_reducible rw [if_neg (show ¬ (((80 : Nat) : Int) < 80) by decide), hi0, hi1, hi2, hi3, hi4, hi5, hi6, hi7, g0, g1, g2, g3, g4, g5, g6, g7]
    simp only [addW]
    rfl
end Go.Proofs.YtfmfpckpldlahaaDoor.Pure
