/- The reference's Keys: what its printed form answers, and its contract. -/
import Derived.Test.YtaacnbponodagaaPBx
import Derived.Test.YtaacnbponodagaaKd
import Derived.Test.YtaacnbponodagaaAesK
import Derived.Test.YtaacnbponodagaaAesH
import Derived.Lib.SmallJoins
namespace Go.Proofs.Ytaacnbponodagaa
open Go.RowKit Go.Proofs.Ytaacnbponodagaa.PB Go.Proofs.YtaacnbponodagaaW.PrintWords

theorem w64 {x : Int} (h0 : 0 ≤ x) (h1 : x ≤ 9223372036854775807) : wrap64 x = x := by unfold wrap64; omega
theorem rd_i8s {X : List UInt8} {j : Int} {n : Nat} (hj : j = (n : Int)) : rd (i8s X) j = ((X.getD n 0).toNat : Int) := by
  subst hj
  unfold rd i8s
  rw [Int.toNat_natCast, List.getD_eq_getElem?_getD, List.getElem?_map, List.getD_eq_getElem?_getD]
  cases X[n]? <;> rfl
theorem i8s_app (X : List UInt8) (u : UInt8) : i8s X ++ [(u.toNat : Int)] = i8s (X ++ [u]) := by unfold i8s; rw [List.map_append]; rfl
theorem i8s_lenI (X : List UInt8) : ((i8s X).length : Int) = (X.length : Int) := by rw [i8s_length]
theorem f_rtimesB (a : UInt8) : PB.turnkeyref07_times.f 10 2 (a.toNat : Int) = some ((gm 2 a).toNat : Int) := by
  have h : ∀ a : Fin 256, PB.turnkeyref07_times.f 10 2 ((UInt8.ofNat a.1).toNat : Int) = some ((gm 2 (UInt8.ofNat a.1)).toNat : Int) := by decide +kernel
  have := h ⟨a.toNat, a.toNat_lt⟩
  simpa using this
theorem gm2 (a : UInt8) : gm 2 a = xt a := u8_all (p := fun a => gm 2 a = xt a) (by decide +kernel) a
theorem f_rtB (k : Nat) (a : UInt8) : PB.turnkeyref07_times.f (10 + k) 2 (a.toNat : Int) = some ((xt a).toNat : Int) := by
  have h := at_rounds (g := fun k => PB.turnkeyref07_times.f k 2 (a.toNat : Int)) (fun k => PB.turnkeyref07_times.mono _ _ k) (show 10 ≤ 10 + k by omega) (f_rtimesB a)
  rw [gm2] at h
  exact h
theorem l2_step (k : Nat) (X t : List UInt8) (p : Int) (i n : Nat) (hi : i < 60) (h8 : 8 ≤ i) (hn : n < 4) (hX : X.length = 4 * i + n) (ht : t.length = 4) :
    turnkeyref07_Keys.l2 (k + 1) (i8s X) p (i : Int) (i8s t) (n : Int) = turnkeyref07_Keys.l2 k (i8s (X ++ [X.getD (4 * i - 32 + n) 0 ^^^ t.getD n 0])) p (i : Int) (i8s t) ((n + 1 : Nat) : Int) := by
  have e1 : wrap64 (4 * (i : Int)) = 4 * (i : Int) := w64 (by omega) (by omega)
  have e2 : wrap64 (4 * (i : Int) - 32) = 4 * (i : Int) - 32 := w64 (by omega) (by omega)
  have e3 : wrap64 (4 * (i : Int) - 32 + (n : Int)) = 4 * (i : Int) - 32 + (n : Int) := w64 (by omega) (by omega)
  have e4 : wrap64 ((n : Int) + 1) = ((n + 1 : Nat) : Int) := by rw [w64 (by omega) (by omega)]; omega
  have e5 : 4 * (i : Int) - 32 + (n : Int) = ((4 * i - 32 + n : Nat) : Int) := by omega
  rw [turnkeyref07_Keys.l2]
  rw [e1, e2, e3, e4, i8s_lenI, i8s_lenI, i8s_length, if_pos (by omega), if_pos (by omega), if_pos (by omega), if_pos (by omega), if_pos (by omega), if_pos (by omega), rd_i8s e5, rd_i8s (n := n) rfl, xor64, i8s_app]
theorem ex4 {t : List UInt8} (h : t.length = 4) : t = [t.getD 0 0, t.getD 1 0, t.getD 2 0, t.getD 3 0] := by
  match t, h with
  | [a, b, c, d], _ => rfl
theorem getD_app {X Y : List UInt8} {j : Nat} (h : j < X.length) : (X ++ Y).getD j 0 = X.getD j 0 := by
  rw [List.getD_eq_getElem?_getD, List.getD_eq_getElem?_getD, List.getElem?_append_left h]
theorem l2_all (k : Nat) (X t : List UInt8) (p : Int) (i : Nat) (hi : i < 60) (h8 : 8 ≤ i) (hX : X.length = 4 * i) (ht : t.length = 4) :
    turnkeyref07_Keys.l2 (k + 5) (i8s X) p (i : Int) (i8s t) 0 = turnkeyref07_Keys.l1 k (i8s (X ++ xorF (wd X (i - 8)) t)) p ((i + 1 : Nat) : Int) := by
  have s0 := l2_step (k + 4) X t p i 0 hi h8 (by omega) (by omega) ht
  have s1 := l2_step (k + 3) (X ++ [X.getD (4 * i - 32 + 0) 0 ^^^ t.getD 0 0]) t p i 1 hi h8 (by omega) (by rw [List.length_append]; simp; omega) ht
  rw [getD_app (by omega), List.append_assoc] at s1
  have s2 := l2_step (k + 2) (X ++ ([X.getD (4 * i - 32 + 0) 0 ^^^ t.getD 0 0] ++ [X.getD (4 * i - 32 + 1) 0 ^^^ t.getD 1 0])) t p i 2 hi h8 (by omega) (by rw [List.length_append]; simp; omega) ht
  rw [getD_app (by omega), List.append_assoc] at s2
  have s3 := l2_step (k + 1) (X ++ (([X.getD (4 * i - 32 + 0) 0 ^^^ t.getD 0 0] ++ [X.getD (4 * i - 32 + 1) 0 ^^^ t.getD 1 0]) ++ [X.getD (4 * i - 32 + 2) 0 ^^^ t.getD 2 0])) t p i 3 hi h8 (by omega) (by rw [List.length_append]; simp; omega) ht
  rw [getD_app (by omega), List.append_assoc] at s3
  have hx : xorF (wd X (i - 8)) t = [X.getD (4 * i - 32 + 0) 0 ^^^ t.getD 0 0, X.getD (4 * i - 32 + 1) 0 ^^^ t.getD 1 0, X.getD (4 * i - 32 + 2) 0 ^^^ t.getD 2 0, X.getD (4 * i - 32 + 3) 0 ^^^ t.getD 3 0] := by
    have hw := ex4 (wd_len (W := X) (i := i - 8) (by omega))
    rw [wd_get (by omega), wd_get (by omega), wd_get (by omega), wd_get (by omega), show 4 * (i - 8) = 4 * i - 32 by omega] at hw
    rw [hw]
    conv => lhs; rw [ex4 ht]
    rfl
  refine s0.trans (s1.trans (s2.trans (s3.trans ?_)))
  have e : ∀ a b c d : UInt8, X ++ ([a] ++ ([b] ++ [c])) ++ [d] = X ++ [a, b, c, d] := fun a b c d => by rw [List.append_assoc]; rfl
  rw [turnkeyref07_Keys.l2, if_neg (by decide), hx, w64 (by omega) (by omega), e, Int.natCast_add]
  rfl
theorem rot_any (f : UInt8 → UInt8) (u0 u1 u2 u3 p : UInt8) : xor0 ((rot4 [u0, u1, u2, u3]).map f) p = [f u1 ^^^ p, f u2, f u3, f u0] := rfl
theorem map4_any (f : UInt8 → UInt8) (u0 u1 u2 u3 : UInt8) : [u0, u1, u2, u3].map f = [f u0, f u1, f u2, f u3] := rfl
theorem l1_step (k : Nat) (X : List UInt8) (i : Nat) (hi : i < 60) (h8 : 8 ≤ i) (hX : X.length = 4 * i) :
    turnkeyref07_Keys.l1 (10 + k + 7) (i8s X) ((pwr ((i - 1) / 8)).toNat : Int) (i : Int) = turnkeyref07_Keys.l1 (10 + k) (i8s (X ++ xorF (wd X (i - 8)) (tw (wd X (i - 1)) i))) ((pwr (i / 8)).toNat : Int) ((i + 1 : Nat) : Int) := by
  have hwl := wd_len (W := X) (i := i - 1) (by omega)
  have hw : wd X (i - 1) = [X.getD (4 * i - 4) 0, X.getD (4 * i - 3) 0, X.getD (4 * i - 2) 0, X.getD (4 * i - 1) 0] := by
    have hw := ex4 hwl
    rw [wd_get (by omega), wd_get (by omega), wd_get (by omega), wd_get (by omega)] at hw
    rw [show 4 * i - 4 = 4 * (i - 1) + 0 by omega, show 4 * i - 3 = 4 * (i - 1) + 1 by omega, show 4 * i - 2 = 4 * (i - 1) + 2 by omega, show 4 * i - 1 = 4 * (i - 1) + 3 by omega]
    exact hw
  have e1 : wrap64 (4 * (i : Int)) = 4 * (i : Int) := w64 (by omega) (by omega)
  have e2 : wrap64 (4 * (i : Int) - 4) = 4 * (i : Int) - 4 := w64 (by omega) (by omega)
  have e3 : wrap64 (4 * (i : Int) - 3) = 4 * (i : Int) - 3 := w64 (by omega) (by omega)
  have e4 : wrap64 (4 * (i : Int) - 2) = 4 * (i : Int) - 2 := w64 (by omega) (by omega)
  have e5 : wrap64 (4 * (i : Int) - 1) = 4 * (i : Int) - 1 := w64 (by omega) (by omega)
  have tm : Int.tmod (i : Int) 8 = ((i % 8 : Nat) : Int) := by rw [Int.tmod_eq_emod_of_nonneg (by omega)]; omega
  have hall := fun (t : List UInt8) (p : Int) (ht : t.length = 4) => l2_all (10 + k) X t p i hi h8 hX ht
  rw [show 10 + k + 7 = (10 + k + 6) + 1 by omega, turnkeyref07_Keys.l1, e1, e2, e3, e4, e5, i8s_lenI, if_pos (by omega), if_pos (by omega), if_pos (by omega), if_pos (by omega), if_pos (by omega), if_pos (by omega), if_pos (by omega), if_pos (by omega), if_pos (by omega)]
  rw [rd_i8s (n := 4 * i - 4) (by omega), rd_i8s (n := 4 * i - 3) (by omega), rd_i8s (n := 4 * i - 2) (by omega), rd_i8s (n := 4 * i - 1) (by omega), Option.bind_some, tm]
  generalize X.getD (4 * i - 4) 0 = u0 at *
  generalize X.getD (4 * i - 3) 0 = u1 at *
  generalize X.getD (4 * i - 2) 0 = u2 at *
  generalize X.getD (4 * i - 1) 0 = u3 at *
  simp only [rd, List.length_cons, List.length_nil, List.getD_cons_zero, List.getD_cons_succ, show Int.toNat 0 = 0 from rfl, show Int.toNat 1 = 1 from rfl, show Int.toNat 2 = 2 from rfl, show Int.toNat 3 = 3 from rfl]
  have hj : ∀ (t : List UInt8) (p : Int), t.length = 4 → turnkeyref07_Keys.j2 (10 + k + 6) (i8s X) p (i : Int) (i8s t) = turnkeyref07_Keys.l1 (10 + k) (i8s (X ++ xorF (wd X (i - 8)) t)) p ((i + 1 : Nat) : Int) := fun t p ht => by
    rw [show 10 + k + 6 = (10 + k + 5) + 1 by omega, turnkeyref07_Keys.j2]
    exact hall t p ht
  rw [hw]
  by_cases h0 : i % 8 = 0
  · have hp : i / 8 = (i / 8 - 1) + 1 := by omega
    have hp2 : (i - 1) / 8 = i / 8 - 1 := by omega
    rw [if_pos (by omega)]
    rw [if_pos (by decide), turnkeyref07_S.f_byte, Option.bind_some, if_pos (by decide), turnkeyref07_S.f_byte, Option.bind_some, if_pos (by decide), turnkeyref07_S.f_byte, Option.bind_some, if_pos (by decide), turnkeyref07_S.f_byte, Option.bind_some]
    rw [show 10 + k + 6 = 10 + (k + 6) by omega, f_rtB (k + 6), Option.bind_some, xor64, show 10 + (k + 6) = 10 + k + 6 by omega, hp2]
    have := hj [sb u1 ^^^ pwr (i / 8 - 1), sb u2, sb u3, sb u0] ((xt (pwr (i / 8 - 1))).toNat : Int) rfl
    refine Eq.trans this ?_
    unfold tw
    have hp3 : pwr (i / 8) = xt (pwr (i / 8 - 1)) := by conv => lhs; rw [hp, pwr]
    rw [if_pos h0, rot_any, hp3]
  · rw [if_neg (by omega)]
    have hp : (i - 1) / 8 = i / 8 := by omega
    rw [hp]
    by_cases h4 : i % 8 = 4
    · rw [if_pos (by omega)]
      rw [if_pos (by decide), turnkeyref07_S.f_byte, Option.bind_some, if_pos (by decide), turnkeyref07_S.f_byte, Option.bind_some, if_pos (by decide), turnkeyref07_S.f_byte, Option.bind_some, if_pos (by decide), turnkeyref07_S.f_byte, Option.bind_some]
      refine Eq.trans (hj [sb u0, sb u1, sb u2, sb u3] _ rfl) ?_
      unfold tw
      rw [if_neg h0, if_pos h4, map4_any]
    · rw [if_neg (by omega)]
      refine Eq.trans (hj [u0, u1, u2, u3] _ rfl) ?_
      unfold tw
      rw [if_neg h0, if_neg h4]
theorem l1_all (key : List UInt8) (hk : key.length = 32) : ∀ d i, i + d = 60 → 8 ≤ i → turnkeyref07_Keys.l1 (10 + 7 * d + 1) (i8s (kx key i)) ((pwr ((i - 1) / 8)).toNat : Int) (i : Int) = some (i8s (kx key 60))
  | 0, i, h, h8 => by
    obtain rfl : i = 60 := by omega
    rw [turnkeyref07_Keys.l1, if_neg (by decide)]
  | d + 1, i, h, h8 => by
    have ih := l1_all key hk d (i + 1) (by omega) (by omega)
    have st := l1_step (7 * d + 1) (kx key i) i (by omega) h8 (kx_len hk i)
    rw [show 10 + 7 * (d + 1) + 1 = 10 + (7 * d + 1) + 7 by omega, st]
    have e : kx key i ++ xorF (wd (kx key i) (i - 8)) (tw (wd (kx key i) (i - 1)) i) = kx key (i + 1) := by rw [kx, if_neg (by omega)]
    rw [e]
    exact ih
theorem l0_step (k : Nat) (key : List UInt8) (n : Nat) (hk : key.length = 32) (hn : n < 32) :
    turnkeyref07_Keys.l0 (k + 1) (i8s key) (i8s (key.take n)) (n : Int) = turnkeyref07_Keys.l0 k (i8s key) (i8s (key.take (n + 1))) ((n + 1 : Nat) : Int) := by
  have hl : (key.take n).length = n := by rw [List.length_take]; omega
  have hv := (key.getD n 0).toNat_lt
  rw [turnkeyref07_Keys.l0, i8s_lenI, i8s_length, if_pos (by omega), if_pos (by omega), if_pos (by omega), if_pos (by omega), rd_i8s (n := n) rfl, w64 (by omega) (by omega), w64 (x := (n : Int) + 1) (by omega) (by omega), i8s_app]
  congr 2
  rw [List.take_succ_eq_append_getElem (by omega), List.getD_eq_getElem?_getD, List.getElem?_eq_getElem (by omega)]
  rfl
theorem kx8 (key : List UInt8) (hk : key.length = 32) : ∀ i, i ≤ 8 → kx key i = key.take (4 * i)
  | 0, _ => rfl
  | i + 1, h => by
    rw [kx, if_pos (by omega), kx8 key hk i (by omega), wd, show 4 * (i + 1) = 4 * i + 4 by omega, List.take_add]
theorem l0_all (key : List UInt8) (hk : key.length = 32) : ∀ d n, n + d = 32 → turnkeyref07_Keys.l0 (d + 10 + 7 * 52 + 1 + 1) (i8s key) (i8s (key.take n)) (n : Int) = some (i8s (kx key 60))
  | 0, n, h => by
    obtain rfl : n = 32 := by omega
    rw [turnkeyref07_Keys.l0, if_neg (by decide)]
    have := l1_all key hk 52 8 (by omega) (by omega)
    rw [kx8 key hk 8 (by omega)] at this
    exact this
  | d + 1, n, h => by
    rw [show d + 1 + 10 + 7 * 52 + 1 + 1 = (d + 10 + 7 * 52 + 1 + 1) + 1 by omega, l0_step _ key n hk (by omega)]
    exact l0_all key hk d (n + 1) (by omega)
theorem f_keys (key : List UInt8) (hk : key.length = 32) : ∃ k, turnkeyref07_Keys.f k (i8s key) = some (i8s (keysF key)) := ⟨_, l0_all key hk 32 0 rfl⟩
theorem nums_iV (l : List UInt8) : nums .i64 (i8s l) = l.map iV := by unfold nums i8s; rw [List.map_map]; rfl
def GivesI (n : Nat) (xs : List UInt8) (w : World) (e : Ending) (w' : World) : Prop := ∃ g cap, e = .returned (.slice (some ⟨g, 0, none⟩) n cap) ∧ w'.ownsRow w.heap.size 3 1 (.slice (some ⟨g, 0, none⟩) n cap) n (xs.map iV) ∧ Below w.heap.size w w'
theorem refKeys_any (A : Option Addr) (c : Nat) (key : List UInt8) (w : World) (hk : key.length = 32) (hr : RdB w A key) (hc : 32 ≤ c) :
    Calls Try.prog 11 #[.slice A 32 c] w (GivesI 240 (keysF key) w) := by
  obtain ⟨k, hf⟩ := f_keys key hk
  have hl : (i8s key).length = 32 := by rw [i8s_length, hk]
  have h := turnkeyref07_Keys.calls k A c (i8s key) (i8s (keysF key)) w (C_of_RdB hr (by rw [i8s_length]) (by rw [hl]; decide)) (by rw [hl]; exact hc) hf
  rw [hl] at h
  refine h.mono ?_
  rintro e w' ⟨v, rfl, hR, hb⟩
  have := own_of_R hR
  rw [nums_iV, i8s_length, keysF_len hk] at this
  obtain ⟨g, cap, e3⟩ := Joins.ownsRow_form this (by decide)
  rw [e3] at this ⊢
  exact ⟨g, cap, rfl, this, by first | exact hb | exact hb.below⟩
end Go.Proofs.Ytaacnbponodagaa
