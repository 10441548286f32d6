/- Units encrypted block by block under a tweak: plain lists. -/
import Derived.Test.YthamhaomfdgdjaaAesP
import Derived.Test.YthamhaomfdgdjaaXoP
import Derived.Test.YthamhaomfdgdjaaCtsP
namespace Go.Proofs.Ythamhaomfdgdjaa
open Go.RowKit

/-- All octets shifted by one bit to the left, c at the right end of the first: what is carried out. -/
def shl1 : UInt8 → List UInt8 → List UInt8
  | _, [] => []
  | c, x :: l => ((x <<< 1) ||| c) :: shl1 (x >>> 7) l
def cry : UInt8 → List UInt8 → UInt8
  | c, [] => c
  | _, x :: l => cry (x >>> 7) l
def red (t : List UInt8) : List UInt8 := t.set 0 (t.getD 0 0 ^^^ 135)
def dbl (t : List UInt8) : List UInt8 := if cry 0 t = 1 then red (shl1 0 t) else shl1 0 t
theorem shl1_len : ∀ (c : UInt8) (l : List UInt8), (shl1 c l).length = l.length
  | _, [] => rfl
  | c, x :: l => by rw [shl1, List.length_cons, List.length_cons, shl1_len _ l]
theorem dbl_len (t : List UInt8) : (dbl t).length = t.length := by unfold dbl red; split; rw [List.length_set, shl1_len]; exact shl1_len _ _
theorem shl1_snoc : ∀ (c : UInt8) (l : List UInt8) (x : UInt8), shl1 c (l ++ [x]) = shl1 c l ++ [(x <<< 1) ||| cry c l]
  | _, [], _ => rfl
  | c, y :: l, x => by rw [List.cons_append, shl1, shl1_snoc _ l x, shl1, cry, List.cons_append]
theorem cry_snoc : ∀ (c : UInt8) (l : List UInt8) (x : UInt8), cry c (l ++ [x]) = x >>> 7
  | _, [], _ => rfl
  | c, y :: l, x => by rw [List.cons_append, cry, cry_snoc _ l x]
def twk (t : List UInt8) : Nat → List UInt8
  | 0 => t
  | k + 1 => dbl (twk t k)
theorem twk_len (t : List UInt8) : ∀ k, (twk t k).length = t.length
  | 0 => rfl
  | k + 1 => by rw [twk, dbl_len, twk_len t k]
theorem twk_dbl (t : List UInt8) : ∀ k, twk (dbl t) k = twk t (k + 1)
  | 0 => rfl
  | k + 1 => by rw [twk, twk_dbl t k, twk]; rfl
def one (F : List UInt8 → List UInt8) (t p : List UInt8) : List UInt8 := xorF (F (xorF p t)) t
def xtsF (F : List UInt8 → List UInt8) : List UInt8 → List (List UInt8) → List (List UInt8)
  | _, [] => []
  | t, p :: ps => one F t p :: xtsF F (dbl t) ps
theorem xtsF_len (F : List UInt8 → List UInt8) : ∀ t ps, (xtsF F t ps).length = ps.length
  | _, [] => rfl
  | t, p :: ps => by rw [xtsF, List.length_cons, List.length_cons, xtsF_len F _ ps]
theorem one_len {F : List UInt8 → List UInt8} (hF : ∀ b, b.length = 16 → (F b).length = 16) {t p : List UInt8} (ht : t.length = 16) (hp : p.length = 16) : (one F t p).length = 16 := xorF_l16 (hF _ (xorF_l16 hp ht)) ht
theorem xtsF_16 {F : List UInt8 → List UInt8} (hF : ∀ b, b.length = 16 → (F b).length = 16) : ∀ {t : List UInt8} {ps : List (List UInt8)}, t.length = 16 → A16 ps → A16 (xtsF F t ps)
  | _, [], _, _ => A16.nil
  | t, p :: ps, ht, hp => A16.cons (one_len hF ht hp.head) (xtsF_16 hF (by rw [dbl_len, ht]) hp.tail)
theorem one_inv {F G : List UInt8 → List UInt8} (hF : ∀ b, b.length = 16 → (F b).length = 16) (hGF : ∀ b, b.length = 16 → G (F b) = b) {t p : List UInt8} (ht : t.length = 16) (hp : p.length = 16) : one G t (one F t p) = p := by
  have hx := xorF_l16 hp ht
  unfold one
  rw [xorF_twice (by rw [hF _ hx, ht]), hGF _ hx, xorF_twice (by rw [hp, ht])]
theorem xtsF_inv {F G : List UInt8 → List UInt8} (hF : ∀ b, b.length = 16 → (F b).length = 16) (hGF : ∀ b, b.length = 16 → G (F b) = b) : ∀ {t : List UInt8} {ps : List (List UInt8)}, t.length = 16 → A16 ps → xtsF G t (xtsF F t ps) = ps
  | _, [], _, _ => rfl
  | t, p :: ps, ht, hp => by rw [xtsF, xtsF, one_inv hF hGF ht hp.head, xtsF_inv hF hGF (by rw [dbl_len, ht]) hp.tail]
theorem xtsF_take (F : List UInt8 → List UInt8) : ∀ (t : List UInt8) (ps : List (List UInt8)) (k : Nat), xtsF F t (ps.take k) = (xtsF F t ps).take k
  | _, [], k => by rw [List.take_nil, xtsF, List.take_nil]
  | t, p :: ps, 0 => rfl
  | t, p :: ps, k + 1 => by rw [List.take_succ_cons, xtsF, xtsF, List.take_succ_cons, xtsF_take F _ ps k]
theorem xtsF_snoc (F : List UInt8 → List UInt8) : ∀ (t : List UInt8) (ps : List (List UInt8)) (p : List UInt8), xtsF F t (ps ++ [p]) = xtsF F t ps ++ [one F (twk t ps.length) p]
  | _, [], _ => rfl
  | t, q :: ps, p => by rw [List.cons_append, xtsF, xtsF_snoc F _ ps p, xtsF, List.cons_append, twk_dbl, List.length_cons]
/-- A text of whole blocks. -/
def xtsT (F : List UInt8 → List UInt8) (t b : List UInt8) : List UInt8 := (xtsF F t (cut16 (b.length / 16) b)).flatten
theorem xtsT_len {F : List UInt8 → List UInt8} (hF : ∀ b, b.length = 16 → (F b).length = 16) {t b : List UInt8} (ht : t.length = 16) (hb : b.length % 16 = 0) : (xtsT F t b).length = b.length := by
  unfold xtsT
  rw [(xtsF_16 hF ht (cut16_16 (by omega))).flat, xtsF_len, cut16_len]; omega
theorem cut16_flatten {A : List (List UInt8)} (h : A16 A) : cut16 A.length A.flatten = A := by
  have := cut16_app 0 [] h
  rw [Nat.add_zero, List.append_nil, cut16, List.append_nil] at this
  exact this
theorem xtsT_inv {F G : List UInt8 → List UInt8} (hF : ∀ b, b.length = 16 → (F b).length = 16) (hGF : ∀ b, b.length = 16 → G (F b) = b) {t b : List UInt8} (ht : t.length = 16) (hb : b.length % 16 = 0) : xtsT G t (xtsT F t b) = b := by
  have hl := xtsT_len hF ht hb
  have h16 : A16 (cut16 (b.length / 16) b) := cut16_16 (by omega)
  have hx := xtsF_16 hF ht h16
  have hn : (xtsF F t (cut16 (b.length / 16) b)).length = b.length / 16 := by rw [xtsF_len, cut16_len]
  have e : xtsT G t (xtsT F t b) = (xtsF G t (cut16 (b.length / 16) (xtsT F t b))).flatten := by rw [xtsT, hl]
  have hc := cut16_flatten hx
  rw [hn] at hc
  rw [e, xtsT, hc, xtsF_inv hF hGF ht h16, cut16_flat (by omega), List.take_of_length_le (by omega)]
theorem xtsF_app (F : List UInt8 → List UInt8) : ∀ (t : List UInt8) (ps qs : List (List UInt8)), xtsF F t (ps ++ qs) = xtsF F t ps ++ xtsF F (twk t ps.length) qs
  | _, [], _ => rfl
  | t, p :: ps, qs => by rw [List.cons_append, xtsF, xtsF_app F _ ps qs, xtsF, List.cons_append, twk_dbl, List.length_cons]
theorem cut16_add : ∀ (k m : Nat) (b : List UInt8), 16 * k ≤ b.length → cut16 (k + m) b = cut16 k b ++ cut16 m (b.drop (16 * k))
  | 0, m, b, _ => by rw [Nat.zero_add, Nat.mul_zero, List.drop_zero]; rfl
  | k + 1, m, b, h => by
    rw [show k + 1 + m = (k + m) + 1 by omega, cut16, cut16_add k m (b.drop 16) (by rw [List.length_drop]; omega), cut16, List.cons_append, List.drop_drop, show 16 + 16 * k = 16 * (k + 1) by omega]
theorem cut16_take : ∀ (k : Nat) (b : List UInt8), cut16 k (b.take (16 * k)) = cut16 k b
  | 0, _ => rfl
  | k + 1, b => by
    rw [cut16, cut16, List.take_take, Nat.min_eq_left (by omega), List.drop_take, show 16 * (k + 1) - 16 = 16 * k by omega, cut16_take k]
theorem xtsT_app (F : List UInt8 → List UInt8) {t b : List UInt8} {k : Nat} (hk : 16 * k ≤ b.length) (hb : b.length % 16 = 0) :
    xtsT F t b = (xtsF F t (cut16 k b)).flatten ++ xtsT F (twk t k) (b.drop (16 * k)) := by
  unfold xtsT
  rw [show b.length / 16 = k + (b.drop (16 * k)).length / 16 by rw [List.length_drop]; omega, cut16_add k _ b hk, xtsF_app, List.flatten_append, cut16_len]
theorem xtsT_take {F : List UInt8 → List UInt8} (hF : ∀ b, b.length = 16 → (F b).length = 16) {t b : List UInt8} (ht : t.length = 16) {k : Nat} (hk : 16 * k ≤ b.length) (hb : b.length % 16 = 0) : xtsT F t (b.take (16 * k)) = (xtsT F t b).take (16 * k) := by
  have hl : (b.take (16 * k)).length = 16 * k := by rw [List.length_take]; omega
  have hx := (xtsF_16 hF ht (cut16_16 (m := k) (b := b) hk)).flat
  rw [xtsF_len, cut16_len] at hx
  rw [xtsT_app F hk hb]
  unfold xtsT
  rw [hl, show 16 * k / 16 = k by omega, cut16_take]
  conv => rhs; rw [← hx, List.take_left]
theorem xtsT_block {F : List UInt8 → List UInt8} (hF : ∀ b, b.length = 16 → (F b).length = 16) {t b : List UInt8} (ht : t.length = 16) {k : Nat} (hk : 16 * k + 16 ≤ b.length) (hb : b.length % 16 = 0) :
    ((xtsT F t b).take (16 * k + 16)).drop (16 * k) = one F (twk t k) ((b.take (16 * k + 16)).drop (16 * k)) := by
  have e : (b.take (16 * k + 16)).length = 16 * (k + 1) := by rw [List.length_take]; omega
  have h1 := xtsT_take hF ht (k := k + 1) (b := b) (by omega) hb
  rw [show 16 * (k + 1) = 16 * k + 16 by omega] at h1
  rw [← h1, xtsT_app F (k := k) (by omega) (by omega)]
  have hx := (xtsF_16 hF ht (cut16_16 (m := k) (b := b.take (16 * k + 16)) (by omega))).flat
  rw [xtsF_len, cut16_len] at hx
  rw [List.drop_left' hx]
  have hd : ((b.take (16 * k + 16)).drop (16 * k)).length = 16 := by rw [List.length_drop]; omega
  generalize (b.take (16 * k + 16)).drop (16 * k) = p at *
  unfold xtsT
  rw [hd, show 16 / 16 = 1 from rfl, cut16, cut16, xtsF, xtsF, List.take_of_length_le (by omega), List.flatten_cons, List.flatten_nil, List.append_nil]
theorem one_inj {F G : List UInt8 → List UInt8} (hF : ∀ b, b.length = 16 → (F b).length = 16) (hGF : ∀ b, b.length = 16 → G (F b) = b) {t p q : List UInt8} (ht : t.length = 16) (hp : p.length = 16) (hq : q.length = 16) : (one F t p = one F t q) ↔ (p = q) := by
  constructor
  · intro h
    have := congrArg (one G t) h
    rwa [one_inv hF hGF ht hp, one_inv hF hGF ht hq] at this
  · intro h; rw [h]
end Go.Proofs.Ythamhaomfdgdjaa
