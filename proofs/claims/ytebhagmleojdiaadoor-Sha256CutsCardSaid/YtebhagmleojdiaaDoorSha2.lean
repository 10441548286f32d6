/- The reference's one: a block, in words of 32 bits. -/
import Derived.Test.YtebhagmleojdiaaDoorSha1
namespace Go.Proofs.YtebhagmleojdiaaDoor.Pure
open Go.RowKit Go.Proofs.YtebhagmleojdiaaDoor Go.Proofs.YtebhagmleojdiaaDoor.PB Go.Proofs.YtebhagmleojdiaaDoorW.PrintWords Go.Proofs.YtebhagmleojdiaaDoorW.PrintLast Go.Proofs.YtebhagmleojdiaaDoorW.PrintMore

/-- The number of the first m bytes of word i. -/
def wd (p : List UInt8) (i : Nat) : Nat → Nat
  | 0 => 0
  | m + 1 => wd p i m * 256 + (p.getD (4 * i + m) 0).toNat
theorem wd_lt (p : List UInt8) (i : Nat) : ∀ m, wd p i m < 256 ^ m
  | 0 => by simp [wd]
  | m + 1 => by
    have := wd_lt p i m
    have := UInt8.toNat_lt (p.getD (4 * i + m) 0)
    rw [wd, Nat.pow_succ]; omega
theorem wd_small (p : List UInt8) (i m : Nat) (h : m < 4) : wd p i m * 256 + 255 < 4294967296 := by
  have h1 := wd_lt p i m
  have h2 : 256 ^ m ≤ 256 ^ 3 := Nat.pow_le_pow_right (by decide) (by omega)
  have h3 : (256 : Nat) ^ 3 * 256 = 4294967296 := by decide
  omega
def word0 (p : List UInt8) (i : Nat) : W := BitVec.ofNat 32 (wd p i 4)
def words0 (p : List UInt8) : List W := (List.range 16).map (word0 p)
/-- The next word of a schedule. -/
def ext (l : List W) : List W :=
  l ++ [smallF (l.getD (l.length - 2) 0) 17 19 10 + l.getD (l.length - 7) 0 + smallF (l.getD (l.length - 15) 0) 7 18 3 + l.getD (l.length - 16) 0]
def sch (p : List UInt8) : Nat → List W
  | 0 => words0 p
  | d + 1 => ext (sch p d)
theorem sch_length (p : List UInt8) : ∀ d, (sch p d).length = 16 + d
  | 0 => by simp [sch, words0]
  | d + 1 => by rw [sch, ext, List.length_append, sch_length p d]; rfl

structure S8 where
  (a b c d e f g h : W)
def rnd (s : S8) (k w : W) : S8 :=
  let t1 := s.h + greatF s.e 6 11 25 + ((s.e &&& s.f) ^^^ (~~~s.e &&& s.g)) + k + w
  let t2 := greatF s.a 2 13 22 + ((s.a &&& s.b) ^^^ (s.a &&& s.c) ^^^ (s.b &&& s.c))
  ⟨t1 + t2, s.a, s.b, s.c, s.d + t1, s.e, s.f, s.g⟩
def ks : List W := List.map (BitVec.ofNat 32) [1116352408, 1899447441, 3049323471, 3921009573, 961987163, 1508970993, 2453635748, 2870763221, 3624381080, 310598401, 607225278, 1426881987, 1925078388, 2162078206, 2614888103, 3248222580, 3835390401, 4022224774, 264347078, 604807628, 770255983, 1249150122, 1555081692, 1996064986, 2554220882, 2821834349, 2952996808, 3210313671, 3336571891, 3584528711, 113926993, 338241895, 666307205, 773529912, 1294757372, 1396182291, 1695183700, 1986661051, 2177026350, 2456956037, 2730485921, 2820302411, 3259730800, 3345764771, 3516065817, 3600352804, 4094571909, 275423344, 430227734, 506948616, 659060556, 883997877, 958139571, 1322822218, 1537002063, 1747873779, 1955562222, 2024104815, 2227730452, 2361852424, 2428436474, 2756734187, 3204031479, 3329325298]
def iv : List W := List.map (BitVec.ofNat 32) [1779033703, 3144134277, 1013904242, 2773480762, 1359893119, 2600822924, 528734635, 1541459225]
def s8 (h : List W) : S8 := ⟨h.getD 0 0, h.getD 1 0, h.getD 2 0, h.getD 3 0, h.getD 4 0, h.getD 5 0, h.getD 6 0, h.getD 7 0⟩
def rnds (s : S8) (ws : List W) : Nat → S8
  | 0 => s
  | t + 1 => rnd (rnds s ws t) (ks.getD t 0) (ws.getD t 0)
def oneF (h : List W) (p : List UInt8) : List W :=
  let s := rnds (s8 h) (sch p 48) 64
  [h.getD 0 0 + s.a, h.getD 1 0 + s.b, h.getD 2 0 + s.c, h.getD 3 0 + s.d, h.getD 4 0 + s.e, h.getD 5 0 + s.f, h.getD 6 0 + s.g, h.getD 7 0 + s.h]

theorem rd_tn (l : List W) (i : Int) (n : Nat) (hi : i = (n : Int)) : rd (l.map tn) i = tn (l.getD n 0) := by
  subst hi
  unfold rd
  rw [Int.toNat_natCast, List.getD_eq_getElem?_getD, List.getD_eq_getElem?_getD, List.getElem?_map]
  cases l[n]? <;> rfl

/-! ### the words -/
theorem one_l1_step {x0 : List Int} {p : List UInt8} (hp : p.length = 64) {l : List Int} {i : Nat} (hi : i < 16) {r : List Int} (m : Nat) (hm : m < 4)
    (h : Ev (fun k => turnkeyref03_one.l1 k x0 (i8s p) l (i : Int) (wd p i (m + 1) : Int) ((m + 1 : Nat) : Int)) r) : Ev (fun k => turnkeyref03_one.l1 k x0 (i8s p) l (i : Int) (wd p i m : Int) (m : Int)) r := by
  have hb := wd_small p i m hm
  have hj : 4 * i + m < p.length := by omega
  have hc := UInt8.toNat_lt p[4 * i + m]
  have hw : (wd p i (m + 1) : Int) = (wd p i m : Int) * 256 + (p[4 * i + m].toNat : Int) := by
    rw [wd, List.getD_eq_getElem?_getD, List.getElem?_eq_getElem hj]; simp
  have w1 : wrap64 (4 * (i : Int)) = ((4 * i : Nat) : Int) := w_mul 4 i (by omega)
  have w2 : wrap64 (((4 * i : Nat) : Int) + (m : Int)) = ((4 * i + m : Nat) : Int) := w_add _ _ (by omega)
  have w3 : wrap64 ((m : Int) + 1) = ((m + 1 : Nat) : Int) := w_add _ 1 (by omega)
  have hr := rd_i8s p _ hj
  have hl : (4 * i + m : Nat) < (i8s p).length := by rw [i8s_length]; exact hj
  generalize p[4 * i + m].toNat = c at *
  generalize wd p i (m + 1) = z' at *
  generalize wd p i m = z at *
  refine Ev.step (fun k => ?_) h
  show turnkeyref03_one.l1 (k + 1) _ _ _ _ _ _ = _
  rw [turnkeyref03_one.l1, if_pos (by omega), w1, w2, if_pos (by omega), if_pos (by omega), hr, w3, hw]
  have e : ((((z : Int) * 256) % (4294967296 : Int)) + (((c : Int)) % (4294967296 : Int))) % (4294967296 : Int) = (z : Int) * 256 + (c : Int) := by
    first
      | omega
      | (rw [wrapW, wrapW, wrapW]; omega)
  rw [e]

theorem one_l1_end {x0 : List Int} {p : List UInt8} {l : List Int} {i : Nat} (hi : i < 16) (hl : l.length ≤ 100) {r : List Int}
    (h : Ev (fun k => turnkeyref03_one.l0 k x0 (i8s p) (l ++ [tn (word0 p i)]) ((i + 1 : Nat) : Int)) r) (N : Nat) (hN : N = 4) : Ev (fun k => turnkeyref03_one.l1 k x0 (i8s p) l (i : Int) (wd p i N : Int) (N : Int)) r := by
  have hlt : wd p i N < 4294967296 := by have := wd_lt p i N; rw [hN, show (256 : Nat) ^ 4 = 4294967296 by decide] at this; rw [hN]; exact this
  have ht : tn (word0 p i) = (wd p i N : Int) := by unfold word0; rw [← hN, tn_of hlt]
  have w3 : wrap64 ((i : Int) + 1) = ((i + 1 : Nat) : Int) := by rw [wrap64_id (by omega) (by omega)]; omega
  rw [ht] at h
  generalize wd p i N = z at *
  refine Ev.step (fun k => ?_) h
  show turnkeyref03_one.l1 (k + 1) _ _ _ _ _ _ = _
  rw [turnkeyref03_one.l1, if_neg (by omega), if_pos (by omega), w3]

theorem one_l1 {x0 : List Int} {p : List UInt8} (hp : p.length = 64) {l : List Int} {i : Nat} (hi : i < 16) (hl : l.length ≤ 100) {r : List Int}
    (h : Ev (fun k => turnkeyref03_one.l0 k x0 (i8s p) (l ++ [tn (word0 p i)]) ((i + 1 : Nat) : Int)) r) : Ev (fun k => turnkeyref03_one.l1 k x0 (i8s p) l (i : Int) 0 0) r := by
  have key : ∀ N, N = 4 → ∀ d m : Nat, m + d = N → Ev (fun k => turnkeyref03_one.l1 k x0 (i8s p) l (i : Int) (wd p i m : Int) (m : Int)) r := by
    intro N hN d
    induction d with
    | zero => intro m e; obtain rfl : m = N := e; exact one_l1_end hi hl h m hN
    | succ d ih => intro m e; exact one_l1_step hp hi m (by omega) (ih (m + 1) (by omega))
  exact key 4 rfl 4 0 (by omega)

theorem one_l0_step {x0 : List Int} {p : List UInt8} (hp : p.length = 64) {r : List Int} (i : Nat) (hi : i < 16) (h : Ev (fun k => turnkeyref03_one.l0 k x0 (i8s p) (((List.range (i + 1)).map (word0 p)).map tn) ((i + 1 : Nat) : Int)) r) :
    Ev (fun k => turnkeyref03_one.l0 k x0 (i8s p) (((List.range i).map (word0 p)).map tn) (i : Int)) r := by
  rw [List.range_succ, List.map_append, List.map_append] at h
  refine Ev.step (fun k => ?_) (one_l1 hp hi (by simp; omega) h)
  show turnkeyref03_one.l0 (k + 1) _ _ _ _ = _
  rw [turnkeyref03_one.l0, if_pos (by omega)]

theorem one_l0 {x0 : List Int} {p : List UInt8} (hp : p.length = 64) {r : List Int} (h : Ev (fun k => turnkeyref03_one.l2 k x0 ((words0 p).map tn) 16) r) : Ev (fun k => turnkeyref03_one.l0 k x0 (i8s p) [] 0) r := by
  have key : ∀ N, N = 16 → ∀ d i : Nat, i + d = N → Ev (fun k => turnkeyref03_one.l0 k x0 (i8s p) (((List.range i).map (word0 p)).map tn) (i : Int)) r := by
    intro N hN d
    induction d with
    | zero =>
      intro i e
      obtain rfl : i = N := e
      refine Ev.step (fun k => ?_) h
      show turnkeyref03_one.l0 (k + 1) _ _ _ _ = _
      rw [turnkeyref03_one.l0, if_neg (by omega)]
      unfold words0
      rw [hN]
    | succ d ih => intro i e; exact one_l0_step hp i (by omega) (ih (i + 1) (by omega))
  exact key 16 rfl 16 0 (by omega)

end Go.Proofs.YtebhagmleojdiaaDoor.Pure
