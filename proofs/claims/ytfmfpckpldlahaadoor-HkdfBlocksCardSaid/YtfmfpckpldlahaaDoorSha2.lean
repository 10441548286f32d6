/- The reference's one: a block, in words of 64 bits. -/
import Derived.Test.YtfmfpckpldlahaaDoorSha1
namespace Go.Proofs.YtfmfpckpldlahaaDoor.Pure
open Go.RowKit Go.Proofs.YtfmfpckpldlahaaDoor Go.Proofs.YtfmfpckpldlahaaDoor.PB Go.Proofs.YtfmfpckpldlahaaDoorW.PrintWords Go.Proofs.YtfmfpckpldlahaaDoorW.PrintLast Go.Proofs.YtfmfpckpldlahaaDoorW.PrintMore

/-- The number of the first m bytes of word i. -/
def wd (p : List UInt8) (i : Nat) : Nat → Nat
  | 0 => 0
  | m + 1 => wd p i m * 256 + (p.getD (8 * i + m) 0).toNat
theorem wd_lt (p : List UInt8) (i : Nat) : ∀ m, wd p i m < 256 ^ m
  | 0 => by simp [wd]
  | m + 1 => by
    have := wd_lt p i m
    have := UInt8.toNat_lt (p.getD (8 * i + m) 0)
    rw [wd, Nat.pow_succ]; omega
theorem wd_small (p : List UInt8) (i m : Nat) (h : m < 8) : wd p i m * 256 + 255 < 18446744073709551616 := by
  have h1 := wd_lt p i m
  have h2 : 256 ^ m ≤ 256 ^ 7 := Nat.pow_le_pow_right (by decide) (by omega)
  have h3 : (256 : Nat) ^ 7 * 256 = 18446744073709551616 := by decide
  omega
def word0 (p : List UInt8) (i : Nat) : W := BitVec.ofNat 64 (wd p i 8)
def words0 (p : List UInt8) : List W := (List.range 16).map (word0 p)
/-- The next word of a schedule. -/
def ext (l : List W) : List W :=
  l ++ [smallF (l.getD (l.length - 2) 0) 19 61 6 + l.getD (l.length - 7) 0 + smallF (l.getD (l.length - 15) 0) 1 8 7 + l.getD (l.length - 16) 0]
def sch (p : List UInt8) : Nat → List W
  | 0 => words0 p
  | d + 1 => ext (sch p d)
theorem sch_length (p : List UInt8) : ∀ d, (sch p d).length = 16 + d
  | 0 => by simp [sch, words0]
  | d + 1 => by rw [sch, ext, List.length_append, sch_length p d]; rfl

structure S8 where
  (a b c d e f g h : W)
def rnd (s : S8) (k w : W) : S8 :=
  let t1 := s.h + greatF s.e 14 18 41 + ((s.e &&& s.f) ^^^ (~~~s.e &&& s.g)) + k + w
  let t2 := greatF s.a 28 34 39 + ((s.a &&& s.b) ^^^ (s.a &&& s.c) ^^^ (s.b &&& s.c))
  ⟨t1 + t2, s.a, s.b, s.c, s.d + t1, s.e, s.f, s.g⟩
def ks : List W := List.map (BitVec.ofNat 64) [4794697086780616226, 8158064640168781261, 13096744586834688815, 16840607885511220156, 4131703408338449720, 6480981068601479193, 10538285296894168987, 12329834152419229976, 15566598209576043074, 1334009975649890238, 2608012711638119052, 6128411473006802146, 8268148722764581231, 9286055187155687089, 11230858885718282805, 13951009754708518548, 16472876342353939154, 17275323862435702243, 1135362057144423861, 2597628984639134821, 3308224258029322869, 5365058923640841347, 6679025012923562964, 8573033837759648693, 10970295158949994411, 12119686244451234320, 12683024718118986047, 13788192230050041572, 14330467153632333762, 15395433587784984357, 489312712824947311, 1452737877330783856, 2861767655752347644, 3322285676063803686, 5560940570517711597, 5996557281743188959, 7280758554555802590, 8532644243296465576, 9350256976987008742, 10552545826968843579, 11727347734174303076, 12113106623233404929, 14000437183269869457, 14369950271660146224, 15101387698204529176, 15463397548674623760, 17586052441742319658, 1182934255886127544, 1847814050463011016, 2177327727835720531, 2830643537854262169, 3796741975233480872, 4115178125766777443, 5681478168544905931, 6601373596472566643, 7507060721942968483, 8399075790359081724, 8693463985226723168, 9568029438360202098, 10144078919501101548, 10430055236837252648, 11840083180663258601, 13761210420658862357, 14299343276471374635, 14566680578165727644, 15097957966210449927, 16922976911328602910, 17689382322260857208, 500013540394364858, 748580250866718886, 1242879168328830382, 1977374033974150939, 2944078676154940804, 3659926193048069267, 4368137639120453308, 4836135668995329356, 5532061633213252278, 6448918945643986474, 6902733635092675308, 7801388544844847127]
def iv : List W := List.map (BitVec.ofNat 64) [7640891576956012808, 13503953896175478587, 4354685564936845355, 11912009170470909681, 5840696475078001361, 11170449401992604703, 2270897969802886507, 6620516959819538809]
def s8 (h : List W) : S8 := ⟨h.getD 0 0, h.getD 1 0, h.getD 2 0, h.getD 3 0, h.getD 4 0, h.getD 5 0, h.getD 6 0, h.getD 7 0⟩
def rnds (s : S8) (ws : List W) : Nat → S8
  | 0 => s
  | t + 1 => rnd (rnds s ws t) (ks.getD t 0) (ws.getD t 0)
def oneF (h : List W) (p : List UInt8) : List W :=
  let s := rnds (s8 h) (sch p 64) 80
  [h.getD 0 0 + s.a, h.getD 1 0 + s.b, h.getD 2 0 + s.c, h.getD 3 0 + s.d, h.getD 4 0 + s.e, h.getD 5 0 + s.f, h.getD 6 0 + s.g, h.getD 7 0 + s.h]

theorem rd_tn (l : List W) (i : Int) (n : Nat) (hi : i = (n : Int)) : rd (l.map tn) i = tn (l.getD n 0) := by
  subst hi
  unfold rd
  rw [Int.toNat_natCast, List.getD_eq_getElem?_getD, List.getD_eq_getElem?_getD, List.getElem?_map]
  cases l[n]? <;> rfl

/-! ### the words -/
theorem one_l1_step {x0 : List Int} {p : List UInt8} (hp : p.length = 128) {l : List Int} {i : Nat} (hi : i < 16) {r : List Int} (m : Nat) (hm : m < 8)
    (h : Ev (fun k => turnkeyref04_one.l1 k x0 (i8s p) l (i : Int) (wd p i (m + 1) : Int) ((m + 1 : Nat) : Int)) r) : Ev (fun k => turnkeyref04_one.l1 k x0 (i8s p) l (i : Int) (wd p i m : Int) (m : Int)) r := by
  have hb := wd_small p i m hm
  have hj : 8 * i + m < p.length := by omega
  have hc := UInt8.toNat_lt p[8 * i + m]
  have hw : (wd p i (m + 1) : Int) = (wd p i m : Int) * 256 + (p[8 * i + m].toNat : Int) := by
    rw [wd, List.getD_eq_getElem?_getD, List.getElem?_eq_getElem hj]; simp
  have w1 : wrap64 (8 * (i : Int)) = ((8 * i : Nat) : Int) := w_mul 8 i (by omega)
  have w2 : wrap64 (((8 * i : Nat) : Int) + (m : Int)) = ((8 * i + m : Nat) : Int) := w_add _ _ (by omega)
  have w3 : wrap64 ((m : Int) + 1) = ((m + 1 : Nat) : Int) := w_add _ 1 (by omega)
  have hr := rd_i8s p _ hj
  have hl : (8 * i + m : Nat) < (i8s p).length := by rw [i8s_length]; exact hj
  generalize p[8 * i + m].toNat = c at *
  generalize wd p i (m + 1) = z' at *
  generalize wd p i m = z at *
  refine Ev.step (fun k => ?_) h
  show turnkeyref04_one.l1 (k + 1) _ _ _ _ _ _ = _
  rw [turnkeyref04_one.l1, if_pos (by omega), w1, w2, if_pos (by omega), if_pos (by omega), hr, w3, hw]
  have e : IntKind.u64.wrap ((IntKind.u64.wrap ((z : Int) * 256)) + (IntKind.u64.wrap ((c : Int)))) = (z : Int) * 256 + (c : Int) := by
    first
      | omega
      | (rw [wrapW, wrapW, wrapW]; omega)
  rw [e]

theorem one_l1_end {x0 : List Int} {p : List UInt8} {l : List Int} {i : Nat} (hi : i < 16) (hl : l.length ≤ 100) {r : List Int}
    (h : Ev (fun k => turnkeyref04_one.l0 k x0 (i8s p) (l ++ [tn (word0 p i)]) ((i + 1 : Nat) : Int)) r) (N : Nat) (hN : N = 8) : Ev (fun k => turnkeyref04_one.l1 k x0 (i8s p) l (i : Int) (wd p i N : Int) (N : Int)) r := by
  have hlt : wd p i N < 18446744073709551616 := by have := wd_lt p i N; rw [hN, show (256 : Nat) ^ 8 = 18446744073709551616 by decide] at this; rw [hN]; exact this
  have ht : tn (word0 p i) = (wd p i N : Int) := by unfold word0; rw [← hN, tn_of hlt]
  have w3 : wrap64 ((i : Int) + 1) = ((i + 1 : Nat) : Int) := by rw [wrap64_id (by omega) (by omega)]; omega
  rw [ht] at h
  generalize wd p i N = z at *
  refine Ev.step (fun k => ?_) h
  show turnkeyref04_one.l1 (k + 1) _ _ _ _ _ _ = _
  rw [turnkeyref04_one.l1, if_neg (by omega), if_pos (by omega), w3]

theorem one_l1 {x0 : List Int} {p : List UInt8} (hp : p.length = 128) {l : List Int} {i : Nat} (hi : i < 16) (hl : l.length ≤ 100) {r : List Int}
    (h : Ev (fun k => turnkeyref04_one.l0 k x0 (i8s p) (l ++ [tn (word0 p i)]) ((i + 1 : Nat) : Int)) r) : Ev (fun k => turnkeyref04_one.l1 k x0 (i8s p) l (i : Int) 0 0) r := by
  have key : ∀ N, N = 8 → ∀ d m : Nat, m + d = N → Ev (fun k => turnkeyref04_one.l1 k x0 (i8s p) l (i : Int) (wd p i m : Int) (m : Int)) r := by
    intro N hN d
    induction d with
    | zero => intro m e; obtain rfl : m = N := e; exact one_l1_end hi hl h m hN
    | succ d ih => intro m e; exact one_l1_step hp hi m (by omega) (ih (m + 1) (by omega))
  exact key 8 rfl 8 0 (by omega)

theorem one_l0_step {x0 : List Int} {p : List UInt8} (hp : p.length = 128) {r : List Int} (i : Nat) (hi : i < 16) (h : Ev (fun k => turnkeyref04_one.l0 k x0 (i8s p) (((List.range (i + 1)).map (word0 p)).map tn) ((i + 1 : Nat) : Int)) r) :
    Ev (fun k => turnkeyref04_one.l0 k x0 (i8s p) (((List.range i).map (word0 p)).map tn) (i : Int)) r := by
  rw [List.range_succ, List.map_append, List.map_append] at h
  refine Ev.step (fun k => ?_) (one_l1 hp hi (by simp; omega) h)
  show turnkeyref04_one.l0 (k + 1) _ _ _ _ = _
  rw [turnkeyref04_one.l0, if_pos (by omega)]

theorem one_l0 {x0 : List Int} {p : List UInt8} (hp : p.length = 128) {r : List Int} (h : Ev (fun k => turnkeyref04_one.l2 k x0 ((words0 p).map tn) 16) r) : Ev (fun k => turnkeyref04_one.l0 k x0 (i8s p) [] 0) r := by
  have key : ∀ N, N = 16 → ∀ d i : Nat, i + d = N → Ev (fun k => turnkeyref04_one.l0 k x0 (i8s p) (((List.range i).map (word0 p)).map tn) (i : Int)) r := by
    intro N hN d
    induction d with
    | zero =>
      intro i e
      obtain rfl : i = N := e
      refine Ev.step (fun k => ?_) h
      show turnkeyref04_one.l0 (k + 1) _ _ _ _ = _
      rw [turnkeyref04_one.l0, if_neg (by omega)]
      unfold words0
      rw [hN]
    | succ d ih => intro i e; exact one_l0_step hp i (by omega) (ih (i + 1) (by omega))
  exact key 16 rfl 16 0 (by omega)

end Go.Proofs.YtfmfpckpldlahaaDoor.Pure
