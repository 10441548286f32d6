/- General lemmas about slices of bytes in memory, appending and converting; no function of the program. -/
import Derived.Test.YthamhaomfdgdjaaProg
import Derived.WalkKit
import Derived.WalkSpells
import Derived.WalkLawsBesides
import Derived.Deep.QuietTactic
import Derived.BigQuiet
import Derived.Deep.AppendSrc
import Derived.Deep.AppendLies
import Derived.Laws.CopyOwn
import Derived.Laws.BytesArg
import Derived.Lib.ConvBytes
import Derived.Lib.SlBytesConst
import Derived.Lib.Hide
import Derived.Deep.LoopGhost
import Derived.Deep.DeepCutAuto
namespace Go.Proofs.Ythamhaomfdgdjaa
open Go.RowKit

/-- A byte as a value. -/
def bV (c : UInt8) : Value := .int .u8 (c.toNat : Int)
theorem bV_one (c : UInt8) : (bV c).oneCell' = true := rfl

/-- The cells behind A read as xs (of any type of one cell). -/
def Rd (w : World) (A : Option Addr) (xs : List Value) : Prop :=
  xs = [] ∨ ∃ b o, A = some ⟨b, o, none⟩ ∧ ∀ i, i < xs.length → w.cell? ⟨b, o + i, none⟩ = xs[i]?

/-- The bytes behind A. -/
def RdB (w : World) (A : Option Addr) (xs : List UInt8) : Prop := Rd w A (xs.map bV)

theorem Rd.nil (w : World) (A : Option Addr) : Rd w A [] := .inl rfl

theorem Rd.lt {w : World} {A : Option Addr} {xs : List Value} (h : Rd w A xs) (hx : xs ≠ []) : ∃ b o, A = some ⟨b, o, none⟩ ∧ b < w.heap.size := by
  rcases h with h | ⟨b, o, rfl, h⟩
  · exact absurd h hx
  · refine ⟨b, o, rfl, ?_⟩
    have hl : 0 < xs.length := List.length_pos_iff.2 hx
    have h0 := h 0 hl
    rw [List.getElem?_eq_getElem hl] at h0
    exact World.block_lt_of_cell? w _ h0

theorem Rd.keep {w w' : World} {A : Option Addr} {xs : List Value} (h : Rd w A xs) (hb : Below w.heap.size w w') : Rd w' A xs := by
  rcases h with h | ⟨b, o, rfl, h⟩
  · exact .inl h
  · by_cases hx : xs = []
    · exact .inl hx
    · obtain ⟨b', o', hA, hlt⟩ := Rd.lt (.inr ⟨b, o, rfl, h⟩) hx
      cases hA
      exact .inr ⟨b, o, rfl, fun i hi => (hb.cell (p := ⟨b, o + i, none⟩) hlt).trans (h i hi)⟩

theorem RdB.keep {w w' : World} {A : Option Addr} {xs : List UInt8} (h : RdB w A xs) (hb : Below w.heap.size w w') : RdB w' A xs := Rd.keep h hb

theorem Rd.mk {w : World} {b o : Nat} {xs : List Value} (h : ∀ i, i < xs.length → w.cell? ⟨b, o + i, none⟩ = xs[i]?) : Rd w (some ⟨b, o, none⟩) xs := .inr ⟨b, o, rfl, h⟩

/-- A row that is owned reads. -/
theorem own_rd {w : World} {B : Nat} {e : TypeId} {v : Value} {n : Nat} {xs : List Value} (h : w.ownsRow B e 1 v n xs) :
    ∃ A c, v = .slice A n c ∧ n ≤ c ∧ c ≤ maxLen ∧ Rd w A xs ∧ (A = none → n = 0 ∧ c = 0) := by
  obtain ⟨hl, h⟩ := h
  rcases h with ⟨rfl, rfl⟩ | ⟨g, cap, cur, rfl, hB, hg, hn, hc, hs, ht⟩
  · exact ⟨none, 0, rfl, Nat.le_refl _, Nat.zero_le _, .inl (List.eq_nil_of_length_eq_zero (by omega)), fun _ => ⟨rfl, rfl⟩⟩
  · refine ⟨some ⟨g, 0, none⟩, cap, rfl, hn, hc, Rd.mk (fun i hi => ?_), fun h => by cases h⟩
    rw [Nat.zero_add, cell_of_row w g i cur e (0, 0) hg, ← ht, List.getElem?_take, if_pos (by omega)]
    simp

theorem ownsRow_below {w w' : World} {B : Nat} {e : TypeId} {sz : Nat} {v : Value} {n : Nat} {xs : List Value} (h : w.ownsRow B e sz v n xs) (hb : Below w.heap.size w w') : w'.ownsRow B e sz v n xs := by
  refine ⟨h.1, ?_⟩
  rcases h.2 with h2 | ⟨g, cap, cur, hv, hB, hg, r⟩
  · exact .inl h2
  · refine .inr ⟨g, cap, cur, hv, hB, ?_, r⟩
    rw [hb.block g (Array.getElem?_eq_some_iff.1 hg).1]
    exact hg

theorem ownsRow_base {w : World} {B B' : Nat} {e : TypeId} {sz : Nat} {v : Value} {n : Nat} {xs : List Value} (h : w.ownsRow B e sz v n xs) (hb : B' ≤ B) : w.ownsRow B' e sz v n xs := by
  refine ⟨h.1, ?_⟩
  rcases h.2 with h2 | ⟨g, cap, cur, hv, hB, r⟩
  · exact .inl h2
  · exact .inr ⟨g, cap, cur, hv, Nat.le_trans hb hB, r⟩

theorem Src.of_rd {P : Program} {tx e' : TypeId} {w : World} (hk : P.underlying tx = some (.slice e')) {A : Option Addr} {c : Nat} {xs : List Value} (h : Rd w A xs) (h1 : ∀ u ∈ xs, u.oneCell' = true) :
    Src P 1 tx (.slice A xs.length c) xs.length xs w := by
  by_cases hx : xs = []
  · subst hx
    cases A with
    | none => exact Src.ofNil w hk c
    | some a => exact Src.ofSlice w hk a 0 c [] (by simp) (fun j u h => by simp at h) h1
  · rcases h with h | ⟨b, o, rfl, h⟩
    · exact absurd h hx
    · refine Src.ofSlice w hk ⟨b, o, none⟩ xs.length c xs (by simp) (fun j u hu => ?_) h1
      have hj : j < xs.length := (List.getElem?_eq_some_iff.1 hu).1
      have hadd : (⟨b, o, none⟩ : Addr).add j = ⟨b, o + j, none⟩ := by unfold Addr.add; split <;> simp_all
      rw [hadd, h j hj]
      exact hu

theorem RdB.src {P : Program} {tx e' : TypeId} {w : World} (hk : P.underlying tx = some (.slice e')) {A : Option Addr} {n c : Nat} {xs : List UInt8} (h : RdB w A xs) (hn : xs.length = n) : Src P 1 tx (.slice A n c) n (xs.map bV) w := by
  subst hn
  have := Src.of_rd (c := c) hk h (fun u hu => by obtain ⟨x, _, rfl⟩ := List.mem_map.1 hu; rfl)
  simpa using this

theorem setCells_setRow (g : Nat) (e : TypeId) : ∀ (vs : List Value) (o : Nat) (cur : Array Value) (w : World), w.heap[g]? = some (.cells cur e (0, 0)) → o + vs.length ≤ cur.size →
    (w.setCells g o vs).heap[g]? = some (.cells (cur.toList.take o ++ vs ++ cur.toList.drop (o + vs.length)).toArray e (0, 0))
  | [], o, cur, w, hg, _ => by simp [World.setCells, hg]
  | v :: vs, o, cur, w, hg, h => by
    have hl : o + 1 + vs.length ≤ cur.size := by simp at h; omega
    have hg1 : (w.setCell ⟨g, o, none⟩ v).heap[g]? = some (.cells (cur.setIfInBounds o v) e (0, 0)) := by
      simp [World.setCell, Array.getElem?_modify, hg]
    have := setCells_setRow g e vs (o + 1) (cur.setIfInBounds o v) (w.setCell ⟨g, o, none⟩ v) hg1 (by simpa using hl)
    simp only [World.setCells]
    rw [this]
    congr 3
    have ho : o < cur.toList.length := by simp at h ⊢; omega
    rw [Array.toList_setIfInBounds]
    simp only [List.length_cons]
    rw [List.take_add_one, List.take_set_of_le (by omega), List.getElem?_set_self ho, List.drop_set_of_lt (by omega)]
    simp [List.append_assoc, Nat.add_comm, Nat.add_left_comm]

theorem grownBy_setCells (g : Nat) : ∀ (vs : List Value) (o : Nat) (w : World), w.grownBy (w.setCells g o vs) (some g)
  | [], _, w => ⟨rfl, rfl, rfl, Nat.le_refl _, fun _ _ _ => rfl⟩
  | v :: vs, o, w => by
    have h := grownBy_setCells g vs (o + 1) (w.setCell ⟨g, o, none⟩ v)
    refine ⟨h.os, h.tape, h.output, ?_, fun k hk hne => ?_⟩
    · have := h.size; simpa [World.setCells, World.setCell] using this
    · have h2 := h.block k (by simpa [World.setCell] using hk) hne
      simp only [World.setCells]
      rw [h2, Below.heap_setCell _ _ _ _ (fun e => hne (by simp [e]))]

/-- append onto a row that is owned, from whatever source. -/
theorem run_append_src2 {P : Program} (w : World) (base : Nat) (t tx ty e : TypeId) (i : TypeInfo) (z : Value) (bytes : Nat) (ht : P.underlying t = some (.slice e)) (hi : P.info? e = some i) (hz : i.zero = some z)
    (hsize : i.size = 1) (hby : i.bytes = bytes) (hzs : z.cells.size = 1)
    (v : Value) (n : Nat) (xs : List Value) (hown : w.ownsRow base e 1 v n xs)
    (x : Value) (m : Nat) (news : List Value) (hs : Src P 1 tx x m news w)
    (h63 : n + m ≤ maxLen) (hbytes : (n + m) * bytes ≤ 140737488355328) (hbase : base ≤ w.heap.size) :
    ∃ v' w', (Builtin.append_ #[t, tx] ty #[v, x]).run P w = .ok v' w' ∧ w'.ownsRow base e 1 v' (n + m) (xs ++ news) ∧ w.grownBy w' v.ownBlock ∧ (v'.ownBlock = v.ownBlock ∨ v'.ownBlock = some w.heap.size) := by
  have hsmall : n + m ≤ 9223372036854775807 := by simp only [maxLen] at h63; omega
  have hnl : news.length = m := by have := hs.newsLen; omega
  have hxl : xs.length = n := by have := hown.1; omega
  have hlen : (xs ++ news).length = (n + m) * 1 := by simp [hxl, hnl]
  have grown : ∀ (old : Nat), old < n + m → ∀ (row : Option Nat),
      (w.drew.alloc (.cells ((xs ++ news).toArray ++ Builtin.zeroCells z.cells (grownCap w (n + m) old e - (n + m))) e)).ownsRow base e 1
        (.slice (some ⟨w.heap.size, 0, none⟩) (n + m) (grownCap w (n + m) old e)) (n + m) (xs ++ news) ∧
      w.grownBy (w.drew.alloc (.cells ((xs ++ news).toArray ++ Builtin.zeroCells z.cells (grownCap w (n + m) old e - (n + m))) e)) row := by
    intro old ho row
    have hge := grownCap_ge w (n + m) old e
    have hcm : grownCap w (n + m) old e ≤ maxLen := grownCap_le_maxLen w (n + m) old e h63
    refine ⟨⟨hlen, .inr ⟨w.heap.size, _, _, rfl, hbase, heap_alloc_new w.drew _, hge, hcm, ?_, ?_⟩⟩, ⟨rfl, rfl, rfl, by simp, fun k hk _ => Below.heap_alloc w.drew _ k hk⟩⟩
    · simp only [Array.size_append, List.size_toArray, size_zeroCells, hzs, hlen]
      omega
    · rw [Array.toList_append, ← hlen]
      exact List.take_left
  rcases hown.2 with ⟨rfl, rfl⟩ | ⟨g, cap, cur, rfl, hbg, hg, hnc, hcm, hcs, htake⟩
  · have hx : xs = [] := List.eq_nil_of_length_eq_zero hxl
    subst hx
    by_cases hm : m = 0
    · subst hm
      have hn : news = [] := List.eq_nil_of_length_eq_zero hnl
      subst hn
      refine ⟨.slice none 0 0, w, ?_, World.ownsRow_nil w base e 1, ⟨rfl, rfl, rfl, Nat.le_refl _, fun _ _ _ => rfl⟩, .inl rfl⟩
      rcases hs.kind with ⟨e', hk⟩ | hk <;> simp [Builtin.append_, run_underlying ht, run_underlying hk, sizeOf, typeInfo, hi, hs.len, hsize, hs.cells, storeCells]
    · have hold : (Builtin.firstCells i.size 0 (.slice none 0 0)).run P w.drew = .ok ([] : List Value).toArray w.drew := run_firstCells_none w.drew i.size 0 0 0
      have hr := run_append_grow_src (P := P) w t tx ty e i z ht hi hz none 0 0 [] hold x m news (hsize ▸ hs) (by omega) (by omega) (growslice_fits (by omega) (by rw [hby]; simpa using hbytes))
      have hgr := grown 0 (by omega) (Value.ownBlock (.slice none 0 0))
      simp only [Nat.zero_add, List.nil_append] at hgr hr ⊢
      exact ⟨_, _, hr, hgr.1, hgr.2, .inr rfl⟩
  · by_cases hroom : n + m ≤ cap
    · have hfit : n + news.length ≤ cur.size := by omega
      have hr := run_append_room_src (P := P) w t tx ty e i ht hi g 0 n cap x m news (hsize ▸ hs) hroom
        (fun j hj => by rw [hsize, cell_of_row w g _ cur e (0, 0) hg]; simp; omega)
        (fun j hj => by simp [World.frozen?, hg])
      rw [hsize] at hr
      simp only [Nat.zero_add, Nat.mul_one] at hr
      refine ⟨_, _, hr, ⟨hlen, .inr ⟨g, cap, _, rfl, hbg, setCells_setRow g e news n cur w hg (by omega), hroom, hcm, ?_, ?_⟩⟩, grownBy_setCells g news n w, .inl rfl⟩
      · simp only [List.size_toArray, List.length_append, List.length_take, List.length_drop, Array.length_toList]
        omega
      · rw [Nat.mul_one] at htake
        simp only [htake]
        rw [← hlen]
        exact List.take_left
    · have holds : ∀ j u, xs[j]? = some u → w.cell? ((⟨g, 0, none⟩ : Addr).add j) = some u := hown.cells (g := g) rfl
      have hold : (Builtin.firstCells i.size n (.slice (some ⟨g, 0, none⟩) n cap)).run P w.drew = .ok xs.toArray w.drew :=
        run_firstCells_some w.drew i.size n ⟨g, 0, none⟩ n cap xs (by rw [hsize]; omega) (by simpa using holds)
      have hr := run_append_grow_src (P := P) w t tx ty e i z ht hi hz (some ⟨g, 0, none⟩) n cap xs hold x m news (hsize ▸ hs) (by omega) (by omega) (growslice_fits (by omega) (by rw [hby]; exact hbytes))
      have hgr := grown cap (by omega) (Value.ownBlock (.slice (some ⟨g, 0, none⟩) n cap))
      exact ⟨_, _, hr, hgr.1, hgr.2, .inr rfl⟩

theorem run_append_src {P : Program} (w : World) (base : Nat) (t tx ty e : TypeId) (i : TypeInfo) (z : Value) (bytes : Nat) (ht : P.underlying t = some (.slice e)) (hi : P.info? e = some i) (hz : i.zero = some z)
    (hsize : i.size = 1) (hby : i.bytes = bytes) (hzs : z.cells.size = 1)
    (v : Value) (n : Nat) (xs : List Value) (hown : w.ownsRow base e 1 v n xs)
    (x : Value) (m : Nat) (news : List Value) (hs : Src P 1 tx x m news w)
    (h63 : n + m ≤ maxLen) (hbytes : (n + m) * bytes ≤ 140737488355328) (hbase : base ≤ w.heap.size) :
    ∃ v' w', (Builtin.append_ #[t, tx] ty #[v, x]).run P w = .ok v' w' ∧ w'.ownsRow base e 1 v' (n + m) (xs ++ news) ∧ w.grownBy w' v.ownBlock := by
  obtain ⟨v', w', h1, h2, h3, _⟩ := run_append_src2 w base t tx ty e i z bytes ht hi hz hsize hby hzs v n xs hown x m news hs h63 hbytes hbase
  exact ⟨v', w', h1, h2, h3⟩

/-- The same, as a law of the walk. -/
theorem wpList_append_src {P : Program} (w : World) {ops : Array Oper} {rest : List Oper} {o : Oper} {a : Act} {Q : Exit → Act → World → Prop} (hgd : o.guard = none) (s x : Operand) (t tx : TypeId)
    (ho : o.op = .call { callee := .builtin .append, args := #[s, x], argTypes := #[t, tx] })
    (base : Nat) (e : TypeId) (i : TypeInfo) (z : Value) (bytes : Nat) (ht : P.underlying t = some (.slice e)) (hi : P.info? e = some i) (hz : i.zero = some z)
    (hsize : i.size = 1) (hby : i.bytes = bytes) (hzs : z.cells.size = 1)
    (v : Value) (n : Nat) (xs : List Value) (hsv : a.eval s = v) (hown : w.ownsRow base e 1 v n xs)
    (xv : Value) (hxv : a.eval x = xv) (m : Nat) (news : List Value) (hs : Src P 1 tx xv m news w)
    (h63 : n + m ≤ maxLen) (hbytes : (n + m) * bytes ≤ 140737488355328) (hbase : base ≤ w.heap.size)
    (h : ∀ v' w', w'.ownsRow base e 1 v' (n + m) (xs ++ news) → w.grownBy w' v.ownBlock → wpList P ops Q rest (a.put o.dst v') w') : wpList P ops Q (o :: rest) a w := by
  obtain ⟨v', w', hr, h1, h2⟩ := run_append_src w base t tx (o.type) e i z bytes ht hi hz hsize hby hzs v n xs hown xv m news hs h63 hbytes hbase
  refine wpList_plain hgd fun _ hK => ?_
  unfold Oper.wp execOp
  simp only [ho, resolve, invoke, builtin, Sem.run_bind, Sem.run_pure, Result.andThen_ok, List.map_toArray, List.map_cons, List.map_nil, hsv, hxv, hr]
  exact hK _ _ (h v' w' h1 h2)

theorem toList_data (s : ByteArray) : s.toList = s.data.toList := ByteArray.toList_eq s

theorem size_len (s : ByteArray) : s.size = s.data.toList.length := by rw [Array.length_toList]; rfl

theorem below_bytes {B : Nat} {w0 w : World} (h : Below B w0 w) (hB : B ≤ w.heap.size) (e : TypeId) (s : ByteArray) : Below B w0 (Lib.bytesWorld w e s) :=
  h.trans ⟨rfl, rfl, rfl, by rw [Lib.bytesWorld_size]; omega, fun k hk => Lib.bytesWorld_at_old w e s k (by omega)⟩

/-- The text of bytes. -/
def str (xs : List UInt8) : ByteArray := ⟨xs.toArray⟩
theorem str_size (xs : List UInt8) : (str xs).size = xs.length := by rw [size_len]; simp [str]
theorem str_data (xs : List UInt8) : (str xs).data.toList = xs := by simp [str]
theorem str_toList (xs : List UInt8) : (str xs).toList = xs := by rw [toList_data, str_data]
theorem str_of (s : ByteArray) : str s.data.toList = s := by simp [str]

/-- string(b) -/
theorem run_str {P : Program} (w : World) {src e : TypeId} (hs : P.underlying src = some (.slice e)) (he : P.underlying e = some (.int .u8)) {A : Option Addr} {n c : Nat} {xs : List UInt8} (h : RdB w A xs) (hn : xs.length = n) {dst : TypeId} (hd : P.underlying dst = some .string) :
    (convert src dst (.slice A n c)).run P w = .ok (.string (str xs)) w := by
  subst hn
  have e1 : strOfNums (xs.map fun x => (x.toNat : Int)) = str xs := by
    simp only [strOfNums, str, List.map_map]
    congr 2
    conv => rhs; rw [← List.map_id xs]
    refine List.map_congr_left fun x _ => ?_
    simp
  cases A with
  | none =>
    rw [run_convert_bytes_nil w src e hs he _ _ dst hd]
    have : xs = [] := by
      rcases h with h | ⟨b, o, h, _⟩
      · simpa using h
      · cases h
    subst this
    rfl
  | some a =>
    have hl : (loadCells a xs.length).run P w = .ok ((xs.map fun x => (x.toNat : Int)).map (Value.int .u8)).toArray w := by
      have := run_loadCells_list (P := P) w a ((xs.map fun x => (x.toNat : Int)).map (Value.int .u8)) (fun j v hj => by
        rcases h with h | ⟨b, o, h, hc⟩
        · have : xs = [] := by simpa using h
          subst this
          simp at hj
        · cases h
          have hjl : j < xs.length := by have := (List.getElem?_eq_some_iff.1 hj).1; simpa using this
          have hplain : (⟨b, o, none⟩ : Addr).add j = ⟨b, o + j, none⟩ := by unfold Addr.add; split <;> simp_all
          rw [hplain, hc j (by simpa using hjl)]
          rw [List.map_map] at hj
          exact hj)
      simpa using this
    rw [run_convert_bytes_string w src dst e _ _ c hs he hd, run_bytesToString w _ _ c _ hl, foldl_push_bytes, ← e1]
    simp [strOfNums, ByteArray.empty, ByteArray.emptyWithCapacity]
    rfl

theorem idx_str {P : Program} {t : TypeId} (h : P.underlying t = some .string) (l : List UInt8) (k : Nat) (hk : k < l.length) (w : World) :
    (Instr.index t (.string (str l)) (.int .i64 (k : Int))).run P w = .ok (.int .u8 ((l.getD k 0).toNat : Int)) w := by
  have hs : k < (str l).size := by rw [str_size]; exact hk
  have hi : 0 ≤ (k : Int) ∧ (k : Int) < ((str l).size : Int) := by omega
  rw [run_index_string w t (str l) .i64 k h, dif_pos hi]
  have e : (str l)[(k : Int).toNat]'(by simpa using hs) = l[k] := rfl
  rw [e, List.getD_eq_getElem?_getD, List.getElem?_eq_getElem hk]
  rfl

theorem byte_beq (c d : UInt8) {z : Int} (hz : (d.toNat : Int) = z) : ((c.toNat : Int) == z) = (c == d) := by
  subst hz
  rw [Bool.eq_iff_iff, beq_iff_eq, beq_iff_eq, ← UInt8.toNat_inj]
  omega

theorem byte_bne (c d : UInt8) {z : Int} (hz : (d.toNat : Int) = z) : ((c.toNat : Int) != z) = (c != d) := by
  unfold bne; rw [byte_beq c d hz]

theorem take_snoc {α : Type} (l : List α) (k : Nat) (d : α) (h : k < l.length) : l.take (k + 1) = l.take k ++ [l.getD k d] := by
  rw [List.take_succ_eq_append_getElem h, List.getD_eq_getElem?_getD, List.getElem?_eq_getElem h]; rfl

theorem drop_cons {α : Type} (l : List α) (k : Nat) (d : α) (h : k < l.length) : l.drop k = l.getD k d :: l.drop (k + 1) := by
  rw [List.drop_eq_getElem_cons h, List.getD_eq_getElem?_getD, List.getElem?_eq_getElem h]; rfl

theorem all_split {α : Type} (p : α → Bool) (l : List α) (k : Nat) (d : α) (h : k < l.length) : l.all p = ((l.take k).all p && (p (l.getD k d) && (l.drop (k + 1)).all p)) := by
  conv => lhs; rw [← List.take_append_drop k l, drop_cons l k d h]
  rw [List.all_append, List.all_cons]

theorem ret_bool {a b : Bool} (h : a = b) : Ending.returned (.bool a) = .returned (.bool b) := by rw [h]
theorem ret_int {k : IntKind} {a b : Int} (h : a = b) : Ending.returned (.int k a) = .returned (.int k b) := by rw [h]

/-- A slice type and its elements, of one cell each. -/
structure ElemT (P : Program) (t e : TypeId) (z : Value) (bytes : Nat) : Prop where
  ht : P.underlying t = some (.slice e)
  hi : (P.info? e).map (fun i => (i.zero, i.size, i.bytes)) = some (some z, 1, bytes)
  hz : z.cells.size = 1

theorem wpList_app {P : Program} {t e : TypeId} {z : Value} {bytes : Nat} (T : ElemT P t e z bytes) {w : World} {ops : Array Oper} {rest : List Oper} {o : Oper} {a : Act} {Q : Exit → Act → World → Prop} {s x : Operand} {tx : TypeId}
    (base : Nat) {v : Value} {n : Nat} {xs : List Value} (hown : w.ownsRow base e 1 v n xs) (xv : Value) {m : Nat} {news : List Value} (hs : Src P 1 tx xv m news w) (hgd : o.guard = none)
    (ho : o.op = .call { callee := .builtin .append, args := #[s, x], argTypes := #[t, tx] }) (hsv : a.eval s = v) (hxv : a.eval x = xv)
    (h63 : n + m ≤ maxLen) (hbytes : (n + m) * bytes ≤ 140737488355328) (hbase : base ≤ w.heap.size)
    (h : ∀ v' w', w'.ownsRow base e 1 v' (n + m) (xs ++ news) → w.grownBy w' v.ownBlock → wpList P ops Q rest (a.put o.dst v') w') : wpList P ops Q (o :: rest) a w := by
  obtain ⟨i, hi, hz, h1, h2⟩ := info_parts T.hi
  exact wpList_append_src w hgd s x t tx ho base e i z bytes T.ht hi hz h1 h2 T.hz v n xs hsv hown xv hxv m news hs h63 hbytes hbase h

/-- The same; where the row lies. -/
theorem wpList_app2 {P : Program} {t e : TypeId} {z : Value} {bytes : Nat} (T : ElemT P t e z bytes) {w : World} {ops : Array Oper} {rest : List Oper} {o : Oper} {a : Act} {Q : Exit → Act → World → Prop} {s x : Operand} {tx : TypeId}
    (base : Nat) {v : Value} {n : Nat} {xs : List Value} (hown : w.ownsRow base e 1 v n xs) (xv : Value) {m : Nat} {news : List Value} (hs : Src P 1 tx xv m news w) (hgd : o.guard = none)
    (ho : o.op = .call { callee := .builtin .append, args := #[s, x], argTypes := #[t, tx] }) (hsv : a.eval s = v) (hxv : a.eval x = xv)
    (h63 : n + m ≤ maxLen) (hbytes : (n + m) * bytes ≤ 140737488355328) (hbase : base ≤ w.heap.size)
    (h : ∀ A c w', w'.ownsRow base e 1 (.slice A (n + m) c) (n + m) (xs ++ news) → w.grownBy w' v.ownBlock → ((Value.slice A (n + m) c).ownBlock = v.ownBlock ∨ (Value.slice A (n + m) c).ownBlock = some w.heap.size) → wpList P ops Q rest (a.put o.dst (.slice A (n + m) c)) w') : wpList P ops Q (o :: rest) a w := by
  obtain ⟨i, hi, hz, h1, h2⟩ := info_parts T.hi
  obtain ⟨v', w', hr, k1, k2, k3⟩ := run_append_src2 w base t tx (o.type) e i z bytes T.ht hi hz h1 h2 T.hz v n xs hown xv m news hs h63 hbytes hbase
  obtain ⟨A, c, rfl, -⟩ := own_rd k1
  refine wpList_plain hgd fun _ hK => ?_
  unfold Oper.wp execOp
  simp only [ho, resolve, invoke, builtin, Sem.run_bind, Sem.run_pure, Result.andThen_ok, List.map_toArray, List.map_cons, List.map_nil, hsv, hxv, hr]
  exact hK _ _ (h A c w' k1 k2 k3)

/-- The same, the end written out: the new slice's form, and what the world has become. -/
theorem wpList_app' {P : Program} {t e : TypeId} {z : Value} {bytes : Nat} (T : ElemT P t e z bytes) {w0 w : World} {ops : Array Oper} {rest : List Oper} {o : Oper} {a : Act} {Q : Exit → Act → World → Prop} {s x : Operand} {tx : TypeId}
    (base : Nat) {v : Value} {n : Nat} {xs : List Value} (hown : w.ownsRow base e 1 v n xs) (xv : Value) {m : Nat} {news : List Value} (hs : Src P 1 tx xv m news w) (hgd : o.guard = none)
    (ho : o.op = .call { callee := .builtin .append, args := #[s, x], argTypes := #[t, tx] }) (hsv : a.eval s = v) (hxv : a.eval x = xv)
    (h63 : n + m ≤ maxLen) (hbytes : (n + m) * bytes ≤ 140737488355328) (hbase : base ≤ w.heap.size) (hbel : Below base w0 w)
    (h : ∀ A c w', w'.ownsRow base e 1 (.slice A (n + m) c) (n + m) (xs ++ news) → w.grownBy w' v.ownBlock → Below base w0 w' → wpList P ops Q rest (a.put o.dst (.slice A (n + m) c)) w') : wpList P ops Q (o :: rest) a w := by
  refine wpList_app T base hown xv hs hgd ho hsv hxv h63 hbytes hbase fun v' w' h1 h2 => ?_
  obtain ⟨A, c, rfl, _⟩ := own_rd h1
  exact h A c w' h1 h2 (hbel.grown h2 hbase (fun k hk => (hown.lt k hk).1))

/-- A slice of bytes that came in, as the kit reads it. -/
theorem rdB_of_ints {w : World} {x : Addr} {len : Nat} {zs : List Int} (hcell : ∀ i, i < zs.length → w.cell? (x.add i) = some (.int .u8 (zs.getD i 0))) (hwz : ∀ n ∈ zs, (Lit.int .u8 n).wf = true) (hl : len ≤ zs.length) :
    ∃ xs : List UInt8, xs.length = len ∧ RdB w (some x) xs := by
  by_cases h0 : len = 0
  · exact ⟨[], by simp [h0], Rd.nil _ _⟩
  · obtain ⟨b, o, spot⟩ := x
    have hc := hcell 0 (by omega)
    have hspot : spot = none := by simpa [Addr.add] using World.cell?_spot hc
    subst hspot
    refine ⟨(zs.take len).map fun n => UInt8.ofNat n.toNat, by simp; omega, Rd.mk fun i hi => ?_⟩
    have hi' : i < len := by simp at hi; omega
    have hz : i < zs.length := by omega
    have hadd : (⟨b, o, none⟩ : Addr).add i = ⟨b, o + i, none⟩ := by unfold Addr.add; split <;> simp_all
    have h1 := hcell i hz
    rw [hadd] at h1
    rw [h1, List.getD_eq_getElem?_getD, List.getElem?_eq_getElem hz]
    simp only [List.map_map, List.getElem?_map, List.getElem?_take, if_pos hi', List.getElem?_eq_getElem hz, Option.map_some, Function.comp_def, bV, Option.getD_some]
    have hw := hwz zs[i] (List.getElem_mem hz)
    have hb : 0 ≤ zs[i] ∧ zs[i] ≤ 255 := by simpa [Lit.wf, IntKind.min, IntKind.max, IntKind.signed, IntKind.bits] using hw
    congr 2
    rw [UInt8.toNat_ofNat_of_lt' (by have := hb.2; simp [UInt8.size]; omega)]
    omega
end Go.Proofs.Ythamhaomfdgdjaa
