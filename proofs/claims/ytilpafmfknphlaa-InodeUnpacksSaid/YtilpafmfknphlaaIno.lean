/- Records of chapter 18 as plain data, and what is right of them. -/
import Derived.Test.YtilpafmfknphlaaAgg
import Derived.Test.YtilpafmfknphlaaNum
namespace Go.Proofs.Ytilpafmfknphlaa
open Go.RowKit

structure Ino where
  k : Int
  m : Int
  l : Int
  s : Int
  t : Int
  nonce : List UInt8
  u : Int
  key : List UInt8
  sec : Int
  mac : List UInt8
  d : Int
deriving DecidableEq

structure Ino.WF (x : Ino) : Prop where
  hn : x.nonce.length = 16
  hk : x.key.length = 16
  hm : x.mac.length = 32

def z16 : List UInt8 := List.replicate 16 0
def z32 : List UInt8 := List.replicate 32 0
def polC (u : Int) (key : List UInt8) : List Value := .int .i64 u :: key.map bV
def ptrC (sec : Int) (mac : List UInt8) : List Value := .int .i64 sec :: mac.map bV
def treC (sec : Int) (mac : List UInt8) (d : Int) : List Value := ptrC sec mac ++ [.int .i64 d]
def inoC (x : Ino) : List Value := [.int .i64 x.k, .int .i64 x.m, .int .i64 x.l, .int .i64 x.s, .int .i64 x.t] ++ (x.nonce.map bV ++ (polC x.u x.key ++ treC x.sec x.mac x.d))
def zIno : Ino := ⟨0, 0, 0, 0, 0, z16, 0, z16, 0, z32, 0⟩
theorem zIno_WF : zIno.WF := ⟨rfl, rfl, rfl⟩

theorem bV_inj {a b : UInt8} (h : bV a = bV b) : a = b := by
  unfold bV at h
  injection h with _ h
  exact UInt8.toNat_inj.1 (by omega)
theorem mapbV_inj : ∀ {a b : List UInt8}, a.map bV = b.map bV → a = b
  | [], [], _ => rfl
  | [], _ :: _, h => by simp at h
  | _ :: _, [], h => by simp at h
  | x :: a, y :: b, h => by
    simp only [List.map_cons, List.cons.injEq] at h
    rw [bV_inj h.1, mapbV_inj h.2]
theorem polC_len {u : Int} {key : List UInt8} (h : key.length = 16) : (polC u key).length = 17 := by simp [polC, h]
theorem ptrC_len {sec : Int} {mac : List UInt8} (h : mac.length = 32) : (ptrC sec mac).length = 33 := by simp [ptrC, h]
theorem treC_len {sec d : Int} {mac : List UInt8} (h : mac.length = 32) : (treC sec mac d).length = 34 := by simp [treC, ptrC, h]
theorem inoC_len {x : Ino} (h : x.WF) : (inoC x).length = 72 := by simp [inoC, polC, treC, ptrC, h.hn, h.hk, h.hm]
theorem one_pol (u : Int) (key : List UInt8) : ∀ v ∈ polC u key, v.oneCell' = true := fun v hv => by
  rcases List.mem_cons.1 hv with rfl | h
  · rfl
  · exact one_bV _ v h
theorem one_ptr (u : Int) (key : List UInt8) : ∀ v ∈ ptrC u key, v.oneCell' = true := one_pol u key
theorem one_ino (x : Ino) : ∀ v ∈ inoC x, v.oneCell' = true := fun v hv => by
  unfold inoC treC at hv
  simp only [List.mem_append, List.mem_cons, List.not_mem_nil, or_false] at hv
  rcases hv with (rfl | rfl | rfl | rfl | rfl) | h | h | h | rfl
  all_goals first | rfl | exact one_bV _ v h | exact one_pol _ _ v h
theorem polC_inj {u v : Int} {a b : List UInt8} : polC u a = polC v b ↔ u = v ∧ a = b :=
  ⟨fun h => by simp only [polC, List.cons.injEq, Value.int.injEq, true_and] at h; exact ⟨h.1, mapbV_inj h.2⟩, fun h => by rw [h.1, h.2]⟩
theorem ptrC_inj {u v : Int} {a b : List UInt8} : ptrC u a = ptrC v b ↔ u = v ∧ a = b := polC_inj
theorem treC_d {sec d : Int} {mac : List UInt8} (h : mac.length = 32) : (treC sec mac d)[33]? = some (.int .i64 d) := by
  unfold treC
  rw [List.getElem?_append_right (by rw [ptrC_len h]; omega), ptrC_len h]; rfl
theorem treC_ptr {sec d : Int} {mac : List UInt8} (h : mac.length = 32) : ((treC sec mac d).drop 0).take 33 = ptrC sec mac := by
  unfold treC
  rw [List.drop_zero, ← ptrC_len (sec := sec) h, List.take_left]
theorem inoC_tail {x : Ino} (h : x.WF) : (inoC x).drop 21 = polC x.u x.key ++ treC x.sec x.mac x.d := by
  unfold inoC
  rw [← List.append_assoc, show 21 = ([Value.int .i64 x.k, .int .i64 x.m, .int .i64 x.l, .int .i64 x.s, .int .i64 x.t] ++ x.nonce.map bV).length by simp [h.hn], List.drop_left]
theorem inoC_pol {x : Ino} (h : x.WF) : ((inoC x).drop 21).take 17 = polC x.u x.key := by
  rw [inoC_tail h, ← polC_len (u := x.u) h.hk, List.take_left]
theorem inoC_tre {x : Ino} (h : x.WF) : (inoC x).drop 38 = treC x.sec x.mac x.d := by
  rw [show 38 = 21 + 17 from rfl, ← List.drop_drop, inoC_tail h, ← polC_len (u := x.u) h.hk, List.drop_left]
theorem inoC_tre' {x : Ino} (h : x.WF) : ((inoC x).drop 38).take 34 = treC x.sec x.mac x.d := by
  rw [inoC_tre h, List.take_of_length_le (by rw [treC_len h.hm]; omega)]
theorem inoC_ptr {x : Ino} (h : x.WF) : ((inoC x).drop 38).take 33 = ptrC x.sec x.mac := by
  rw [inoC_tre h, ← treC_ptr (sec := x.sec) (d := x.d) h.hm, List.drop_zero]
theorem inoC_u {x : Ino} (h : x.WF) : (inoC x)[21]? = some (.int .i64 x.u) := by
  have := congrArg (·[0]?) (inoC_tail h)
  simp only [List.getElem?_drop] at this
  rw [show 21 = 21 + 0 from rfl, this]; rfl
theorem inoC_sec {x : Ino} (h : x.WF) : (inoC x)[38]? = some (.int .i64 x.sec) := by
  have := congrArg (·[0]?) (inoC_tre h)
  simp only [List.getElem?_drop] at this
  rw [show 38 = 38 + 0 from rfl, this]; rfl
theorem inoC_d {x : Ino} (h : x.WF) : (inoC x)[71]? = some (.int .i64 x.d) := by
  have := congrArg (·[33]?) (inoC_tre h)
  simp only [List.getElem?_drop] at this
  rw [show 71 = 38 + 33 from rfl, this, treC_d h.hm]
theorem inoC_nonce {x : Ino} (h : x.WF) : ((inoC x).drop 5).take 16 = x.nonce.map bV := by
  unfold inoC
  rw [show (5 : Nat) = [Value.int .i64 x.k, .int .i64 x.m, .int .i64 x.l, .int .i64 x.s, .int .i64 x.t].length from rfl, List.drop_left, show 16 = (x.nonce.map bV).length by simp [h.hn], List.take_left]
theorem inoC_key {x : Ino} (h : x.WF) : ((inoC x).drop 22).take 16 = x.key.map bV := by
  rw [show 22 = 21 + 1 from rfl, ← List.drop_drop, inoC_tail h]
  unfold polC
  rw [List.cons_append, List.drop_succ_cons, List.drop_zero, show 16 = (x.key.map bV).length by simp [h.hk], List.take_left]
theorem inoC_inj {x y : Ino} (hx : x.WF) (hy : y.WF) : inoC x = inoC y ↔ x = y := by
  refine ⟨fun h => ?_, fun h => by rw [h]⟩
  have e1 := congrArg (fun L => (L.drop 5).take 16) h
  have e2 := congrArg (fun L => (L.drop 22).take 16) h
  have e3 := congrArg (fun L => (L.drop 38).take 33) h
  have e4 := congrArg (fun L => L[21]?) h
  have e5 := congrArg (fun L => L[71]?) h
  simp only [inoC_nonce hx, inoC_nonce hy] at e1
  simp only [inoC_key hx, inoC_key hy] at e2
  simp only [inoC_ptr hx, inoC_ptr hy] at e3
  simp only [inoC_u hx, inoC_u hy, Option.some.injEq, Value.int.injEq, true_and] at e4
  simp only [inoC_d hx, inoC_d hy, Option.some.injEq, Value.int.injEq, true_and] at e5
  have e3' := ptrC_inj.1 e3
  unfold inoC at h
  simp only [List.cons_append, List.cons.injEq, Value.int.injEq, true_and] at h
  obtain ⟨a1, a2, a3, a4, a5, -⟩ := h
  cases x; cases y
  simp only [Ino.mk.injEq]
  exact ⟨a1, a2, a3, a4, a5, mapbV_inj e1, e4, mapbV_inj e2, e3'.1, e3'.2, e5⟩

/-! ### what is right -/
def PolP (u : Int) (key : List UInt8) : Prop := (u = 0 ∧ key = z16) ∨ u = 16 ∨ u = 32
def TreP (sec : Int) (mac : List UInt8) (d : Int) : Prop := ¬ (sec = 0 ∧ mac ≠ z32) ∧ (0 ≤ d ∧ d ≤ 5) ∧ 0 ≤ sec ∧ sec ≤ 65536
def RightP (x : Ino) : Prop := (x.k = 1 ∨ x.k = 2 ∨ x.k = 3) ∧ ((0 ≤ x.m ∧ x.m ≤ 4095) ∧ 1 ≤ x.l ∧ x.l ≤ 2147483647) ∧ ((0 ≤ x.s ∧ x.s ≤ 1048576) ∧ 0 ≤ x.t ∧ x.t ≤ 1152921504606846975) ∧ PolP x.u x.key ∧ TreP x.sec x.mac x.d
instance (u : Int) (key : List UInt8) : Decidable (PolP u key) := by unfold PolP; infer_instance
instance (sec : Int) (mac : List UInt8) (d : Int) : Decidable (TreP sec mac d) := by unfold TreP; infer_instance
instance (x : Ino) : Decidable (RightP x) := by unfold RightP; infer_instance

/-! ### shapes -/
def lfPol : List Leaf := .int .i64 :: List.replicate 16 (.int .u8)
def lfPtr : List Leaf := .int .i64 :: List.replicate 32 (.int .u8)
def lfIno : List Leaf := List.replicate 5 (.int .i64) ++ (List.replicate 16 (.int .u8) ++ (lfPol ++ (lfPtr ++ [.int .i64])))
theorem m_pol {u : Int} {key : List UInt8} (h : key.length = 16) : mtch lfPol (polC u key) = true := by
  unfold lfPol polC
  simp only [mtch, Leaf.fits, beq_self_eq_true, Bool.true_and]
  exact mtch_bytes _ _ h
theorem m_ptr {u : Int} {key : List UInt8} (h : key.length = 32) : mtch lfPtr (ptrC u key) = true := by
  unfold lfPtr ptrC
  simp only [mtch, Leaf.fits, beq_self_eq_true, Bool.true_and]
  exact mtch_bytes _ _ h
theorem m_ino {x : Ino} (h : x.WF) : mtch lfIno (inoC x) = true := by
  unfold lfIno inoC treC
  exact mtch_append (by rfl) (mtch_append (mtch_bytes _ _ h.hn) (mtch_append (m_pol h.hk) (mtch_append (m_ptr h.hm) (by rfl))))
theorem eq_pol {u v : Int} {a b : List UInt8} (ha : a.length = 16) (hb : b.length = 16) (w : World) : (binOp .eql 24 (.agg (polC u a).toArray) (.agg (polC v b).toArray)).run Try.prog w = .ok (.bool (decide (u = v ∧ a = b))) w :=
  run_eql_flat (ls := lfPol) (by kernel_rfl) (by rfl) (m_pol ha) (m_pol hb) polC_inj w
theorem ne_ptr {u v : Int} {a b : List UInt8} (ha : a.length = 32) (hb : b.length = 32) (w : World) : (binOp .neq 27 (.agg (ptrC u a).toArray) (.agg (ptrC v b).toArray)).run Try.prog w = .ok (.bool (!decide (u = v ∧ a = b))) w :=
  run_neq_flat (ls := lfPtr) (by kernel_rfl) (by rfl) (m_ptr ha) (m_ptr hb) ptrC_inj w
theorem eq_ino {x y : Ino} (hx : x.WF) (hy : y.WF) (w : World) : (binOp .eql 31 (.agg (inoC x).toArray) (.agg (inoC y).toArray)).run Try.prog w = .ok (.bool (decide (x = y))) w :=
  run_eql_flat (ls := lfIno) (by kernel_rfl) (by rfl) (m_ino hx) (m_ino hy) (inoC_inj hx hy) w
theorem ne_ino {x y : Ino} (hx : x.WF) (hy : y.WF) (w : World) : (binOp .neq 31 (.agg (inoC x).toArray) (.agg (inoC y).toArray)).run Try.prog w = .ok (.bool (!decide (x = y))) w :=
  run_neq_flat (ls := lfIno) (by kernel_rfl) (by rfl) (m_ino hx) (m_ino hy) (inoC_inj hx hy) w
end Go.Proofs.Ytilpafmfknphlaa
