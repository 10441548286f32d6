/- AES: rows. -/
import Derived.Test.YthamhaomfdgdjaaAesD
namespace Go.Proofs.Ythamhaomfdgdjaa
open Go.RowKit

theorem run_index_agg {P : Program} {t e : TypeId} {n : Nat} {q : IntKind} {cs : Array Value} {i : Nat} {v : Value} (w : World) (h : P.underlying t = some (.array n e)) (he : P.underlying e = some (.int q)) (hs : (P.info? e).map (·.size) = some 1) (hi : i < n) (hv : cs[i]? = some v) :
    (Instr.index t (.agg cs) (.int .i64 (i : Int))).run P w = .ok v w := by
  have h1 : 0 ≤ (i : Int) ∧ (i : Int) < (n : Int) := by omega
  cases hq : P.info? e with
  | none => simp [hq] at hs
  | some x =>
    have hx : x.size = 1 := by simpa [hq] using hs
    simp [Instr.index, run_underlying h, run_underlying he, asIntOf, h1, hi, hv, Go.sizeOf, typeInfo, hq, hx, isAgg, Go.part, go_sem]

/-- What is laid after k steps: the i-th octet, through a table, at s i. -/
def lay (T : UInt8 → UInt8) (s : Nat → Nat) (b : List UInt8) (k : Nat) : List UInt8 := (List.range k).foldl (fun l i => l.set (s i) (T (b.getD i 0))) (List.replicate 16 0)
theorem lay_succ (T : UInt8 → UInt8) (s : Nat → Nat) (b : List UInt8) (k : Nat) : lay T s b (k + 1) = (lay T s b k).set (s k) (T (b.getD k 0)) := by
  unfold lay; rw [List.range_succ, List.foldl_append]; rfl
theorem lay_len (T : UInt8 → UInt8) (s : Nat → Nat) (b : List UInt8) : ∀ k, (lay T s b k).length = 16
  | 0 => by simp [lay]
  | k + 1 => by rw [lay_succ, List.length_set]; exact lay_len T s b k
def sE (i : Nat) : Nat := (i / 4 + 8 - i % 4) % 4 * 4 + i % 4
def sD (i : Nat) : Nat := (i / 4 + 8 + i % 4) % 4 * 4 + i % 4
theorem lay_E {b : List UInt8} (h : b.length = 16) : lay sb sE b 16 = rowsE b := by
  obtain ⟨a0, a1, a2, a3, a4, a5, a6, a7, a8, a9, a10, a11, a12, a13, a14, a15, rfl⟩ := ex16 h
  rfl
theorem lay_D {b : List UInt8} (h : b.length = 16) : lay bk sD b 16 = rowsD b := by
  obtain ⟨a0, a1, a2, a3, a4, a5, a6, a7, a8, a9, a10, a11, a12, a13, a14, a15, rfl⟩ := ex16 h
  rfl
theorem lay_zero (T : UInt8 → UInt8) (s : Nat → Nat) (b : List UInt8) : (lay T s b 0).map bV = List.replicate 16 (.int .u8 0) := by
  unfold lay; rw [List.range_zero, List.foldl_nil, List.map_replicate]; rfl

set_option maxRecDepth 8000 in
set_option maxHeartbeats 1600000 in
theorem rowsE_any (bC off : Nat) (b : List UInt8) (w : World) (hT : Rd w (some ⟨bC, off, none⟩) (sbT.map bV)) (hb : b.length = 16) :
    Calls Try.prog 26 #[.agg (b.map bV).toArray, .pointer (some ⟨bC, off, none⟩), .int .i64 1] w fun e w' => e = .returned (.agg ((rowsE b).map bV).toArray) ∧ Below w.heap.size w w' := by
  have hS := St.start w
  have HT := Lib.hid hT
  have HB := Lib.hid hb
  have HL := Lib.hid (show (b.map bV).length = 16 by rw [List.length_map]; exact hb)
  have HF := Lib.hid (lay_E hb)
  have hz := Lib.hid (lay_zero sb sE b)
  clear hT hb
  have hix := Lib.hid (show ∀ k : Nat, k < 16 → ∀ wx, (Instr.index 42 (.agg (b.map bV).toArray) (.int .i64 (k : Int))).run Try.prog wx = .ok (.int .u8 ((b.getD k 0).toNat : Int)) wx from fun k hk wx => run_index_agg (e := 5) (q := .u8) wx Try.underlying42 Try.underlying5 (by kernel_rfl) hk (by rw [List.getElem?_toArray]; exact mapGetB (by rw [HB.out]; exact hk)))
  go_enter Try.func26, Try.ntmps26
  go_wp2_with (first | ((with_reducible show wpList _ _ _ (⟨some 3, Op.box _ _, _, _, _, _⟩ :: _) _ _); go_loud (apply S_box hS; rfl; rfl; (focus ((conv => lhs; whnf) <;> rfl)); rfl; clear hS; intro b3 w_ hS)) | ((with_reducible show wpList _ _ _ (⟨some 6, Op.alloc _, _, _, _, _⟩ :: _) _ _); go_loud (refine S_alloc (z := .agg ([.int .u8 0, .int .u8 0, .int .u8 0, .int .u8 0, .int .u8 0, .int .u8 0, .int .u8 0, .int .u8 0, .int .u8 0, .int .u8 0, .int .u8 0, .int .u8 0, .int .u8 0, .int .u8 0, .int .u8 0, .int .u8 0] : List Value).toArray) (L := [.int .u8 0, .int .u8 0, .int .u8 0, .int .u8 0, .int .u8 0, .int .u8 0, .int .u8 0, .int .u8 0, .int .u8 0, .int .u8 0, .int .u8 0, .int .u8 0, .int .u8 0, .int .u8 0, .int .u8 0, .int .u8 0]) hS rfl rfl ?_ ?_ ?_; (show _ = _; kernel_rfl); (show _ = _; kernel_rfl); clear hS; intro b6 w_ hS)) | ((with_reducible show wpList _ _ _ (⟨some 7, Op.alloc _, _, _, _, _⟩ :: _) _ _); go_loud (refine S_alloc (z := .agg ([.int .u8 0, .int .u8 0, .int .u8 0, .int .u8 0, .int .u8 0, .int .u8 0, .int .u8 0, .int .u8 0, .int .u8 0, .int .u8 0, .int .u8 0, .int .u8 0, .int .u8 0, .int .u8 0, .int .u8 0, .int .u8 0] : List Value).toArray) (L := [.int .u8 0, .int .u8 0, .int .u8 0, .int .u8 0, .int .u8 0, .int .u8 0, .int .u8 0, .int .u8 0, .int .u8 0, .int .u8 0, .int .u8 0, .int .u8 0, .int .u8 0, .int .u8 0, .int .u8 0, .int .u8 0]) hS rfl rfl ?_ ?_ ?_; (show _ = _; kernel_rfl); (show _ = _; kernel_rfl); clear hS; intro b7 w_ hS)) | ((with_reducible show wpList _ _ _ (⟨some 12, Op.load _ _, _, _, _, _⟩ :: _) _ _); go_loud (apply S_ldAll hS; rfl; rfl; rfl; (focus ((repeat (first | exact .here | apply At.there)); done)); rfl; (first | rfl | (rw [HL.out]; rfl) | (simp only [List.length_map, List.length_set]; rfl)))))
  go_loopw [13] (fun i wr => ∃ k : Nat, i = .int .i64 (k : Int) ∧ k ≤ 16 ∧ St (Kp w) w wr [.blk b7 42 ((lay sb sE b k).map bV), .blk b6 42 (List.replicate 16 (.int .u8 0))]) (fun i _ => 16 - (intOf i).toNat)
  case atStart => exact ⟨0, rfl, by omega, by rw [hz.out]; exact hS.sub (by simp)⟩
  case round =>
    clear hS hz
    obtain ⟨k, rfl, hk, hS⟩ := hrel
    by_cases hlt : k < 16
    · have hi := hix.out k hlt
      have hst := Lib.hid (lay_succ sb sE b k)
      obtain ⟨r, c, hr, hc, hkr⟩ : ∃ r c, r < 4 ∧ c < 4 ∧ k = 4 * c + r := ⟨k % 4, k / 4, by omega, by omega, by omega⟩
      have f1 : (k : Int) % 4 = (r : Int) := by omega
      have f2 : (k : Int) / 4 = (c : Int) := by omega
      have HKR := Lib.hid hkr
      clear hkr
      have hj : ((c : Int) - (r : Int) + 8) % 4 * 4 + (r : Int) = ((sE k : Nat) : Int) := by unfold sE; omega
      have hj16 : sE k < 16 := by unfold sE; omega
      generalize b.getD k 0 = x at *
      generalize sE k = j at *
      have hx256 : (x.toNat : Int) < 256 := by have := x.toNat_lt; omega
      have HX := Lib.hid (show ∀ wx : World, Rd wx (some ⟨bC, off, none⟩) (sbT.map bV) → wx.cell? ⟨bC, off + x.toNat, none⟩ = some (.int .u8 ((sb x).toNat : Int)) from fun wx h => (h.cell (i := x.toNat) (by rw [List.length_map]; exact x.toNat_lt)).trans (mapGetB (by exact x.toNat_lt)))
      generalize sb x = y at *
      have hjl : j < ((lay sb sE b k).map bV).length := by rw [List.length_map, lay_len]; exact hj16
      go_wp2_with (first | ((with_reducible show wpList _ _ _ (⟨some 35, Op.load _ _, _, _, _, _⟩ :: _) _ _); go_loud (refine S_val rfl (run_ld rfl rfl rfl (HX.out _ (hS.rdp HT.out))) ?_)) | ((with_reducible show wpList _ _ _ (⟨_, Op.store _ _ _, _, _, _, _⟩ :: _) _ _); go_loud (first | (apply S_st hS; rfl; rfl; rfl; (focus ((conv => lhs; whnf) <;> rfl)); (focus ((repeat (first | exact .here | apply At.there)); done)); rfl; rfl; (first | (assumption) | decide | assumption | (simp only [List.length_map, List.length_set, List.length_replicate, List.length_append, List.length_cons, List.length_nil]; omega)); clear hS; intro w_ hS; (try simp only [List.set_cons_zero, List.set_cons_succ] at hS)) | (apply S_stOwn hS; rfl; rfl; rfl; (focus ((conv => lhs; whnf) <;> rfl)); (focus ((repeat (first | exact .here | apply At.there)); done)); rfl; rfl; (first | decide | assumption | omega); clear hS; intro w_ hS; (try simp only [List.set_cons_zero, List.set_cons_succ] at hS)))))
      change St _ _ _ (.blk b7 _ (((lay sb sE b k).map bV).set j (bV y)) :: _) at hS
      rw [← List.map_set, ← hst.out] at hS
      go_roundw
      case rel => exact ⟨k + 1, by go_num, by omega, hS⟩
      case measure => simp [intOf]; omega
    · have hk16 : k = 16 := by omega
      rw [hk16, HF.out] at hS
      have HQ := Lib.hid (show ((rowsE b).map bV).length = 16 by rw [List.length_map, rowsE_len])
      go_wp2_with (first | ((with_reducible show wpList _ _ _ (⟨some 38, Op.load _ _, _, _, _, _⟩ :: _) _ _); go_loud (apply S_ldAll hS; rfl; rfl; rfl; (focus ((repeat (first | exact .here | apply At.there)); done)); rfl; (first | rfl | (rw [HQ.out]; rfl) | (simp only [List.length_map, List.length_set]; rfl)))) | ((with_reducible show wpList _ _ _ (⟨_, Op.store _ _ _, _, _, _, _⟩ :: _) _ _); go_loud (apply S_stAll hS; rfl; rfl; rfl; rfl; (focus ((repeat (first | exact .here | apply At.there)); done)); (first | assumption | (rw [HQ.out]; rfl) | (focus (simp [bV, wV, Value.oneCell']; done)) | (focus (simp [bV, Value.oneCell']; done))); (first | rfl | (rw [HQ.out]; rfl)); (first | rfl | (rw [HQ.out]; rfl)); clear hS; intro w_ hS)))
      (try simp only [Exit.inBlock, Exit.then]); refine bodyPost_ret (results_cell_one hS rfl _ rfl (by focus ((repeat (first | exact .here | apply At.there)); done)) rfl (by rw [HQ.out]; rfl)) rfl ⟨rfl, hS.below⟩
end Go.Proofs.Ythamhaomfdgdjaa
