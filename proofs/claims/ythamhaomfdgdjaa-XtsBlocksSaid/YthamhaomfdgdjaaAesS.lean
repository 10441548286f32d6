/- AES: rows backward. -/
import Derived.Test.YthamhaomfdgdjaaAesR
namespace Go.Proofs.Ythamhaomfdgdjaa
open Go.RowKit

set_option maxRecDepth 8000 in
set_option maxHeartbeats 1600000 in
theorem rowsD_any (bC off : Nat) (b : List UInt8) (w : World) (hT : Rd w (some ⟨bC, off, none⟩) (bkT.map bV)) (hb : b.length = 16) :
    Calls Try.prog 26 #[.agg (b.map bV).toArray, .pointer (some ⟨bC, off, none⟩), .int .i64 (-1)] w fun e w' => e = .returned (.agg ((rowsD b).map bV).toArray) ∧ Below w.heap.size w w' := by
  have hS := St.start w
  have HT := Lib.hid hT
  have HB := Lib.hid hb
  have HL := Lib.hid (show (b.map bV).length = 16 by rw [List.length_map]; exact hb)
  have HF := Lib.hid (lay_D hb)
  have hz := Lib.hid (lay_zero bk sD b)
  clear hT hb
  have hix := Lib.hid (show ∀ k : Nat, k < 16 → ∀ wx, (Instr.index 42 (.agg (b.map bV).toArray) (.int .i64 (k : Int))).run Try.prog wx = .ok (.int .u8 ((b.getD k 0).toNat : Int)) wx from fun k hk wx => run_index_agg (e := 5) (q := .u8) wx Try.underlying42 Try.underlying5 (by kernel_rfl) hk (by rw [List.getElem?_toArray]; exact mapGetB (by rw [HB.out]; exact hk)))
  go_enter Try.func26, Try.ntmps26
  go_wp2_with (first | ((with_reducible show wpList _ _ _ (⟨some 3, Op.box _ _, _, _, _, _⟩ :: _) _ _); go_loud (apply S_box hS; rfl; rfl; (focus ((conv => lhs; whnf) <;> rfl)); rfl; clear hS; intro b3 w_ hS)) | ((with_reducible show wpList _ _ _ (⟨some 6, Op.alloc _, _, _, _, _⟩ :: _) _ _); go_loud (refine S_alloc (z := .agg ([.int .u8 0, .int .u8 0, .int .u8 0, .int .u8 0, .int .u8 0, .int .u8 0, .int .u8 0, .int .u8 0, .int .u8 0, .int .u8 0, .int .u8 0, .int .u8 0, .int .u8 0, .int .u8 0, .int .u8 0, .int .u8 0] : List Value).toArray) (L := [.int .u8 0, .int .u8 0, .int .u8 0, .int .u8 0, .int .u8 0, .int .u8 0, .int .u8 0, .int .u8 0, .int .u8 0, .int .u8 0, .int .u8 0, .int .u8 0, .int .u8 0, .int .u8 0, .int .u8 0, .int .u8 0]) hS rfl rfl ?_ ?_ ?_; (show _ = _; kernel_rfl); (show _ = _; kernel_rfl); clear hS; intro b6 w_ hS)) | ((with_reducible show wpList _ _ _ (⟨some 7, Op.alloc _, _, _, _, _⟩ :: _) _ _); go_loud (refine S_alloc (z := .agg ([.int .u8 0, .int .u8 0, .int .u8 0, .int .u8 0, .int .u8 0, .int .u8 0, .int .u8 0, .int .u8 0, .int .u8 0, .int .u8 0, .int .u8 0, .int .u8 0, .int .u8 0, .int .u8 0, .int .u8 0, .int .u8 0] : List Value).toArray) (L := [.int .u8 0, .int .u8 0, .int .u8 0, .int .u8 0, .int .u8 0, .int .u8 0, .int .u8 0, .int .u8 0, .int .u8 0, .int .u8 0, .int .u8 0, .int .u8 0, .int .u8 0, .int .u8 0, .int .u8 0, .int .u8 0]) hS rfl rfl ?_ ?_ ?_; (show _ = _; kernel_rfl); (show _ = _; kernel_rfl); clear hS; intro b7 w_ hS)) | ((with_reducible show wpList _ _ _ (⟨some 12, Op.load _ _, _, _, _, _⟩ :: _) _ _); go_loud (apply S_ldAll hS; rfl; rfl; rfl; (focus ((repeat (first | exact .here | apply At.there)); done)); rfl; (first | rfl | (rw [HL.out]; rfl) | (simp only [List.length_map, List.length_set]; rfl)))))
  go_loopw [13] (fun i wr => ∃ k : Nat, i = .int .i64 (k : Int) ∧ k ≤ 16 ∧ St (Kp w) w wr [.blk b7 42 ((lay bk sD b k).map bV), .blk b6 42 (List.replicate 16 (.int .u8 0))]) (fun i _ => 16 - (intOf i).toNat)
  case atStart => exact ⟨0, rfl, by omega, by rw [hz.out]; exact hS.sub (by simp)⟩
  case round =>
    clear hS hz
    obtain ⟨k, rfl, hk, hS⟩ := hrel
    by_cases hlt : k < 16
    · have hi := hix.out k hlt
      have hst := Lib.hid (lay_succ bk sD b k)
      obtain ⟨r, c, hr, hc, hkr⟩ : ∃ r c, r < 4 ∧ c < 4 ∧ k = 4 * c + r := ⟨k % 4, k / 4, by omega, by omega, by omega⟩
      have f1 : (k : Int) % 4 = (r : Int) := by omega
      have f2 : (k : Int) / 4 = (c : Int) := by omega
      have HKR := Lib.hid hkr
      clear hkr
      have hj : ((c : Int) + (r : Int) + 8) % 4 * 4 + (r : Int) = ((sD k : Nat) : Int) := by unfold sD; omega
      have hj16 : sD k < 16 := by unfold sD; omega
      generalize b.getD k 0 = x at *
      generalize sD k = j at *
      have hx256 : (x.toNat : Int) < 256 := by have := x.toNat_lt; omega
      have HX := Lib.hid (show ∀ wx : World, Rd wx (some ⟨bC, off, none⟩) (bkT.map bV) → wx.cell? ⟨bC, off + x.toNat, none⟩ = some (.int .u8 ((bk x).toNat : Int)) from fun wx h => (h.cell (i := x.toNat) (by rw [List.length_map]; exact x.toNat_lt)).trans (mapGetB (by exact x.toNat_lt)))
      generalize bk x = y at *
      have hjl : j < ((lay bk sD b k).map bV).length := by rw [List.length_map, lay_len]; exact hj16
      go_wp2_with (first | ((with_reducible show wpList _ _ _ (⟨some 35, Op.load _ _, _, _, _, _⟩ :: _) _ _); go_loud (refine S_val rfl (run_ld rfl rfl rfl (HX.out _ (hS.rdp HT.out))) ?_)) | ((with_reducible show wpList _ _ _ (⟨_, Op.store _ _ _, _, _, _, _⟩ :: _) _ _); go_loud (first | (apply S_st hS; rfl; rfl; rfl; (focus ((conv => lhs; whnf) <;> rfl)); (focus ((repeat (first | exact .here | apply At.there)); done)); rfl; rfl; (first | (assumption) | decide | assumption | (simp only [List.length_map, List.length_set, List.length_replicate, List.length_append, List.length_cons, List.length_nil]; omega)); clear hS; intro w_ hS; (try simp only [List.set_cons_zero, List.set_cons_succ] at hS)) | (apply S_stOwn hS; rfl; rfl; rfl; (focus ((conv => lhs; whnf) <;> rfl)); (focus ((repeat (first | exact .here | apply At.there)); done)); rfl; rfl; (first | decide | assumption | omega); clear hS; intro w_ hS; (try simp only [List.set_cons_zero, List.set_cons_succ] at hS)))))
      change St _ _ _ (.blk b7 _ (((lay bk sD b k).map bV).set j (bV y)) :: _) at hS
      rw [← List.map_set, ← hst.out] at hS
      go_roundw
      case rel => exact ⟨k + 1, by go_num, by omega, hS⟩
      case measure => simp [intOf]; omega
    · have hk16 : k = 16 := by omega
      rw [hk16, HF.out] at hS
      have HQ := Lib.hid (show ((rowsD b).map bV).length = 16 by rw [List.length_map, rowsD_len])
      go_wp2_with (first | ((with_reducible show wpList _ _ _ (⟨some 38, Op.load _ _, _, _, _, _⟩ :: _) _ _); go_loud (apply S_ldAll hS; rfl; rfl; rfl; (focus ((repeat (first | exact .here | apply At.there)); done)); rfl; (first | rfl | (rw [HQ.out]; rfl) | (simp only [List.length_map, List.length_set]; rfl)))) | ((with_reducible show wpList _ _ _ (⟨_, Op.store _ _ _, _, _, _, _⟩ :: _) _ _); go_loud (apply S_stAll hS; rfl; rfl; rfl; rfl; (focus ((repeat (first | exact .here | apply At.there)); done)); (first | assumption | (rw [HQ.out]; rfl) | (focus (simp [bV, wV, Value.oneCell']; done)) | (focus (simp [bV, Value.oneCell']; done))); (first | rfl | (rw [HQ.out]; rfl)); (first | rfl | (rw [HQ.out]; rfl)); clear hS; intro w_ hS)))
      (try simp only [Exit.inBlock, Exit.then]); refine bodyPost_ret (results_cell_one hS rfl _ rfl (by focus ((repeat (first | exact .here | apply At.there)); done)) rfl (by rw [HQ.out]; rfl)) rfl ⟨rfl, hS.below⟩
end Go.Proofs.Ythamhaomfdgdjaa
