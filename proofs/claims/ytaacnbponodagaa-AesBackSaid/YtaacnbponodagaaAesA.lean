/- AES: awake. -/
import Derived.Test.YtaacnbponodagaaAesN
import Derived.Test.YtaacnbponodagaaRHex
namespace Go.Proofs.Ytaacnbponodagaa
open Go.RowKit

def k0 (k : Nat) : List UInt8 := (List.range k).map UInt8.ofNat
theorem k0_succ (k : Nat) : k0 (k + 1) = k0 k ++ [UInt8.ofNat k] := by unfold k0; rw [List.range_succ, List.map_append]; rfl
theorem k0_len (k : Nat) : (k0 k).length = k := by simp [k0]
def b0 (m : Nat) : List UInt8 := (List.range 16).map fun j => if j < m then UInt8.ofNat (17 * j) else 0
theorem b0_len (m : Nat) : (b0 m).length = 16 := by simp [b0]
theorem b0_set {m : Nat} (hm : m < 16) : (b0 m).set m (UInt8.ofNat (17 * m)) = b0 (m + 1) := by
  have hc : m = 0 ∨ m = 1 ∨ m = 2 ∨ m = 3 ∨ m = 4 ∨ m = 5 ∨ m = 6 ∨ m = 7 ∨ m = 8 ∨ m = 9 ∨ m = 10 ∨ m = 11 ∨ m = 12 ∨ m = 13 ∨ m = 14 ∨ m = 15 := by omega
  rcases hc with rfl | rfl | rfl | rfl | rfl | rfl | rfl | rfl | rfl | rfl | rfl | rfl | rfl | rfl | rfl | rfl <;> decide
theorem b0_zero : (b0 0).map bV = List.replicate 16 (.int .u8 0) := by rfl
theorem src1 {w : World} {b : Nat} {v : Value} (h : Rd w (some ⟨b, 0, none⟩) [v]) (h1 : v.oneCell' = true) : Src Try.prog 1 22 (.slice (some ⟨b, 0, none⟩) 1 1) 1 [v] w :=
  Src.of_rd (c := 1) Try.underlying22 h (fun u hu => by cases List.mem_singleton.1 hu; exact h1)
def ansH : List UInt8 := [56, 101, 97, 50, 98, 55, 99, 97, 53, 49, 54, 55, 52, 53, 98, 102, 101, 97, 102, 99, 52, 57, 57, 48, 52, 98, 52, 57, 54, 48, 56, 57]
set_option maxRecDepth 100000 in
set_option maxHeartbeats 8000000 in
theorem ex_enc : hexF (encF (keysF (k0 32)) (b0 16)) = ansH := by decide +kernel

set_option maxRecDepth 8000 in
set_option maxHeartbeats 1600000 in
theorem awake_any (w : World) : Calls Try.prog 7 #[] w fun e w' => e = .returned (.bool true) ∧ Below w.heap.size w w' := by
  have hS := St.start w
  have hz := Lib.hid b0_zero
  have c4 : ((str ansH).toList == [56, 101, 97, 50, 98, 55, 99, 97, 53, 49, 54, 55, 52, 53, 98, 102, 101, 97, 102, 99, 52, 57, 57, 48, 52, 98, 52, 57, 54, 48, 56, 57]) = true := by rw [str_toList]; rfl
  go_enter Try.func7, Try.ntmps7
  go_wp2_with (first | ((with_reducible show wpList _ _ _ (⟨some 2, Op.alloc _, _, _, _, _⟩ :: _) _ _); go_loud (refine S_alloc (z := .agg ([.int .u8 0, .int .u8 0, .int .u8 0, .int .u8 0, .int .u8 0, .int .u8 0, .int .u8 0, .int .u8 0, .int .u8 0, .int .u8 0, .int .u8 0, .int .u8 0, .int .u8 0, .int .u8 0, .int .u8 0, .int .u8 0] : List Value).toArray) (L := [.int .u8 0, .int .u8 0, .int .u8 0, .int .u8 0, .int .u8 0, .int .u8 0, .int .u8 0, .int .u8 0, .int .u8 0, .int .u8 0, .int .u8 0, .int .u8 0, .int .u8 0, .int .u8 0, .int .u8 0, .int .u8 0]) hS rfl rfl ?_ ?_ ?_; (show _ = _; kernel_rfl); (show _ = _; kernel_rfl); clear hS; intro b2 w_ hS)))
  replace hS := hS.nil 5 1
  go_loopw [1, 3] (fun v i wr => ∃ (k : Nat) (A : Option Addr) (c : Nat), k ≤ 32 ∧ i = .int .i64 (k : Int) ∧ v = .slice A k c ∧ St (Kp w) w wr [.own 5 1 (.slice A k c) k ((k0 k).map bV), .blk b2 28 (List.replicate 16 (.int .u8 0))]) (fun _ i _ => 32 - (intOf i).toNat)
  case atStart => exact ⟨0, none, 0, by omega, rfl, rfl, hS⟩
  case round =>
    clear hS
    obtain ⟨k, A, c, hk, rfl, rfl, hS⟩ := hrel
    by_cases hlt : k < 32
    · have hks := Lib.hid (k0_succ k)
      have hkv := Lib.hid (show Value.int .u8 (k : Int) = bV (UInt8.ofNat k) by unfold bV; rw [UInt8.toNat_ofNat_of_lt' (show k < 256 by omega)])
      go_wp2_with (first | ((with_reducible show wpList _ _ _ (⟨some 15, Op.buildSlice _ _ _, _, _, _, _⟩ :: _) _ _); go_loud (apply S_bslice hS; rfl; (go_simp; first | with_reducible rfl | (refine ⟨?_, ?_⟩ <;> with_reducible rfl)); rfl; rfl; rfl; rfl; clear hS; intro b15 w_ hS)) | ((with_reducible show wpList _ _ _ (⟨some 16, Op.call _, _, _, _, _⟩ :: _) _ _); go_loud (apply S_app TB hS; rfl; rfl; rfl; (focus ((repeat (first | exact .here | apply At.there)); done)); rfl; exact (src1 (hS.ownRd (A := some ⟨b15, 0, none⟩) (by focus ((repeat (first | exact .here | apply At.there)); done))) rfl); (unfold maxLen; omega); omega; clear hS; intro B d w_ hS; (try simp only [Nat.zero_add, List.nil_append] at hS ⊢))))
      go_roundw
      case rel => exact ⟨k + 1, B, d, by omega, by go_num, rfl, by rw [hks.out, List.map_append]; have := hS.drop; rw [hkv.out] at this; exact this⟩
      case measure => simp [intOf]; omega
    · have hk32 : k = 32 := by omega
      rw [← hz.out] at hS
      have hKL := Lib.hid (show (k0 k).length = 32 by rw [k0_len, hk32])
      have HK5 := Lib.hid hk32
      generalize hkk : k0 k = kk at *
      have HKK := Lib.hid (show True → k0 32 = kk from fun _ => by rw [← HK5.out]; exact hkk)
      clear hkk hk32
      go_wp2
      go_loopw [4] (fun i wr => ∃ m : Nat, m ≤ 16 ∧ i = .int .i64 (m : Int) ∧ St (Kp w) w wr [.own 5 1 (.slice A k c) k (kk.map bV), .blk b2 28 ((b0 m).map bV)]) (fun i _ => 16 - (intOf i).toNat)
      case atStart => exact ⟨0, by omega, rfl, hS⟩
      case round =>
        clear hS
        obtain ⟨m, hm, rfl, hS⟩ := hrel
        by_cases hlm : m < 16
        · have hst := Lib.hid (b0_set hlm)
          have hml : m < ((b0 m).map bV).length := by rw [List.length_map, b0_len]; exact hlm
          have hmv := Lib.hid (show Value.int .u8 (17 * (m : Int)) = bV (UInt8.ofNat (17 * m)) by unfold bV; rw [UInt8.toNat_ofNat_of_lt' (show 17 * m < 256 by omega)]; congr 1)
          have hm255 : 17 * (m : Int) < 256 := by omega
          go_wp2_with (first | ((with_reducible show wpList _ _ _ (⟨_, Op.store _ _ _, _, _, _, _⟩ :: _) _ _); go_loud (first | (apply S_st hS; rfl; rfl; rfl; (focus ((conv => lhs; whnf) <;> rfl)); (focus ((repeat (first | exact .here | apply At.there)); done)); rfl; rfl; (first | (assumption) | decide | assumption | (simp only [List.length_map, List.length_set, List.length_replicate, List.length_append, List.length_cons, List.length_nil]; omega)); clear hS; intro w_ hS; (try simp only [List.set_cons_zero, List.set_cons_succ] at hS)) | (apply S_stOwn hS; rfl; rfl; rfl; (focus ((conv => lhs; whnf) <;> rfl)); (focus ((repeat (first | exact .here | apply At.there)); done)); rfl; rfl; (first | decide | assumption | omega); clear hS; intro w_ hS; (try simp only [List.set_cons_zero, List.set_cons_succ] at hS)))))
          rw [hmv.out, ← List.map_set, hst.out] at hS
          go_roundw
          case rel => exact ⟨m + 1, by omega, by go_num, hS⟩
          case measure => simp [intOf]; omega
        · have hm16 : m = 16 := by omega
          subst hm16
          have hk32 := HK5.out
          clear HK5
          subst hk32
          have hBL := Lib.hid (b0_len 16)
          have hKS := Lib.hid (keysF_len hKL.out)
          have hEN := Lib.hid (show True → hexF (encF (keysF kk) (b0 16)) = ansH from fun _ => by rw [← HKK.out trivial]; exact ex_enc)
          generalize b0 16 = bb at *
          have hEL := Lib.hid (encF_len hKS.out hBL.out)
          have hbl := Lib.hid (show (bb.map bV).length = 16 by rw [List.length_map]; exact hBL.out)
          have hel := Lib.hid (show ((encF (keysF kk) bb).map bV).length = 16 by rw [List.length_map]; exact hEL.out)
          go_wp2_with (first | (go_at_call 8; refine (new_any A c kk _ hKL.out (hS.ownRd (A := A) (by focus ((repeat (first | exact .here | apply At.there)); done))) (hS.ownCap (A := A) (by focus ((repeat (first | exact .here | apply At.there)); done)))).mono ?_; rintro e w_ ⟨bC, rfl, hge_, hB_, hb_⟩; replace hS := hS.gotBlk hb_ hge_ hB_; clear hb_ hge_ hB_; generalize keysF kk = K at *) | ((with_reducible show wpList _ _ _ (⟨some 38, Op.load _ _, _, _, _, _⟩ :: _) _ _); go_loud (apply S_ldAll hS; rfl; rfl; rfl; (focus ((repeat (first | exact .here | apply At.there)); done)); rfl; (first | rfl | (rw [hbl.out]; rfl) | (simp only [List.length_map, List.length_set]; rfl)))) | (go_at_call 9; refine (encrypt_any bC K bb _ (hS.blkRd (b := bC) (by focus ((repeat (first | exact .here | apply At.there)); done))) (hS.blkLt (b := bC) (by focus ((repeat (first | exact .here | apply At.there)); done))) hBL.out hKS.out).mono ?_; rintro e w_ ⟨rfl, hb_⟩; replace hS := hS.ext hb_; clear hb_) | ((with_reducible show wpList _ _ _ (⟨some 7, Op.alloc _, _, _, _, _⟩ :: _) _ _); go_loud (refine S_alloc (z := .agg ([.int .u8 0, .int .u8 0, .int .u8 0, .int .u8 0, .int .u8 0, .int .u8 0, .int .u8 0, .int .u8 0, .int .u8 0, .int .u8 0, .int .u8 0, .int .u8 0, .int .u8 0, .int .u8 0, .int .u8 0, .int .u8 0] : List Value).toArray) (L := [.int .u8 0, .int .u8 0, .int .u8 0, .int .u8 0, .int .u8 0, .int .u8 0, .int .u8 0, .int .u8 0, .int .u8 0, .int .u8 0, .int .u8 0, .int .u8 0, .int .u8 0, .int .u8 0, .int .u8 0, .int .u8 0]) hS rfl rfl ?_ ?_ ?_; (show _ = _; kernel_rfl); (show _ = _; kernel_rfl); clear hS; intro b7 w_ hS)) | ((with_reducible show wpList _ _ _ (⟨_, Op.store _ _ _, _, _, _, _⟩ :: _) _ _); go_loud (apply S_stAll hS; rfl; rfl; rfl; rfl; (focus ((repeat (first | exact .here | apply At.there)); done)); (first | assumption | (rw [hel.out]; rfl) | (focus (simp [bV, wV, Value.oneCell']; done)) | (focus (simp [bV, Value.oneCell']; done))); (first | rfl | (rw [hel.out]; rfl)); (first | rfl | (rw [hel.out]; rfl)); clear hS; intro w_ hS)) | (go_at_call 13; refine (refHex_any _ 16 _ (encF K bb) _ hEL.out (hS.blkRd (b := b7) (by focus ((repeat (first | exact .here | apply At.there)); done))) (by decide)).mono ?_; rw [hEN.out trivial]; rintro e w_ ⟨rfl, hb_⟩; replace hS := hS.ext hb_; clear hb_))
          go_ret
          exact ⟨rfl, hS.below⟩
end Go.Proofs.Ytaacnbponodagaa
