/- AES: the key's expansion, its first loop. -/
import Derived.Test.YthamhaomfdgdjaaAesT
import Derived.Test.YthamhaomfdgdjaaAesK
import Derived.Test.YthamhaomfdgdjaaAgg
import Derived.Test.YthamhaomfdgdjaaCpy
namespace Go.Proofs.Ythamhaomfdgdjaa
open Go.RowKit
set_option linter.unusedVariables false
set_option linter.unusedSimpArgs false

def zW (key : List UInt8) (i : Nat) : List UInt8 := kx key i ++ List.replicate (240 - 4 * i) 0
theorem zW_len {key : List UInt8} (hk : key.length = 32) {i : Nat} (hi : i ≤ 60) : (zW key i).length = 240 := by unfold zW; rw [List.length_append, kx_len hk, List.length_replicate]; omega
theorem zW_wL {key : List UInt8} (hk : key.length = 32) (i : Nat) (v : List UInt8) : zW key i = wL (kx key i) v 0 := by rw [wL_zero, kx_len hk]; rfl
theorem zW_zero (key : List UInt8) : (zW key 0).map bV = List.replicate 240 (.int .u8 0) := by
  unfold zW kx; rw [List.nil_append, List.map_replicate]; rfl
theorem splice_word {key v : List UInt8} (hk : key.length = 32) {i : Nat} (hi : i < 60) (hv : v.length = 4) : splice ((zW key i).map bV) (i * 4) (v.map bV) = (kx key i ++ v ++ List.replicate (240 - 4 * (i + 1)) 0).map bV := by
  have hl : ((kx key i).map bV).length = i * 4 := by rw [List.length_map, kx_len hk]; omega
  unfold splice zW
  rw [List.map_append, List.take_append_of_le_length (by omega), List.take_of_length_le (by omega), List.drop_append, hl, List.drop_of_length_le (by rw [hl, List.length_map]; omega), List.nil_append, ← List.map_drop, List.drop_replicate, List.length_map, hv, List.map_append, List.map_append]
  rw [show 240 - 4 * i - (i * 4 + 4 - i * 4) = 240 - 4 * (i + 1) by omega, List.append_assoc]
theorem zW_next8 {key : List UInt8} {i : Nat} (hi : i < 8) : kx key i ++ wd key i ++ List.replicate (240 - 4 * (i + 1)) 0 = zW key (i + 1) := by
  unfold zW; rw [kx, if_pos hi]
theorem zW_next {key : List UInt8} (hk : key.length = 32) {i : Nat} (hi : 8 ≤ i) (h60 : i < 60) : wL (kx key i) (xorF (wd (kx key i) (i - 8)) (tw (wd (kx key i) (i - 1)) i)) 4 = zW key (i + 1) := by
  have hv : (xorF (wd (kx key i) (i - 8)) (tw (wd (kx key i) (i - 1)) i)).length = 4 := by
    rw [xorF_length, wd_len (by rw [kx_len hk]; omega), tw_len (wd_len (by rw [kx_len hk]; omega))]; rfl
  have := wL_end (A := kx key i) (v := xorF (wd (kx key i) (i - 8)) (tw (wd (kx key i) (i - 1)) i)) (by rw [hv, kx_len hk]; omega)
  rw [hv] at this
  rw [this, List.length_append, hv, kx_len hk]
  unfold zW
  rw [kx, if_neg (by omega)]
  congr 2
theorem zW_word {key : List UInt8} (hk : key.length = 32) {i l : Nat} (hl : l < i) : (((zW key i).map bV).drop (l * 4)).take 4 = (wd (kx key i) l).map bV := by
  unfold zW wd
  have hkl := kx_len hk i
  rw [← List.map_drop, ← List.map_take, List.drop_append_of_le_length (by omega), List.take_append_of_le_length (by rw [List.length_drop]; omega), Nat.mul_comm l 4]
theorem uL_get (b : List UInt8) (x : UInt8) : (uL b)[x.toNat]? = some (.int .u8 ((sb x).toNat : Int)) := by
  unfold uL
  rw [List.map_append, List.getElem?_append_left (by rw [List.length_map, sbT_len]; exact x.toNat_lt)]
  exact mapGetB (by rw [sbT_len]; exact x.toNat_lt)

/-- The cipher's cells, when k words are laid. -/
def cL (K : List UInt8) (k : Nat) : List Value := (sbT ++ bkT ++ (K.take (4 * k) ++ List.replicate (240 - 4 * k) 0)).map bV
theorem bkT_len : bkT.length = 256 := by decide +kernel
theorem cL_zero (K : List UInt8) : cL K 0 = uL bkT := by
  unfold cL uL; rw [Nat.mul_zero, List.take_zero, List.nil_append, List.append_assoc]
theorem cL_len {K : List UInt8} (hK : K.length = 240) {k : Nat} (hk : k ≤ 60) : (cL K k).length = 752 := by
  unfold cL; rw [List.length_map, List.length_append, List.length_append, sbT_len, bkT_len, List.length_append, List.length_take, hK, List.length_replicate]; omega
theorem cL_end {K : List UInt8} (hK : K.length = 240) : cL K 60 = ciC K := by
  unfold cL ciC; rw [List.take_of_length_le (by omega), show 240 - 4 * 60 = 0 from rfl, List.replicate_zero, List.append_nil]
theorem cL_next {K : List UInt8} (hK : K.length = 240) {k : Nat} (hk : k < 60) : splice (cL K k) (512 + 4 * k) ((wd K k).map bV) = cL K (k + 1) := by
  have hw := wd_len (W := K) (i := k) (by omega)
  have hl : (sbT ++ bkT ++ K.take (4 * k)).length = 512 + 4 * k := by rw [List.length_append, List.length_append, sbT_len, bkT_len, List.length_take, hK]; omega
  have e1 : cL K k = (sbT ++ bkT ++ K.take (4 * k) ++ List.replicate (240 - 4 * k) 0).map bV := by unfold cL; rw [List.append_assoc (sbT ++ bkT)]
  have e2 : cL K (k + 1) = (sbT ++ bkT ++ K.take (4 * k) ++ (wd K k ++ List.replicate (240 - 4 * (k + 1)) 0)).map bV := by
    unfold cL wd
    rw [List.append_assoc (sbT ++ bkT) (K.take (4 * k)), ← List.append_assoc (K.take (4 * k)), show 4 * (k + 1) = 4 * k + 4 by omega, List.take_add]
  rw [e1, e2]
  generalize sbT ++ bkT ++ K.take (4 * k) = X at *
  unfold splice
  rw [← List.map_take, ← List.map_drop, ← List.map_append, ← List.map_append, List.take_append_of_le_length (by omega), List.take_of_length_le (by omega), List.length_map, hw, List.drop_append, hl, List.drop_of_length_le (by omega), List.nil_append, List.drop_replicate]
  rw [show 240 - 4 * k - (512 + 4 * k + 4 - (512 + 4 * k)) = 240 - 4 * (k + 1) by omega]
theorem run_slArr {b off s : Nat} (w : World) (hs : s < 16) : (Instr.sliceAt 42 (.pointer (some ⟨b, off, none⟩)) (some (.int .i64 (s : Int))) none none).run Try.prog w = .ok (.slice (some ⟨b, off + s, none⟩) (16 - s) (16 - s)) w := by
  have k2 : (0 : Int) ≤ (s : Int) ∧ (s : Int) ≤ (16 : Int) := by omega
  have b1 : (Instr.sliceBounds false 16 16 (some (.int .i64 (s : Int))) none none).run Try.prog w = .ok (s, 16, 16) w := by
    simp [Instr.sliceBounds, Instr.sliceBound, asIntOf, k2]
    omega
  have hsz : (Try.prog.info? 5).map (·.size) = some 1 := by kernel_rfl
  simp only [Instr.sliceAt, Sem.run_bind, run_underlying Try.underlying42, Result.andThen_ok, Instr.sureAddr, Sem.run_pure, b1, run_sizeOf hsz, Nat.mul_one]
  rw [if_neg (by omega), addr_add]
theorem run_index_word {K : List UInt8} {i : Nat} (w : World) (hK : K.length = 240) (hi : i < 60) :
    (Instr.index 76 (.agg (K.map bV).toArray) (.int .i64 (i : Int))).run Try.prog w = .ok (.agg ((wd K i).map bV).toArray) w := by
  have h1 : 0 ≤ (i : Int) ∧ (i : Int) < (60 : Int) := by omega
  obtain ⟨x, hq⟩ : ∃ x, Try.prog.info? 66 = some x := by
    cases h : Try.prog.info? 66 with
    | some x => exact ⟨x, rfl⟩
    | none => exact absurd (show (Try.prog.info? 66).isSome = true by kernel_rfl) (by rw [h]; decide)
  have hx : x.size = 4 := by
    have : (Try.prog.info? 66).map (·.size) = some 4 := by kernel_rfl
    rw [hq] at this; simpa using this
  simp [Instr.index, run_underlying Try.underlying76, run_underlying Try.underlying66, asIntOf, h1, hi, Go.sizeOf, typeInfo, hq, hx, isAgg, Go.part, go_sem]
  unfold wd
  rw [← List.map_drop, ← List.map_take, Nat.mul_comm i 4]

set_option maxRecDepth 8000 in
set_option maxHeartbeats 6400000 in
theorem expand1_any (bC : Nat) (A1 : Option Addr) (c1 : Nat) (key : List UInt8) (w : World) (hC : Blk w bC 64 (uL bkT)) (hk : key.length = 32) (hr : RdB w A1 key) (hne : ∀ ad, A1 = some ad → ad.block ≠ bC) (hc : 32 ≤ c1) :
    Calls Try.prog 31 #[.pointer (some ⟨bC, 0, none⟩), .slice A1 32 c1] w fun e w' => e = .returned (.tuple #[]) ∧ w.grownBy w' (some bC) ∧ Blk w' bC 64 (ciC (keysF key)) := by
  have hS := St.start1 (x := .blk bC 64 (uL bkT)) (w := w) hC (b := bC) rfl
  have HK := Lib.hid hk
  have HR := Lib.hid hr
  have HNE := Lib.hid hne
  have hz := Lib.hid (zW_zero key)
  clear hC hk hr hne
  have HGET := Lib.hid (fun x => uL_get bkT x)
  generalize hLU : uL bkT = LU at *
  have HLU := Lib.hid (show True → uL bkT = LU from fun _ => hLU)
  clear hLU
  go_enter Try.func31, Try.ntmps31
  go_wp2_with (first | ((with_reducible show wpList _ _ _ (⟨some 4, Op.alloc _, _, _, _, _⟩ :: _) _ _); go_loud (refine S_alloc (z := .agg (List.replicate 240 (.int .u8 0)).toArray) (L := (List.replicate 240 (.int .u8 0))) hS rfl rfl ?_ ?_ ?_; (show _ = _; kernel_rfl); (show _ = _; kernel_rfl); clear hS; intro b4 w_ hS)))
  rw [← hz.out] at hS
  go_loopw [5, 12] (fun p i wr => ∃ k : Nat, i = .int .i64 (k : Int) ∧ k ≤ 60 ∧ p = .int .u8 ((pwr ((k - 1) / 8)).toNat : Int) ∧ St (Km w bC) w wr [.blk b4 76 ((zW key k).map bV), .blk bC 64 LU]) (fun _ i _ => 60 - (intOf i).toNat)
  case atStart => exact ⟨0, rfl, by omega, rfl, hS⟩
  case round =>
    clear hS hz
    obtain ⟨k, rfl, hk60, rfl, hS⟩ := hrel
    by_cases hlt : k < 60
    · have hwl := Lib.hid (show ((zW key k).map bV).length = 240 by rw [List.length_map]; exact zW_len HK.out hk60)
      by_cases h8 : k < 8
      · obtain ⟨q, hq⟩ : ∃ q : Nat, q = 4 * k := ⟨_, rfl⟩
        have g3 : IntKind.i64.wrap (4 * (k : Int)) = 4 * (k : Int) := by rw [IntKind.wrap_i64]; omega
        have g4 : 4 * (k : Int) = (q : Int) := by omega
        have hq28 : q ≤ 28 := by omega
        have HQ := Lib.hid hq
        clear hq
        have hc8 : (k : Int) < 8 := by omega
        have hrd := Lib.hid (show ∀ wx, RdB wx A1 key → Rd wx (cutA A1 c1 q) ((key.drop q).map bV) from fun wx h => by have := Rd.cut (l := q) h (c := c1) (by rw [List.length_map, HK.out]; exact hc); rwa [← List.map_drop] at this)
        have htk := Lib.hid (show ((key.drop q).map bV).take 4 = (wd key k).map bV by rw [← List.map_take]; unfold wd; rw [HQ.out])
        have hwk := Lib.hid (show ((wd key k).map bV).length = 4 by rw [List.length_map]; exact wd_len (by rw [HK.out]; omega))
        have hsp := Lib.hid (show splice ((zW key k).map bV) (k * 4) ((wd key k).map bV) = (zW key (k + 1)).map bV by rw [splice_word HK.out hlt (by rw [← List.length_map (f := bV)]; exact hwk.out), zW_next8 h8])
        have hpw := Lib.hid (show pwr ((k + 1 - 1) / 8) = pwr ((k - 1) / 8) by rw [show (k + 1 - 1) / 8 = (k - 1) / 8 by omega])
        go_wp2_with (first | ((with_reducible show wpList _ _ _ (⟨some 21, Op.slice _ _ _ _ _, _, _, _, _⟩ :: _) _ _); go_loud (apply S_slice; rfl; rfl; rfl; (first | exact SB.no | exact SB.so | exact SB.lit (by decide)); (first | exact SB.no | exact SB.so | exact SB.lit (by decide)); rfl; rfl; (first | assumption | (focus (simp; done)) | (focus (simp; omega)) | omega); (first | assumption | (focus (simp; done)) | (focus (simp; omega)) | omega))) | ((with_reducible show wpList _ _ _ (⟨some 22, Op.sliceToArrayPointer _ _, _, _, _, _⟩ :: _) _ _); go_loud (apply S_s2a; rfl; rfl; rfl; rfl; omega)) | ((with_reducible show wpList _ _ _ (⟨some 23, Op.load _ _, _, _, _, _⟩ :: _) _ _); go_loud (apply S_ldRdPart (m := 4) (hrd.out _ (hS.rdm HR.out HNE.out)); rfl; rfl; rfl; rfl; rfl; (rw [List.length_map, List.length_drop, HK.out]; omega); decide; rw [htk.out])) | ((with_reducible show wpList _ _ _ (⟨_, Op.store _ _ _, _, _, _, _⟩ :: _) _ _); go_loud (apply S_stPart hS; rfl; rfl; rfl; rfl; (focus ((repeat (first | exact .here | apply At.there)); done)); exact one_bV _; (rw [hwk.out]; rfl); (rw [hwk.out, hwl.out]; omega); clear hS; intro w_ hS; rw [hsp.out] at hS)))
        go_roundw
        case rel => exact ⟨k + 1, by go_num, by omega, by rw [hpw.out], hS⟩
        case measure => simp [intOf]; omega
      · obtain ⟨j, hj⟩ : ∃ j : Nat, k = j + 8 := ⟨k - 8, by omega⟩
        obtain ⟨l, hl⟩ : ∃ l : Nat, k = l + 1 := ⟨k - 1, by omega⟩
        have c8 : ¬ (k : Int) < 8 := by omega
        have g1 : (k : Int) - 1 = (l : Int) := by omega
        have g8 : (k : Int) - 8 = (j : Int) := by omega
        have l60 : (l : Int) < 60 := by omega
        have j60 : (j : Int) < 60 := by omega
        have k60 : (k : Int) < 60 := by omega
        have ll60 : l * 4 + 4 ≤ 240 := by omega
        have hword := Lib.hid (zW_word HK.out (i := k) (l := l) (by omega))
        obtain ⟨t0, t1, t2, t3, ht⟩ : ∃ t0 t1 t2 t3, wd (kx key k) l = [t0, t1, t2, t3] := by
          have h4 := wd_len (W := kx key k) (i := l) (by rw [kx_len HK.out]; omega)
          match hw : wd (kx key k) l, h4 with
          | [a, b, c, d], _ => exact ⟨a, b, c, d, rfl⟩
        rw [ht] at hword
        have HT := Lib.hid (show wd (kx key k) (k - 1) = [t0, t1, t2, t3] by rw [← ht, hl]; rfl)
        have HKX := Lib.hid (kx_len HK.out k)
        have HJ := Lib.hid hj
        clear ht hj hl
        by_cases ha : k % 8 = 0
        · as_aux_lemma =>
            have e0 : (k : Int) % 8 = 0 := by omega
            go_upto_region 12 with (first | ((with_reducible show wpList _ _ _ (⟨some 28, Op.load _ _, _, _, _, _⟩ :: _) _ _); go_loud (apply S_ldPart (m := 4) hS; rfl; rfl; rfl; (focus ((repeat (first | exact .here | apply At.there)); done)); rfl; rfl; ((rw [hwl.out]; exact ll60)); (rw [hword.out]))) | ((with_reducible show wpList _ _ _ (⟨some 7, Op.alloc _, _, _, _, _⟩ :: _) _ _); go_loud (refine S_alloc (z := .agg ([.int .u8 0, .int .u8 0, .int .u8 0, .int .u8 0] : List Value).toArray) (L := [.int .u8 0, .int .u8 0, .int .u8 0, .int .u8 0]) hS rfl rfl ?_ ?_ ?_; (show _ = _; kernel_rfl); (show _ = _; kernel_rfl); clear hS; intro b7 w_ hS)) | ((with_reducible show wpList _ _ _ (⟨some 36, Op.load _ _, _, _, _, _⟩ :: _) _ _); go_loud (first | (apply S_ld hS; rfl; rfl; rfl; (focus ((repeat (first | exact .here | apply At.there)); done)); rfl; (first | fail | assumption | rfl | exact mapGetB (by first | assumption | (simp only [List.length_map, List.length_set, List.length_replicate, List.length_append, List.length_cons, List.length_nil]; omega)) | exact mapGet _ (by first | assumption | (simp only [List.length_map, List.length_set, List.length_replicate, List.length_append, List.length_cons, List.length_nil]; omega)))) | (apply S_ldOwn hS; rfl; rfl; rfl; (focus ((repeat (first | exact .here | apply At.there)); done)); rfl; (first | rfl | exact mapGetB (by first | assumption | (simp only [List.length_map, List.length_set, List.length_replicate, List.length_append, List.length_cons, List.length_nil]; omega)) | exact mapGet _ (by first | assumption | (simp only [List.length_map, List.length_set, List.length_replicate, List.length_append, List.length_cons, List.length_nil]; omega)))))) | ((with_reducible show wpList _ _ _ (⟨some 38, Op.load _ _, _, _, _, _⟩ :: _) _ _); go_loud (first | (apply S_ld hS; rfl; rfl; rfl; (focus ((repeat (first | exact .here | apply At.there)); done)); rfl; (first | fail | assumption | rfl | exact mapGetB (by first | assumption | (simp only [List.length_map, List.length_set, List.length_replicate, List.length_append, List.length_cons, List.length_nil]; omega)) | exact mapGet _ (by first | assumption | (simp only [List.length_map, List.length_set, List.length_replicate, List.length_append, List.length_cons, List.length_nil]; omega)))) | (apply S_ldOwn hS; rfl; rfl; rfl; (focus ((repeat (first | exact .here | apply At.there)); done)); rfl; (first | rfl | exact mapGetB (by first | assumption | (simp only [List.length_map, List.length_set, List.length_replicate, List.length_append, List.length_cons, List.length_nil]; omega)) | exact mapGet _ (by first | assumption | (simp only [List.length_map, List.length_set, List.length_replicate, List.length_append, List.length_cons, List.length_nil]; omega)))))) | ((with_reducible show wpList _ _ _ (⟨some 40, Op.load _ _, _, _, _, _⟩ :: _) _ _); go_loud (first | (apply S_ld hS; rfl; rfl; rfl; (focus ((repeat (first | exact .here | apply At.there)); done)); rfl; (first | fail | assumption | rfl | exact mapGetB (by first | assumption | (simp only [List.length_map, List.length_set, List.length_replicate, List.length_append, List.length_cons, List.length_nil]; omega)) | exact mapGet _ (by first | assumption | (simp only [List.length_map, List.length_set, List.length_replicate, List.length_append, List.length_cons, List.length_nil]; omega)))) | (apply S_ldOwn hS; rfl; rfl; rfl; (focus ((repeat (first | exact .here | apply At.there)); done)); rfl; (first | rfl | exact mapGetB (by first | assumption | (simp only [List.length_map, List.length_set, List.length_replicate, List.length_append, List.length_cons, List.length_nil]; omega)) | exact mapGet _ (by first | assumption | (simp only [List.length_map, List.length_set, List.length_replicate, List.length_append, List.length_cons, List.length_nil]; omega)))))) | ((with_reducible show wpList _ _ _ (⟨some 42, Op.load _ _, _, _, _, _⟩ :: _) _ _); go_loud (first | (apply S_ld hS; rfl; rfl; rfl; (focus ((repeat (first | exact .here | apply At.there)); done)); rfl; (first | fail | assumption | rfl | exact mapGetB (by first | assumption | (simp only [List.length_map, List.length_set, List.length_replicate, List.length_append, List.length_cons, List.length_nil]; omega)) | exact mapGet _ (by first | assumption | (simp only [List.length_map, List.length_set, List.length_replicate, List.length_append, List.length_cons, List.length_nil]; omega)))) | (apply S_ldOwn hS; rfl; rfl; rfl; (focus ((repeat (first | exact .here | apply At.there)); done)); rfl; (first | rfl | exact mapGetB (by first | assumption | (simp only [List.length_map, List.length_set, List.length_replicate, List.length_append, List.length_cons, List.length_nil]; omega)) | exact mapGet _ (by first | assumption | (simp only [List.length_map, List.length_set, List.length_replicate, List.length_append, List.length_cons, List.length_nil]; omega)))))) | ((with_reducible show wpList _ _ _ (⟨some 43, Op.build _ _, _, _, _, _⟩ :: _) _ _); go_loud (apply S_build (L := ([t1, t2, t3, t0] : List UInt8).map bV); rfl; rfl; kernel_rfl)) | ((with_reducible show wpList _ _ _ (⟨_, Op.store _ _ _, _, _, _, _⟩ :: _) _ _); go_loud (apply S_stAll hS; rfl; rfl; rfl; rfl; (focus ((repeat (first | exact .here | apply At.there)); done)); (first | assumption | (rfl) | (focus (simp [bV, wV, Value.oneCell']; done)) | (focus (simp [bV, Value.oneCell']; done))); (first | rfl | (rfl)); (first | rfl | (rfl)); clear hS; intro w_ hS)))
            change St _ _ _ (.blk b7 _ (([t1, t2, t3, t0] : List UInt8).map bV) :: _) at hS
            go_wp2
            go_loopw [44] (fun i wr => ∃ m : Nat, i = .int .i64 (m : Int) ∧ m ≤ 4 ∧ St (Km w bC) w wr [.blk b7 66 ((sbs [t1, t2, t3, t0] m).map bV), .blk b4 76 ((zW key k).map bV), .blk bC 64 LU]) (fun i _ => 4 - (intOf i).toNat)
            case atStart => exact ⟨0, rfl, by omega, by rw [sbs_zero]; exact hS⟩
            case round =>
              clear hS
              obtain ⟨m, rfl, hm, hS⟩ := hrel
              by_cases hlm : m < 4
              · have v1 : ((sbs [t1, t2, t3, t0] m).map bV)[m]? = some (.int .u8 (([t1, t2, t3, t0].getD m 0).toNat : Int)) := by rw [List.getElem?_map, sbs_get (t := [t1, t2, t3, t0]) (by exact hlm)]; rfl
                have hst := Lib.hid (sbs_set (t := [t1, t2, t3, t0]) (m := m) (by exact hlm))
                have hml : m < ((sbs [t1, t2, t3, t0] m).map bV).length := by rw [List.length_map, sbs_len]; exact hlm
                generalize [t1, t2, t3, t0].getD m 0 = x at *
                have hx256 : (x.toNat : Int) < 256 := by have := x.toNat_lt; omega
                have v2 := HGET.out x
                generalize sb x = y at *
                have nC : ¬ bC = b7 := fun e => (hS.dist 0 2 (by decide) rfl rfl rfl rfl) e.symm
                go_wp2
                obtain ⟨N_, hN_⟩ := hS.sz
                have h0N_ := hS.size
                rw [hN_] at h0N_
                refine E_start (hR := KeepS.pre (SN N_ [b7])) #[false, false, false, false, false, false, false, false, false, false, false] (by kernel_rfl) rfl rfl (fun w_r1 hx_r1 he_r1 => ?_)
                have hzE_ : w_r1.heap.size = N_ := by rw [he_r1]; exact hN_
                have hz : N_ ≤ w_r1.heap.size := Nat.le_of_eq hzE_.symm
                replace hS := hS.drew; rw [← he_r1] at hS
                clear hx_r1 he_r1
                have hsn_bC : SN N_ [b7] bC := ⟨by rw [← hzE_]; first | exact Ent.lt (hS.get (x := Ent.blk bC _ _) (by focus ((repeat (first | exact .here | apply At.there)); done))) rfl | exact Ent.lt (hS.get (x := Ent.own _ _ (.slice (some ⟨bC, 0, none⟩) _ _) _ _) (by focus ((repeat (first | exact .here | apply At.there)); done))) rfl, by first | (focus (simp; done)) | (focus (simp; omega)) | (focus (simp; assumption))⟩
                clear hzE_ hN_
                refine E_take (hR := KeepS.pre (SN N_ [b7])) (i := 0) (N := (some 47)) (v := ?vr1_0) (a' := ?ar1_0) #[true, false, false, false, false, false, false, false, false, false, false] rfl rfl (by kernel_rfl) (fun _ _ _ h => h) (by rfl) ?hyr1_0 ?har1_0 ?_
                case hyr1_0 =>
                  intro w' hx
                  go_simp
                  with_reducible rfl
                case har1_0 => (simp only [Act.put, List.setIfInBounds_toArray, List.set_cons_zero, List.set_cons_succ]; rfl)
                refine E_take (hR := KeepS.pre (SN N_ [b7])) (i := 1) (N := (some 48)) (v := ?vr1_1) (a' := ?ar1_1) #[true, true, false, false, false, false, false, false, false, false, false] rfl rfl (by kernel_rfl) (fun _ _ _ h => h) (by rfl) ?hyr1_1 ?har1_1 ?_
                case hyr1_1 =>
                  intro w' hx
                  go_simp
                  with_reducible rfl
                case har1_1 => (simp only [Act.put, List.setIfInBounds_toArray, List.set_cons_zero, List.set_cons_succ]; rfl)
                refine E_take (hR := KeepS.pre (SN N_ [b7])) (i := 2) (N := (some 49)) (v := ?vr1_2) (a' := ?ar1_2) #[true, true, true, false, false, false, false, false, false, false, false] rfl rfl (by kernel_rfl) (fun _ _ _ h => h) (by rfl) ?hyr1_2 ?har1_2 ?_
                case hyr1_2 =>
                  intro w' hx
                  go_simp
                  with_reducible rfl
                case har1_2 => (simp only [Act.put, List.setIfInBounds_toArray, List.set_cons_zero, List.set_cons_succ]; rfl)
                refine E_take (hR := KeepS.pre (SN N_ [b7])) (i := 3) (N := (some 50)) (v := ?vr1_3) (a' := ?ar1_3) #[true, true, true, true, false, false, false, false, false, false, false] rfl rfl (by kernel_rfl) (fun _ _ _ h => h) (by rfl) ?hyr1_3 ?har1_3 ?_
                case hyr1_3 =>
                  intro w' hx
                  go_simp
                  with_reducible rfl
                case har1_3 => (simp only [Act.put, List.setIfInBounds_toArray, List.set_cons_zero, List.set_cons_succ]; rfl)
                refine E_take (hR := KeepS.pre (SN N_ [b7])) (i := 5) (N := (some 52)) (v := ?vr1_5) (a' := ?ar1_5) #[true, true, true, true, false, true, false, false, false, false, false] rfl rfl (by kernel_rfl) (fun _ _ _ h => h) (by rfl) ?hyr1_5 ?har1_5 ?_
                case hyr1_5 =>
                  intro w' hx
                  go_simp
                  with_reducible rfl
                case har1_5 => (simp only [Act.put, List.setIfInBounds_toArray, List.set_cons_zero, List.set_cons_succ]; rfl)
                refine E_take (hR := KeepS.pre (SN N_ [b7])) (i := 6) (N := (some 53)) (v := ?vr1_6) (a' := ?ar1_6) #[true, true, true, true, false, true, true, false, false, false, false] rfl rfl (by kernel_rfl) (fun _ _ _ h => h) (by rfl) ?hyr1_6 ?har1_6 ?_
                case hyr1_6 =>
                  intro w' hx
                  go_simp
                  with_reducible rfl
                case har1_6 => (simp only [Act.put, List.setIfInBounds_toArray, List.set_cons_zero, List.set_cons_succ]; rfl)
                refine E_split [4] (by kernel_rfl) (by simp) (fun i_ hi_ => ?_)
                simp only [List.mem_cons, List.not_mem_nil, or_false] at hi_
                rcases hi_ with rfl
                (apply K_val (i := 4) (T := (some 51)) #[true, true, true, true, true, true, true, false, false, false, false]; rfl; rfl; (show _ = _; kernel_rfl); rfl; (apply R_ld hS; rfl; rfl; (focus ((repeat (first | exact .here | apply At.there)); done)); rfl; (first | assumption | rfl | exact mapGetB (by first | assumption | omega))); exact KeepS.refl _ _)
                rintro _ rfl
                simp only [Act.put, List.setIfInBounds_toArray, List.set_cons_zero, List.set_cons_succ]
                refine E_take (hR := KeepS.pre (SN N_ [b7])) (i := 7) (N := (some 54)) (v := ?vr1_7) (a' := ?ar1_7) #[true, true, true, true, true, true, true, true, false, false, false] rfl rfl (by kernel_rfl) (fun _ _ _ h => h) (by rfl) ?hyr1_7 ?har1_7 ?_
                case hyr1_7 =>
                  intro w' hx
                  go_simp
                  with_reducible rfl
                case har1_7 => (simp only [Act.put, List.setIfInBounds_toArray, List.set_cons_zero, List.set_cons_succ]; rfl)
                refine E_take (hR := KeepS.pre (SN N_ [b7])) (i := 8) (N := (some 55)) (v := ?vr1_8) (a' := ?ar1_8) #[true, true, true, true, true, true, true, true, true, false, false] rfl rfl (by kernel_rfl) (fun _ _ _ h => h) (by rfl) ?hyr1_8 ?har1_8 ?_
                case hyr1_8 =>
                  intro w' hx
                  (first | (apply Eq.trans; (first | (apply R_ldK hS hx; rfl; rfl; (focus ((repeat (first | exact .here | apply At.there)); done)); assumption; rfl; (first | assumption | rfl | exact mapGetB (by first | assumption | omega) | exact mapGet _ (by first | assumption | omega))) | (apply R_ldOwnK hS hx; rfl; rfl; (focus ((repeat (first | exact .here | apply At.there)); done)); assumption; rfl; (first | rfl | exact mapGetB (by first | assumption | omega) | exact mapGet _ (by first | assumption | omega)))); with_reducible rfl) | (go_simp; with_reducible rfl))
                case har1_8 => (simp only [Act.put, List.setIfInBounds_toArray, List.set_cons_zero, List.set_cons_succ]; rfl)
                refine E_take (hR := KeepS.pre (SN N_ [b7])) (i := 9) (N := (some 56)) (v := ?vr1_9) (a' := ?ar1_9) #[true, true, true, true, true, true, true, true, true, true, false] rfl rfl (by kernel_rfl) (fun _ _ _ h => h) (by rfl) ?hyr1_9 ?har1_9 ?_
                case hyr1_9 =>
                  intro w' hx
                  go_simp
                  with_reducible rfl
                case har1_9 => (simp only [Act.put, List.setIfInBounds_toArray, List.set_cons_zero, List.set_cons_succ]; rfl)
                refine E_split [10] (by kernel_rfl) (by simp) (fun i_ hi_ => ?_)
                simp only [List.mem_cons, List.not_mem_nil, or_false] at hi_
                rcases hi_ with rfl
                (apply K_st (i := 10) hS hz #[true, true, true, true, true, true, true, true, true, true, true]; rfl; rfl; (show _ = _; kernel_rfl); rfl; rfl; rfl; (focus ((conv => lhs; whnf) <;> rfl)); (focus ((repeat (first | exact .here | apply At.there)); done)); (first | assumption | (refine Or.inl ?_; assumption) | (refine Or.inr ?_; focus (simp; done))); rfl; rfl; (first | decide | assumption | (simp only [List.length_map, List.length_set]; omega)))
                clear hS hz
                intro w_ hS hz
                try simp only [List.set_cons_zero, List.set_cons_succ] at hS
                refine E_done (by kernel_rfl) ?_
                change St _ _ _ (.blk b7 _ (((sbs [t1, t2, t3, t0] m).map bV).set m (bV y)) :: _) at hS
                rw [← List.map_set, hst.out] at hS
                go_wp2
                go_roundw
                case rel => exact ⟨m + 1, by go_num, by omega, hS⟩
                case measure => simp [intOf]; omega
              · have hm4 : m = 4 := by omega
                rw [hm4, sbs_end (t := [t1, t2, t3, t0]) rfl] at hS
                change St _ _ _ (.blk b7 _ [.int .u8 ((sb t1).toNat : Int), bV (sb t2), bV (sb t3), bV (sb t0)] :: _) at hS
                generalize hub : sb t1 = u at *
                have HU := Lib.hid hub
                clear hub
                have hxp := xor8 u (pwr ((k - 1) / 8))
                have hT := Lib.hid (show tw (wd (kx key k) (k - 1)) k = [u ^^^ pwr ((k - 1) / 8), sb t2, sb t3, sb t0] by
                  unfold tw; rw [if_pos (by omega), HT.out, show k / 8 - 1 = (k - 1) / 8 by omega, ← HU.out]; rfl)
                have hpw := Lib.hid (show pwr ((k + 1 - 1) / 8) = xt (pwr ((k - 1) / 8)) by rw [show (k + 1 - 1) / 8 = (k - 1) / 8 + 1 by omega]; rfl)
                generalize pwr ((k - 1) / 8) = pw at *
                go_upto_region 20 with (first | ((with_reducible show wpList _ _ _ (⟨some 62, Op.load _ _, _, _, _, _⟩ :: _) _ _); go_loud (first | (apply S_ld hS; rfl; rfl; rfl; (focus ((repeat (first | exact .here | apply At.there)); done)); rfl; (first | fail | assumption | rfl | exact mapGetB (by first | assumption | (simp only [List.length_map, List.length_set, List.length_replicate, List.length_append, List.length_cons, List.length_nil]; omega)) | exact mapGet _ (by first | assumption | (simp only [List.length_map, List.length_set, List.length_replicate, List.length_append, List.length_cons, List.length_nil]; omega)))) | (apply S_ldOwn hS; rfl; rfl; rfl; (focus ((repeat (first | exact .here | apply At.there)); done)); rfl; (first | rfl | exact mapGetB (by first | assumption | (simp only [List.length_map, List.length_set, List.length_replicate, List.length_append, List.length_cons, List.length_nil]; omega)) | exact mapGet _ (by first | assumption | (simp only [List.length_map, List.length_set, List.length_replicate, List.length_append, List.length_cons, List.length_nil]; omega)))))) | ((with_reducible show wpList _ _ _ (⟨_, Op.store _ _ _, _, _, _, _⟩ :: _) _ _); go_loud (first | (apply S_st hS; rfl; rfl; rfl; (focus ((conv => lhs; whnf) <;> rfl)); (focus ((repeat (first | exact .here | apply At.there)); done)); rfl; rfl; (first | (rfl) | decide | assumption | (simp only [List.length_map, List.length_set, List.length_replicate, List.length_append, List.length_cons, List.length_nil]; omega)); clear hS; intro w_ hS; (try simp only [List.set_cons_zero, List.set_cons_succ] at hS)) | (apply S_stOwn hS; rfl; rfl; rfl; (focus ((conv => lhs; whnf) <;> rfl)); (focus ((repeat (first | exact .here | apply At.there)); done)); rfl; rfl; (first | decide | assumption | omega); clear hS; intro w_ hS; (try simp only [List.set_cons_zero, List.set_cons_succ] at hS)))) | (go_at_call 36; refine (times_any pw _).mono ?_; rintro e w_ ⟨rfl, hb_⟩; replace hS := hS.ext hb_; clear hb_))
                have EX : Value.int .u8 ((u.toNat ^^^ pw.toNat : Nat) : Int) = bV (u ^^^ pw) := by unfold bV; rw [UInt8.toNat_xor]
                rw [EX] at hS
                clear EX
                change St _ _ _ (.blk b7 _ (([u ^^^ pw, sb t2, sb t3, sb t0] : List UInt8).map bV) :: _) at hS
                rw [← hT.out] at hS
                clear hT
                have hTL := Lib.hid (tw_len (wd_len (W := kx key k) (i := k - 1) (by rw [HKX.out]; omega)) k)
                have hnx := Lib.hid (zW_next HK.out (i := k) (by omega) hlt)
                rw [show k - 8 = j by have := HJ.out; omega] at hnx
                have hzw := Lib.hid (zW_wL HK.out k (xorF (wd (kx key k) j) (tw (wd (kx key k) (k - 1)) k)))
                rw [hzw.out] at hS
                generalize tw (wd (kx key k) (k - 1)) k = T at *
                have hWL := Lib.hid (show (wd (kx key k) j).length = 4 from wd_len (by rw [HKX.out]; have := HJ.out; omega))
                have hVL := Lib.hid (show (xorF (wd (kx key k) j) T).length = 4 by rw [xorF_length, hWL.out, hTL.out]; rfl)
                clear hzw hwl
                go_wp2
                go_loopw [68] (fun i wr => ∃ n : Nat, i = .int .i64 (n : Int) ∧ n ≤ 4 ∧ St (Km w bC) w wr [.blk b7 66 (T.map bV), .blk b4 76 ((wL (kx key k) (xorF (wd (kx key k) j) T) n).map bV), .blk bC 64 LU]) (fun i _ => 4 - (intOf i).toNat)
                case atStart => exact ⟨0, rfl, by omega, hS⟩
                case round =>
                  clear hS
                  obtain ⟨n, rfl, hn, hS⟩ := hrel
                  by_cases hln : n < 4
                  · have v1 : ((wL (kx key k) (xorF (wd (kx key k) j) T) n).map bV)[j * 4 + n]? = some (.int .u8 (((wd (kx key k) j).getD n 0).toNat : Int)) := by
                      have hjn : j * 4 + n < (kx key k).length := by rw [HKX.out]; have := HJ.out; omega
                      rw [wd_get hln, ← wL_get (v := xorF (wd (kx key k) j) T) (m := n) (by rw [Nat.mul_comm 4 j]; exact hjn), Nat.mul_comm 4 j]
                      exact mapGetB (by rw [wL_len (by rw [HKX.out, hVL.out]; omega) (by rw [hVL.out]; exact hn), HKX.out] at *; have := HJ.out; omega)
                    have v2 : (T.map bV)[n]? = some (.int .u8 ((T.getD n 0).toNat : Int)) := mapGetB (by rw [hTL.out]; exact hln)
                    have hst := Lib.hid (wL_set (A := kx key k) (v := xorF (wd (kx key k) j) T) (m := n) (by rw [HKX.out, hVL.out]; omega) (by rw [hVL.out]; exact hln))
                    have hxv := Lib.hid (show (xorF (wd (kx key k) j) T).getD n 0 = (wd (kx key k) j).getD n 0 ^^^ T.getD n 0 by
                      have e1 : n < (wd (kx key k) j).length := by rw [hWL.out]; exact hln
                      have e2 : n < T.length := by rw [hTL.out]; exact hln
                      unfold xorF
                      simp only [List.getD_eq_getElem?_getD, List.getElem?_zipWith, List.getElem?_eq_getElem e1, List.getElem?_eq_getElem e2]; rfl)
                    have hkl : k * 4 + n < ((wL (kx key k) (xorF (wd (kx key k) j) T) n).map bV).length := by rw [List.length_map, wL_len (by rw [HKX.out, hVL.out]; omega) (by rw [hVL.out]; exact hn)]; omega
                    have hkk := Lib.hid (show k * 4 + n = (kx key k).length + n by rw [HKX.out]; omega)
                    generalize hxg : (wd (kx key k) j).getD n 0 = x at *
                    generalize T.getD n 0 = y at *
                    have hxy := xor8 x y
                    clear hxg
                    have gj : IntKind.i64.wrap (j : Int) = (j : Int) := by rw [IntKind.wrap_i64]; omega
                    have n7 : ¬ b7 = b4 := fun e => (hS.dist 0 1 (by decide) rfl rfl rfl rfl) e
                    go_wp2
                    obtain ⟨N_, hN_⟩ := hS.sz
                    have h0N_ := hS.size
                    rw [hN_] at h0N_
                    refine E_start (hR := KeepS.pre (SN N_ [b4])) #[false, false, false, false, false, false, false, false, false, false, false, false, false, false, false] (by kernel_rfl) rfl rfl (fun w_q2 hx_q2 he_q2 => ?_)
                    have hzE_ : w_q2.heap.size = N_ := by rw [he_q2]; exact hN_
                    have hz : N_ ≤ w_q2.heap.size := Nat.le_of_eq hzE_.symm
                    replace hS := hS.drew; rw [← he_q2] at hS
                    clear hx_q2 he_q2
                    have hsn_b7 : SN N_ [b4] b7 := ⟨by rw [← hzE_]; first | exact Ent.lt (hS.get (x := Ent.blk b7 _ _) (by focus ((repeat (first | exact .here | apply At.there)); done))) rfl | exact Ent.lt (hS.get (x := Ent.own _ _ (.slice (some ⟨b7, 0, none⟩) _ _) _ _) (by focus ((repeat (first | exact .here | apply At.there)); done))) rfl, by first | (focus (simp; done)) | (focus (simp; omega)) | (focus (simp; assumption))⟩
                    clear hzE_ hN_
                    refine E_take (hR := KeepS.pre (SN N_ [b4])) (i := 0) (N := (some 71)) (v := ?vq2_0) (a' := ?aq2_0) #[true, false, false, false, false, false, false, false, false, false, false, false, false, false, false] rfl rfl (by kernel_rfl) (fun _ _ _ h => h) (by rfl) ?hyq2_0 ?haq2_0 ?_
                    case hyq2_0 =>
                      intro w' hx
                      go_simp
                      with_reducible rfl
                    case haq2_0 => (simp only [Act.put, List.setIfInBounds_toArray, List.set_cons_zero, List.set_cons_succ]; rfl)
                    refine E_take (hR := KeepS.pre (SN N_ [b4])) (i := 1) (N := (some 72)) (v := ?vq2_1) (a' := ?aq2_1) #[true, true, false, false, false, false, false, false, false, false, false, false, false, false, false] rfl rfl (by kernel_rfl) (fun _ _ _ h => h) (by rfl) ?hyq2_1 ?haq2_1 ?_
                    case hyq2_1 =>
                      intro w' hx
                      go_simp
                      with_reducible rfl
                    case haq2_1 => (simp only [Act.put, List.setIfInBounds_toArray, List.set_cons_zero, List.set_cons_succ]; rfl)
                    refine E_take (hR := KeepS.pre (SN N_ [b4])) (i := 2) (N := (some 73)) (v := ?vq2_2) (a' := ?aq2_2) #[true, true, true, false, false, false, false, false, false, false, false, false, false, false, false] rfl rfl (by kernel_rfl) (fun _ _ _ h => h) (by rfl) ?hyq2_2 ?haq2_2 ?_
                    case hyq2_2 =>
                      intro w' hx
                      go_simp
                      with_reducible rfl
                    case haq2_2 => (simp only [Act.put, List.setIfInBounds_toArray, List.set_cons_zero, List.set_cons_succ]; rfl)
                    refine E_take (hR := KeepS.pre (SN N_ [b4])) (i := 3) (N := (some 74)) (v := ?vq2_3) (a' := ?aq2_3) #[true, true, true, true, false, false, false, false, false, false, false, false, false, false, false] rfl rfl (by kernel_rfl) (fun _ _ _ h => h) (by rfl) ?hyq2_3 ?haq2_3 ?_
                    case hyq2_3 =>
                      intro w' hx
                      go_simp
                      with_reducible rfl
                    case haq2_3 => (simp only [Act.put, List.setIfInBounds_toArray, List.set_cons_zero, List.set_cons_succ]; rfl)
                    refine E_take (hR := KeepS.pre (SN N_ [b4])) (i := 4) (N := (some 75)) (v := ?vq2_4) (a' := ?aq2_4) #[true, true, true, true, true, false, false, false, false, false, false, false, false, false, false] rfl rfl (by kernel_rfl) (fun _ _ _ h => h) (by rfl) ?hyq2_4 ?haq2_4 ?_
                    case hyq2_4 =>
                      intro w' hx
                      go_simp
                      with_reducible rfl
                    case haq2_4 => (simp only [Act.put, List.setIfInBounds_toArray, List.set_cons_zero, List.set_cons_succ]; rfl)
                    refine E_take (hR := KeepS.pre (SN N_ [b4])) (i := 5) (N := (some 76)) (v := ?vq2_5) (a' := ?aq2_5) #[true, true, true, true, true, true, false, false, false, false, false, false, false, false, false] rfl rfl (by kernel_rfl) (fun _ _ _ h => h) (by rfl) ?hyq2_5 ?haq2_5 ?_
                    case hyq2_5 =>
                      intro w' hx
                      go_simp
                      with_reducible rfl
                    case haq2_5 => (simp only [Act.put, List.setIfInBounds_toArray, List.set_cons_zero, List.set_cons_succ]; rfl)
                    refine E_take (hR := KeepS.pre (SN N_ [b4])) (i := 6) (N := (some 77)) (v := ?vq2_6) (a' := ?aq2_6) #[true, true, true, true, true, true, true, false, false, false, false, false, false, false, false] rfl rfl (by kernel_rfl) (fun _ _ _ h => h) (by rfl) ?hyq2_6 ?haq2_6 ?_
                    case hyq2_6 =>
                      intro w' hx
                      go_simp
                      with_reducible rfl
                    case haq2_6 => (simp only [Act.put, List.setIfInBounds_toArray, List.set_cons_zero, List.set_cons_succ]; rfl)
                    refine E_take (hR := KeepS.pre (SN N_ [b4])) (i := 8) (N := (some 79)) (v := ?vq2_8) (a' := ?aq2_8) #[true, true, true, true, true, true, true, false, true, false, false, false, false, false, false] rfl rfl (by kernel_rfl) (fun _ _ _ h => h) (by rfl) ?hyq2_8 ?haq2_8 ?_
                    case hyq2_8 =>
                      intro w' hx
                      go_simp
                      with_reducible rfl
                    case haq2_8 => (simp only [Act.put, List.setIfInBounds_toArray, List.set_cons_zero, List.set_cons_succ]; rfl)
                    refine E_take (hR := KeepS.pre (SN N_ [b4])) (i := 9) (N := (some 80)) (v := ?vq2_9) (a' := ?aq2_9) #[true, true, true, true, true, true, true, false, true, true, false, false, false, false, false] rfl rfl (by kernel_rfl) (fun _ _ _ h => h) (by rfl) ?hyq2_9 ?haq2_9 ?_
                    case hyq2_9 =>
                      intro w' hx
                      go_simp
                      with_reducible rfl
                    case haq2_9 => (simp only [Act.put, List.setIfInBounds_toArray, List.set_cons_zero, List.set_cons_succ]; rfl)
                    refine E_take (hR := KeepS.pre (SN N_ [b4])) (i := 10) (N := (some 81)) (v := ?vq2_10) (a' := ?aq2_10) #[true, true, true, true, true, true, true, false, true, true, true, false, false, false, false] rfl rfl (by kernel_rfl) (fun _ _ _ h => h) (by rfl) ?hyq2_10 ?haq2_10 ?_
                    case hyq2_10 =>
                      intro w' hx
                      (first | (apply Eq.trans; (first | (apply R_ldK hS hx; rfl; rfl; (focus ((repeat (first | exact .here | apply At.there)); done)); assumption; rfl; (first | assumption | rfl | exact mapGetB (by first | assumption | omega) | exact mapGet _ (by first | assumption | omega))) | (apply R_ldOwnK hS hx; rfl; rfl; (focus ((repeat (first | exact .here | apply At.there)); done)); assumption; rfl; (first | rfl | exact mapGetB (by first | assumption | omega) | exact mapGet _ (by first | assumption | omega)))); with_reducible rfl) | (go_simp; with_reducible rfl))
                    case haq2_10 => (simp only [Act.put, List.setIfInBounds_toArray, List.set_cons_zero, List.set_cons_succ]; rfl)
                    refine E_take (hR := KeepS.pre (SN N_ [b4])) (i := 12) (N := (some 83)) (v := ?vq2_12) (a' := ?aq2_12) #[true, true, true, true, true, true, true, false, true, true, true, false, true, false, false] rfl rfl (by kernel_rfl) (fun _ _ _ h => h) (by rfl) ?hyq2_12 ?haq2_12 ?_
                    case hyq2_12 =>
                      intro w' hx
                      go_simp
                      with_reducible rfl
                    case haq2_12 => (simp only [Act.put, List.setIfInBounds_toArray, List.set_cons_zero, List.set_cons_succ]; rfl)
                    refine E_split [7] (by kernel_rfl) (by simp) (fun i_ hi_ => ?_)
                    simp only [List.mem_cons, List.not_mem_nil, or_false] at hi_
                    rcases hi_ with rfl
                    (apply K_val (i := 7) (T := (some 78)) #[true, true, true, true, true, true, true, true, true, true, true, false, true, false, false]; rfl; rfl; (show _ = _; kernel_rfl); rfl; (apply R_ld hS; rfl; rfl; (focus ((repeat (first | exact .here | apply At.there)); done)); rfl; (first | assumption | rfl | exact mapGetB (by first | assumption | omega))); exact KeepS.refl _ _)
                    rintro _ rfl
                    simp only [Act.put, List.setIfInBounds_toArray, List.set_cons_zero, List.set_cons_succ]
                    refine E_take (hR := KeepS.pre (SN N_ [b4])) (i := 11) (N := (some 82)) (v := ?vq2_11) (a' := ?aq2_11) #[true, true, true, true, true, true, true, true, true, true, true, true, true, false, false] rfl rfl (by kernel_rfl) (fun _ _ _ h => h) (by rfl) ?hyq2_11 ?haq2_11 ?_
                    case hyq2_11 =>
                      intro w' hx
                      go_simp
                      with_reducible rfl
                    case haq2_11 => (simp only [Act.put, List.setIfInBounds_toArray, List.set_cons_zero, List.set_cons_succ]; rfl)
                    refine E_take (hR := KeepS.pre (SN N_ [b4])) (i := 13) (N := (some 84)) (v := ?vq2_13) (a' := ?aq2_13) #[true, true, true, true, true, true, true, true, true, true, true, true, true, true, false] rfl rfl (by kernel_rfl) (fun _ _ _ h => h) (by rfl) ?hyq2_13 ?haq2_13 ?_
                    case hyq2_13 =>
                      intro w' hx
                      go_simp
                      with_reducible rfl
                    case haq2_13 => (simp only [Act.put, List.setIfInBounds_toArray, List.set_cons_zero, List.set_cons_succ]; rfl)
                    refine E_split [14] (by kernel_rfl) (by simp) (fun i_ hi_ => ?_)
                    simp only [List.mem_cons, List.not_mem_nil, or_false] at hi_
                    rcases hi_ with rfl
                    (apply K_st (i := 14) hS hz #[true, true, true, true, true, true, true, true, true, true, true, true, true, true, true]; rfl; rfl; (show _ = _; kernel_rfl); rfl; rfl; rfl; (focus ((conv => lhs; whnf) <;> rfl)); (focus ((repeat (first | exact .here | apply At.there)); done)); (first | assumption | (refine Or.inl ?_; assumption) | (refine Or.inr ?_; focus (simp; done))); rfl; rfl; (first | decide | assumption | (simp only [List.length_map, List.length_set]; omega)))
                    clear hS hz
                    intro w_ hS hz
                    try simp only [List.set_cons_zero, List.set_cons_succ] at hS
                    refine E_done (by kernel_rfl) ?_
                    have EX : Value.int .u8 ((x.toNat ^^^ y.toNat : Nat) : Int) = bV (x ^^^ y) := by unfold bV; rw [UInt8.toNat_xor]
                    rw [EX, ← hxv.out, ← List.map_set, hkk.out, hst.out] at hS
                    clear EX
                    go_wp2
                    go_roundw
                    case rel => exact ⟨n + 1, by go_num, by omega, hS⟩
                    case measure => simp [intOf]; omega
                  · have hn4 : n = 4 := by omega
                    rw [hn4, hnx.out] at hS
                    have hS2 := hS.drop
                    clear hS
                    go_wp2
                    go_roundw
                    case rel => exact ⟨k + 1, by go_num, by omega, by rw [hpw.out], hS2⟩
                    case measure => simp [intOf]; omega
        by_cases hb : k % 8 = 4
        · as_aux_lemma =>
            have e4 : (k : Int) % 8 = 4 := by omega
            have e0 : ¬ (k : Int) % 8 = 0 := by omega
            go_upto_region 12 with (first | ((with_reducible show wpList _ _ _ (⟨some 28, Op.load _ _, _, _, _, _⟩ :: _) _ _); go_loud (apply S_ldPart (m := 4) hS; rfl; rfl; rfl; (focus ((repeat (first | exact .here | apply At.there)); done)); rfl; rfl; ((rw [hwl.out]; exact ll60)); (rw [hword.out]))) | ((with_reducible show wpList _ _ _ (⟨some 7, Op.alloc _, _, _, _, _⟩ :: _) _ _); go_loud (refine S_alloc (z := .agg ([.int .u8 0, .int .u8 0, .int .u8 0, .int .u8 0] : List Value).toArray) (L := [.int .u8 0, .int .u8 0, .int .u8 0, .int .u8 0]) hS rfl rfl ?_ ?_ ?_; (show _ = _; kernel_rfl); (show _ = _; kernel_rfl); clear hS; intro b7 w_ hS)) | ((with_reducible show wpList _ _ _ (⟨_, Op.store _ _ _, _, _, _, _⟩ :: _) _ _); go_loud (apply S_stAll hS; rfl; rfl; rfl; rfl; (focus ((repeat (first | exact .here | apply At.there)); done)); (first | assumption | (rfl) | (focus (simp [bV, wV, Value.oneCell']; done)) | (focus (simp [bV, Value.oneCell']; done))); (first | rfl | (rfl)); (first | rfl | (rfl)); clear hS; intro w_ hS)))
            go_wp2
            go_loopw [44] (fun i wr => ∃ m : Nat, i = .int .i64 (m : Int) ∧ m ≤ 4 ∧ St (Km w bC) w wr [.blk b7 66 ((sbs [t0, t1, t2, t3] m).map bV), .blk b4 76 ((zW key k).map bV), .blk bC 64 LU]) (fun i _ => 4 - (intOf i).toNat)
            case atStart => exact ⟨0, rfl, by omega, by rw [sbs_zero]; exact hS⟩
            case round =>
              clear hS
              obtain ⟨m, rfl, hm, hS⟩ := hrel
              by_cases hlm : m < 4
              · have v1 : ((sbs [t0, t1, t2, t3] m).map bV)[m]? = some (.int .u8 (([t0, t1, t2, t3].getD m 0).toNat : Int)) := by rw [List.getElem?_map, sbs_get (t := [t0, t1, t2, t3]) (by exact hlm)]; rfl
                have hst := Lib.hid (sbs_set (t := [t0, t1, t2, t3]) (m := m) (by exact hlm))
                have hml : m < ((sbs [t0, t1, t2, t3] m).map bV).length := by rw [List.length_map, sbs_len]; exact hlm
                generalize [t0, t1, t2, t3].getD m 0 = x at *
                have hx256 : (x.toNat : Int) < 256 := by have := x.toNat_lt; omega
                have v2 := HGET.out x
                generalize sb x = y at *
                have nC : ¬ bC = b7 := fun e => (hS.dist 0 2 (by decide) rfl rfl rfl rfl) e.symm
                go_wp2
                obtain ⟨N_, hN_⟩ := hS.sz
                have h0N_ := hS.size
                rw [hN_] at h0N_
                refine E_start (hR := KeepS.pre (SN N_ [b7])) #[false, false, false, false, false, false, false, false, false, false, false] (by kernel_rfl) rfl rfl (fun w_r3 hx_r3 he_r3 => ?_)
                have hzE_ : w_r3.heap.size = N_ := by rw [he_r3]; exact hN_
                have hz : N_ ≤ w_r3.heap.size := Nat.le_of_eq hzE_.symm
                replace hS := hS.drew; rw [← he_r3] at hS
                clear hx_r3 he_r3
                have hsn_bC : SN N_ [b7] bC := ⟨by rw [← hzE_]; first | exact Ent.lt (hS.get (x := Ent.blk bC _ _) (by focus ((repeat (first | exact .here | apply At.there)); done))) rfl | exact Ent.lt (hS.get (x := Ent.own _ _ (.slice (some ⟨bC, 0, none⟩) _ _) _ _) (by focus ((repeat (first | exact .here | apply At.there)); done))) rfl, by first | (focus (simp; done)) | (focus (simp; omega)) | (focus (simp; assumption))⟩
                clear hzE_ hN_
                refine E_take (hR := KeepS.pre (SN N_ [b7])) (i := 0) (N := (some 47)) (v := ?vr3_0) (a' := ?ar3_0) #[true, false, false, false, false, false, false, false, false, false, false] rfl rfl (by kernel_rfl) (fun _ _ _ h => h) (by rfl) ?hyr3_0 ?har3_0 ?_
                case hyr3_0 =>
                  intro w' hx
                  go_simp
                  with_reducible rfl
                case har3_0 => (simp only [Act.put, List.setIfInBounds_toArray, List.set_cons_zero, List.set_cons_succ]; rfl)
                refine E_take (hR := KeepS.pre (SN N_ [b7])) (i := 1) (N := (some 48)) (v := ?vr3_1) (a' := ?ar3_1) #[true, true, false, false, false, false, false, false, false, false, false] rfl rfl (by kernel_rfl) (fun _ _ _ h => h) (by rfl) ?hyr3_1 ?har3_1 ?_
                case hyr3_1 =>
                  intro w' hx
                  go_simp
                  with_reducible rfl
                case har3_1 => (simp only [Act.put, List.setIfInBounds_toArray, List.set_cons_zero, List.set_cons_succ]; rfl)
                refine E_take (hR := KeepS.pre (SN N_ [b7])) (i := 2) (N := (some 49)) (v := ?vr3_2) (a' := ?ar3_2) #[true, true, true, false, false, false, false, false, false, false, false] rfl rfl (by kernel_rfl) (fun _ _ _ h => h) (by rfl) ?hyr3_2 ?har3_2 ?_
                case hyr3_2 =>
                  intro w' hx
                  go_simp
                  with_reducible rfl
                case har3_2 => (simp only [Act.put, List.setIfInBounds_toArray, List.set_cons_zero, List.set_cons_succ]; rfl)
                refine E_take (hR := KeepS.pre (SN N_ [b7])) (i := 3) (N := (some 50)) (v := ?vr3_3) (a' := ?ar3_3) #[true, true, true, true, false, false, false, false, false, false, false] rfl rfl (by kernel_rfl) (fun _ _ _ h => h) (by rfl) ?hyr3_3 ?har3_3 ?_
                case hyr3_3 =>
                  intro w' hx
                  go_simp
                  with_reducible rfl
                case har3_3 => (simp only [Act.put, List.setIfInBounds_toArray, List.set_cons_zero, List.set_cons_succ]; rfl)
                refine E_take (hR := KeepS.pre (SN N_ [b7])) (i := 5) (N := (some 52)) (v := ?vr3_5) (a' := ?ar3_5) #[true, true, true, true, false, true, false, false, false, false, false] rfl rfl (by kernel_rfl) (fun _ _ _ h => h) (by rfl) ?hyr3_5 ?har3_5 ?_
                case hyr3_5 =>
                  intro w' hx
                  go_simp
                  with_reducible rfl
                case har3_5 => (simp only [Act.put, List.setIfInBounds_toArray, List.set_cons_zero, List.set_cons_succ]; rfl)
                refine E_take (hR := KeepS.pre (SN N_ [b7])) (i := 6) (N := (some 53)) (v := ?vr3_6) (a' := ?ar3_6) #[true, true, true, true, false, true, true, false, false, false, false] rfl rfl (by kernel_rfl) (fun _ _ _ h => h) (by rfl) ?hyr3_6 ?har3_6 ?_
                case hyr3_6 =>
                  intro w' hx
                  go_simp
                  with_reducible rfl
                case har3_6 => (simp only [Act.put, List.setIfInBounds_toArray, List.set_cons_zero, List.set_cons_succ]; rfl)
                refine E_split [4] (by kernel_rfl) (by simp) (fun i_ hi_ => ?_)
                simp only [List.mem_cons, List.not_mem_nil, or_false] at hi_
                rcases hi_ with rfl
                (apply K_val (i := 4) (T := (some 51)) #[true, true, true, true, true, true, true, false, false, false, false]; rfl; rfl; (show _ = _; kernel_rfl); rfl; (apply R_ld hS; rfl; rfl; (focus ((repeat (first | exact .here | apply At.there)); done)); rfl; (first | assumption | rfl | exact mapGetB (by first | assumption | omega))); exact KeepS.refl _ _)
                rintro _ rfl
                simp only [Act.put, List.setIfInBounds_toArray, List.set_cons_zero, List.set_cons_succ]
                refine E_take (hR := KeepS.pre (SN N_ [b7])) (i := 7) (N := (some 54)) (v := ?vr3_7) (a' := ?ar3_7) #[true, true, true, true, true, true, true, true, false, false, false] rfl rfl (by kernel_rfl) (fun _ _ _ h => h) (by rfl) ?hyr3_7 ?har3_7 ?_
                case hyr3_7 =>
                  intro w' hx
                  go_simp
                  with_reducible rfl
                case har3_7 => (simp only [Act.put, List.setIfInBounds_toArray, List.set_cons_zero, List.set_cons_succ]; rfl)
                refine E_take (hR := KeepS.pre (SN N_ [b7])) (i := 8) (N := (some 55)) (v := ?vr3_8) (a' := ?ar3_8) #[true, true, true, true, true, true, true, true, true, false, false] rfl rfl (by kernel_rfl) (fun _ _ _ h => h) (by rfl) ?hyr3_8 ?har3_8 ?_
                case hyr3_8 =>
                  intro w' hx
                  (first | (apply Eq.trans; (first | (apply R_ldK hS hx; rfl; rfl; (focus ((repeat (first | exact .here | apply At.there)); done)); assumption; rfl; (first | assumption | rfl | exact mapGetB (by first | assumption | omega) | exact mapGet _ (by first | assumption | omega))) | (apply R_ldOwnK hS hx; rfl; rfl; (focus ((repeat (first | exact .here | apply At.there)); done)); assumption; rfl; (first | rfl | exact mapGetB (by first | assumption | omega) | exact mapGet _ (by first | assumption | omega)))); with_reducible rfl) | (go_simp; with_reducible rfl))
                case har3_8 => (simp only [Act.put, List.setIfInBounds_toArray, List.set_cons_zero, List.set_cons_succ]; rfl)
                refine E_take (hR := KeepS.pre (SN N_ [b7])) (i := 9) (N := (some 56)) (v := ?vr3_9) (a' := ?ar3_9) #[true, true, true, true, true, true, true, true, true, true, false] rfl rfl (by kernel_rfl) (fun _ _ _ h => h) (by rfl) ?hyr3_9 ?har3_9 ?_
                case hyr3_9 =>
                  intro w' hx
                  go_simp
                  with_reducible rfl
                case har3_9 => (simp only [Act.put, List.setIfInBounds_toArray, List.set_cons_zero, List.set_cons_succ]; rfl)
                refine E_split [10] (by kernel_rfl) (by simp) (fun i_ hi_ => ?_)
                simp only [List.mem_cons, List.not_mem_nil, or_false] at hi_
                rcases hi_ with rfl
                (apply K_st (i := 10) hS hz #[true, true, true, true, true, true, true, true, true, true, true]; rfl; rfl; (show _ = _; kernel_rfl); rfl; rfl; rfl; (focus ((conv => lhs; whnf) <;> rfl)); (focus ((repeat (first | exact .here | apply At.there)); done)); (first | assumption | (refine Or.inl ?_; assumption) | (refine Or.inr ?_; focus (simp; done))); rfl; rfl; (first | decide | assumption | (simp only [List.length_map, List.length_set]; omega)))
                clear hS hz
                intro w_ hS hz
                try simp only [List.set_cons_zero, List.set_cons_succ] at hS
                refine E_done (by kernel_rfl) ?_
                change St _ _ _ (.blk b7 _ (((sbs [t0, t1, t2, t3] m).map bV).set m (bV y)) :: _) at hS
                rw [← List.map_set, hst.out] at hS
                go_wp2
                go_roundw
                case rel => exact ⟨m + 1, by go_num, by omega, hS⟩
                case measure => simp [intOf]; omega
              · have hm4 : m = 4 := by omega
                rw [hm4, sbs_end (t := [t0, t1, t2, t3]) rfl] at hS
                have hT := Lib.hid (show tw (wd (kx key k) (k - 1)) k = [t0, t1, t2, t3].map sb by unfold tw; rw [if_neg (by omega), if_pos (by omega), HT.out])
                have hpw := Lib.hid (show pwr ((k + 1 - 1) / 8) = pwr ((k - 1) / 8) by rw [show (k + 1 - 1) / 8 = (k - 1) / 8 by omega])
                go_upto_region 20 with (fail)
                rw [← hT.out] at hS
                clear hT
                have hTL := Lib.hid (tw_len (wd_len (W := kx key k) (i := k - 1) (by rw [HKX.out]; omega)) k)
                have hnx := Lib.hid (zW_next HK.out (i := k) (by omega) hlt)
                rw [show k - 8 = j by have := HJ.out; omega] at hnx
                have hzw := Lib.hid (zW_wL HK.out k (xorF (wd (kx key k) j) (tw (wd (kx key k) (k - 1)) k)))
                rw [hzw.out] at hS
                generalize tw (wd (kx key k) (k - 1)) k = T at *
                have hWL := Lib.hid (show (wd (kx key k) j).length = 4 from wd_len (by rw [HKX.out]; have := HJ.out; omega))
                have hVL := Lib.hid (show (xorF (wd (kx key k) j) T).length = 4 by rw [xorF_length, hWL.out, hTL.out]; rfl)
                clear hzw hwl
                go_wp2
                go_loopw [68] (fun i wr => ∃ n : Nat, i = .int .i64 (n : Int) ∧ n ≤ 4 ∧ St (Km w bC) w wr [.blk b7 66 (T.map bV), .blk b4 76 ((wL (kx key k) (xorF (wd (kx key k) j) T) n).map bV), .blk bC 64 LU]) (fun i _ => 4 - (intOf i).toNat)
                case atStart => exact ⟨0, rfl, by omega, hS⟩
                case round =>
                  clear hS
                  obtain ⟨n, rfl, hn, hS⟩ := hrel
                  by_cases hln : n < 4
                  · have v1 : ((wL (kx key k) (xorF (wd (kx key k) j) T) n).map bV)[j * 4 + n]? = some (.int .u8 (((wd (kx key k) j).getD n 0).toNat : Int)) := by
                      have hjn : j * 4 + n < (kx key k).length := by rw [HKX.out]; have := HJ.out; omega
                      rw [wd_get hln, ← wL_get (v := xorF (wd (kx key k) j) T) (m := n) (by rw [Nat.mul_comm 4 j]; exact hjn), Nat.mul_comm 4 j]
                      exact mapGetB (by rw [wL_len (by rw [HKX.out, hVL.out]; omega) (by rw [hVL.out]; exact hn), HKX.out] at *; have := HJ.out; omega)
                    have v2 : (T.map bV)[n]? = some (.int .u8 ((T.getD n 0).toNat : Int)) := mapGetB (by rw [hTL.out]; exact hln)
                    have hst := Lib.hid (wL_set (A := kx key k) (v := xorF (wd (kx key k) j) T) (m := n) (by rw [HKX.out, hVL.out]; omega) (by rw [hVL.out]; exact hln))
                    have hxv := Lib.hid (show (xorF (wd (kx key k) j) T).getD n 0 = (wd (kx key k) j).getD n 0 ^^^ T.getD n 0 by
                      have e1 : n < (wd (kx key k) j).length := by rw [hWL.out]; exact hln
                      have e2 : n < T.length := by rw [hTL.out]; exact hln
                      unfold xorF
                      simp only [List.getD_eq_getElem?_getD, List.getElem?_zipWith, List.getElem?_eq_getElem e1, List.getElem?_eq_getElem e2]; rfl)
                    have hkl : k * 4 + n < ((wL (kx key k) (xorF (wd (kx key k) j) T) n).map bV).length := by rw [List.length_map, wL_len (by rw [HKX.out, hVL.out]; omega) (by rw [hVL.out]; exact hn)]; omega
                    have hkk := Lib.hid (show k * 4 + n = (kx key k).length + n by rw [HKX.out]; omega)
                    generalize hxg : (wd (kx key k) j).getD n 0 = x at *
                    generalize T.getD n 0 = y at *
                    have hxy := xor8 x y
                    clear hxg
                    have gj : IntKind.i64.wrap (j : Int) = (j : Int) := by rw [IntKind.wrap_i64]; omega
                    have n7 : ¬ b7 = b4 := fun e => (hS.dist 0 1 (by decide) rfl rfl rfl rfl) e
                    go_wp2
                    obtain ⟨N_, hN_⟩ := hS.sz
                    have h0N_ := hS.size
                    rw [hN_] at h0N_
                    refine E_start (hR := KeepS.pre (SN N_ [b4])) #[false, false, false, false, false, false, false, false, false, false, false, false, false, false, false] (by kernel_rfl) rfl rfl (fun w_q4 hx_q4 he_q4 => ?_)
                    have hzE_ : w_q4.heap.size = N_ := by rw [he_q4]; exact hN_
                    have hz : N_ ≤ w_q4.heap.size := Nat.le_of_eq hzE_.symm
                    replace hS := hS.drew; rw [← he_q4] at hS
                    clear hx_q4 he_q4
                    have hsn_b7 : SN N_ [b4] b7 := ⟨by rw [← hzE_]; first | exact Ent.lt (hS.get (x := Ent.blk b7 _ _) (by focus ((repeat (first | exact .here | apply At.there)); done))) rfl | exact Ent.lt (hS.get (x := Ent.own _ _ (.slice (some ⟨b7, 0, none⟩) _ _) _ _) (by focus ((repeat (first | exact .here | apply At.there)); done))) rfl, by first | (focus (simp; done)) | (focus (simp; omega)) | (focus (simp; assumption))⟩
                    clear hzE_ hN_
                    refine E_take (hR := KeepS.pre (SN N_ [b4])) (i := 0) (N := (some 71)) (v := ?vq4_0) (a' := ?aq4_0) #[true, false, false, false, false, false, false, false, false, false, false, false, false, false, false] rfl rfl (by kernel_rfl) (fun _ _ _ h => h) (by rfl) ?hyq4_0 ?haq4_0 ?_
                    case hyq4_0 =>
                      intro w' hx
                      go_simp
                      with_reducible rfl
                    case haq4_0 => (simp only [Act.put, List.setIfInBounds_toArray, List.set_cons_zero, List.set_cons_succ]; rfl)
                    refine E_take (hR := KeepS.pre (SN N_ [b4])) (i := 1) (N := (some 72)) (v := ?vq4_1) (a' := ?aq4_1) #[true, true, false, false, false, false, false, false, false, false, false, false, false, false, false] rfl rfl (by kernel_rfl) (fun _ _ _ h => h) (by rfl) ?hyq4_1 ?haq4_1 ?_
                    case hyq4_1 =>
                      intro w' hx
                      go_simp
                      with_reducible rfl
                    case haq4_1 => (simp only [Act.put, List.setIfInBounds_toArray, List.set_cons_zero, List.set_cons_succ]; rfl)
                    refine E_take (hR := KeepS.pre (SN N_ [b4])) (i := 2) (N := (some 73)) (v := ?vq4_2) (a' := ?aq4_2) #[true, true, true, false, false, false, false, false, false, false, false, false, false, false, false] rfl rfl (by kernel_rfl) (fun _ _ _ h => h) (by rfl) ?hyq4_2 ?haq4_2 ?_
                    case hyq4_2 =>
                      intro w' hx
                      go_simp
                      with_reducible rfl
                    case haq4_2 => (simp only [Act.put, List.setIfInBounds_toArray, List.set_cons_zero, List.set_cons_succ]; rfl)
                    refine E_take (hR := KeepS.pre (SN N_ [b4])) (i := 3) (N := (some 74)) (v := ?vq4_3) (a' := ?aq4_3) #[true, true, true, true, false, false, false, false, false, false, false, false, false, false, false] rfl rfl (by kernel_rfl) (fun _ _ _ h => h) (by rfl) ?hyq4_3 ?haq4_3 ?_
                    case hyq4_3 =>
                      intro w' hx
                      go_simp
                      with_reducible rfl
                    case haq4_3 => (simp only [Act.put, List.setIfInBounds_toArray, List.set_cons_zero, List.set_cons_succ]; rfl)
                    refine E_take (hR := KeepS.pre (SN N_ [b4])) (i := 4) (N := (some 75)) (v := ?vq4_4) (a' := ?aq4_4) #[true, true, true, true, true, false, false, false, false, false, false, false, false, false, false] rfl rfl (by kernel_rfl) (fun _ _ _ h => h) (by rfl) ?hyq4_4 ?haq4_4 ?_
                    case hyq4_4 =>
                      intro w' hx
                      go_simp
                      with_reducible rfl
                    case haq4_4 => (simp only [Act.put, List.setIfInBounds_toArray, List.set_cons_zero, List.set_cons_succ]; rfl)
                    refine E_take (hR := KeepS.pre (SN N_ [b4])) (i := 5) (N := (some 76)) (v := ?vq4_5) (a' := ?aq4_5) #[true, true, true, true, true, true, false, false, false, false, false, false, false, false, false] rfl rfl (by kernel_rfl) (fun _ _ _ h => h) (by rfl) ?hyq4_5 ?haq4_5 ?_
                    case hyq4_5 =>
                      intro w' hx
                      go_simp
                      with_reducible rfl
                    case haq4_5 => (simp only [Act.put, List.setIfInBounds_toArray, List.set_cons_zero, List.set_cons_succ]; rfl)
                    refine E_take (hR := KeepS.pre (SN N_ [b4])) (i := 6) (N := (some 77)) (v := ?vq4_6) (a' := ?aq4_6) #[true, true, true, true, true, true, true, false, false, false, false, false, false, false, false] rfl rfl (by kernel_rfl) (fun _ _ _ h => h) (by rfl) ?hyq4_6 ?haq4_6 ?_
                    case hyq4_6 =>
                      intro w' hx
                      go_simp
                      with_reducible rfl
                    case haq4_6 => (simp only [Act.put, List.setIfInBounds_toArray, List.set_cons_zero, List.set_cons_succ]; rfl)
                    refine E_take (hR := KeepS.pre (SN N_ [b4])) (i := 8) (N := (some 79)) (v := ?vq4_8) (a' := ?aq4_8) #[true, true, true, true, true, true, true, false, true, false, false, false, false, false, false] rfl rfl (by kernel_rfl) (fun _ _ _ h => h) (by rfl) ?hyq4_8 ?haq4_8 ?_
                    case hyq4_8 =>
                      intro w' hx
                      go_simp
                      with_reducible rfl
                    case haq4_8 => (simp only [Act.put, List.setIfInBounds_toArray, List.set_cons_zero, List.set_cons_succ]; rfl)
                    refine E_take (hR := KeepS.pre (SN N_ [b4])) (i := 9) (N := (some 80)) (v := ?vq4_9) (a' := ?aq4_9) #[true, true, true, true, true, true, true, false, true, true, false, false, false, false, false] rfl rfl (by kernel_rfl) (fun _ _ _ h => h) (by rfl) ?hyq4_9 ?haq4_9 ?_
                    case hyq4_9 =>
                      intro w' hx
                      go_simp
                      with_reducible rfl
                    case haq4_9 => (simp only [Act.put, List.setIfInBounds_toArray, List.set_cons_zero, List.set_cons_succ]; rfl)
                    refine E_take (hR := KeepS.pre (SN N_ [b4])) (i := 10) (N := (some 81)) (v := ?vq4_10) (a' := ?aq4_10) #[true, true, true, true, true, true, true, false, true, true, true, false, false, false, false] rfl rfl (by kernel_rfl) (fun _ _ _ h => h) (by rfl) ?hyq4_10 ?haq4_10 ?_
                    case hyq4_10 =>
                      intro w' hx
                      (first | (apply Eq.trans; (first | (apply R_ldK hS hx; rfl; rfl; (focus ((repeat (first | exact .here | apply At.there)); done)); assumption; rfl; (first | assumption | rfl | exact mapGetB (by first | assumption | omega) | exact mapGet _ (by first | assumption | omega))) | (apply R_ldOwnK hS hx; rfl; rfl; (focus ((repeat (first | exact .here | apply At.there)); done)); assumption; rfl; (first | rfl | exact mapGetB (by first | assumption | omega) | exact mapGet _ (by first | assumption | omega)))); with_reducible rfl) | (go_simp; with_reducible rfl))
                    case haq4_10 => (simp only [Act.put, List.setIfInBounds_toArray, List.set_cons_zero, List.set_cons_succ]; rfl)
                    refine E_take (hR := KeepS.pre (SN N_ [b4])) (i := 12) (N := (some 83)) (v := ?vq4_12) (a' := ?aq4_12) #[true, true, true, true, true, true, true, false, true, true, true, false, true, false, false] rfl rfl (by kernel_rfl) (fun _ _ _ h => h) (by rfl) ?hyq4_12 ?haq4_12 ?_
                    case hyq4_12 =>
                      intro w' hx
                      go_simp
                      with_reducible rfl
                    case haq4_12 => (simp only [Act.put, List.setIfInBounds_toArray, List.set_cons_zero, List.set_cons_succ]; rfl)
                    refine E_split [7] (by kernel_rfl) (by simp) (fun i_ hi_ => ?_)
                    simp only [List.mem_cons, List.not_mem_nil, or_false] at hi_
                    rcases hi_ with rfl
                    (apply K_val (i := 7) (T := (some 78)) #[true, true, true, true, true, true, true, true, true, true, true, false, true, false, false]; rfl; rfl; (show _ = _; kernel_rfl); rfl; (apply R_ld hS; rfl; rfl; (focus ((repeat (first | exact .here | apply At.there)); done)); rfl; (first | assumption | rfl | exact mapGetB (by first | assumption | omega))); exact KeepS.refl _ _)
                    rintro _ rfl
                    simp only [Act.put, List.setIfInBounds_toArray, List.set_cons_zero, List.set_cons_succ]
                    refine E_take (hR := KeepS.pre (SN N_ [b4])) (i := 11) (N := (some 82)) (v := ?vq4_11) (a' := ?aq4_11) #[true, true, true, true, true, true, true, true, true, true, true, true, true, false, false] rfl rfl (by kernel_rfl) (fun _ _ _ h => h) (by rfl) ?hyq4_11 ?haq4_11 ?_
                    case hyq4_11 =>
                      intro w' hx
                      go_simp
                      with_reducible rfl
                    case haq4_11 => (simp only [Act.put, List.setIfInBounds_toArray, List.set_cons_zero, List.set_cons_succ]; rfl)
                    refine E_take (hR := KeepS.pre (SN N_ [b4])) (i := 13) (N := (some 84)) (v := ?vq4_13) (a' := ?aq4_13) #[true, true, true, true, true, true, true, true, true, true, true, true, true, true, false] rfl rfl (by kernel_rfl) (fun _ _ _ h => h) (by rfl) ?hyq4_13 ?haq4_13 ?_
                    case hyq4_13 =>
                      intro w' hx
                      go_simp
                      with_reducible rfl
                    case haq4_13 => (simp only [Act.put, List.setIfInBounds_toArray, List.set_cons_zero, List.set_cons_succ]; rfl)
                    refine E_split [14] (by kernel_rfl) (by simp) (fun i_ hi_ => ?_)
                    simp only [List.mem_cons, List.not_mem_nil, or_false] at hi_
                    rcases hi_ with rfl
                    (apply K_st (i := 14) hS hz #[true, true, true, true, true, true, true, true, true, true, true, true, true, true, true]; rfl; rfl; (show _ = _; kernel_rfl); rfl; rfl; rfl; (focus ((conv => lhs; whnf) <;> rfl)); (focus ((repeat (first | exact .here | apply At.there)); done)); (first | assumption | (refine Or.inl ?_; assumption) | (refine Or.inr ?_; focus (simp; done))); rfl; rfl; (first | decide | assumption | (simp only [List.length_map, List.length_set]; omega)))
                    clear hS hz
                    intro w_ hS hz
                    try simp only [List.set_cons_zero, List.set_cons_succ] at hS
                    refine E_done (by kernel_rfl) ?_
                    have EX : Value.int .u8 ((x.toNat ^^^ y.toNat : Nat) : Int) = bV (x ^^^ y) := by unfold bV; rw [UInt8.toNat_xor]
                    rw [EX, ← hxv.out, ← List.map_set, hkk.out, hst.out] at hS
                    clear EX
                    go_wp2
                    go_roundw
                    case rel => exact ⟨n + 1, by go_num, by omega, hS⟩
                    case measure => simp [intOf]; omega
                  · have hn4 : n = 4 := by omega
                    rw [hn4, hnx.out] at hS
                    have hS2 := hS.drop
                    clear hS
                    go_wp2
                    go_roundw
                    case rel => exact ⟨k + 1, by go_num, by omega, by rw [hpw.out], hS2⟩
                    case measure => simp [intOf]; omega
        · as_aux_lemma =>
            have e4 : ¬ (k : Int) % 8 = 4 := by omega
            have e0 : ¬ (k : Int) % 8 = 0 := by omega
            have hT := Lib.hid (show tw (wd (kx key k) (k - 1)) k = [t0, t1, t2, t3] by unfold tw; rw [if_neg (by omega), if_neg (by omega), HT.out])
            have hpw := Lib.hid (show pwr ((k + 1 - 1) / 8) = pwr ((k - 1) / 8) by rw [show (k + 1 - 1) / 8 = (k - 1) / 8 by omega])
            go_upto_region 20 with (first | ((with_reducible show wpList _ _ _ (⟨some 28, Op.load _ _, _, _, _, _⟩ :: _) _ _); go_loud (apply S_ldPart (m := 4) hS; rfl; rfl; rfl; (focus ((repeat (first | exact .here | apply At.there)); done)); rfl; rfl; ((rw [hwl.out]; exact ll60)); (rw [hword.out]))) | ((with_reducible show wpList _ _ _ (⟨some 7, Op.alloc _, _, _, _, _⟩ :: _) _ _); go_loud (refine S_alloc (z := .agg ([.int .u8 0, .int .u8 0, .int .u8 0, .int .u8 0] : List Value).toArray) (L := [.int .u8 0, .int .u8 0, .int .u8 0, .int .u8 0]) hS rfl rfl ?_ ?_ ?_; (show _ = _; kernel_rfl); (show _ = _; kernel_rfl); clear hS; intro b7 w_ hS)) | ((with_reducible show wpList _ _ _ (⟨_, Op.store _ _ _, _, _, _, _⟩ :: _) _ _); go_loud (apply S_stAll hS; rfl; rfl; rfl; rfl; (focus ((repeat (first | exact .here | apply At.there)); done)); (first | assumption | (rfl) | (focus (simp [bV, wV, Value.oneCell']; done)) | (focus (simp [bV, Value.oneCell']; done))); (first | rfl | (rfl)); (first | rfl | (rfl)); clear hS; intro w_ hS)))
            change St _ _ _ (.blk b7 _ (([t0, t1, t2, t3] : List UInt8).map bV) :: _) at hS
            rw [← hT.out] at hS
            clear hT
            have hTL := Lib.hid (tw_len (wd_len (W := kx key k) (i := k - 1) (by rw [HKX.out]; omega)) k)
            have hnx := Lib.hid (zW_next HK.out (i := k) (by omega) hlt)
            rw [show k - 8 = j by have := HJ.out; omega] at hnx
            have hzw := Lib.hid (zW_wL HK.out k (xorF (wd (kx key k) j) (tw (wd (kx key k) (k - 1)) k)))
            rw [hzw.out] at hS
            generalize tw (wd (kx key k) (k - 1)) k = T at *
            have hWL := Lib.hid (show (wd (kx key k) j).length = 4 from wd_len (by rw [HKX.out]; have := HJ.out; omega))
            have hVL := Lib.hid (show (xorF (wd (kx key k) j) T).length = 4 by rw [xorF_length, hWL.out, hTL.out]; rfl)
            clear hzw hwl
            go_wp2
            go_loopw [68] (fun i wr => ∃ n : Nat, i = .int .i64 (n : Int) ∧ n ≤ 4 ∧ St (Km w bC) w wr [.blk b7 66 (T.map bV), .blk b4 76 ((wL (kx key k) (xorF (wd (kx key k) j) T) n).map bV), .blk bC 64 LU]) (fun i _ => 4 - (intOf i).toNat)
            case atStart => exact ⟨0, rfl, by omega, hS⟩
            case round =>
              clear hS
              obtain ⟨n, rfl, hn, hS⟩ := hrel
              by_cases hln : n < 4
              · have v1 : ((wL (kx key k) (xorF (wd (kx key k) j) T) n).map bV)[j * 4 + n]? = some (.int .u8 (((wd (kx key k) j).getD n 0).toNat : Int)) := by
                  have hjn : j * 4 + n < (kx key k).length := by rw [HKX.out]; have := HJ.out; omega
                  rw [wd_get hln, ← wL_get (v := xorF (wd (kx key k) j) T) (m := n) (by rw [Nat.mul_comm 4 j]; exact hjn), Nat.mul_comm 4 j]
                  exact mapGetB (by rw [wL_len (by rw [HKX.out, hVL.out]; omega) (by rw [hVL.out]; exact hn), HKX.out] at *; have := HJ.out; omega)
                have v2 : (T.map bV)[n]? = some (.int .u8 ((T.getD n 0).toNat : Int)) := mapGetB (by rw [hTL.out]; exact hln)
                have hst := Lib.hid (wL_set (A := kx key k) (v := xorF (wd (kx key k) j) T) (m := n) (by rw [HKX.out, hVL.out]; omega) (by rw [hVL.out]; exact hln))
                have hxv := Lib.hid (show (xorF (wd (kx key k) j) T).getD n 0 = (wd (kx key k) j).getD n 0 ^^^ T.getD n 0 by
                  have e1 : n < (wd (kx key k) j).length := by rw [hWL.out]; exact hln
                  have e2 : n < T.length := by rw [hTL.out]; exact hln
                  unfold xorF
                  simp only [List.getD_eq_getElem?_getD, List.getElem?_zipWith, List.getElem?_eq_getElem e1, List.getElem?_eq_getElem e2]; rfl)
                have hkl : k * 4 + n < ((wL (kx key k) (xorF (wd (kx key k) j) T) n).map bV).length := by rw [List.length_map, wL_len (by rw [HKX.out, hVL.out]; omega) (by rw [hVL.out]; exact hn)]; omega
                have hkk := Lib.hid (show k * 4 + n = (kx key k).length + n by rw [HKX.out]; omega)
                generalize hxg : (wd (kx key k) j).getD n 0 = x at *
                generalize T.getD n 0 = y at *
                have hxy := xor8 x y
                clear hxg
                have gj : IntKind.i64.wrap (j : Int) = (j : Int) := by rw [IntKind.wrap_i64]; omega
                have n7 : ¬ b7 = b4 := fun e => (hS.dist 0 1 (by decide) rfl rfl rfl rfl) e
                go_wp2
                obtain ⟨N_, hN_⟩ := hS.sz
                have h0N_ := hS.size
                rw [hN_] at h0N_
                refine E_start (hR := KeepS.pre (SN N_ [b4])) #[false, false, false, false, false, false, false, false, false, false, false, false, false, false, false] (by kernel_rfl) rfl rfl (fun w_q5 hx_q5 he_q5 => ?_)
                have hzE_ : w_q5.heap.size = N_ := by rw [he_q5]; exact hN_
                have hz : N_ ≤ w_q5.heap.size := Nat.le_of_eq hzE_.symm
                replace hS := hS.drew; rw [← he_q5] at hS
                clear hx_q5 he_q5
                have hsn_b7 : SN N_ [b4] b7 := ⟨by rw [← hzE_]; first | exact Ent.lt (hS.get (x := Ent.blk b7 _ _) (by focus ((repeat (first | exact .here | apply At.there)); done))) rfl | exact Ent.lt (hS.get (x := Ent.own _ _ (.slice (some ⟨b7, 0, none⟩) _ _) _ _) (by focus ((repeat (first | exact .here | apply At.there)); done))) rfl, by first | (focus (simp; done)) | (focus (simp; omega)) | (focus (simp; assumption))⟩
                clear hzE_ hN_
                refine E_take (hR := KeepS.pre (SN N_ [b4])) (i := 0) (N := (some 71)) (v := ?vq5_0) (a' := ?aq5_0) #[true, false, false, false, false, false, false, false, false, false, false, false, false, false, false] rfl rfl (by kernel_rfl) (fun _ _ _ h => h) (by rfl) ?hyq5_0 ?haq5_0 ?_
                case hyq5_0 =>
                  intro w' hx
                  go_simp
                  with_reducible rfl
                case haq5_0 => (simp only [Act.put, List.setIfInBounds_toArray, List.set_cons_zero, List.set_cons_succ]; rfl)
                refine E_take (hR := KeepS.pre (SN N_ [b4])) (i := 1) (N := (some 72)) (v := ?vq5_1) (a' := ?aq5_1) #[true, true, false, false, false, false, false, false, false, false, false, false, false, false, false] rfl rfl (by kernel_rfl) (fun _ _ _ h => h) (by rfl) ?hyq5_1 ?haq5_1 ?_
                case hyq5_1 =>
                  intro w' hx
                  go_simp
                  with_reducible rfl
                case haq5_1 => (simp only [Act.put, List.setIfInBounds_toArray, List.set_cons_zero, List.set_cons_succ]; rfl)
                refine E_take (hR := KeepS.pre (SN N_ [b4])) (i := 2) (N := (some 73)) (v := ?vq5_2) (a' := ?aq5_2) #[true, true, true, false, false, false, false, false, false, false, false, false, false, false, false] rfl rfl (by kernel_rfl) (fun _ _ _ h => h) (by rfl) ?hyq5_2 ?haq5_2 ?_
                case hyq5_2 =>
                  intro w' hx
                  go_simp
                  with_reducible rfl
                case haq5_2 => (simp only [Act.put, List.setIfInBounds_toArray, List.set_cons_zero, List.set_cons_succ]; rfl)
                refine E_take (hR := KeepS.pre (SN N_ [b4])) (i := 3) (N := (some 74)) (v := ?vq5_3) (a' := ?aq5_3) #[true, true, true, true, false, false, false, false, false, false, false, false, false, false, false] rfl rfl (by kernel_rfl) (fun _ _ _ h => h) (by rfl) ?hyq5_3 ?haq5_3 ?_
                case hyq5_3 =>
                  intro w' hx
                  go_simp
                  with_reducible rfl
                case haq5_3 => (simp only [Act.put, List.setIfInBounds_toArray, List.set_cons_zero, List.set_cons_succ]; rfl)
                refine E_take (hR := KeepS.pre (SN N_ [b4])) (i := 4) (N := (some 75)) (v := ?vq5_4) (a' := ?aq5_4) #[true, true, true, true, true, false, false, false, false, false, false, false, false, false, false] rfl rfl (by kernel_rfl) (fun _ _ _ h => h) (by rfl) ?hyq5_4 ?haq5_4 ?_
                case hyq5_4 =>
                  intro w' hx
                  go_simp
                  with_reducible rfl
                case haq5_4 => (simp only [Act.put, List.setIfInBounds_toArray, List.set_cons_zero, List.set_cons_succ]; rfl)
                refine E_take (hR := KeepS.pre (SN N_ [b4])) (i := 5) (N := (some 76)) (v := ?vq5_5) (a' := ?aq5_5) #[true, true, true, true, true, true, false, false, false, false, false, false, false, false, false] rfl rfl (by kernel_rfl) (fun _ _ _ h => h) (by rfl) ?hyq5_5 ?haq5_5 ?_
                case hyq5_5 =>
                  intro w' hx
                  go_simp
                  with_reducible rfl
                case haq5_5 => (simp only [Act.put, List.setIfInBounds_toArray, List.set_cons_zero, List.set_cons_succ]; rfl)
                refine E_take (hR := KeepS.pre (SN N_ [b4])) (i := 6) (N := (some 77)) (v := ?vq5_6) (a' := ?aq5_6) #[true, true, true, true, true, true, true, false, false, false, false, false, false, false, false] rfl rfl (by kernel_rfl) (fun _ _ _ h => h) (by rfl) ?hyq5_6 ?haq5_6 ?_
                case hyq5_6 =>
                  intro w' hx
                  go_simp
                  with_reducible rfl
                case haq5_6 => (simp only [Act.put, List.setIfInBounds_toArray, List.set_cons_zero, List.set_cons_succ]; rfl)
                refine E_take (hR := KeepS.pre (SN N_ [b4])) (i := 8) (N := (some 79)) (v := ?vq5_8) (a' := ?aq5_8) #[true, true, true, true, true, true, true, false, true, false, false, false, false, false, false] rfl rfl (by kernel_rfl) (fun _ _ _ h => h) (by rfl) ?hyq5_8 ?haq5_8 ?_
                case hyq5_8 =>
                  intro w' hx
                  go_simp
                  with_reducible rfl
                case haq5_8 => (simp only [Act.put, List.setIfInBounds_toArray, List.set_cons_zero, List.set_cons_succ]; rfl)
                refine E_take (hR := KeepS.pre (SN N_ [b4])) (i := 9) (N := (some 80)) (v := ?vq5_9) (a' := ?aq5_9) #[true, true, true, true, true, true, true, false, true, true, false, false, false, false, false] rfl rfl (by kernel_rfl) (fun _ _ _ h => h) (by rfl) ?hyq5_9 ?haq5_9 ?_
                case hyq5_9 =>
                  intro w' hx
                  go_simp
                  with_reducible rfl
                case haq5_9 => (simp only [Act.put, List.setIfInBounds_toArray, List.set_cons_zero, List.set_cons_succ]; rfl)
                refine E_take (hR := KeepS.pre (SN N_ [b4])) (i := 10) (N := (some 81)) (v := ?vq5_10) (a' := ?aq5_10) #[true, true, true, true, true, true, true, false, true, true, true, false, false, false, false] rfl rfl (by kernel_rfl) (fun _ _ _ h => h) (by rfl) ?hyq5_10 ?haq5_10 ?_
                case hyq5_10 =>
                  intro w' hx
                  (first | (apply Eq.trans; (first | (apply R_ldK hS hx; rfl; rfl; (focus ((repeat (first | exact .here | apply At.there)); done)); assumption; rfl; (first | assumption | rfl | exact mapGetB (by first | assumption | omega) | exact mapGet _ (by first | assumption | omega))) | (apply R_ldOwnK hS hx; rfl; rfl; (focus ((repeat (first | exact .here | apply At.there)); done)); assumption; rfl; (first | rfl | exact mapGetB (by first | assumption | omega) | exact mapGet _ (by first | assumption | omega)))); with_reducible rfl) | (go_simp; with_reducible rfl))
                case haq5_10 => (simp only [Act.put, List.setIfInBounds_toArray, List.set_cons_zero, List.set_cons_succ]; rfl)
                refine E_take (hR := KeepS.pre (SN N_ [b4])) (i := 12) (N := (some 83)) (v := ?vq5_12) (a' := ?aq5_12) #[true, true, true, true, true, true, true, false, true, true, true, false, true, false, false] rfl rfl (by kernel_rfl) (fun _ _ _ h => h) (by rfl) ?hyq5_12 ?haq5_12 ?_
                case hyq5_12 =>
                  intro w' hx
                  go_simp
                  with_reducible rfl
                case haq5_12 => (simp only [Act.put, List.setIfInBounds_toArray, List.set_cons_zero, List.set_cons_succ]; rfl)
                refine E_split [7] (by kernel_rfl) (by simp) (fun i_ hi_ => ?_)
                simp only [List.mem_cons, List.not_mem_nil, or_false] at hi_
                rcases hi_ with rfl
                (apply K_val (i := 7) (T := (some 78)) #[true, true, true, true, true, true, true, true, true, true, true, false, true, false, false]; rfl; rfl; (show _ = _; kernel_rfl); rfl; (apply R_ld hS; rfl; rfl; (focus ((repeat (first | exact .here | apply At.there)); done)); rfl; (first | assumption | rfl | exact mapGetB (by first | assumption | omega))); exact KeepS.refl _ _)
                rintro _ rfl
                simp only [Act.put, List.setIfInBounds_toArray, List.set_cons_zero, List.set_cons_succ]
                refine E_take (hR := KeepS.pre (SN N_ [b4])) (i := 11) (N := (some 82)) (v := ?vq5_11) (a' := ?aq5_11) #[true, true, true, true, true, true, true, true, true, true, true, true, true, false, false] rfl rfl (by kernel_rfl) (fun _ _ _ h => h) (by rfl) ?hyq5_11 ?haq5_11 ?_
                case hyq5_11 =>
                  intro w' hx
                  go_simp
                  with_reducible rfl
                case haq5_11 => (simp only [Act.put, List.setIfInBounds_toArray, List.set_cons_zero, List.set_cons_succ]; rfl)
                refine E_take (hR := KeepS.pre (SN N_ [b4])) (i := 13) (N := (some 84)) (v := ?vq5_13) (a' := ?aq5_13) #[true, true, true, true, true, true, true, true, true, true, true, true, true, true, false] rfl rfl (by kernel_rfl) (fun _ _ _ h => h) (by rfl) ?hyq5_13 ?haq5_13 ?_
                case hyq5_13 =>
                  intro w' hx
                  go_simp
                  with_reducible rfl
                case haq5_13 => (simp only [Act.put, List.setIfInBounds_toArray, List.set_cons_zero, List.set_cons_succ]; rfl)
                refine E_split [14] (by kernel_rfl) (by simp) (fun i_ hi_ => ?_)
                simp only [List.mem_cons, List.not_mem_nil, or_false] at hi_
                rcases hi_ with rfl
                (apply K_st (i := 14) hS hz #[true, true, true, true, true, true, true, true, true, true, true, true, true, true, true]; rfl; rfl; (show _ = _; kernel_rfl); rfl; rfl; rfl; (focus ((conv => lhs; whnf) <;> rfl)); (focus ((repeat (first | exact .here | apply At.there)); done)); (first | assumption | (refine Or.inl ?_; assumption) | (refine Or.inr ?_; focus (simp; done))); rfl; rfl; (first | decide | assumption | (simp only [List.length_map, List.length_set]; omega)))
                clear hS hz
                intro w_ hS hz
                try simp only [List.set_cons_zero, List.set_cons_succ] at hS
                refine E_done (by kernel_rfl) ?_
                have EX : Value.int .u8 ((x.toNat ^^^ y.toNat : Nat) : Int) = bV (x ^^^ y) := by unfold bV; rw [UInt8.toNat_xor]
                rw [EX, ← hxv.out, ← List.map_set, hkk.out, hst.out] at hS
                clear EX
                go_wp2
                go_roundw
                case rel => exact ⟨n + 1, by go_num, by omega, hS⟩
                case measure => simp [intOf]; omega
              · have hn4 : n = 4 := by omega
                rw [hn4, hnx.out] at hS
                have hS2 := hS.drop
                clear hS
                go_wp2
                go_roundw
                case rel => exact ⟨k + 1, by go_num, by omega, by rw [hpw.out], hS2⟩
                case measure => simp [intOf]; omega
    · have hk6 : k = 60 := by omega
      have HKF := Lib.hid (keysF_len HK.out)
      have hz6 := Lib.hid (show (zW key k).map bV = (keysF key).map bV by rw [hk6]; unfold zW keysF; rw [show 240 - 4 * 60 = 0 from rfl, List.replicate_zero, List.append_nil])
      rw [hz6.out] at hS
      clear hz6
      generalize hKK : keysF key = K at *
      have HKK := Lib.hid (show True → keysF key = K from fun _ => hKK)
      clear hKK
      have hKL := Lib.hid (show (K.map bV).length = 240 by rw [List.length_map]; exact HKF.out)
      have hc0 := Lib.hid ((cL_zero K).trans (HLU.out trivial))
      rw [← hc0.out] at hS
      have hix := Lib.hid (show ∀ k : Nat, k < 60 → ∀ wx, (Instr.index 76 (.agg (K.map bV).toArray) (.int .i64 (k : Int))).run Try.prog wx = .ok (.agg ((wd K k).map bV).toArray) wx from fun k hk wx => run_index_word wx HKF.out hk)
      go_wp2_with (first | ((with_reducible show wpList _ _ _ (⟨some 87, Op.load _ _, _, _, _, _⟩ :: _) _ _); go_loud (apply S_ldAll hS; rfl; rfl; rfl; (focus ((repeat (first | exact .here | apply At.there)); done)); rfl; (first | rfl | (rw [hKL.out]; rfl) | (simp only [List.length_map, List.length_set]; rfl)))))
      have hS2 := hS
      clear hS
      have hS := hS2
      clear hS2
      go_loopw [88] (fun i wr => ∃ k : Nat, i = .int .i64 (k : Int) ∧ k ≤ 60 ∧ St (Km w bC) w wr [.blk b4 76 (K.map bV), .blk bC 64 (cL K k)]) (fun i _ => 60 - (intOf i).toNat)
      case atStart => exact ⟨0, rfl, by omega, hS⟩
      case round =>
        clear hS
        obtain ⟨k, rfl, hk, hS⟩ := hrel
        by_cases hlt : k < 60
        · have hi := hix.out k hlt
          obtain ⟨r, c, hr, hc, hkr⟩ : ∃ r c, r < 4 ∧ c < 15 ∧ k = 4 * c + r := ⟨k % 4, k / 4, by omega, by omega, by omega⟩
          have f1 : (k : Int) % 4 = (r : Int) := by omega
          have f2 : (k : Int) / 4 = (c : Int) := by omega
          obtain ⟨s, hs⟩ : ∃ s : Nat, s = r * 4 := ⟨_, rfl⟩
          have g1 : (r : Int) * 4 = (s : Int) := by omega
          have hs12 : s ≤ 12 := by omega
          have c15 : (c : Int) < 15 := by omega
          have gc : IntKind.i64.wrap (c : Int) = (c : Int) := by rw [IntKind.wrap_i64]; omega
          have f3 : (k : Int).tmod 4 = (r : Int) := by rw [Int.tmod_eq_emod_of_nonneg (by omega)]; omega
          have gr : IntKind.i64.wrap ((r : Int) * 4) = (s : Int) := by rw [IntKind.wrap_i64]; omega
          have hs16 : s < 16 := by omega
          have gs : IntKind.i64.wrap (s : Int) = (s : Int) := by rw [IntKind.wrap_i64]; omega
          have hsla := fun wx => run_slArr (b := bC) (off := 512 + c * 16) wx hs16
          have HKR := Lib.hid hkr
          have HSR := Lib.hid hs
          clear hkr hs
          have hwl := Lib.hid (show ((wd K k).map bV).length = 4 by rw [List.length_map]; exact wd_len (by rw [HKF.out]; omega))
          have hst := Lib.hid (cL_next HKF.out hlt)
          have hcl := Lib.hid (cL_len HKF.out (show k ≤ 60 by omega))
          have h1v : ∀ u ∈ (wd K k).map bV, u.oneCell' = true := one_bV _
          generalize (wd K k).map bV = v at *
          go_wp2_with (first | ((with_reducible show wpList _ _ _ (⟨some 11, Op.alloc _, _, _, _, _⟩ :: _) _ _); go_loud (refine S_alloc (z := .agg ([.int .u8 0, .int .u8 0, .int .u8 0, .int .u8 0] : List Value).toArray) (L := [.int .u8 0, .int .u8 0, .int .u8 0, .int .u8 0]) hS rfl rfl ?_ ?_ ?_; (show _ = _; kernel_rfl); (show _ = _; kernel_rfl); clear hS; intro b11 w_ hS)) | ((with_reducible show wpList _ _ _ (⟨_, Op.store _ _ _, _, _, _, _⟩ :: _) _ _); go_loud (apply S_stAll hS; rfl; rfl; rfl; rfl; (focus ((repeat (first | exact .here | apply At.there)); done)); (first | assumption | (rw [hwl.out]; rfl) | (focus (simp [bV, wV, Value.oneCell']; done)) | (focus (simp [bV, Value.oneCell']; done))); (first | rfl | (rw [hwl.out]; rfl)); (first | rfl | (rw [hwl.out]; rfl)); clear hS; intro w_ hS)))
          obtain ⟨N_, hN_⟩ := hS.sz
          have h0N_ := hS.size
          rw [hN_] at h0N_
          refine E_start (hR := KeepS.pre (SN N_ [bC])) #[false, false, false, false, false, false, false, false, false, false, false, false] (by kernel_rfl) rfl rfl (fun w_x6 hx_x6 he_x6 => ?_)
          have hzE_ : w_x6.heap.size = N_ := by rw [he_x6]; exact hN_
          have hz : N_ ≤ w_x6.heap.size := Nat.le_of_eq hzE_.symm
          replace hS := hS.drew; rw [← he_x6] at hS
          clear hx_x6 he_x6
          clear hzE_ hN_
          refine E_take (hR := KeepS.pre (SN N_ [bC])) (i := 0) (N := (some 92)) (v := ?vx6_0) (a' := ?ax6_0) #[true, false, false, false, false, false, false, false, false, false, false, false] rfl rfl (by kernel_rfl) (fun _ _ _ h => h) (by rfl) ?hyx6_0 ?hax6_0 ?_
          case hyx6_0 =>
            intro w' hx
            go_simp
            with_reducible rfl
          case hax6_0 => (simp only [Act.put, List.setIfInBounds_toArray, List.set_cons_zero, List.set_cons_succ]; rfl)
          refine E_take (hR := KeepS.pre (SN N_ [bC])) (i := 1) (N := (some 93)) (v := ?vx6_1) (a' := ?ax6_1) #[true, true, false, false, false, false, false, false, false, false, false, false] rfl rfl (by kernel_rfl) (fun _ _ _ h => h) (by rfl) ?hyx6_1 ?hax6_1 ?_
          case hyx6_1 =>
            intro w' hx
            go_simp
            with_reducible rfl
          case hax6_1 => (simp only [Act.put, List.setIfInBounds_toArray, List.set_cons_zero, List.set_cons_succ]; rfl)
          refine E_take (hR := KeepS.pre (SN N_ [bC])) (i := 2) (N := (some 94)) (v := ?vx6_2) (a' := ?ax6_2) #[true, true, true, false, false, false, false, false, false, false, false, false] rfl rfl (by kernel_rfl) (fun _ _ _ h => h) (by rfl) ?hyx6_2 ?hax6_2 ?_
          case hyx6_2 =>
            intro w' hx
            go_simp
            with_reducible rfl
          case hax6_2 => (simp only [Act.put, List.setIfInBounds_toArray, List.set_cons_zero, List.set_cons_succ]; rfl)
          refine E_take (hR := KeepS.pre (SN N_ [bC])) (i := 3) (N := (some 95)) (v := ?vx6_3) (a' := ?ax6_3) #[true, true, true, true, false, false, false, false, false, false, false, false] rfl rfl (by kernel_rfl) (fun _ _ _ h => h) (by rfl) ?hyx6_3 ?hax6_3 ?_
          case hyx6_3 =>
            intro w' hx
            go_simp
            with_reducible rfl
          case hax6_3 => (simp only [Act.put, List.setIfInBounds_toArray, List.set_cons_zero, List.set_cons_succ]; rfl)
          refine E_take (hR := KeepS.pre (SN N_ [bC])) (i := 4) (N := (some 96)) (v := ?vx6_4) (a' := ?ax6_4) #[true, true, true, true, true, false, false, false, false, false, false, false] rfl rfl (by kernel_rfl) (fun _ _ _ h => h) (by rfl) ?hyx6_4 ?hax6_4 ?_
          case hyx6_4 =>
            intro w' hx
            go_simp
            with_reducible rfl
          case hax6_4 => (simp only [Act.put, List.setIfInBounds_toArray, List.set_cons_zero, List.set_cons_succ]; rfl)
          refine E_take (hR := KeepS.pre (SN N_ [bC])) (i := 5) (N := (some 97)) (v := ?vx6_5) (a' := ?ax6_5) #[true, true, true, true, true, true, false, false, false, false, false, false] rfl rfl (by kernel_rfl) (fun _ _ _ h => h) (by rfl) ?hyx6_5 ?hax6_5 ?_
          case hyx6_5 =>
            intro w' hx
            go_simp
            with_reducible rfl
          case hax6_5 => (simp only [Act.put, List.setIfInBounds_toArray, List.set_cons_zero, List.set_cons_succ]; rfl)
          refine E_take (hR := KeepS.pre (SN N_ [bC])) (i := 6) (N := (some 98)) (v := ?vx6_6) (a' := ?ax6_6) #[true, true, true, true, true, true, true, false, false, false, false, false] rfl rfl (by kernel_rfl) (fun _ _ _ h => h) (by rfl) ?hyx6_6 ?hax6_6 ?_
          case hyx6_6 =>
            intro w' hx
            go_simp
            with_reducible rfl
          case hax6_6 => (simp only [Act.put, List.setIfInBounds_toArray, List.set_cons_zero, List.set_cons_succ]; rfl)
          refine E_take (hR := KeepS.pre (SN N_ [bC])) (i := 7) (N := (some 99)) (v := ?vx6_7) (a' := ?ax6_7) #[true, true, true, true, true, true, true, true, false, false, false, false] rfl rfl (by kernel_rfl) (fun _ _ _ h => h) (by rfl) ?hyx6_7 ?hax6_7 ?_
          case hyx6_7 =>
            intro w' hx
            go_simp
            with_reducible rfl
          case hax6_7 => (simp only [Act.put, List.setIfInBounds_toArray, List.set_cons_zero, List.set_cons_succ]; rfl)
          refine E_take (hR := KeepS.pre (SN N_ [bC])) (i := 8) (N := (some 100)) (v := ?vx6_8) (a' := ?ax6_8) #[true, true, true, true, true, true, true, true, true, false, false, false] rfl rfl (by kernel_rfl) (fun _ _ _ h => h) (by rfl) ?hyx6_8 ?hax6_8 ?_
          case hyx6_8 =>
            intro w' hx
            go_simp
            with_reducible rfl
          case hax6_8 => (simp only [Act.put, List.setIfInBounds_toArray, List.set_cons_zero, List.set_cons_succ]; rfl)
          refine E_take (hR := KeepS.pre (SN N_ [bC])) (i := 9) (N := (some 101)) (v := ?vx6_9) (a' := ?ax6_9) #[true, true, true, true, true, true, true, true, true, true, false, false] rfl rfl (by kernel_rfl) (fun _ _ _ h => h) (by rfl) ?hyx6_9 ?hax6_9 ?_
          case hyx6_9 =>
            intro w' hx
            (first | (apply Eq.trans; (apply R_slice; rfl; rfl; (first | exact SB.no | exact SB.so | exact SB.lit (by decide)); (first | exact SB.no | exact SB.so | exact SB.lit (by decide)); rfl; rfl; (first | assumption | (focus (simp; done)) | (focus (simp; omega)) | omega); (first | assumption | (focus (simp; done)) | (focus (simp; omega)) | omega)); with_reducible rfl) | (go_simp; with_reducible rfl))
          case hax6_9 => (simp only [Act.put, List.setIfInBounds_toArray, List.set_cons_zero, List.set_cons_succ]; rfl)
          refine E_take (hR := KeepS.pre (SN N_ [bC])) (i := 10) (N := (some 102)) (v := ?vx6_10) (a' := ?ax6_10) #[true, true, true, true, true, true, true, true, true, true, true, false] rfl rfl (by kernel_rfl) (fun _ _ _ h => h) (by rfl) ?hyx6_10 ?hax6_10 ?_
          case hyx6_10 =>
            intro w' hx
            (first | (apply Eq.trans; (apply R_slice; rfl; rfl; (first | exact SB.no | exact SB.so | exact SB.lit (by decide)); (first | exact SB.no | exact SB.so | exact SB.lit (by decide)); rfl; rfl; (first | assumption | (focus (simp; done)) | (focus (simp; omega)) | omega); (first | assumption | (focus (simp; done)) | (focus (simp; omega)) | omega)); with_reducible rfl) | (go_simp; with_reducible rfl))
          case hax6_10 => (simp only [Act.put, List.setIfInBounds_toArray, List.set_cons_zero, List.set_cons_succ]; rfl)
          refine E_split [11] (by kernel_rfl) (by simp) (fun i_ hi_ => ?_)
          simp only [List.mem_cons, List.not_mem_nil, or_false] at hi_
          rcases hi_ with rfl
          (apply K_copyN (i := 11) (T := (some 103)) hS hz #[true, true, true, true, true, true, true, true, true, true, true, true]; rfl; rfl; (show _ = _; kernel_rfl); rfl; rfl; rfl; rfl; rfl; (focus ((repeat (first | exact .here | apply At.there)); done)); (refine Or.inr ?_; focus (simp; done)); rfl; exact (hS.blkRd (b := b11) (by focus ((repeat (first | exact .here | apply At.there)); done))); (rw [hwl.out]; omega); (rw [hwl.out, hcl.out]; omega); exact h1v; (rw [hwl.out]; decide))
          clear hS hz
          intro w_ hS hz
          rintro _ rfl
          simp only [Act.put, List.setIfInBounds_toArray, List.set_cons_zero, List.set_cons_succ]
          refine E_done (by kernel_rfl) ?_
          rw [show 512 + c * 16 + s = 512 + 4 * k by have h1 := HKR.out; have h2 := HSR.out; omega, hst.out] at hS
          have hS2 := hS.drop
          clear hS
          go_wp2
          go_roundw
          case rel => exact ⟨k + 1, by go_num, by omega, hS2⟩
          case measure => simp [intOf]; omega
        · have hk9 : k = 60 := by omega
          rw [hk9, cL_end HKF.out] at hS
          go_wp2
          refine bodyPost_end (results_none rfl _ _ _) rfl ⟨rfl, hS.grownBy, ?_⟩
          rw [HKK.out trivial]
          exact hS.blk (by focus ((repeat (first | exact .here | apply At.there)); done))
end Go.Proofs.Ythamhaomfdgdjaa
