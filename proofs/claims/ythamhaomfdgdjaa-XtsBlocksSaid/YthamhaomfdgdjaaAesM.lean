/- AES: mix. -/
import Derived.Test.YthamhaomfdgdjaaAesR
namespace Go.Proofs.Ythamhaomfdgdjaa
open Go.RowKit

/-- The first m terms of a mixed octet: row r, column c. -/
def mxS (by_ b : List UInt8) (c r : Nat) : Nat → UInt8
  | 0 => 0
  | m + 1 => mxS by_ b c r m ^^^ gm (by_.getD ((m + 4 - r) % 4) 0) (b.getD (4 * c + m) 0)
def mxO (by_ b : List UInt8) (i : Nat) : UInt8 := mxS by_ b (i / 4) (i % 4) 4
/-- What is laid after i octets and m terms of the next. -/
def mxL (by_ b : List UInt8) (i m : Nat) : List UInt8 := (List.range 16).map fun j => if j < i then mxO by_ b j else if j = i then mxS by_ b (i / 4) (i % 4) m else 0
theorem mxL_len (by_ b : List UInt8) (i m : Nat) : (mxL by_ b i m).length = 16 := by simp [mxL]
theorem mxL_get (by_ b : List UInt8) {i m : Nat} (hi : i < 16) : (mxL by_ b i m)[i]? = some (mxS by_ b (i / 4) (i % 4) m) := by
  unfold mxL
  rw [List.getElem?_map, List.getElem?_range hi]
  simp
theorem mxL_set (by_ b : List UInt8) {i m : Nat} (hi : i < 16) : (mxL by_ b i m).set i (mxS by_ b (i / 4) (i % 4) (m + 1)) = mxL by_ b i (m + 1) := by
  apply List.ext_getElem?
  intro j
  unfold mxL
  rw [List.getElem?_set, List.length_map, List.length_range, List.getElem?_map, List.getElem?_map]
  by_cases hj : j < 16
  · rw [List.getElem?_range hj]
    by_cases hij : i = j
    · subst hij; simp [hi]
    · rw [if_neg hij]
      simp only [Option.map_some]
      by_cases h1 : j < i
      · simp [h1]
      · simp [h1, Ne.symm hij]
  · rw [if_neg (by omega), List.getElem?_eq_none (by simp; omega)]; rfl
theorem mxL_next (by_ b : List UInt8) {i : Nat} : mxL by_ b i 4 = mxL by_ b (i + 1) 0 := by
  unfold mxL
  apply List.map_congr_left
  intro j _
  by_cases h1 : j < i
  · rw [if_pos h1, if_pos (by omega)]
  · rw [if_neg h1]
    by_cases h2 : j = i
    · rw [if_pos h2, if_pos (by omega), h2]; rfl
    · rw [if_neg h2, if_neg (by omega)]
      by_cases h3 : j = i + 1
      · rw [if_pos h3]; rfl
      · rw [if_neg h3]
theorem mxL_zero (by_ b : List UInt8) : (mxL by_ b 0 0).map bV = List.replicate 16 (.int .u8 0) := by
  unfold mxL
  rfl
theorem mxL_E {b : List UInt8} (h : b.length = 16) : mxL [2, 3, 1, 1] b 16 0 = mixE b := by
  obtain ⟨a0, a1, a2, a3, a4, a5, a6, a7, a8, a9, a10, a11, a12, a13, a14, a15, rfl⟩ := ex16 h
  have key : ∀ m0 m1 m2 m3 a b c d : UInt8, True := fun _ _ _ _ _ _ _ _ => trivial
  have h : ∀ i, i < 16 → mxO [2, 3, 1, 1] [a0, a1, a2, a3, a4, a5, a6, a7, a8, a9, a10, a11, a12, a13, a14, a15] i = mixI mE [a0, a1, a2, a3, a4, a5, a6, a7, a8, a9, a10, a11, a12, a13, a14, a15] i := by
    intro i hi
    have hc : i = 0 ∨ i = 1 ∨ i = 2 ∨ i = 3 ∨ i = 4 ∨ i = 5 ∨ i = 6 ∨ i = 7 ∨ i = 8 ∨ i = 9 ∨ i = 10 ∨ i = 11 ∨ i = 12 ∨ i = 13 ∨ i = 14 ∨ i = 15 := by omega
    rcases hc with rfl | rfl | rfl | rfl | rfl | rfl | rfl | rfl | rfl | rfl | rfl | rfl | rfl | rfl | rfl | rfl <;> (first | (simp [mxO, mxS, mixI, mE, mD, mc]; done) | (simp [mxO, mxS, mixI, mE, mD, mc]; ac_rfl))
  unfold mxL mixE
  apply List.map_congr_left
  intro j hj
  rw [if_pos (List.mem_range.1 hj), h j (List.mem_range.1 hj)]
theorem mxL_D {b : List UInt8} (h : b.length = 16) : mxL [14, 11, 13, 9] b 16 0 = mixD b := by
  obtain ⟨a0, a1, a2, a3, a4, a5, a6, a7, a8, a9, a10, a11, a12, a13, a14, a15, rfl⟩ := ex16 h
  have h : ∀ i, i < 16 → mxO [14, 11, 13, 9] [a0, a1, a2, a3, a4, a5, a6, a7, a8, a9, a10, a11, a12, a13, a14, a15] i = mixI mD [a0, a1, a2, a3, a4, a5, a6, a7, a8, a9, a10, a11, a12, a13, a14, a15] i := by
    intro i hi
    have hc : i = 0 ∨ i = 1 ∨ i = 2 ∨ i = 3 ∨ i = 4 ∨ i = 5 ∨ i = 6 ∨ i = 7 ∨ i = 8 ∨ i = 9 ∨ i = 10 ∨ i = 11 ∨ i = 12 ∨ i = 13 ∨ i = 14 ∨ i = 15 := by omega
    rcases hc with rfl | rfl | rfl | rfl | rfl | rfl | rfl | rfl | rfl | rfl | rfl | rfl | rfl | rfl | rfl | rfl <;> (first | (simp [mxO, mxS, mixI, mE, mD, mc]; done) | (simp [mxO, mxS, mixI, mE, mD, mc]; ac_rfl))
  unfold mxL mixD
  apply List.map_congr_left
  intro j hj
  rw [if_pos (List.mem_range.1 hj), h j (List.mem_range.1 hj)]

set_option maxRecDepth 8000 in
set_option maxHeartbeats 1600000 in
theorem mix_any (by_ b : List UInt8) (w : World) (hby : by_ = [2, 3, 1, 1] ∨ by_ = [14, 11, 13, 9]) (hb : b.length = 16) :
    Calls Try.prog 27 #[.agg (b.map bV).toArray, .agg (by_.map bV).toArray] w fun e w' => e = .returned (.agg ((mxL by_ b 16 0).map bV).toArray) ∧ Below w.heap.size w w' := by
  have hS := St.start w
  have HB := Lib.hid hb
  have HBY := Lib.hid (show by_.length = 4 by rcases hby with rfl | rfl <;> rfl)
  have HM := Lib.hid (show ∀ m, m < 4 → by_.getD m 0 ∈ ([1, 2, 3, 9, 11, 13, 14] : List UInt8) from by rcases hby with h | h <;> (rw [h]; decide))
  have hz := Lib.hid (mxL_zero by_ b)
  clear hb hby
  go_enter Try.func27, Try.ntmps27
  go_wp2_with (first | ((with_reducible show wpList _ _ _ (⟨some 2, Op.box _ _, _, _, _, _⟩ :: _) _ _); go_loud (apply S_box hS; rfl; rfl; (focus ((conv => lhs; whnf) <;> rfl)); rfl; clear hS; intro b2 w_ hS)) | ((with_reducible show wpList _ _ _ (⟨some 3, Op.box _ _, _, _, _, _⟩ :: _) _ _); go_loud (apply S_box hS; rfl; rfl; (focus ((conv => lhs; whnf) <;> rfl)); rfl; clear hS; intro b3 w_ hS)) | ((with_reducible show wpList _ _ _ (⟨some 4, Op.alloc _, _, _, _, _⟩ :: _) _ _); go_loud (refine S_alloc (z := .agg ([.int .u8 0, .int .u8 0, .int .u8 0, .int .u8 0, .int .u8 0, .int .u8 0, .int .u8 0, .int .u8 0, .int .u8 0, .int .u8 0, .int .u8 0, .int .u8 0, .int .u8 0, .int .u8 0, .int .u8 0, .int .u8 0] : List Value).toArray) (L := [.int .u8 0, .int .u8 0, .int .u8 0, .int .u8 0, .int .u8 0, .int .u8 0, .int .u8 0, .int .u8 0, .int .u8 0, .int .u8 0, .int .u8 0, .int .u8 0, .int .u8 0, .int .u8 0, .int .u8 0, .int .u8 0]) hS rfl rfl ?_ ?_ ?_; (show _ = _; kernel_rfl); (show _ = _; kernel_rfl); clear hS; intro b4 w_ hS)) | ((with_reducible show wpList _ _ _ (⟨some 5, Op.alloc _, _, _, _, _⟩ :: _) _ _); go_loud (refine S_alloc (z := .agg ([.int .u8 0, .int .u8 0, .int .u8 0, .int .u8 0, .int .u8 0, .int .u8 0, .int .u8 0, .int .u8 0, .int .u8 0, .int .u8 0, .int .u8 0, .int .u8 0, .int .u8 0, .int .u8 0, .int .u8 0, .int .u8 0] : List Value).toArray) (L := [.int .u8 0, .int .u8 0, .int .u8 0, .int .u8 0, .int .u8 0, .int .u8 0, .int .u8 0, .int .u8 0, .int .u8 0, .int .u8 0, .int .u8 0, .int .u8 0, .int .u8 0, .int .u8 0, .int .u8 0, .int .u8 0]) hS rfl rfl ?_ ?_ ?_; (show _ = _; kernel_rfl); (show _ = _; kernel_rfl); clear hS; intro b5 w_ hS)))
  go_loopw [10] (fun i wr => ∃ k : Nat, i = .int .i64 (k : Int) ∧ k ≤ 16 ∧ St (Kp w) w wr [.blk b5 42 ((mxL by_ b k 0).map bV), .blk b4 42 (List.replicate 16 (.int .u8 0)), .blk b3 66 (by_.map bV), .blk b2 42 (b.map bV)]) (fun i _ => 16 - (intOf i).toNat)
  case atStart => exact ⟨0, rfl, by omega, by rw [hz.out]; exact hS⟩
  case round =>
    clear hS hz
    obtain ⟨k, rfl, hk, hS⟩ := hrel
    by_cases hlt : k < 16
    · obtain ⟨r, c, hr, hc, hkr⟩ : ∃ r c, r < 4 ∧ c < 4 ∧ k = 4 * c + r := ⟨k % 4, k / 4, by omega, by omega, by omega⟩
      have f1 : (k : Int) % 4 = (r : Int) := by omega
      have f2 : (k : Int) / 4 = (c : Int) := by omega
      have HKR := Lib.hid hkr
      have hkr1 := Lib.hid (show k / 4 = c ∧ k % 4 = r by omega)
      clear hkr
      go_wp2
      go_loopw [17] (fun i wr => ∃ m : Nat, i = .int .i64 (m : Int) ∧ m ≤ 4 ∧ St (Kp w) w wr [.blk b5 42 ((mxL by_ b k m).map bV), .blk b4 42 (List.replicate 16 (.int .u8 0)), .blk b3 66 (by_.map bV), .blk b2 42 (b.map bV)]) (fun i _ => 4 - (intOf i).toNat)
      case atStart => exact ⟨0, rfl, by omega, hS⟩
      case round =>
        clear hS
        obtain ⟨m, rfl, hm, hS⟩ := hrel
        by_cases hlm : m < 4
        · have g1 : IntKind.i64.wrap ((m : Int) - (r : Int)) = (m : Int) - (r : Int) := by rw [IntKind.wrap_i64]; omega
          have g2 : IntKind.i64.wrap ((m : Int) - (r : Int) + 4) = (m : Int) - (r : Int) + 4 := by rw [IntKind.wrap_i64]; omega
          have g3 : IntKind.i64.wrap (4 * (c : Int)) = 4 * (c : Int) := by rw [IntKind.wrap_i64]; omega
          have g4 : IntKind.i64.wrap (4 * (c : Int) + (m : Int)) = ((4 * c + m : Nat) : Int) := by rw [IntKind.wrap_i64]; omega
          have g5 : ((m : Int) - (r : Int) + 4).tmod 4 = (((m + 4 - r) % 4 : Nat) : Int) := by rw [Int.tmod_eq_emod_of_nonneg (by omega)]; omega
          have n3 : ¬ b3 = b5 := fun e => (hS.dist 0 2 (by decide) rfl rfl rfl rfl) e.symm
          have n2 : ¬ b2 = b5 := fun e => (hS.dist 0 3 (by decide) rfl rfl rfl rfl) e.symm
          have hp := Lib.hid (HM.out ((m + 4 - r) % 4) (by omega))
          have v1 : ((mxL by_ b k m).map bV)[k]? = some (.int .u8 ((mxS by_ b c r m).toNat : Int)) := by
            rw [List.getElem?_map, mxL_get by_ b hlt, hkr1.out.1, hkr1.out.2]; rfl
          have v2 : (by_.map bV)[(m + 4 - r) % 4]? = some (.int .u8 ((by_.getD ((m + 4 - r) % 4) 0).toNat : Int)) := mapGetB (by rw [HBY.out]; omega)
          have v3 : (b.map bV)[4 * c + m]? = some (.int .u8 ((b.getD (4 * c + m) 0).toNat : Int)) := mapGetB (by rw [HB.out]; omega)
          have hst := Lib.hid (mxL_set by_ b (i := k) (m := m) hlt)
          have hsu := Lib.hid (show mxS by_ b (k / 4) (k % 4) (m + 1) = mxS by_ b c r m ^^^ gm (by_.getD ((m + 4 - r) % 4) 0) (b.getD (4 * c + m) 0) by rw [hkr1.out.1, hkr1.out.2]; rfl)
          have hkl : k < ((mxL by_ b k m).map bV).length := by rw [List.length_map, mxL_len]; exact hlt
          generalize by_.getD ((m + 4 - r) % 4) 0 = y at *
          generalize b.getD (4 * c + m) 0 = x at *
          generalize mxS by_ b c r m = s at *
          have hxy := xor8 s (gm y x)
          have j1 : (m + 4 - r) % 4 < 4 := by omega
          have j2 : 4 * c + m < 16 := by omega
          generalize (m + 4 - r) % 4 = p at *
          generalize 4 * c + m = q at *
          have j3 : (p : Int) < 4 := by omega
          have j4 : (q : Int) < 16 := by omega
          go_wp2
          obtain ⟨N_, hN_⟩ := hS.sz
          have h0N_ := hS.size
          rw [hN_] at h0N_
          refine E_start (hR := KeepS.pre (SN N_ [b5])) #[false, false, false, false, false, false, false, false, false, false, false, false, false, false, false, false, false, false, false, false] (by kernel_rfl) rfl rfl (fun w_r1 hx_r1 he_r1 => ?_)
          have hzE_ : w_r1.heap.size = N_ := by rw [he_r1]; exact hN_
          have hz : N_ ≤ w_r1.heap.size := Nat.le_of_eq hzE_.symm
          replace hS := hS.drew; rw [← he_r1] at hS
          clear hx_r1 he_r1
          have hsn_b3 : SN N_ [b5] b3 := ⟨by rw [← hzE_]; first | exact Ent.lt (hS.get (x := Ent.blk b3 _ _) (by focus ((repeat (first | exact .here | apply At.there)); done))) rfl | exact Ent.lt (hS.get (x := Ent.own _ _ (.slice (some ⟨b3, 0, none⟩) _ _) _ _) (by focus ((repeat (first | exact .here | apply At.there)); done))) rfl, by first | (focus (simp; done)) | (focus (simp; omega)) | (focus (simp; assumption))⟩
          have hsn_b2 : SN N_ [b5] b2 := ⟨by rw [← hzE_]; first | exact Ent.lt (hS.get (x := Ent.blk b2 _ _) (by focus ((repeat (first | exact .here | apply At.there)); done))) rfl | exact Ent.lt (hS.get (x := Ent.own _ _ (.slice (some ⟨b2, 0, none⟩) _ _) _ _) (by focus ((repeat (first | exact .here | apply At.there)); done))) rfl, by first | (focus (simp; done)) | (focus (simp; omega)) | (focus (simp; assumption))⟩
          clear hzE_ hN_
          refine E_take (hR := KeepS.pre (SN N_ [b5])) (i := 0) (N := (some 20)) (v := ?vr1_0) (a' := ?ar1_0) #[true, false, false, false, false, false, false, false, false, false, false, false, false, false, false, false, false, false, false, false] rfl rfl (by kernel_rfl) (fun _ _ _ h => h) (by rfl) ?hyr1_0 ?har1_0 ?_
          case hyr1_0 =>
            intro w' hx
            go_simp
            with_reducible rfl
          case har1_0 => (simp only [Act.put, List.setIfInBounds_toArray, List.set_cons_zero, List.set_cons_succ]; rfl)
          refine E_take (hR := KeepS.pre (SN N_ [b5])) (i := 1) (N := (some 21)) (v := ?vr1_1) (a' := ?ar1_1) #[true, true, false, false, false, false, false, false, false, false, false, false, false, false, false, false, false, false, false, false] rfl rfl (by kernel_rfl) (fun _ _ _ h => h) (by rfl) ?hyr1_1 ?har1_1 ?_
          case hyr1_1 =>
            intro w' hx
            go_simp
            with_reducible rfl
          case har1_1 => (simp only [Act.put, List.setIfInBounds_toArray, List.set_cons_zero, List.set_cons_succ]; rfl)
          refine E_take (hR := KeepS.pre (SN N_ [b5])) (i := 3) (N := (some 23)) (v := ?vr1_3) (a' := ?ar1_3) #[true, true, false, true, false, false, false, false, false, false, false, false, false, false, false, false, false, false, false, false] rfl rfl (by kernel_rfl) (fun _ _ _ h => h) (by rfl) ?hyr1_3 ?har1_3 ?_
          case hyr1_3 =>
            intro w' hx
            go_simp
            with_reducible rfl
          case har1_3 => (simp only [Act.put, List.setIfInBounds_toArray, List.set_cons_zero, List.set_cons_succ]; rfl)
          refine E_take (hR := KeepS.pre (SN N_ [b5])) (i := 4) (N := (some 24)) (v := ?vr1_4) (a' := ?ar1_4) #[true, true, false, true, true, false, false, false, false, false, false, false, false, false, false, false, false, false, false, false] rfl rfl (by kernel_rfl) (fun _ _ _ h => h) (by rfl) ?hyr1_4 ?har1_4 ?_
          case hyr1_4 =>
            intro w' hx
            go_simp
            with_reducible rfl
          case har1_4 => (simp only [Act.put, List.setIfInBounds_toArray, List.set_cons_zero, List.set_cons_succ]; rfl)
          refine E_take (hR := KeepS.pre (SN N_ [b5])) (i := 5) (N := (some 25)) (v := ?vr1_5) (a' := ?ar1_5) #[true, true, false, true, true, true, false, false, false, false, false, false, false, false, false, false, false, false, false, false] rfl rfl (by kernel_rfl) (fun _ _ _ h => h) (by rfl) ?hyr1_5 ?har1_5 ?_
          case hyr1_5 =>
            intro w' hx
            go_simp
            with_reducible rfl
          case har1_5 => (simp only [Act.put, List.setIfInBounds_toArray, List.set_cons_zero, List.set_cons_succ]; rfl)
          refine E_take (hR := KeepS.pre (SN N_ [b5])) (i := 6) (N := (some 26)) (v := ?vr1_6) (a' := ?ar1_6) #[true, true, false, true, true, true, true, false, false, false, false, false, false, false, false, false, false, false, false, false] rfl rfl (by kernel_rfl) (fun _ _ _ h => h) (by rfl) ?hyr1_6 ?har1_6 ?_
          case hyr1_6 =>
            intro w' hx
            go_simp
            with_reducible rfl
          case har1_6 => (simp only [Act.put, List.setIfInBounds_toArray, List.set_cons_zero, List.set_cons_succ]; rfl)
          refine E_take (hR := KeepS.pre (SN N_ [b5])) (i := 7) (N := (some 27)) (v := ?vr1_7) (a' := ?ar1_7) #[true, true, false, true, true, true, true, true, false, false, false, false, false, false, false, false, false, false, false, false] rfl rfl (by kernel_rfl) (fun _ _ _ h => h) (by rfl) ?hyr1_7 ?har1_7 ?_
          case hyr1_7 =>
            intro w' hx
            go_simp
            with_reducible rfl
          case har1_7 => (simp only [Act.put, List.setIfInBounds_toArray, List.set_cons_zero, List.set_cons_succ]; rfl)
          refine E_take (hR := KeepS.pre (SN N_ [b5])) (i := 8) (N := (some 28)) (v := ?vr1_8) (a' := ?ar1_8) #[true, true, false, true, true, true, true, true, true, false, false, false, false, false, false, false, false, false, false, false] rfl rfl (by kernel_rfl) (fun _ _ _ h => h) (by rfl) ?hyr1_8 ?har1_8 ?_
          case hyr1_8 =>
            intro w' hx
            go_simp
            with_reducible rfl
          case har1_8 => (simp only [Act.put, List.setIfInBounds_toArray, List.set_cons_zero, List.set_cons_succ]; rfl)
          refine E_take (hR := KeepS.pre (SN N_ [b5])) (i := 9) (N := (some 29)) (v := ?vr1_9) (a' := ?ar1_9) #[true, true, false, true, true, true, true, true, true, true, false, false, false, false, false, false, false, false, false, false] rfl rfl (by kernel_rfl) (fun _ _ _ h => h) (by rfl) ?hyr1_9 ?har1_9 ?_
          case hyr1_9 =>
            intro w' hx
            (first | (apply Eq.trans; (first | (apply R_ldK hS hx; rfl; rfl; (focus ((repeat (first | exact .here | apply At.there)); done)); assumption; rfl; (first | assumption | rfl | exact mapGetB (by first | assumption | omega) | exact mapGet _ (by first | assumption | omega))) | (apply R_ldOwnK hS hx; rfl; rfl; (focus ((repeat (first | exact .here | apply At.there)); done)); assumption; rfl; (first | rfl | exact mapGetB (by first | assumption | omega) | exact mapGet _ (by first | assumption | omega)))); with_reducible rfl) | (go_simp; with_reducible rfl))
          case har1_9 => (simp only [Act.put, List.setIfInBounds_toArray, List.set_cons_zero, List.set_cons_succ]; rfl)
          refine E_take (hR := KeepS.pre (SN N_ [b5])) (i := 10) (N := (some 30)) (v := ?vr1_10) (a' := ?ar1_10) #[true, true, false, true, true, true, true, true, true, true, true, false, false, false, false, false, false, false, false, false] rfl rfl (by kernel_rfl) (fun _ _ _ h => h) (by rfl) ?hyr1_10 ?har1_10 ?_
          case hyr1_10 =>
            intro w' hx
            go_simp
            with_reducible rfl
          case har1_10 => (simp only [Act.put, List.setIfInBounds_toArray, List.set_cons_zero, List.set_cons_succ]; rfl)
          refine E_take (hR := KeepS.pre (SN N_ [b5])) (i := 11) (N := (some 31)) (v := ?vr1_11) (a' := ?ar1_11) #[true, true, false, true, true, true, true, true, true, true, true, true, false, false, false, false, false, false, false, false] rfl rfl (by kernel_rfl) (fun _ _ _ h => h) (by rfl) ?hyr1_11 ?har1_11 ?_
          case hyr1_11 =>
            intro w' hx
            go_simp
            with_reducible rfl
          case har1_11 => (simp only [Act.put, List.setIfInBounds_toArray, List.set_cons_zero, List.set_cons_succ]; rfl)
          refine E_take (hR := KeepS.pre (SN N_ [b5])) (i := 12) (N := (some 32)) (v := ?vr1_12) (a' := ?ar1_12) #[true, true, false, true, true, true, true, true, true, true, true, true, true, false, false, false, false, false, false, false] rfl rfl (by kernel_rfl) (fun _ _ _ h => h) (by rfl) ?hyr1_12 ?har1_12 ?_
          case hyr1_12 =>
            intro w' hx
            go_simp
            with_reducible rfl
          case har1_12 => (simp only [Act.put, List.setIfInBounds_toArray, List.set_cons_zero, List.set_cons_succ]; rfl)
          refine E_take (hR := KeepS.pre (SN N_ [b5])) (i := 13) (N := (some 33)) (v := ?vr1_13) (a' := ?ar1_13) #[true, true, false, true, true, true, true, true, true, true, true, true, true, true, false, false, false, false, false, false] rfl rfl (by kernel_rfl) (fun _ _ _ h => h) (by rfl) ?hyr1_13 ?har1_13 ?_
          case hyr1_13 =>
            intro w' hx
            go_simp
            with_reducible rfl
          case har1_13 => (simp only [Act.put, List.setIfInBounds_toArray, List.set_cons_zero, List.set_cons_succ]; rfl)
          refine E_take (hR := KeepS.pre (SN N_ [b5])) (i := 14) (N := (some 34)) (v := ?vr1_14) (a' := ?ar1_14) #[true, true, false, true, true, true, true, true, true, true, true, true, true, true, true, false, false, false, false, false] rfl rfl (by kernel_rfl) (fun _ _ _ h => h) (by rfl) ?hyr1_14 ?har1_14 ?_
          case hyr1_14 =>
            intro w' hx
            go_simp
            with_reducible rfl
          case har1_14 => (simp only [Act.put, List.setIfInBounds_toArray, List.set_cons_zero, List.set_cons_succ]; rfl)
          refine E_take (hR := KeepS.pre (SN N_ [b5])) (i := 15) (N := (some 35)) (v := ?vr1_15) (a' := ?ar1_15) #[true, true, false, true, true, true, true, true, true, true, true, true, true, true, true, true, false, false, false, false] rfl rfl (by kernel_rfl) (fun _ _ _ h => h) (by rfl) ?hyr1_15 ?har1_15 ?_
          case hyr1_15 =>
            intro w' hx
            (first | (apply Eq.trans; (first | (apply R_ldK hS hx; rfl; rfl; (focus ((repeat (first | exact .here | apply At.there)); done)); assumption; rfl; (first | assumption | rfl | exact mapGetB (by first | assumption | omega) | exact mapGet _ (by first | assumption | omega))) | (apply R_ldOwnK hS hx; rfl; rfl; (focus ((repeat (first | exact .here | apply At.there)); done)); assumption; rfl; (first | rfl | exact mapGetB (by first | assumption | omega) | exact mapGet _ (by first | assumption | omega)))); with_reducible rfl) | (go_simp; with_reducible rfl))
          case har1_15 => (simp only [Act.put, List.setIfInBounds_toArray, List.set_cons_zero, List.set_cons_succ]; rfl)
          refine E_split [2, 16] (by kernel_rfl) (by simp) (fun i_ hi_ => ?_)
          simp only [List.mem_cons, List.not_mem_nil, or_false] at hi_
          rcases hi_ with rfl | rfl
          · (apply K_val (i := 2) (T := (some 22)) #[true, true, true, true, true, true, true, true, true, true, true, true, true, true, true, true, false, false, false, false]; rfl; rfl; (show _ = _; kernel_rfl); rfl; (apply R_ld hS; rfl; rfl; (focus ((repeat (first | exact .here | apply At.there)); done)); rfl; (first | assumption | rfl | exact mapGetB (by first | assumption | omega))); exact KeepS.refl _ _)
            rintro _ rfl
            simp only [Act.put, List.setIfInBounds_toArray, List.set_cons_zero, List.set_cons_succ]
            refine E_split [16] (by kernel_rfl) (by simp) (fun i_ hi_ => ?_)
            simp only [List.mem_cons, List.not_mem_nil, or_false] at hi_
            rcases hi_ with rfl
            refine E_call1 (i := 16) (N := (some 36)) (args := ?gr1a_16) #[true, true, true, true, true, true, true, true, true, true, true, true, true, true, true, true, true, false, false, false] rfl rfl (by kernel_rfl) (by rfl) Try.func34 (by kernel_rfl) rfl rfl ?hgr1a_16 ?_
            case hgr1a_16 => (simp only [List.map_toArray, List.map_cons, List.map_nil]; go_simp; with_reducible rfl)
            refine (product_any y hp.out x _).mono ?_
            rintro e w_ ⟨rfl, hb_⟩
            (refine ⟨_, rfl, KeepS.below hb_ hz, ?_⟩; replace hS := hS.ext hb_; replace hz := Nat.le_trans hz hb_.size; clear hb_)
            rintro _ rfl
            simp only [Act.put, List.setIfInBounds_toArray, List.set_cons_zero, List.set_cons_succ]
            refine E_take (hR := KeepS.pre (SN N_ [b5])) (i := 17) (N := (some 37)) (v := ?vr1a_17) (a' := ?ar1a_17) #[true, true, true, true, true, true, true, true, true, true, true, true, true, true, true, true, true, true, false, false] rfl rfl (by kernel_rfl) (fun _ _ _ h => h) (by rfl) ?hyr1a_17 ?har1a_17 ?_
            case hyr1a_17 =>
              intro w' hx
              go_simp
              with_reducible rfl
            case har1a_17 => (simp only [Act.put, List.setIfInBounds_toArray, List.set_cons_zero, List.set_cons_succ]; rfl)
            refine E_take (hR := KeepS.pre (SN N_ [b5])) (i := 18) (N := (some 38)) (v := ?vr1a_18) (a' := ?ar1a_18) #[true, true, true, true, true, true, true, true, true, true, true, true, true, true, true, true, true, true, true, false] rfl rfl (by kernel_rfl) (fun _ _ _ h => h) (by rfl) ?hyr1a_18 ?har1a_18 ?_
            case hyr1a_18 =>
              intro w' hx
              go_simp
              with_reducible rfl
            case har1a_18 => (simp only [Act.put, List.setIfInBounds_toArray, List.set_cons_zero, List.set_cons_succ]; rfl)
            refine E_split [19] (by kernel_rfl) (by simp) (fun i_ hi_ => ?_)
            simp only [List.mem_cons, List.not_mem_nil, or_false] at hi_
            rcases hi_ with rfl
            (apply K_st (i := 19) hS hz #[true, true, true, true, true, true, true, true, true, true, true, true, true, true, true, true, true, true, true, true]; rfl; rfl; (show _ = _; kernel_rfl); rfl; rfl; rfl; (focus ((conv => lhs; whnf) <;> rfl)); (focus ((repeat (first | exact .here | apply At.there)); done)); (first | assumption | (refine Or.inl ?_; assumption) | (refine Or.inr ?_; focus (simp; done))); rfl; rfl; (first | decide | assumption | (simp only [List.length_map, List.length_set]; omega)))
            clear hS hz
            intro w_ hS hz
            try simp only [List.set_cons_zero, List.set_cons_succ] at hS
            refine E_done (by kernel_rfl) ?_
            have EX : Value.int .u8 ((s.toNat ^^^ (gm y x).toNat : Nat) : Int) = bV (s ^^^ gm y x) := by unfold bV; rw [UInt8.toNat_xor]
            rw [EX, ← hsu.out, ← List.map_set, hst.out] at hS
            clear EX
            go_wp2
            go_roundw
            case rel => exact ⟨m + 1, by go_num, by omega, hS⟩
            case measure => simp [intOf]; omega
          · refine E_call1 (i := 16) (N := (some 36)) (args := ?gr1b_16) #[true, true, false, true, true, true, true, true, true, true, true, true, true, true, true, true, true, false, false, false] rfl rfl (by kernel_rfl) (by rfl) Try.func34 (by kernel_rfl) rfl rfl ?hgr1b_16 ?_
            case hgr1b_16 => (simp only [List.map_toArray, List.map_cons, List.map_nil]; go_simp; with_reducible rfl)
            refine (product_any y hp.out x _).mono ?_
            rintro e w_ ⟨rfl, hb_⟩
            (refine ⟨_, rfl, KeepS.below hb_ hz, ?_⟩; replace hS := hS.ext hb_; replace hz := Nat.le_trans hz hb_.size; clear hb_)
            rintro _ rfl
            simp only [Act.put, List.setIfInBounds_toArray, List.set_cons_zero, List.set_cons_succ]
            refine E_split [2] (by kernel_rfl) (by simp) (fun i_ hi_ => ?_)
            simp only [List.mem_cons, List.not_mem_nil, or_false] at hi_
            rcases hi_ with rfl
            (apply K_val (i := 2) (T := (some 22)) #[true, true, true, true, true, true, true, true, true, true, true, true, true, true, true, true, true, false, false, false]; rfl; rfl; (show _ = _; kernel_rfl); rfl; (apply R_ld hS; rfl; rfl; (focus ((repeat (first | exact .here | apply At.there)); done)); rfl; (first | assumption | rfl | exact mapGetB (by first | assumption | omega))); exact KeepS.refl _ _)
            rintro _ rfl
            simp only [Act.put, List.setIfInBounds_toArray, List.set_cons_zero, List.set_cons_succ]
            refine E_take (hR := KeepS.pre (SN N_ [b5])) (i := 17) (N := (some 37)) (v := ?vr1b_17) (a' := ?ar1b_17) #[true, true, true, true, true, true, true, true, true, true, true, true, true, true, true, true, true, true, false, false] rfl rfl (by kernel_rfl) (fun _ _ _ h => h) (by rfl) ?hyr1b_17 ?har1b_17 ?_
            case hyr1b_17 =>
              intro w' hx
              go_simp
              with_reducible rfl
            case har1b_17 => (simp only [Act.put, List.setIfInBounds_toArray, List.set_cons_zero, List.set_cons_succ]; rfl)
            refine E_take (hR := KeepS.pre (SN N_ [b5])) (i := 18) (N := (some 38)) (v := ?vr1b_18) (a' := ?ar1b_18) #[true, true, true, true, true, true, true, true, true, true, true, true, true, true, true, true, true, true, true, false] rfl rfl (by kernel_rfl) (fun _ _ _ h => h) (by rfl) ?hyr1b_18 ?har1b_18 ?_
            case hyr1b_18 =>
              intro w' hx
              go_simp
              with_reducible rfl
            case har1b_18 => (simp only [Act.put, List.setIfInBounds_toArray, List.set_cons_zero, List.set_cons_succ]; rfl)
            refine E_split [19] (by kernel_rfl) (by simp) (fun i_ hi_ => ?_)
            simp only [List.mem_cons, List.not_mem_nil, or_false] at hi_
            rcases hi_ with rfl
            (apply K_st (i := 19) hS hz #[true, true, true, true, true, true, true, true, true, true, true, true, true, true, true, true, true, true, true, true]; rfl; rfl; (show _ = _; kernel_rfl); rfl; rfl; rfl; (focus ((conv => lhs; whnf) <;> rfl)); (focus ((repeat (first | exact .here | apply At.there)); done)); (first | assumption | (refine Or.inl ?_; assumption) | (refine Or.inr ?_; focus (simp; done))); rfl; rfl; (first | decide | assumption | (simp only [List.length_map, List.length_set]; omega)))
            clear hS hz
            intro w_ hS hz
            try simp only [List.set_cons_zero, List.set_cons_succ] at hS
            refine E_done (by kernel_rfl) ?_
            have EX : Value.int .u8 ((s.toNat ^^^ (gm y x).toNat : Nat) : Int) = bV (s ^^^ gm y x) := by unfold bV; rw [UInt8.toNat_xor]
            rw [EX, ← hsu.out, ← List.map_set, hst.out] at hS
            clear EX
            go_wp2
            go_roundw
            case rel => exact ⟨m + 1, by go_num, by omega, hS⟩
            case measure => simp [intOf]; omega
        · have hm4 : m = 4 := by omega
          rw [hm4, mxL_next] at hS
          go_wp2
          go_roundw
          case rel => exact ⟨k + 1, by go_num, by omega, hS⟩
          case measure => simp [intOf]; omega
    · have hk16 : k = 16 := by omega
      rw [hk16] at hS
      have HQ := Lib.hid (show ((mxL by_ b 16 0).map bV).length = 16 by rw [List.length_map, mxL_len])
      go_wp2_with (first | ((with_reducible show wpList _ _ _ (⟨some 41, Op.load _ _, _, _, _, _⟩ :: _) _ _); go_loud (apply S_ldAll hS; rfl; rfl; rfl; (focus ((repeat (first | exact .here | apply At.there)); done)); rfl; (first | rfl | (rw [HQ.out]; rfl) | (simp only [List.length_map, List.length_set]; rfl)))) | ((with_reducible show wpList _ _ _ (⟨_, Op.store _ _ _, _, _, _, _⟩ :: _) _ _); go_loud (apply S_stAll hS; rfl; rfl; rfl; rfl; (focus ((repeat (first | exact .here | apply At.there)); done)); (first | assumption | (rw [HQ.out]; rfl) | (focus (simp [bV, wV, Value.oneCell']; done)) | (focus (simp [bV, Value.oneCell']; done))); (first | rfl | (rw [HQ.out]; rfl)); (first | rfl | (rw [HQ.out]; rfl)); clear hS; intro w_ hS)))
      (try simp only [Exit.inBlock, Exit.then]); refine bodyPost_ret (results_cell_one hS rfl _ rfl (by focus ((repeat (first | exact .here | apply At.there)); done)) rfl (by rw [HQ.out]; rfl)) rfl ⟨rfl, hS.below⟩
end Go.Proofs.Ythamhaomfdgdjaa
