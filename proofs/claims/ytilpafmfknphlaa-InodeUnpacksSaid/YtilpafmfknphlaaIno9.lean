/- awake, and the walk of InodeApart. -/
import Derived.Test.YtilpafmfknphlaaIno7
import Derived.Test.YtilpafmfknphlaaStM
import Derived.Test.YtilpafmfknphlaaInoO
import Derived.Test.YtilpafmfknphlaaIno8
namespace Go.Proofs.Ytilpafmfknphlaa
open Go.RowKit

set_option maxHeartbeats 1600000 in
theorem awake_any (w : World) : Calls Try.prog 7 #[] w fun e w' => e = .returned (.bool true) ∧ Below w.heap.size w w' := by
  have hS := St.start w
  go_enter Try.func7, Try.ntmps7
  go_upto_region 2 with (first | ((with_reducible show wpList _ _ _ (⟨some 4, Op.build _ _, _, _, _, _⟩ :: _) _ _); go_loud (apply S_build (L := inoC zIno); rfl; rfl; kernel_rfl)) | ((with_reducible show Calls _ _ #[_] _ _); refine (pack_any zIno _ zIno_WF).mono ?_; rw [if_pos pack_z, packF_z]; rintro e w_ ⟨A1, c1, rfl, hown_, hb_⟩; rw [List.length_replicate] at hown_ ⊢; replace hS := hS.got hb_ hown_; clear hb_ hown_))
  refine E_start (hR := Ext.pre) #[false, false, false, false, false, false, false, false, false, false] (by kernel_rfl) rfl rfl (fun w_r1 hx_r1 he_r1 => ?_)
  clear he_r1
  replace hS := hS.ext hx_r1; clear hx_r1
  refine E_take (hR := Ext.pre) (i := 0) (N := (some 8)) (v := ?vr1_0) (a' := ?ar1_0) #[true, false, false, false, false, false, false, false, false, false] rfl rfl (by kernel_rfl) (fun _ _ _ h => h) (by rfl) ?hyr1_0 ?har1_0 ?_
  case hyr1_0 =>
    intro w' hx
    go_simp
    with_reducible rfl
  case har1_0 => (simp only [Act.put, List.setIfInBounds_toArray, List.set_cons_zero, List.set_cons_succ]; rfl)
  refine E_take (hR := Ext.pre) (i := 1) (N := (some 9)) (v := ?vr1_1) (a' := ?ar1_1) #[true, true, false, false, false, false, false, false, false, false] rfl rfl (by kernel_rfl) (fun _ _ _ h => h) (by rfl) ?hyr1_1 ?har1_1 ?_
  case hyr1_1 =>
    intro w' hx
    go_simp
    with_reducible rfl
  case har1_1 => (simp only [Act.put, List.setIfInBounds_toArray, List.set_cons_zero, List.set_cons_succ]; rfl)
  refine E_take (hR := Ext.pre) (i := 2) (N := (some 10)) (v := ?vr1_2) (a' := ?ar1_2) #[true, true, true, false, false, false, false, false, false, false] rfl rfl (by kernel_rfl) (fun _ _ _ h => h) (by rfl) ?hyr1_2 ?har1_2 ?_
  case hyr1_2 =>
    intro w' hx
    go_simp
    with_reducible rfl
  case har1_2 => (simp only [Act.put, List.setIfInBounds_toArray, List.set_cons_zero, List.set_cons_succ]; rfl)
  refine E_take (hR := Ext.pre) (i := 3) (N := (some 11)) (v := ?vr1_3) (a' := ?ar1_3) #[true, true, true, true, false, false, false, false, false, false] rfl rfl (by kernel_rfl) (fun _ _ _ h => h) (by rfl) ?hyr1_3 ?har1_3 ?_
  case hyr1_3 =>
    intro w' hx
    go_simp
    with_reducible rfl
  case har1_3 => (simp only [Act.put, List.setIfInBounds_toArray, List.set_cons_zero, List.set_cons_succ]; rfl)
  refine E_take (hR := Ext.pre) (i := 4) (N := (some 12)) (v := ?vr1_4) (a' := ?ar1_4) #[true, true, true, true, true, false, false, false, false, false] rfl rfl (by kernel_rfl) (fun _ _ _ h => h) (by rfl) ?hyr1_4 ?har1_4 ?_
  case hyr1_4 =>
    intro w' hx
    (apply Eq.trans; (apply R_strc Try.underlying34 Try.underlying5 Try.underlying9 (((hS.ext hx).ownRd (A := A1) (by first | exact .here | exact .there .here | exact .there (.there .here) | exact .there (.there (.there .here)) | exact .there (.there (.there (.there .here))) | exact .there (.there (.there (.there (.there .here)))) | exact .there (.there (.there (.there (.there (.there .here))))) | exact .there (.there (.there (.there (.there (.there (.there .here)))))) | exact .there (.there (.there (.there (.there (.there (.there (.there .here))))))) | exact .there (.there (.there (.there (.there (.there (.there (.there (.there .here)))))))) | exact .there (.there (.there (.there (.there (.there (.there (.there (.there (.there .here))))))))) | exact .there (.there (.there (.there (.there (.there (.there (.there (.there (.there (.there .here)))))))))) | exact .there (.there (.there (.there (.there (.there (.there (.there (.there (.there (.there (.there .here))))))))))) | exact .there (.there (.there (.there (.there (.there (.there (.there (.there (.there (.there (.there (.there .here)))))))))))) | exact .there (.there (.there (.there (.there (.there (.there (.there (.there (.there (.there (.there (.there (.there .here))))))))))))) | exact .there (.there (.there (.there (.there (.there (.there (.there (.there (.there (.there (.there (.there (.there (.there .here)))))))))))))) | exact .there (.there (.there (.there (.there (.there (.there (.there (.there (.there (.there (.there (.there (.there (.there (.there .here))))))))))))))))) : RdB _ _ (List.replicate 128 0)) (List.length_replicate); rfl; rfl); with_reducible rfl)
  case har1_4 => (simp only [Act.put, List.setIfInBounds_toArray, List.set_cons_zero, List.set_cons_succ]; rfl)
  apply E_mk (i := 5) (N := (some 13)) hS (hR := Ext.alloc _) TB 128 #[true, true, true, true, true, true, false, false, false, false]
  rfl
  rfl
  kernel_rfl
  rfl
  rfl
  rfl
  rfl
  (first | rfl | omega)
  (first | rfl | omega)
  rfl
  (first | decide | omega)
  (first | decide | (unfold maxLen; omega))
  clear hS
  intro b2 w_ hS
  rintro _ rfl
  simp only [Act.put, List.setIfInBounds_toArray, List.set_cons_zero, List.set_cons_succ]
  refine E_take (hR := Ext.pre) (i := 6) (N := (some 14)) (v := ?vr1_6) (a' := ?ar1_6) #[true, true, true, true, true, true, true, false, false, false] rfl rfl (by kernel_rfl) (fun _ _ _ h => h) (by rfl) ?hyr1_6 ?har1_6 ?_
  case hyr1_6 =>
    intro w' hx
    (apply Eq.trans; (apply R_strc Try.underlying34 Try.underlying5 Try.underlying9 (((hS.ext hx).ownRd (A := some ⟨b2, 0, none⟩) (by first | exact .here | exact .there .here | exact .there (.there .here) | exact .there (.there (.there .here)) | exact .there (.there (.there (.there .here))) | exact .there (.there (.there (.there (.there .here)))) | exact .there (.there (.there (.there (.there (.there .here))))) | exact .there (.there (.there (.there (.there (.there (.there .here)))))) | exact .there (.there (.there (.there (.there (.there (.there (.there .here))))))) | exact .there (.there (.there (.there (.there (.there (.there (.there (.there .here)))))))) | exact .there (.there (.there (.there (.there (.there (.there (.there (.there (.there .here))))))))) | exact .there (.there (.there (.there (.there (.there (.there (.there (.there (.there (.there .here)))))))))) | exact .there (.there (.there (.there (.there (.there (.there (.there (.there (.there (.there (.there .here))))))))))) | exact .there (.there (.there (.there (.there (.there (.there (.there (.there (.there (.there (.there (.there .here)))))))))))) | exact .there (.there (.there (.there (.there (.there (.there (.there (.there (.there (.there (.there (.there (.there .here))))))))))))) | exact .there (.there (.there (.there (.there (.there (.there (.there (.there (.there (.there (.there (.there (.there (.there .here)))))))))))))) | exact .there (.there (.there (.there (.there (.there (.there (.there (.there (.there (.there (.there (.there (.there (.there (.there .here))))))))))))))))) : RdB _ _ (List.replicate 128 0)) (List.length_replicate); rfl; rfl); with_reducible rfl)
  case har1_6 => (simp only [Act.put, List.setIfInBounds_toArray, List.set_cons_zero, List.set_cons_succ]; rfl)
  refine E_take (hR := Ext.pre) (i := 7) (N := (some 15)) (v := ?vr1_7) (a' := ?ar1_7) #[true, true, true, true, true, true, true, true, false, false] rfl rfl (by kernel_rfl) (fun _ _ _ h => h) (by rfl) ?hyr1_7 ?har1_7 ?_
  case hyr1_7 =>
    intro w' hx
    go_simp
    with_reducible rfl
  case har1_7 => (simp only [Act.put, List.setIfInBounds_toArray, List.set_cons_zero, List.set_cons_succ]; rfl)
  refine E_take (hR := Ext.pre) (i := 8) (N := (some 16)) (v := ?vr1_8) (a' := ?ar1_8) #[true, true, true, true, true, true, true, true, true, false] rfl rfl (by kernel_rfl) (fun _ _ _ h => h) (by rfl) ?hyr1_8 ?har1_8 ?_
  case hyr1_8 =>
    intro w' hx
    go_simp
    with_reducible rfl
  case har1_8 => (simp only [Act.put, List.setIfInBounds_toArray, List.set_cons_zero, List.set_cons_succ]; rfl)
  refine E_take (hR := Ext.pre) (i := 9) (N := (some 0)) (v := ?vr1_9) (a' := ?ar1_9) #[true, true, true, true, true, true, true, true, true, true] rfl rfl (by kernel_rfl) (fun _ _ _ h => h) (by rfl) ?hyr1_9 ?har1_9 ?_
  case hyr1_9 =>
    intro w' hx
    go_simp
    with_reducible rfl
  case har1_9 => (simp only [Act.put, List.setIfInBounds_toArray, List.set_cons_zero, List.set_cons_succ]; rfl)
  refine E_done (by kernel_rfl) ?_
  go_wp2
  go_ret
  exact ⟨rfl, hS.below⟩

theorem str_eq (a b : List UInt8) : ((str a).toList == (str b).toList) = decide (a = b) := by
  rw [str_toList, str_toList]
  by_cases h : a = b
  · simp [h]
  · simp [h]

set_option maxRecDepth 8000 in
set_option maxHeartbeats 3200000 in
theorem apart_walk (x y : Ino) (w : World) (hx : x.WF) (hy : y.WF) :
    Calls Try.prog 3 #[.agg (inoC x).toArray, .agg (inoC y).toArray] w fun e w' => e = .returned (.bool true) ∧ Below w.heap.size w w' := by
  have hS := St.start w
  have hlx := Lib.hid (inoC_len hx)
  have hly := Lib.hid (inoC_len hy)
  have hq := eq_ino hx hy
  have HX := Lib.hid hx
  have HY := Lib.hid hy
  go_enter Try.func3, Try.ntmps3
  go_upto_region 1 with (first | ((with_reducible show wpList _ _ _ (⟨some 2, Op.box _ _, _, _, _, _⟩ :: _) _ _); go_loud (apply S_box hS; rfl; rfl; (focus ((conv => lhs; whnf) <;> rfl)); rfl; clear hS; intro b1 w_ hS)) | ((with_reducible show wpList _ _ _ (⟨some 3, Op.box _ _, _, _, _, _⟩ :: _) _ _); go_loud (apply S_box hS; rfl; rfl; (focus ((conv => lhs; whnf) <;> rfl)); rfl; clear hS; intro b2 w_ hS)))
  by_cases hR : RightP x ∧ RightP y
  · have p1 : PackP x := Or.inr hR.1
    have p2 : PackP y := Or.inr hR.2
    have hin := Lib.hid (packF_inj hx hy p1 p2)
    have e1 := decide_eq_true hR.1
    have e2 := decide_eq_true hR.2
    go_upto_region 5 with (first | ((with_reducible show Calls _ _ #[] _ _); refine (awake_any _).mono ?_; rintro e w_ ⟨rfl, hb_⟩; replace hS := hS.ext hb_; clear hb_) | ((with_reducible show Calls _ 8 #[.agg (inoC x).toArray] _ _); refine (refRight_any x _ hx).mono ?_; rw [e1]; rintro e w_ ⟨rfl, hb_⟩; replace hS := hS.ext hb_; clear hb_) | ((with_reducible show Calls _ 8 #[.agg (inoC y).toArray] _ _); refine (refRight_any y _ hy).mono ?_; rw [e2]; rintro e w_ ⟨rfl, hb_⟩; replace hS := hS.ext hb_; clear hb_) | ((with_reducible show Calls _ 9 #[.agg (inoC x).toArray] _ _); refine (pack_any x _ hx).mono ?_; rw [if_pos p1]; rintro e w_ ⟨A1, cA1, rfl, hown_, hb_⟩; rw [packF_len hx] at hown_ ⊢; replace hS := hS.got hb_ hown_; clear hb_ hown_) | ((with_reducible show Calls _ 9 #[.agg (inoC y).toArray] _ _); refine (pack_any y _ hy).mono ?_; rw [if_pos p2]; rintro e w_ ⟨A2, cA2, rfl, hown_, hb_⟩; rw [packF_len hy] at hown_ ⊢; replace hS := hS.got hb_ hown_; clear hb_ hown_) | ((with_reducible show wpList _ _ _ (⟨_, _, _, _, _, some (_, _)⟩ :: _) _ _); go_loud (first | (apply S_guardT; rfl; rfl; first | rfl | assumption) | (apply S_guardF; rfl; rfl; first | rfl | assumption) | (apply S_guard; rfl; rfl; all_goals intro hg_))) | ((with_reducible show wpList _ _ _ (⟨some 12, Op.load _ _, _, _, _, _⟩ :: _) _ _); go_loud (apply S_ldAll hS; rfl; rfl; rfl; (first | exact .here | exact .there .here | exact .there (.there .here) | exact .there (.there (.there .here)) | exact .there (.there (.there (.there .here))) | exact .there (.there (.there (.there (.there .here)))) | exact .there (.there (.there (.there (.there (.there .here))))) | exact .there (.there (.there (.there (.there (.there (.there .here)))))) | exact .there (.there (.there (.there (.there (.there (.there (.there .here))))))) | exact .there (.there (.there (.there (.there (.there (.there (.there (.there .here)))))))) | exact .there (.there (.there (.there (.there (.there (.there (.there (.there (.there .here))))))))) | exact .there (.there (.there (.there (.there (.there (.there (.there (.there (.there (.there .here)))))))))) | exact .there (.there (.there (.there (.there (.there (.there (.there (.there (.there (.there (.there .here))))))))))) | exact .there (.there (.there (.there (.there (.there (.there (.there (.there (.there (.there (.there (.there .here)))))))))))) | exact .there (.there (.there (.there (.there (.there (.there (.there (.there (.there (.there (.there (.there (.there .here))))))))))))) | exact .there (.there (.there (.there (.there (.there (.there (.there (.there (.there (.there (.there (.there (.there (.there .here)))))))))))))) | exact .there (.there (.there (.there (.there (.there (.there (.there (.there (.there (.there (.there (.there (.there (.there (.there .here)))))))))))))))); rfl; (first | rfl | (rw [hlx.out]; rfl) | (simp only [List.length_map, List.length_set]; rfl)))) | ((with_reducible show wpList _ _ _ (⟨some 17, Op.load _ _, _, _, _, _⟩ :: _) _ _); go_loud (apply S_ldAll hS; rfl; rfl; rfl; (first | exact .here | exact .there .here | exact .there (.there .here) | exact .there (.there (.there .here)) | exact .there (.there (.there (.there .here))) | exact .there (.there (.there (.there (.there .here)))) | exact .there (.there (.there (.there (.there (.there .here))))) | exact .there (.there (.there (.there (.there (.there (.there .here)))))) | exact .there (.there (.there (.there (.there (.there (.there (.there .here))))))) | exact .there (.there (.there (.there (.there (.there (.there (.there (.there .here)))))))) | exact .there (.there (.there (.there (.there (.there (.there (.there (.there (.there .here))))))))) | exact .there (.there (.there (.there (.there (.there (.there (.there (.there (.there (.there .here)))))))))) | exact .there (.there (.there (.there (.there (.there (.there (.there (.there (.there (.there (.there .here))))))))))) | exact .there (.there (.there (.there (.there (.there (.there (.there (.there (.there (.there (.there (.there .here)))))))))))) | exact .there (.there (.there (.there (.there (.there (.there (.there (.there (.there (.there (.there (.there (.there .here))))))))))))) | exact .there (.there (.there (.there (.there (.there (.there (.there (.there (.there (.there (.there (.there (.there (.there .here)))))))))))))) | exact .there (.there (.there (.there (.there (.there (.there (.there (.there (.there (.there (.there (.there (.there (.there (.there .here)))))))))))))))); rfl; (first | rfl | (rw [hly.out]; rfl) | (simp only [List.length_map, List.length_set]; rfl)))) | ((with_reducible show wpList _ _ _ (⟨some 23, Op.load _ _, _, _, _, _⟩ :: _) _ _); go_loud (apply S_ldAll hS; rfl; rfl; rfl; (first | exact .here | exact .there .here | exact .there (.there .here) | exact .there (.there (.there .here)) | exact .there (.there (.there (.there .here))) | exact .there (.there (.there (.there (.there .here)))) | exact .there (.there (.there (.there (.there (.there .here))))) | exact .there (.there (.there (.there (.there (.there (.there .here)))))) | exact .there (.there (.there (.there (.there (.there (.there (.there .here))))))) | exact .there (.there (.there (.there (.there (.there (.there (.there (.there .here)))))))) | exact .there (.there (.there (.there (.there (.there (.there (.there (.there (.there .here))))))))) | exact .there (.there (.there (.there (.there (.there (.there (.there (.there (.there (.there .here)))))))))) | exact .there (.there (.there (.there (.there (.there (.there (.there (.there (.there (.there (.there .here))))))))))) | exact .there (.there (.there (.there (.there (.there (.there (.there (.there (.there (.there (.there (.there .here)))))))))))) | exact .there (.there (.there (.there (.there (.there (.there (.there (.there (.there (.there (.there (.there (.there .here))))))))))))) | exact .there (.there (.there (.there (.there (.there (.there (.there (.there (.there (.there (.there (.there (.there (.there .here)))))))))))))) | exact .there (.there (.there (.there (.there (.there (.there (.there (.there (.there (.there (.there (.there (.there (.there (.there .here)))))))))))))))); rfl; (first | rfl | (rw [hlx.out]; rfl) | (simp only [List.length_map, List.length_set]; rfl)))) | ((with_reducible show wpList _ _ _ (⟨some 28, Op.load _ _, _, _, _, _⟩ :: _) _ _); go_loud (apply S_ldAll hS; rfl; rfl; rfl; (first | exact .here | exact .there .here | exact .there (.there .here) | exact .there (.there (.there .here)) | exact .there (.there (.there (.there .here))) | exact .there (.there (.there (.there (.there .here)))) | exact .there (.there (.there (.there (.there (.there .here))))) | exact .there (.there (.there (.there (.there (.there (.there .here)))))) | exact .there (.there (.there (.there (.there (.there (.there (.there .here))))))) | exact .there (.there (.there (.there (.there (.there (.there (.there (.there .here)))))))) | exact .there (.there (.there (.there (.there (.there (.there (.there (.there (.there .here))))))))) | exact .there (.there (.there (.there (.there (.there (.there (.there (.there (.there (.there .here)))))))))) | exact .there (.there (.there (.there (.there (.there (.there (.there (.there (.there (.there (.there .here))))))))))) | exact .there (.there (.there (.there (.there (.there (.there (.there (.there (.there (.there (.there (.there .here)))))))))))) | exact .there (.there (.there (.there (.there (.there (.there (.there (.there (.there (.there (.there (.there (.there .here))))))))))))) | exact .there (.there (.there (.there (.there (.there (.there (.there (.there (.there (.there (.there (.there (.there (.there .here)))))))))))))) | exact .there (.there (.there (.there (.there (.there (.there (.there (.there (.there (.there (.there (.there (.there (.there (.there .here)))))))))))))))); rfl; (first | rfl | (rw [hly.out]; rfl) | (simp only [List.length_map, List.length_set]; rfl)))))
    have HSE := Lib.hid (show ((str (packF x)).toList == (str (packF y)).toList) = decide (x = y) from (str_eq (packF x) (packF y)).trans (decide_eq_decide.2 hin.out))
    clear hin p1 p2 e1 e2
    refine E_start (hR := Ext.pre) #[false, false, false, false, false, false, false, false, false, false] (by kernel_rfl) rfl rfl (fun w_r2 hx_r2 he_r2 => ?_)
    clear he_r2
    replace hS := hS.ext hx_r2; clear hx_r2
    refine E_take (hR := Ext.pre) (i := 0) (N := (some 32)) (v := ?vr2_0) (a' := ?ar2_0) #[true, false, false, false, false, false, false, false, false, false] rfl rfl (by kernel_rfl) (fun _ _ _ h => h) (by rfl) ?hyr2_0 ?har2_0 ?_
    case hyr2_0 =>
      intro w' hx
      go_simp
      with_reducible rfl
    case har2_0 => (simp only [Act.put, List.setIfInBounds_toArray, List.set_cons_zero, List.set_cons_succ]; rfl)
    refine E_take (hR := Ext.pre) (i := 1) (N := (some 33)) (v := ?vr2_1) (a' := ?ar2_1) #[true, true, false, false, false, false, false, false, false, false] rfl rfl (by kernel_rfl) (fun _ _ _ h => h) (by rfl) ?hyr2_1 ?har2_1 ?_
    case hyr2_1 =>
      intro w' hx
      (apply Eq.trans; (apply R_strc Try.underlying34 Try.underlying5 Try.underlying9 ((hS.ext hx).ownRd (A := A1) (by first | exact .here | exact .there .here | exact .there (.there .here) | exact .there (.there (.there .here)) | exact .there (.there (.there (.there .here))) | exact .there (.there (.there (.there (.there .here)))) | exact .there (.there (.there (.there (.there (.there .here))))) | exact .there (.there (.there (.there (.there (.there (.there .here)))))) | exact .there (.there (.there (.there (.there (.there (.there (.there .here))))))) | exact .there (.there (.there (.there (.there (.there (.there (.there (.there .here)))))))) | exact .there (.there (.there (.there (.there (.there (.there (.there (.there (.there .here))))))))) | exact .there (.there (.there (.there (.there (.there (.there (.there (.there (.there (.there .here)))))))))) | exact .there (.there (.there (.there (.there (.there (.there (.there (.there (.there (.there (.there .here))))))))))) | exact .there (.there (.there (.there (.there (.there (.there (.there (.there (.there (.there (.there (.there .here)))))))))))) | exact .there (.there (.there (.there (.there (.there (.there (.there (.there (.there (.there (.there (.there (.there .here))))))))))))) | exact .there (.there (.there (.there (.there (.there (.there (.there (.there (.there (.there (.there (.there (.there (.there .here)))))))))))))) | exact .there (.there (.there (.there (.there (.there (.there (.there (.there (.there (.there (.there (.there (.there (.there (.there .here))))))))))))))))) (packF_len HX.out); rfl; rfl); with_reducible rfl)
    case har2_1 => (simp only [Act.put, List.setIfInBounds_toArray, List.set_cons_zero, List.set_cons_succ]; rfl)
    refine E_take (hR := Ext.pre) (i := 2) (N := (some 34)) (v := ?vr2_2) (a' := ?ar2_2) #[true, true, true, false, false, false, false, false, false, false] rfl rfl (by kernel_rfl) (fun _ _ _ h => h) (by rfl) ?hyr2_2 ?har2_2 ?_
    case hyr2_2 =>
      intro w' hx
      go_simp
      with_reducible rfl
    case har2_2 => (simp only [Act.put, List.setIfInBounds_toArray, List.set_cons_zero, List.set_cons_succ]; rfl)
    refine E_take (hR := Ext.pre) (i := 3) (N := (some 35)) (v := ?vr2_3) (a' := ?ar2_3) #[true, true, true, true, false, false, false, false, false, false] rfl rfl (by kernel_rfl) (fun _ _ _ h => h) (by rfl) ?hyr2_3 ?har2_3 ?_
    case hyr2_3 =>
      intro w' hx
      (apply Eq.trans; (apply R_strc Try.underlying34 Try.underlying5 Try.underlying9 ((hS.ext hx).ownRd (A := A2) (by first | exact .here | exact .there .here | exact .there (.there .here) | exact .there (.there (.there .here)) | exact .there (.there (.there (.there .here))) | exact .there (.there (.there (.there (.there .here)))) | exact .there (.there (.there (.there (.there (.there .here))))) | exact .there (.there (.there (.there (.there (.there (.there .here)))))) | exact .there (.there (.there (.there (.there (.there (.there (.there .here))))))) | exact .there (.there (.there (.there (.there (.there (.there (.there (.there .here)))))))) | exact .there (.there (.there (.there (.there (.there (.there (.there (.there (.there .here))))))))) | exact .there (.there (.there (.there (.there (.there (.there (.there (.there (.there (.there .here)))))))))) | exact .there (.there (.there (.there (.there (.there (.there (.there (.there (.there (.there (.there .here))))))))))) | exact .there (.there (.there (.there (.there (.there (.there (.there (.there (.there (.there (.there (.there .here)))))))))))) | exact .there (.there (.there (.there (.there (.there (.there (.there (.there (.there (.there (.there (.there (.there .here))))))))))))) | exact .there (.there (.there (.there (.there (.there (.there (.there (.there (.there (.there (.there (.there (.there (.there .here)))))))))))))) | exact .there (.there (.there (.there (.there (.there (.there (.there (.there (.there (.there (.there (.there (.there (.there (.there .here))))))))))))))))) (packF_len HY.out); rfl; rfl); with_reducible rfl)
    case har2_3 => (simp only [Act.put, List.setIfInBounds_toArray, List.set_cons_zero, List.set_cons_succ]; rfl)
    refine E_take (hR := Ext.pre) (i := 4) (N := (some 36)) (v := ?vr2_4) (a' := ?ar2_4) #[true, true, true, true, true, false, false, false, false, false] rfl rfl (by kernel_rfl) (fun _ _ _ h => h) (by rfl) ?hyr2_4 ?har2_4 ?_
    case hyr2_4 =>
      intro w' hx
      go_simp
      with_reducible rfl
    case har2_4 => (simp only [Act.put, List.setIfInBounds_toArray, List.set_cons_zero, List.set_cons_succ]; rfl)
    refine E_take (hR := Ext.pre) (i := 5) (N := (some 37)) (v := ?vr2_5) (a' := ?ar2_5) #[true, true, true, true, true, true, false, false, false, false] rfl rfl (by kernel_rfl) (fun _ _ _ h => h) (by rfl) ?hyr2_5 ?har2_5 ?_
    case hyr2_5 =>
      intro w' hx
      (apply Eq.trans; (apply R_ldPartQ (n := 72) (hS.ext hx); rfl; rfl; (first | exact .here | exact .there .here | exact .there (.there .here) | exact .there (.there (.there .here)) | exact .there (.there (.there (.there .here))) | exact .there (.there (.there (.there (.there .here)))) | exact .there (.there (.there (.there (.there (.there .here))))) | exact .there (.there (.there (.there (.there (.there (.there .here)))))) | exact .there (.there (.there (.there (.there (.there (.there (.there .here))))))) | exact .there (.there (.there (.there (.there (.there (.there (.there (.there .here)))))))) | exact .there (.there (.there (.there (.there (.there (.there (.there (.there (.there .here))))))))) | exact .there (.there (.there (.there (.there (.there (.there (.there (.there (.there (.there .here)))))))))) | exact .there (.there (.there (.there (.there (.there (.there (.there (.there (.there (.there (.there .here))))))))))) | exact .there (.there (.there (.there (.there (.there (.there (.there (.there (.there (.there (.there (.there .here)))))))))))) | exact .there (.there (.there (.there (.there (.there (.there (.there (.there (.there (.there (.there (.there (.there .here))))))))))))) | exact .there (.there (.there (.there (.there (.there (.there (.there (.there (.there (.there (.there (.there (.there (.there .here)))))))))))))) | exact .there (.there (.there (.there (.there (.there (.there (.there (.there (.there (.there (.there (.there (.there (.there (.there .here)))))))))))))))); rfl; rfl; ((rw [hlx.out]; decide)); exact (List.take_of_length_le (by rw [List.drop_zero, hlx.out]; decide))); with_reducible rfl)
    case har2_5 => (simp only [Act.put, List.setIfInBounds_toArray, List.set_cons_zero, List.set_cons_succ]; rfl)
    refine E_take (hR := Ext.pre) (i := 6) (N := (some 38)) (v := ?vr2_6) (a' := ?ar2_6) #[true, true, true, true, true, true, true, false, false, false] rfl rfl (by kernel_rfl) (fun _ _ _ h => h) (by rfl) ?hyr2_6 ?har2_6 ?_
    case hyr2_6 =>
      intro w' hx
      (apply Eq.trans; (apply R_ldPartQ (n := 72) (hS.ext hx); rfl; rfl; (first | exact .here | exact .there .here | exact .there (.there .here) | exact .there (.there (.there .here)) | exact .there (.there (.there (.there .here))) | exact .there (.there (.there (.there (.there .here)))) | exact .there (.there (.there (.there (.there (.there .here))))) | exact .there (.there (.there (.there (.there (.there (.there .here)))))) | exact .there (.there (.there (.there (.there (.there (.there (.there .here))))))) | exact .there (.there (.there (.there (.there (.there (.there (.there (.there .here)))))))) | exact .there (.there (.there (.there (.there (.there (.there (.there (.there (.there .here))))))))) | exact .there (.there (.there (.there (.there (.there (.there (.there (.there (.there (.there .here)))))))))) | exact .there (.there (.there (.there (.there (.there (.there (.there (.there (.there (.there (.there .here))))))))))) | exact .there (.there (.there (.there (.there (.there (.there (.there (.there (.there (.there (.there (.there .here)))))))))))) | exact .there (.there (.there (.there (.there (.there (.there (.there (.there (.there (.there (.there (.there (.there .here))))))))))))) | exact .there (.there (.there (.there (.there (.there (.there (.there (.there (.there (.there (.there (.there (.there (.there .here)))))))))))))) | exact .there (.there (.there (.there (.there (.there (.there (.there (.there (.there (.there (.there (.there (.there (.there (.there .here)))))))))))))))); rfl; rfl; ((rw [hly.out]; decide)); exact (List.take_of_length_le (by rw [List.drop_zero, hly.out]; decide))); with_reducible rfl)
    case har2_6 => (simp only [Act.put, List.setIfInBounds_toArray, List.set_cons_zero, List.set_cons_succ]; rfl)
    refine E_take (hR := Ext.pre) (i := 7) (N := (some 39)) (v := ?vr2_7) (a' := ?ar2_7) #[true, true, true, true, true, true, true, true, false, false] rfl rfl (by kernel_rfl) (fun _ _ _ h => h) (by rfl) ?hyr2_7 ?har2_7 ?_
    case hyr2_7 =>
      intro w' hx
      go_simp
      with_reducible rfl
    case har2_7 => (simp only [Act.put, List.setIfInBounds_toArray, List.set_cons_zero, List.set_cons_succ]; rfl)
    refine E_take (hR := Ext.pre) (i := 8) (N := (some 40)) (v := ?vr2_8) (a' := ?ar2_8) #[true, true, true, true, true, true, true, true, true, false] rfl rfl (by kernel_rfl) (fun _ _ _ h => h) (by rfl) ?hyr2_8 ?har2_8 ?_
    case hyr2_8 =>
      intro w' hx
      go_simp
      with_reducible rfl
    case har2_8 => (simp only [Act.put, List.setIfInBounds_toArray, List.set_cons_zero, List.set_cons_succ]; rfl)
    refine E_take (hR := Ext.pre) (i := 9) (N := (some 4)) (v := ?vr2_9) (a' := ?ar2_9) #[true, true, true, true, true, true, true, true, true, true] rfl rfl (by kernel_rfl) (fun _ _ _ h => h) (by rfl) ?hyr2_9 ?har2_9 ?_
    case hyr2_9 =>
      intro w' hx
      go_simp
      with_reducible rfl
    case har2_9 => (simp only [Act.put, List.setIfInBounds_toArray, List.set_cons_zero, List.set_cons_succ]; rfl)
    refine E_done (by kernel_rfl) ?_
    go_wp2
    go_ret
    exact ⟨congrArg (fun b => Ending.returned (Value.bool b)) (show (((str (packF x)).toList == (str (packF y)).toList) == decide (x = y)) = true from by rw [HSE.out]; simp), hS.below⟩
  · by_cases hX : RightP x
    · have e1 := decide_eq_true hX
      have e2 := decide_eq_false (fun h => hR ⟨hX, h⟩)
      clear hR hX
      go_wp2_with (first | ((with_reducible show Calls _ _ #[] _ _); refine (awake_any _).mono ?_; rintro e w_ ⟨rfl, hb_⟩; replace hS := hS.ext hb_; clear hb_) | ((with_reducible show Calls _ 8 #[.agg (inoC x).toArray] _ _); refine (refRight_any x _ hx).mono ?_; rw [e1]; rintro e w_ ⟨rfl, hb_⟩; replace hS := hS.ext hb_; clear hb_) | ((with_reducible show Calls _ 8 #[.agg (inoC y).toArray] _ _); refine (refRight_any y _ hy).mono ?_; rw [e2]; rintro e w_ ⟨rfl, hb_⟩; replace hS := hS.ext hb_; clear hb_) | ((with_reducible show wpList _ _ _ (⟨_, _, _, _, _, some (_, _)⟩ :: _) _ _); go_loud (first | (apply S_guardT; rfl; rfl; first | rfl | assumption) | (apply S_guardF; rfl; rfl; first | rfl | assumption) | (apply S_guard; rfl; rfl; all_goals intro hg_))) | ((with_reducible show wpList _ _ _ (⟨some 12, Op.load _ _, _, _, _, _⟩ :: _) _ _); go_loud (apply S_ldAll hS; rfl; rfl; rfl; (first | exact .here | exact .there .here | exact .there (.there .here) | exact .there (.there (.there .here)) | exact .there (.there (.there (.there .here))) | exact .there (.there (.there (.there (.there .here)))) | exact .there (.there (.there (.there (.there (.there .here))))) | exact .there (.there (.there (.there (.there (.there (.there .here)))))) | exact .there (.there (.there (.there (.there (.there (.there (.there .here))))))) | exact .there (.there (.there (.there (.there (.there (.there (.there (.there .here)))))))) | exact .there (.there (.there (.there (.there (.there (.there (.there (.there (.there .here))))))))) | exact .there (.there (.there (.there (.there (.there (.there (.there (.there (.there (.there .here)))))))))) | exact .there (.there (.there (.there (.there (.there (.there (.there (.there (.there (.there (.there .here))))))))))) | exact .there (.there (.there (.there (.there (.there (.there (.there (.there (.there (.there (.there (.there .here)))))))))))) | exact .there (.there (.there (.there (.there (.there (.there (.there (.there (.there (.there (.there (.there (.there .here))))))))))))) | exact .there (.there (.there (.there (.there (.there (.there (.there (.there (.there (.there (.there (.there (.there (.there .here)))))))))))))) | exact .there (.there (.there (.there (.there (.there (.there (.there (.there (.there (.there (.there (.there (.there (.there (.there .here)))))))))))))))); rfl; (first | rfl | (rw [hlx.out]; rfl) | (simp only [List.length_map, List.length_set]; rfl)))) | ((with_reducible show wpList _ _ _ (⟨some 17, Op.load _ _, _, _, _, _⟩ :: _) _ _); go_loud (apply S_ldAll hS; rfl; rfl; rfl; (first | exact .here | exact .there .here | exact .there (.there .here) | exact .there (.there (.there .here)) | exact .there (.there (.there (.there .here))) | exact .there (.there (.there (.there (.there .here)))) | exact .there (.there (.there (.there (.there (.there .here))))) | exact .there (.there (.there (.there (.there (.there (.there .here)))))) | exact .there (.there (.there (.there (.there (.there (.there (.there .here))))))) | exact .there (.there (.there (.there (.there (.there (.there (.there (.there .here)))))))) | exact .there (.there (.there (.there (.there (.there (.there (.there (.there (.there .here))))))))) | exact .there (.there (.there (.there (.there (.there (.there (.there (.there (.there (.there .here)))))))))) | exact .there (.there (.there (.there (.there (.there (.there (.there (.there (.there (.there (.there .here))))))))))) | exact .there (.there (.there (.there (.there (.there (.there (.there (.there (.there (.there (.there (.there .here)))))))))))) | exact .there (.there (.there (.there (.there (.there (.there (.there (.there (.there (.there (.there (.there (.there .here))))))))))))) | exact .there (.there (.there (.there (.there (.there (.there (.there (.there (.there (.there (.there (.there (.there (.there .here)))))))))))))) | exact .there (.there (.there (.there (.there (.there (.there (.there (.there (.there (.there (.there (.there (.there (.there (.there .here)))))))))))))))); rfl; (first | rfl | (rw [hly.out]; rfl) | (simp only [List.length_map, List.length_set]; rfl)))))
      go_ret
      exact ⟨rfl, hS.below⟩
    · have e1 := decide_eq_false hX
      clear hR hX
      go_wp2_with (first | ((with_reducible show Calls _ _ #[] _ _); refine (awake_any _).mono ?_; rintro e w_ ⟨rfl, hb_⟩; replace hS := hS.ext hb_; clear hb_) | ((with_reducible show Calls _ 8 #[.agg (inoC x).toArray] _ _); refine (refRight_any x _ hx).mono ?_; rw [e1]; rintro e w_ ⟨rfl, hb_⟩; replace hS := hS.ext hb_; clear hb_) | ((with_reducible show Calls _ 8 #[.agg (inoC y).toArray] _ _); refine (refRight_any y _ hy).mono ?_; rw [e2]; rintro e w_ ⟨rfl, hb_⟩; replace hS := hS.ext hb_; clear hb_) | ((with_reducible show wpList _ _ _ (⟨_, _, _, _, _, some (_, _)⟩ :: _) _ _); go_loud (first | (apply S_guardT; rfl; rfl; first | rfl | assumption) | (apply S_guardF; rfl; rfl; first | rfl | assumption) | (apply S_guard; rfl; rfl; all_goals intro hg_))) | ((with_reducible show wpList _ _ _ (⟨some 12, Op.load _ _, _, _, _, _⟩ :: _) _ _); go_loud (apply S_ldAll hS; rfl; rfl; rfl; (first | exact .here | exact .there .here | exact .there (.there .here) | exact .there (.there (.there .here)) | exact .there (.there (.there (.there .here))) | exact .there (.there (.there (.there (.there .here)))) | exact .there (.there (.there (.there (.there (.there .here))))) | exact .there (.there (.there (.there (.there (.there (.there .here)))))) | exact .there (.there (.there (.there (.there (.there (.there (.there .here))))))) | exact .there (.there (.there (.there (.there (.there (.there (.there (.there .here)))))))) | exact .there (.there (.there (.there (.there (.there (.there (.there (.there (.there .here))))))))) | exact .there (.there (.there (.there (.there (.there (.there (.there (.there (.there (.there .here)))))))))) | exact .there (.there (.there (.there (.there (.there (.there (.there (.there (.there (.there (.there .here))))))))))) | exact .there (.there (.there (.there (.there (.there (.there (.there (.there (.there (.there (.there (.there .here)))))))))))) | exact .there (.there (.there (.there (.there (.there (.there (.there (.there (.there (.there (.there (.there (.there .here))))))))))))) | exact .there (.there (.there (.there (.there (.there (.there (.there (.there (.there (.there (.there (.there (.there (.there .here)))))))))))))) | exact .there (.there (.there (.there (.there (.there (.there (.there (.there (.there (.there (.there (.there (.there (.there (.there .here)))))))))))))))); rfl; (first | rfl | (rw [hlx.out]; rfl) | (simp only [List.length_map, List.length_set]; rfl)))) | ((with_reducible show wpList _ _ _ (⟨some 17, Op.load _ _, _, _, _, _⟩ :: _) _ _); go_loud (apply S_ldAll hS; rfl; rfl; rfl; (first | exact .here | exact .there .here | exact .there (.there .here) | exact .there (.there (.there .here)) | exact .there (.there (.there (.there .here))) | exact .there (.there (.there (.there (.there .here)))) | exact .there (.there (.there (.there (.there (.there .here))))) | exact .there (.there (.there (.there (.there (.there (.there .here)))))) | exact .there (.there (.there (.there (.there (.there (.there (.there .here))))))) | exact .there (.there (.there (.there (.there (.there (.there (.there (.there .here)))))))) | exact .there (.there (.there (.there (.there (.there (.there (.there (.there (.there .here))))))))) | exact .there (.there (.there (.there (.there (.there (.there (.there (.there (.there (.there .here)))))))))) | exact .there (.there (.there (.there (.there (.there (.there (.there (.there (.there (.there (.there .here))))))))))) | exact .there (.there (.there (.there (.there (.there (.there (.there (.there (.there (.there (.there (.there .here)))))))))))) | exact .there (.there (.there (.there (.there (.there (.there (.there (.there (.there (.there (.there (.there (.there .here))))))))))))) | exact .there (.there (.there (.there (.there (.there (.there (.there (.there (.there (.there (.there (.there (.there (.there .here)))))))))))))) | exact .there (.there (.there (.there (.there (.there (.there (.there (.there (.there (.there (.there (.there (.there (.there (.there .here)))))))))))))))); rfl; (first | rfl | (rw [hly.out]; rfl) | (simp only [List.length_map, List.length_set]; rfl)))))
      go_ret
      exact ⟨rfl, hS.below⟩
end Go.Proofs.Ytilpafmfknphlaa
