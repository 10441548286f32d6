/- Base64Apart: the walk. -/
import Derived.Test.YtmpkbjkdmbgmhaaP02c
namespace Go.Proofs.Ytmpkbjkdmbgmhaa
open Go.RowKit

set_option maxHeartbeats 1600000 in
theorem base64Apart_walk (A0 A1 : Option Addr) (n0 n1 c0 c1 : Nat) (x0 x1 : List UInt8) (w : World) (hn0 : x0.length = n0) (hn1 : x1.length = n1) (hr0 : RdB w A0 x0) (hr1 : RdB w A1 x1) :
    Calls Try.prog 4 #[.slice A0 n0 c0, .slice A1 n1 c1] w fun e w' => e = .returned (.bool true) ∧ Below w.heap.size w w' := by
  have hb := Below.refl w.heap.size w
  have HN0 := Lib.hid hn0; have HN1 := Lib.hid hn1; have H0 := Lib.hid hr0; have H1 := Lib.hid hr1
  clear hn0 hn1 hr0 hr1
  by_cases h0 : 300 < n0
  · go_enter Try.func4, Try.ntmps4
    go_wp2_with (go_at_call 7; refine (awake_acc w _ hb).mono ?_; clear hb; rintro e w1 ⟨rfl, hb⟩)
    go_ret
    exact ⟨rfl, hb⟩
  by_cases h1 : 300 < n1
  · go_enter Try.func4, Try.ntmps4
    go_wp2_with (go_at_call 7; refine (awake_acc w _ hb).mono ?_; clear hb; rintro e w1 ⟨rfl, hb⟩)
    go_ret
    exact ⟨rfl, hb⟩
  have hE : ((str (encF x0)).toList == (str (encF x1)).toList) = (x0 == x1) := by
    rw [str_toList, str_toList, Bool.eq_iff_iff, beq_iff_eq, beq_iff_eq]
    exact ⟨Pure.encF_inj, fun h => by rw [h]⟩
  have hS : ((str x0).toList == (str x1).toList) = (x0 == x1) := by rw [str_toList, str_toList]
  have HE := Lib.hid hE; have HS := Lib.hid hS
  clear hE hS
  go_enter Try.func4, Try.ntmps4
  go_wp2_with (go_at_call 7; refine (awake_acc w _ hb).mono ?_; clear hb; rintro e w1 ⟨rfl, hb⟩)
  refine E_start (hR := Ext.pre) #[false, false, false, false, false, false, false, false, false, false, false, false, false, false] (by kernel_rfl) rfl rfl (fun w_r31 hx_r31 he_r31 => ?_)
  clear he_r31
  replace hb := Ext.below hb hx_r31
  clear hx_r31
  refine E_take (hR := Ext.pre) (i := 0) (N := (some 18)) (v := ?vr31_0) (a' := ?ar31_0) #[true, false, false, false, false, false, false, false, false, false, false, false, false, false] rfl rfl (by kernel_rfl) (fun _ _ _ h => h) (by rfl) ?hyr31_0 ?har31_0 ?_
  case hyr31_0 =>
    intro w' hx
    go_simp
    with_reducible rfl
  case har31_0 => (simp only [Act.put, List.setIfInBounds_toArray, List.set_cons_zero, List.set_cons_succ]; rfl)
  refine E_take (hR := Ext.pre) (i := 3) (N := (some 21)) (v := ?vr31_3) (a' := ?ar31_3) #[true, false, false, true, false, false, false, false, false, false, false, false, false, false] rfl rfl (by kernel_rfl) (fun _ _ _ h => h) (by rfl) ?hyr31_3 ?har31_3 ?_
  case hyr31_3 =>
    intro w' hx
    go_simp
    with_reducible rfl
  case har31_3 => (simp only [Act.put, List.setIfInBounds_toArray, List.set_cons_zero, List.set_cons_succ]; rfl)
  refine E_take (hR := Ext.pre) (i := 7) (N := (some 25)) (v := ?vr31_7) (a' := ?ar31_7) #[true, false, false, true, false, false, false, true, false, false, false, false, false, false] rfl rfl (by kernel_rfl) (fun _ _ _ h => h) (by rfl) ?hyr31_7 ?har31_7 ?_
  case hyr31_7 =>
    intro w' hx
    go_simp
    with_reducible rfl
  case har31_7 => (simp only [Act.put, List.setIfInBounds_toArray, List.set_cons_zero, List.set_cons_succ]; rfl)
  refine E_take (hR := Ext.pre) (i := 8) (N := (some 26)) (v := ?vr31_8) (a' := ?ar31_8) #[true, false, false, true, false, false, false, true, true, false, false, false, false, false] rfl rfl (by kernel_rfl) (fun _ _ _ h => h) (by rfl) ?hyr31_8 ?har31_8 ?_
  case hyr31_8 =>
    intro w' hx
    have hst := run_str w' (P := Try.prog) (n := n0) (c := c0) Try.underlying23 Try.underlying5 (xs := x0) (H0.out.keep (hb.trans (hx.mono hb.size))) HN0.out Try.underlying9
    go_simp
    with_reducible rfl
  case har31_8 => (simp only [Act.put, List.setIfInBounds_toArray, List.set_cons_zero, List.set_cons_succ]; rfl)
  refine E_take (hR := Ext.pre) (i := 9) (N := (some 27)) (v := ?vr31_9) (a' := ?ar31_9) #[true, false, false, true, false, false, false, true, true, true, false, false, false, false] rfl rfl (by kernel_rfl) (fun _ _ _ h => h) (by rfl) ?hyr31_9 ?har31_9 ?_
  case hyr31_9 =>
    intro w' hx
    go_simp
    with_reducible rfl
  case har31_9 => (simp only [Act.put, List.setIfInBounds_toArray, List.set_cons_zero, List.set_cons_succ]; rfl)
  refine E_take (hR := Ext.pre) (i := 10) (N := (some 28)) (v := ?vr31_10) (a' := ?ar31_10) #[true, false, false, true, false, false, false, true, true, true, true, false, false, false] rfl rfl (by kernel_rfl) (fun _ _ _ h => h) (by rfl) ?hyr31_10 ?har31_10 ?_
  case hyr31_10 =>
    intro w' hx
    have hst := run_str w' (P := Try.prog) (n := n1) (c := c1) Try.underlying23 Try.underlying5 (xs := x1) (H1.out.keep (hb.trans (hx.mono hb.size))) HN1.out Try.underlying9
    go_simp
    with_reducible rfl
  case har31_10 => (simp only [Act.put, List.setIfInBounds_toArray, List.set_cons_zero, List.set_cons_succ]; rfl)
  refine E_take (hR := Ext.pre) (i := 11) (N := (some 29)) (v := ?vr31_11) (a' := ?ar31_11) #[true, false, false, true, false, false, false, true, true, true, true, true, false, false] rfl rfl (by kernel_rfl) (fun _ _ _ h => h) (by rfl) ?hyr31_11 ?har31_11 ?_
  case hyr31_11 =>
    intro w' hx
    go_simp
    with_reducible rfl
  case har31_11 => (simp only [Act.put, List.setIfInBounds_toArray, List.set_cons_zero, List.set_cons_succ]; rfl)
  refine E_split [1, 4] (by kernel_rfl) (by simp) (fun i_ hi_ => ?_)
  simp only [List.mem_cons, List.not_mem_nil, or_false] at hi_
  rcases hi_ with rfl | rfl
  · refine E_run1 (i := 1) (N := (some 19)) (v := ?vr31a_1) (w1 := ?wr31a_1) (a' := ?ar31a_1) #[true, true, false, true, false, false, false, true, true, true, true, true, false, false] rfl rfl (by kernel_rfl) (by rfl) ?hrr31a_1 ?hxr31a_1 ?har31a_1 ?_
    case hrr31a_1 => (go_simp; first | with_reducible rfl | (refine ⟨?_, ?_⟩ <;> with_reducible rfl))
    case hxr31a_1 => exact Ext.alloc _ _
    case har31a_1 => (simp only [Act.put, List.setIfInBounds_toArray, List.set_cons_zero, List.set_cons_succ]; rfl)
    have L1 := lit1_bb _ A0 n0 c0 x0 HN0.out (H0.out.keep hb)
    try simp only [World.size_alloc] at L1
    replace L1 := Lib.hid L1
    try replace L2 := Lib.hid (L2.out.keep (Ext.alloc _ (.cells #[.slice A0 n0 c0] 23)))
    replace hb := hb.alloc hb.size (.cells #[.slice A0 n0 c0] 23)
    refine E_split [2, 4] (by kernel_rfl) (by simp) (fun i_ hi_ => ?_)
    simp only [List.mem_cons, List.not_mem_nil, or_false] at hi_
    rcases hi_ with rfl | rfl
    · refine E_call1 (i := 2) (N := (some 20)) (args := ?gr31aa_2) #[true, true, true, true, false, false, false, true, true, true, true, true, false, false] rfl rfl (by kernel_rfl) (by rfl) Try.func10 (by kernel_rfl) rfl rfl ?hgr31aa_2 ?_
      case hgr31aa_2 => (simp only [List.map_toArray, List.map_cons, List.map_nil]; go_simp; with_reducible rfl)
      refine (encode_any _ 1 1 _ [x0] _ rfl L1.out (by simp; have := HN0.out; omega) (by decide)).mono ?_
      rintro e w3 ⟨rfl, hb3⟩
      rw [show [x0].flatten = x0 by simp]
      refine ⟨_, rfl, hb3, ?_⟩
      try replace L2 := Lib.hid (L2.out.keep hb3)
      clear L1
      replace hb := hb.trans (hb3.mono hb.size)
      clear hb3
      rintro _ rfl
      simp only [Act.put, List.setIfInBounds_toArray, List.set_cons_zero, List.set_cons_succ]
      refine E_run (i := 4) (N := (some 22)) (v := ?vr31aa_4) (w1 := ?wr31aa_4) (a' := ?ar31aa_4) #[true, true, true, true, true, false, false, true, true, true, true, true, false, false] rfl rfl (by kernel_rfl) (by rfl) ?hrr31aa_4 ?hxr31aa_4 ?har31aa_4 ?_
      case hrr31aa_4 => (go_simp; first | with_reducible rfl | (refine ⟨?_, ?_⟩ <;> with_reducible rfl))
      case hxr31aa_4 => exact Ext.alloc _ _
      case har31aa_4 => (simp only [Act.put, List.setIfInBounds_toArray, List.set_cons_zero, List.set_cons_succ]; rfl)
      have L2 := lit1_bb _ A1 n1 c1 x1 HN1.out (H1.out.keep hb)
      try simp only [World.size_alloc] at L2
      replace L2 := Lib.hid L2
      try replace L1 := Lib.hid (L1.out.keep (Ext.alloc _ (.cells #[.slice A1 n1 c1] 23)))
      replace hb := hb.alloc hb.size (.cells #[.slice A1 n1 c1] 23)
      refine E_call (i := 5) (N := (some 23)) (args := ?gr31aa_5) #[true, true, true, true, true, true, false, true, true, true, true, true, false, false] rfl rfl (by kernel_rfl) (by rfl) Try.func10 (by kernel_rfl) rfl rfl ?hgr31aa_5 ?_
      case hgr31aa_5 => (simp only [List.map_toArray, List.map_cons, List.map_nil]; go_simp; with_reducible rfl)
      refine (encode_any _ 1 1 _ [x1] _ rfl L2.out (by simp; have := HN1.out; omega) (by decide)).mono ?_
      rintro e w4 ⟨rfl, hb4⟩
      rw [show [x1].flatten = x1 by simp]
      refine ⟨_, rfl, hb4, ?_⟩
      try replace L1 := Lib.hid (L1.out.keep hb4)
      clear L2
      replace hb := hb.trans (hb4.mono hb.size)
      clear hb4
      rintro _ rfl
      simp only [Act.put, List.setIfInBounds_toArray, List.set_cons_zero, List.set_cons_succ]
      refine E_take (hR := Ext.pre) (i := 6) (N := (some 24)) (v := ?vr31aa_6) (a' := ?ar31aa_6) #[true, true, true, true, true, true, true, true, true, true, true, true, false, false] rfl rfl (by kernel_rfl) (fun _ _ _ h => h) (by rfl) ?hyr31aa_6 ?har31aa_6 ?_
      case hyr31aa_6 =>
        intro w' hx
        go_simp
        with_reducible rfl
      case har31aa_6 => (simp only [Act.put, List.setIfInBounds_toArray, List.set_cons_zero, List.set_cons_succ]; rfl)
      refine E_take (hR := Ext.pre) (i := 12) (N := (some 30)) (v := ?vr31aa_12) (a' := ?ar31aa_12) #[true, true, true, true, true, true, true, true, true, true, true, true, true, false] rfl rfl (by kernel_rfl) (fun _ _ _ h => h) (by rfl) ?hyr31aa_12 ?har31aa_12 ?_
      case hyr31aa_12 =>
        intro w' hx
        go_simp
        with_reducible rfl
      case har31aa_12 => (simp only [Act.put, List.setIfInBounds_toArray, List.set_cons_zero, List.set_cons_succ]; rfl)
      refine E_take (hR := Ext.pre) (i := 13) (N := (some 4)) (v := ?vr31aa_13) (a' := ?ar31aa_13) #[true, true, true, true, true, true, true, true, true, true, true, true, true, true] rfl rfl (by kernel_rfl) (fun _ _ _ h => h) (by rfl) ?hyr31aa_13 ?har31aa_13 ?_
      case hyr31aa_13 =>
        intro w' hx
        go_simp
        with_reducible rfl
      case har31aa_13 => (simp only [Act.put, List.setIfInBounds_toArray, List.set_cons_zero, List.set_cons_succ]; rfl)
      refine E_done (by kernel_rfl) ?_
      go_wp2
      go_ret
      exact ⟨ret_bool (by rw [HE.out, HS.out]; simp), hb⟩
    · refine E_run1 (i := 4) (N := (some 22)) (v := ?vr31ab_4) (w1 := ?wr31ab_4) (a' := ?ar31ab_4) #[true, true, false, true, true, false, false, true, true, true, true, true, false, false] rfl rfl (by kernel_rfl) (by rfl) ?hrr31ab_4 ?hxr31ab_4 ?har31ab_4 ?_
      case hrr31ab_4 => (go_simp; first | with_reducible rfl | (refine ⟨?_, ?_⟩ <;> with_reducible rfl))
      case hxr31ab_4 => exact Ext.alloc _ _
      case har31ab_4 => (simp only [Act.put, List.setIfInBounds_toArray, List.set_cons_zero, List.set_cons_succ]; rfl)
      have L2 := lit1_bb _ A1 n1 c1 x1 HN1.out (H1.out.keep hb)
      try simp only [World.size_alloc] at L2
      replace L2 := Lib.hid L2
      try replace L1 := Lib.hid (L1.out.keep (Ext.alloc _ (.cells #[.slice A1 n1 c1] 23)))
      replace hb := hb.alloc hb.size (.cells #[.slice A1 n1 c1] 23)
      refine E_call (i := 2) (N := (some 20)) (args := ?gr31ab_2) #[true, true, true, true, true, false, false, true, true, true, true, true, false, false] rfl rfl (by kernel_rfl) (by rfl) Try.func10 (by kernel_rfl) rfl rfl ?hgr31ab_2 ?_
      case hgr31ab_2 => (simp only [List.map_toArray, List.map_cons, List.map_nil]; go_simp; with_reducible rfl)
      refine (encode_any _ 1 1 _ [x0] _ rfl L1.out (by simp; have := HN0.out; omega) (by decide)).mono ?_
      rintro e w3 ⟨rfl, hb3⟩
      rw [show [x0].flatten = x0 by simp]
      refine ⟨_, rfl, hb3, ?_⟩
      try replace L2 := Lib.hid (L2.out.keep hb3)
      clear L1
      replace hb := hb.trans (hb3.mono hb.size)
      clear hb3
      rintro _ rfl
      simp only [Act.put, List.setIfInBounds_toArray, List.set_cons_zero, List.set_cons_succ]
      refine E_call (i := 5) (N := (some 23)) (args := ?gr31ab_5) #[true, true, true, true, true, true, false, true, true, true, true, true, false, false] rfl rfl (by kernel_rfl) (by rfl) Try.func10 (by kernel_rfl) rfl rfl ?hgr31ab_5 ?_
      case hgr31ab_5 => (simp only [List.map_toArray, List.map_cons, List.map_nil]; go_simp; with_reducible rfl)
      refine (encode_any _ 1 1 _ [x1] _ rfl L2.out (by simp; have := HN1.out; omega) (by decide)).mono ?_
      rintro e w4 ⟨rfl, hb4⟩
      rw [show [x1].flatten = x1 by simp]
      refine ⟨_, rfl, hb4, ?_⟩
      try replace L1 := Lib.hid (L1.out.keep hb4)
      clear L2
      replace hb := hb.trans (hb4.mono hb.size)
      clear hb4
      rintro _ rfl
      simp only [Act.put, List.setIfInBounds_toArray, List.set_cons_zero, List.set_cons_succ]
      refine E_take (hR := Ext.pre) (i := 6) (N := (some 24)) (v := ?vr31ab_6) (a' := ?ar31ab_6) #[true, true, true, true, true, true, true, true, true, true, true, true, false, false] rfl rfl (by kernel_rfl) (fun _ _ _ h => h) (by rfl) ?hyr31ab_6 ?har31ab_6 ?_
      case hyr31ab_6 =>
        intro w' hx
        go_simp
        with_reducible rfl
      case har31ab_6 => (simp only [Act.put, List.setIfInBounds_toArray, List.set_cons_zero, List.set_cons_succ]; rfl)
      refine E_take (hR := Ext.pre) (i := 12) (N := (some 30)) (v := ?vr31ab_12) (a' := ?ar31ab_12) #[true, true, true, true, true, true, true, true, true, true, true, true, true, false] rfl rfl (by kernel_rfl) (fun _ _ _ h => h) (by rfl) ?hyr31ab_12 ?har31ab_12 ?_
      case hyr31ab_12 =>
        intro w' hx
        go_simp
        with_reducible rfl
      case har31ab_12 => (simp only [Act.put, List.setIfInBounds_toArray, List.set_cons_zero, List.set_cons_succ]; rfl)
      refine E_take (hR := Ext.pre) (i := 13) (N := (some 4)) (v := ?vr31ab_13) (a' := ?ar31ab_13) #[true, true, true, true, true, true, true, true, true, true, true, true, true, true] rfl rfl (by kernel_rfl) (fun _ _ _ h => h) (by rfl) ?hyr31ab_13 ?har31ab_13 ?_
      case hyr31ab_13 =>
        intro w' hx
        go_simp
        with_reducible rfl
      case har31ab_13 => (simp only [Act.put, List.setIfInBounds_toArray, List.set_cons_zero, List.set_cons_succ]; rfl)
      refine E_done (by kernel_rfl) ?_
      go_wp2
      go_ret
      exact ⟨ret_bool (by rw [HE.out, HS.out]; simp), hb⟩
  · refine E_run1 (i := 4) (N := (some 22)) (v := ?vr31b_4) (w1 := ?wr31b_4) (a' := ?ar31b_4) #[true, false, false, true, true, false, false, true, true, true, true, true, false, false] rfl rfl (by kernel_rfl) (by rfl) ?hrr31b_4 ?hxr31b_4 ?har31b_4 ?_
    case hrr31b_4 => (go_simp; first | with_reducible rfl | (refine ⟨?_, ?_⟩ <;> with_reducible rfl))
    case hxr31b_4 => exact Ext.alloc _ _
    case har31b_4 => (simp only [Act.put, List.setIfInBounds_toArray, List.set_cons_zero, List.set_cons_succ]; rfl)
    have L2 := lit1_bb _ A1 n1 c1 x1 HN1.out (H1.out.keep hb)
    try simp only [World.size_alloc] at L2
    replace L2 := Lib.hid L2
    try replace L1 := Lib.hid (L1.out.keep (Ext.alloc _ (.cells #[.slice A1 n1 c1] 23)))
    replace hb := hb.alloc hb.size (.cells #[.slice A1 n1 c1] 23)
    refine E_run (i := 1) (N := (some 19)) (v := ?vr31b_1) (w1 := ?wr31b_1) (a' := ?ar31b_1) #[true, true, false, true, true, false, false, true, true, true, true, true, false, false] rfl rfl (by kernel_rfl) (by rfl) ?hrr31b_1 ?hxr31b_1 ?har31b_1 ?_
    case hrr31b_1 => (go_simp; first | with_reducible rfl | (refine ⟨?_, ?_⟩ <;> with_reducible rfl))
    case hxr31b_1 => exact Ext.alloc _ _
    case har31b_1 => (simp only [Act.put, List.setIfInBounds_toArray, List.set_cons_zero, List.set_cons_succ]; rfl)
    have L1 := lit1_bb _ A0 n0 c0 x0 HN0.out (H0.out.keep hb)
    try simp only [World.size_alloc] at L1
    replace L1 := Lib.hid L1
    try replace L2 := Lib.hid (L2.out.keep (Ext.alloc _ (.cells #[.slice A0 n0 c0] 23)))
    replace hb := hb.alloc hb.size (.cells #[.slice A0 n0 c0] 23)
    refine E_call (i := 2) (N := (some 20)) (args := ?gr31b_2) #[true, true, true, true, true, false, false, true, true, true, true, true, false, false] rfl rfl (by kernel_rfl) (by rfl) Try.func10 (by kernel_rfl) rfl rfl ?hgr31b_2 ?_
    case hgr31b_2 => (simp only [List.map_toArray, List.map_cons, List.map_nil]; go_simp; with_reducible rfl)
    refine (encode_any _ 1 1 _ [x0] _ rfl L1.out (by simp; have := HN0.out; omega) (by decide)).mono ?_
    rintro e w3 ⟨rfl, hb3⟩
    rw [show [x0].flatten = x0 by simp]
    refine ⟨_, rfl, hb3, ?_⟩
    try replace L2 := Lib.hid (L2.out.keep hb3)
    clear L1
    replace hb := hb.trans (hb3.mono hb.size)
    clear hb3
    rintro _ rfl
    simp only [Act.put, List.setIfInBounds_toArray, List.set_cons_zero, List.set_cons_succ]
    refine E_call (i := 5) (N := (some 23)) (args := ?gr31b_5) #[true, true, true, true, true, true, false, true, true, true, true, true, false, false] rfl rfl (by kernel_rfl) (by rfl) Try.func10 (by kernel_rfl) rfl rfl ?hgr31b_5 ?_
    case hgr31b_5 => (simp only [List.map_toArray, List.map_cons, List.map_nil]; go_simp; with_reducible rfl)
    refine (encode_any _ 1 1 _ [x1] _ rfl L2.out (by simp; have := HN1.out; omega) (by decide)).mono ?_
    rintro e w4 ⟨rfl, hb4⟩
    rw [show [x1].flatten = x1 by simp]
    refine ⟨_, rfl, hb4, ?_⟩
    try replace L1 := Lib.hid (L1.out.keep hb4)
    clear L2
    replace hb := hb.trans (hb4.mono hb.size)
    clear hb4
    rintro _ rfl
    simp only [Act.put, List.setIfInBounds_toArray, List.set_cons_zero, List.set_cons_succ]
    refine E_take (hR := Ext.pre) (i := 6) (N := (some 24)) (v := ?vr31b_6) (a' := ?ar31b_6) #[true, true, true, true, true, true, true, true, true, true, true, true, false, false] rfl rfl (by kernel_rfl) (fun _ _ _ h => h) (by rfl) ?hyr31b_6 ?har31b_6 ?_
    case hyr31b_6 =>
      intro w' hx
      go_simp
      with_reducible rfl
    case har31b_6 => (simp only [Act.put, List.setIfInBounds_toArray, List.set_cons_zero, List.set_cons_succ]; rfl)
    refine E_take (hR := Ext.pre) (i := 12) (N := (some 30)) (v := ?vr31b_12) (a' := ?ar31b_12) #[true, true, true, true, true, true, true, true, true, true, true, true, true, false] rfl rfl (by kernel_rfl) (fun _ _ _ h => h) (by rfl) ?hyr31b_12 ?har31b_12 ?_
    case hyr31b_12 =>
      intro w' hx
      go_simp
      with_reducible rfl
    case har31b_12 => (simp only [Act.put, List.setIfInBounds_toArray, List.set_cons_zero, List.set_cons_succ]; rfl)
    refine E_take (hR := Ext.pre) (i := 13) (N := (some 4)) (v := ?vr31b_13) (a' := ?ar31b_13) #[true, true, true, true, true, true, true, true, true, true, true, true, true, true] rfl rfl (by kernel_rfl) (fun _ _ _ h => h) (by rfl) ?hyr31b_13 ?har31b_13 ?_
    case hyr31b_13 =>
      intro w' hx
      go_simp
      with_reducible rfl
    case har31b_13 => (simp only [Act.put, List.setIfInBounds_toArray, List.set_cons_zero, List.set_cons_succ]; rfl)
    refine E_done (by kernel_rfl) ?_
    go_wp2
    go_ret
    exact ⟨ret_bool (by rw [HE.out, HS.out]; simp), hb⟩

open Go.Proofs.YtmpkbjkdmbgmhaaW.PrintWords in
theorem base64Signs_walk (A0 : Option Addr) (c0 : Nat) (l : List (List Int)) (a1 : Int) (w : World) (hC : Kd.C (Kd.slice 5 (Kd.int .u8)) w A0 l.length l) (hc : l.length ≤ c0) (hb : l.all isB8 = true) :
    Calls Try.prog 5 #[.slice A0 l.length c0, .int .i64 a1] w fun e w' => e = .returned (.bool true) ∧ Below w.heap.size w w' := by
  obtain ⟨k, hk⟩ := Pure.Base64Signs l a1 hb
  exact PB.turnkeylaw02_Base64Signs.calls k A0 c0 l a1 true w hC hc hk
end Go.Proofs.Ytmpkbjkdmbgmhaa
