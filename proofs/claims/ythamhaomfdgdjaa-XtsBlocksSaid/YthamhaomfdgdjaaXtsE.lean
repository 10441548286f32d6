/- xts.Encrypt, xts.Decrypt. -/
import Derived.Test.YthamhaomfdgdjaaXtsR
import Derived.Test.YthamhaomfdgdjaaAesF
namespace Go.Proofs.Ythamhaomfdgdjaa
open Go.RowKit
set_option linter.unusedVariables false
set_option linter.unusedSimpArgs false

def Rgt (n0 : Nat) (num : Int) (n : Nat) : Prop := n0 = 64 ∧ 0 ≤ num ∧ 16 ≤ n ∧ n ≤ 1024 ∧ n % 16 = 0
def xtsE (key : List UInt8) (num : Int) (b : List UInt8) : List UInt8 := xtsT (encF (keysF (key1 key))) (encF (keysF (key2 key)) (le16 num)) b
def xtsD (key : List UInt8) (num : Int) (b : List UInt8) : List UInt8 := xtsT (decF (keysF (key1 key))) (encF (keysF (key2 key)) (le16 num)) b
def GivesT (xs : List UInt8) (w : World) (e : Ending) (w' : World) : Prop :=
  ∃ g c, e = .returned (.tuple #[.slice (some ⟨g, 0, none⟩) xs.length c, .int .i64 0]) ∧ w'.ownsRow w.heap.size 5 1 (.slice (some ⟨g, 0, none⟩) xs.length c) xs.length (xs.map bV) ∧ Below w.heap.size w w'
set_option maxHeartbeats 1600000 in
theorem open_no (A B : Option Addr) (n0 c n d : Nat) (num : Int) (w : World) (h : ¬ Rgt n0 num n) :
    Calls Try.prog 12 #[.slice A n0 c, .int .i64 num, .slice B n d] w fun e w' => e = .returned (.tuple #[.pointer none, .int .i64 2]) ∧ Below w.heap.size w w' := by
  by_cases k0 : n0 = 64
  · subst k0
    by_cases k1 : 0 ≤ num
    · have k1' : ¬ num < 0 := by omega
      by_cases k2 : 16 ≤ n
      · have k2' : ¬ (n : Int) < 16 := by omega
        by_cases k3 : n ≤ 1024
        · have k3' : ¬ (1024 : Int) < (n : Int) := by omega
          have k4 : (((n : Int) % 16) != 0) = true := by
            rw [bne_iff_ne]
            intro e
            exact h ⟨rfl, k1, k2, k3, by omega⟩
          clear h k1 k2 k3
          go_enter Try.func12, Try.ntmps12
          go_wp2
          go_ret2
          exact ⟨rfl, Below.refl _ _⟩
        · have k3' : (1024 : Int) < (n : Int) := by omega
          clear h k1 k2 k3
          go_enter Try.func12, Try.ntmps12
          go_wp2
          go_ret2
          exact ⟨rfl, Below.refl _ _⟩
      · have k2' : (n : Int) < 16 := by omega
        clear h k1 k2
        go_enter Try.func12, Try.ntmps12
        go_wp2
        go_ret2
        exact ⟨rfl, Below.refl _ _⟩
    · have k1' : num < 0 := by omega
      clear h k1
      go_enter Try.func12, Try.ntmps12
      go_wp2
      go_ret2
      exact ⟨rfl, Below.refl _ _⟩
  · have k0' : ((n0 : Int) != 64) = true := by rw [bne_iff_ne]; omega
    clear h k0
    go_enter Try.func12, Try.ntmps12
    go_wp2
    go_ret2
    exact ⟨rfl, Below.refl _ _⟩
theorem xtsEnc_no (A B : Option Addr) (n0 c n d : Nat) (num : Int) (w : World) (h : ¬ Rgt n0 num n) :
    Calls Try.prog 7 #[.slice A n0 c, .int .i64 num, .slice B n d] w fun e w' => e = .returned (.tuple #[.slice none 0 0, .int .i64 2]) ∧ Below w.heap.size w w' := by
  go_enter Try.func7, Try.ntmps7
  go_wp2_with (go_at_call 12; refine (open_no A B n0 c n d num _ h).mono ?_; rintro e w_ ⟨rfl, hb_⟩)
  go_ret2
  exact ⟨rfl, hb_⟩
theorem xtsDec_no (A B : Option Addr) (n0 c n d : Nat) (num : Int) (w : World) (h : ¬ Rgt n0 num n) :
    Calls Try.prog 8 #[.slice A n0 c, .int .i64 num, .slice B n d] w fun e w' => e = .returned (.tuple #[.slice none 0 0, .int .i64 2]) ∧ Below w.heap.size w w' := by
  go_enter Try.func8, Try.ntmps8
  go_wp2_with (go_at_call 12; refine (open_no A B n0 c n d num _ h).mono ?_; rintro e w_ ⟨rfl, hb_⟩)
  go_ret2
  exact ⟨rfl, hb_⟩
set_option maxRecDepth 8000 in
set_option maxHeartbeats 1600000 in
theorem xtsEnc_any (A B : Option Addr) (n0 c n d : Nat) (num : Int) (key b : List UInt8) (w : World) (hR : Rgt n0 num n) (hk : key.length = n0) (hr : RdB w A key) (hc : 64 ≤ c) (hb : b.length = n) (hrb : RdB w B b) (hd : n ≤ d) :
    Calls Try.prog 7 #[.slice A n0 c, .int .i64 num, .slice B n d] w (GivesT (xtsE key num b) w) := by
  have hS := St.start w
  obtain ⟨q0, q1, q2, q3, q4⟩ := hR
  subst q0
  have HBlk := Lib.hid (show ∀ ad : Addr, B = some ad → ad.block < w.heap.size from fun ad e => by
    obtain ⟨b', o', e2, hl⟩ := Rd.lt hrb (by intro h; have := congrArg List.length h; rw [List.length_map, hb] at this; simp at this; omega)
    rw [e] at e2; cases e2; exact hl)
  have HR := Lib.hid hr
  have HRB := Lib.hid hrb
  have HN := Lib.hid hb
  have HK := Lib.hid hk
  have HL1 := Lib.hid (keysF_len (key1_len hk))
  have HEL := Lib.hid (encF_len (keysF_len (key2_len hk)) (le16_len num))
  have HF := Lib.hid (show ∀ x, x.length = 16 → (encF (keysF (key1 key)) x).length = 16 from fun x hx => encF_len (keysF_len (key1_len hk)) hx)
  have hmf : ∀ (fn : Fn) (first cap : Array Value) (wx : World), (Instr.makeFunc fn first cap).run Try.prog wx = .ok (.func fn first cap) wx := fun _ _ _ _ => rfl
  unfold xtsE
  clear hb hr hrb hk
  generalize htw : encF (keysF (key2 key)) (le16 num) = tw at *
  have HTW := Lib.hid (show True → encF (keysF (key2 key)) (le16 num) = tw from fun _ => htw)
  generalize hk1 : keysF (key1 key) = K1 at *
  have HK1 := Lib.hid (show True → keysF (key1 key) = K1 from fun _ => hk1)
  generalize hX : xtsT (encF K1) tw b = X at *
  have HXX := Lib.hid (show True → xtsT (encF K1) tw b = X from fun _ => hX)
  clear htw hk1 hX
  go_enter Try.func7, Try.ntmps7
  go_upto_region 4 with (go_at_call 12; refine (open_any A B c n d num key _ HK.out HR.out hc q1 q2 q3 q4).mono ?_; rintro e w_ ⟨bu, bC, rfl, hgu, hgC, hne, hBu, hBC, hb_⟩; rw [HTW.out trivial] at hBu; rw [HK1.out trivial] at hBC)
  have hS := (St.start w).gotBlk hb_ hgC hBC
  replace hS := hS.more (y := .blk bu 44 _) hBu (fun b' e hk => by cases e; exact absurd hk (Nat.not_lt.2 hgu)) (fun x hx b' e e2 => by rcases List.mem_singleton.1 hx with rfl; cases e; cases e2; exact hne rfl)
  have HGU := Lib.hid hgu
  have HNE := Lib.hid hne
  clear hb_ hgC hgu hBC hBu hne
  have HBL := Lib.hid hS.below
  have HSZ := Lib.hid hS.size
  go_wp2_with (first | ((with_reducible show wpList _ _ _ (⟨some 25, Op.load _ _, _, _, _, _⟩ :: _) _ _); go_loud (first | (apply S_ld hS; rfl; rfl; rfl; (focus ((repeat (first | exact .here | apply At.there)); done)); rfl; (first | fail | assumption | rfl | exact mapGetB (by first | assumption | (simp only [List.length_map, List.length_set, List.length_replicate, List.length_append, List.length_cons, List.length_nil]; omega)) | exact mapGet _ (by first | assumption | (simp only [List.length_map, List.length_set, List.length_replicate, List.length_append, List.length_cons, List.length_nil]; omega)))) | (apply S_ldOwn hS; rfl; rfl; rfl; (focus ((repeat (first | exact .here | apply At.there)); done)); rfl; (first | rfl | exact mapGetB (by first | assumption | (simp only [List.length_map, List.length_set, List.length_replicate, List.length_append, List.length_cons, List.length_nil]; omega)) | exact mapGet _ (by first | assumption | (simp only [List.length_map, List.length_set, List.length_replicate, List.length_append, List.length_cons, List.length_nil]; omega)))))) | (go_at_call 13; refine (callsIn_wide.1 (run_pos bu bC B n d 14 _ _ Try.func14 (by kernel_rfl) rfl (encF K1) HF.out K1 tw b (fun x w' hx hC hl => encrypt_any bC K1 x w' hC hl hx HL1.out) _ (hS.blk (b := bu) (by focus ((repeat (first | exact .here | apply At.there)); done))) HEL.out HN.out (hS.rdp HRB.out) (fun ad e e2 => by have := HBlk.out ad e; have := HGU.out; omega) (hS.blkRd (b := bC) (by focus ((repeat (first | exact .here | apply At.there)); done))) HNE.out (hS.blkLt (b := bC) (by focus ((repeat (first | exact .here | apply At.there)); done))) q2 q3 q4 hd)).mono ?_; rw [HXX.out trivial]; rintro e w_ ⟨g, cg, rfl, ho_, hg_⟩))
  go_ret2
  exact ⟨g, cg, rfl, ownsRow_base ho_ HSZ.out, HBL.out.grown hg_ HSZ.out (fun k e => by cases e; exact HGU.out)⟩
set_option maxRecDepth 8000 in
set_option maxHeartbeats 1600000 in
theorem xtsDec_any (A B : Option Addr) (n0 c n d : Nat) (num : Int) (key b : List UInt8) (w : World) (hR : Rgt n0 num n) (hk : key.length = n0) (hr : RdB w A key) (hc : 64 ≤ c) (hb : b.length = n) (hrb : RdB w B b) (hd : n ≤ d) :
    Calls Try.prog 8 #[.slice A n0 c, .int .i64 num, .slice B n d] w (GivesT (xtsD key num b) w) := by
  have hS := St.start w
  obtain ⟨q0, q1, q2, q3, q4⟩ := hR
  subst q0
  have HBlk := Lib.hid (show ∀ ad : Addr, B = some ad → ad.block < w.heap.size from fun ad e => by
    obtain ⟨b', o', e2, hl⟩ := Rd.lt hrb (by intro h; have := congrArg List.length h; rw [List.length_map, hb] at this; simp at this; omega)
    rw [e] at e2; cases e2; exact hl)
  have HR := Lib.hid hr
  have HRB := Lib.hid hrb
  have HN := Lib.hid hb
  have HK := Lib.hid hk
  have HL1 := Lib.hid (keysF_len (key1_len hk))
  have HEL := Lib.hid (encF_len (keysF_len (key2_len hk)) (le16_len num))
  have HF := Lib.hid (show ∀ x, x.length = 16 → (decF (keysF (key1 key)) x).length = 16 from fun x hx => decF_len (keysF_len (key1_len hk)) hx)
  have hmf : ∀ (fn : Fn) (first cap : Array Value) (wx : World), (Instr.makeFunc fn first cap).run Try.prog wx = .ok (.func fn first cap) wx := fun _ _ _ _ => rfl
  unfold xtsD
  clear hb hr hrb hk
  generalize htw : encF (keysF (key2 key)) (le16 num) = tw at *
  have HTW := Lib.hid (show True → encF (keysF (key2 key)) (le16 num) = tw from fun _ => htw)
  generalize hk1 : keysF (key1 key) = K1 at *
  have HK1 := Lib.hid (show True → keysF (key1 key) = K1 from fun _ => hk1)
  generalize hX : xtsT (decF K1) tw b = X at *
  have HXX := Lib.hid (show True → xtsT (decF K1) tw b = X from fun _ => hX)
  clear htw hk1 hX
  go_enter Try.func8, Try.ntmps8
  go_upto_region 4 with (go_at_call 12; refine (open_any A B c n d num key _ HK.out HR.out hc q1 q2 q3 q4).mono ?_; rintro e w_ ⟨bu, bC, rfl, hgu, hgC, hne, hBu, hBC, hb_⟩; rw [HTW.out trivial] at hBu; rw [HK1.out trivial] at hBC)
  have hS := (St.start w).gotBlk hb_ hgC hBC
  replace hS := hS.more (y := .blk bu 44 _) hBu (fun b' e hk => by cases e; exact absurd hk (Nat.not_lt.2 hgu)) (fun x hx b' e e2 => by rcases List.mem_singleton.1 hx with rfl; cases e; cases e2; exact hne rfl)
  have HGU := Lib.hid hgu
  have HNE := Lib.hid hne
  clear hb_ hgC hgu hBC hBu hne
  have HBL := Lib.hid hS.below
  have HSZ := Lib.hid hS.size
  go_wp2_with (first | ((with_reducible show wpList _ _ _ (⟨some 25, Op.load _ _, _, _, _, _⟩ :: _) _ _); go_loud (first | (apply S_ld hS; rfl; rfl; rfl; (focus ((repeat (first | exact .here | apply At.there)); done)); rfl; (first | fail | assumption | rfl | exact mapGetB (by first | assumption | (simp only [List.length_map, List.length_set, List.length_replicate, List.length_append, List.length_cons, List.length_nil]; omega)) | exact mapGet _ (by first | assumption | (simp only [List.length_map, List.length_set, List.length_replicate, List.length_append, List.length_cons, List.length_nil]; omega)))) | (apply S_ldOwn hS; rfl; rfl; rfl; (focus ((repeat (first | exact .here | apply At.there)); done)); rfl; (first | rfl | exact mapGetB (by first | assumption | (simp only [List.length_map, List.length_set, List.length_replicate, List.length_append, List.length_cons, List.length_nil]; omega)) | exact mapGet _ (by first | assumption | (simp only [List.length_map, List.length_set, List.length_replicate, List.length_append, List.length_cons, List.length_nil]; omega)))))) | (go_at_call 13; refine (callsIn_wide.1 (run_pos bu bC B n d 15 _ _ Try.func15 (by kernel_rfl) rfl (decF K1) HF.out K1 tw b (fun x w' hx hC hl => decrypt_any bC K1 x w' hC hl hx HL1.out) _ (hS.blk (b := bu) (by focus ((repeat (first | exact .here | apply At.there)); done))) HEL.out HN.out (hS.rdp HRB.out) (fun ad e e2 => by have := HBlk.out ad e; have := HGU.out; omega) (hS.blkRd (b := bC) (by focus ((repeat (first | exact .here | apply At.there)); done))) HNE.out (hS.blkLt (b := bC) (by focus ((repeat (first | exact .here | apply At.there)); done))) q2 q3 q4 hd)).mono ?_; rw [HXX.out trivial]; rintro e w_ ⟨g, cg, rfl, ho_, hg_⟩))
  go_ret2
  exact ⟨g, cg, rfl, ownsRow_base ho_ HSZ.out, HBL.out.grown hg_ HSZ.out (fun k e => by cases e; exact HGU.out)⟩
end Go.Proofs.Ythamhaomfdgdjaa
