/- hkdf: Extract, Expand, Derive. -/
import Derived.Test.YtfmfpckpldlahaaDoorHkD
import Derived.Test.YtfmfpckpldlahaaDoorSl3
import Derived.Test.YtfmfpckpldlahaaDoorLit
namespace Go.Proofs.YtfmfpckpldlahaaDoor
open Go.RowKit Go.Proofs.YtfmfpckpldlahaaDoor.Pure

theorem RdBB.one1 {w : World} {b : Nat} {A : Option Addr} {n c : Nat} {xs : List UInt8} (h : Rd w (some ⟨b, 0, none⟩) [.slice A n c]) (hr : RdB w A xs) (hn : xs.length = n) : RdBB w (some ⟨b, 0, none⟩) [.slice A n c] [xs] :=
  RdBB.of h (Slcs.cons (Slcs.nil _) hr hn)
theorem flat1 (xs : List UInt8) : [xs].flatten = xs := by simp

set_option maxRecDepth 8000 in
set_option maxHeartbeats 1600000 in
theorem extract_any (A B : Option Addr) (n c m c' : Nat) (salt mat : List UInt8) (w : World) (hn : salt.length = n) (hr : RdB w A salt) (hm : mat.length = m) (hB : RdB w B mat) (hk : n ≤ 100000) (hm2 : m ≤ 100000) (hG : GK w) :
    Calls Tryd.prog 10 #[.slice A n c, .slice B m c'] w fun e w' => e = .returned (.agg ((extF salt mat).map bV).toArray) ∧ Below w.heap.size w w' := by
  have hS := St.start w
  have HR := Lib.hid hr
  have HB := Lib.hid hB
  have HN := Lib.hid hn
  have HM := Lib.hid hm
  have HG := Lib.hid hG
  clear hr hB hn hm hG
  have HL := Lib.hid (show (extF salt mat).length = 64 from hmacF_len _ _)
  have HE := Lib.hid (show hmacF (saltF salt) mat = extF salt mat from rfl)
  by_cases h0 : n = 0
  · subst h0
    have HS := Lib.hid (show saltF salt = List.replicate 64 0 by unfold saltF; rw [if_pos HN.out])
    go_enter Tryd.func10, Tryd.ntmps10
    go_wp2_with (first | ((with_reducible show wpList _ _ _ (⟨some 4, Op.alloc _, _, _, _, _⟩ :: _) _ _); go_loud (refine S_alloc (z := .agg (List.replicate 64 (.int .u8 0)).toArray) (L := (List.replicate 64 (.int .u8 0))) hS rfl rfl ?_ ?_ ?_; (show _ = _; kernel_rfl); (show _ = _; kernel_rfl); clear hS; intro b4 w_ hS)) | ((with_reducible show wpList _ _ _ (⟨some 8, Op.makeSlice _ _ _, _, _, _, _⟩ :: _) _ _); go_loud (refine S_make hS TB 64 rfl rfl rfl rfl ?_ ?_ rfl ?_ ?_ ?_; (first | rfl | omega); (first | rfl | omega); (first | decide | omega); (first | decide | (unfold maxLen; omega)); clear hS; intro b8 w_ hS)) | ((with_reducible show wpList _ _ _ (⟨some 11, Op.buildSlice _ _ _, _, _, _, _⟩ :: _) _ _); go_loud (apply S_bslice hS; rfl; (go_simp; first | with_reducible rfl | (refine ⟨?_, ?_⟩ <;> with_reducible rfl)); rfl; rfl; rfl; rfl; clear hS; intro b11 w_ hS)) | (go_at_call 15; refine (hsum_any (some ⟨b8, 0, none⟩) _ 64 _ 1 _ (saltF salt) _ [mat] _ (by rw [HS.out]; rfl) (by rw [HS.out]; exact hS.ownRd (A := some ⟨b8, 0, none⟩) (by focus ((repeat (first | exact .here | apply At.there)); done))) rfl (RdBB.one1 (hS.ownRd (A := some ⟨b11, 0, none⟩) (by focus ((repeat (first | exact .here | apply At.there)); done))) (hS.rdp HB.out) HM.out) (by decide) (by rw [flat1, HM.out]; omega) (by decide) (HG.out.keep hS.below)).mono ?_; rw [flat1, HE.out]; rintro e w_ ⟨rfl, hb_⟩; replace hS := hS.ext hb_; clear hb_) | ((with_reducible show wpList _ _ _ (⟨_, Op.store _ _ _, _, _, _, _⟩ :: _) _ _); go_loud (apply S_stAll hS; rfl; rfl; rfl; rfl; (focus ((repeat (first | exact .here | apply At.there)); done)); (first | assumption | (rw [List.length_map, HL.out]; rfl) | (focus (simp [bV, wV, Value.oneCell']; done)) | (focus (simp [bV, Value.oneCell']; done))); (first | rfl | (rw [List.length_map, HL.out]; rfl)); (first | rfl | (rw [List.length_map, HL.out]; rfl)); clear hS; intro w_ hS)))
    (try simp only [Exit.inBlock, Exit.then]); refine bodyPost_ret (results_cell_one hS rfl _ rfl (by focus ((repeat (first | exact .here | apply At.there)); done)) rfl (by rw [List.length_map, HL.out]; rfl)) rfl ⟨rfl, hS.below⟩
  · have h1 : ((n : Int) == 0) = false := by rw [beq_eq_false_iff_ne]; omega
    have h2 : ¬ (n : Int) = 0 := by omega
    have HS := Lib.hid (show saltF salt = salt by unfold saltF; rw [if_neg (by rw [HN.out]; exact h0)])
    go_enter Tryd.func10, Tryd.ntmps10
    go_wp2_with (first | ((with_reducible show wpList _ _ _ (⟨some 4, Op.alloc _, _, _, _, _⟩ :: _) _ _); go_loud (refine S_alloc (z := .agg (List.replicate 64 (.int .u8 0)).toArray) (L := (List.replicate 64 (.int .u8 0))) hS rfl rfl ?_ ?_ ?_; (show _ = _; kernel_rfl); (show _ = _; kernel_rfl); clear hS; intro b4 w_ hS)) | ((with_reducible show wpList _ _ _ (⟨some 11, Op.buildSlice _ _ _, _, _, _, _⟩ :: _) _ _); go_loud (apply S_bslice hS; rfl; (go_simp; first | with_reducible rfl | (refine ⟨?_, ?_⟩ <;> with_reducible rfl)); rfl; rfl; rfl; rfl; clear hS; intro b11 w_ hS)) | (go_at_call 15; refine (hsum_any A _ n _ 1 _ (saltF salt) _ [mat] _ (by rw [HS.out]; exact HN.out) (by rw [HS.out]; exact hS.rdp HR.out) rfl (RdBB.one1 (hS.ownRd (A := some ⟨b11, 0, none⟩) (by focus ((repeat (first | exact .here | apply At.there)); done))) (hS.rdp HB.out) HM.out) (by omega) (by rw [flat1, HM.out]; omega) (by decide) (HG.out.keep hS.below)).mono ?_; rw [flat1, HE.out]; rintro e w_ ⟨rfl, hb_⟩; replace hS := hS.ext hb_; clear hb_) | ((with_reducible show wpList _ _ _ (⟨_, Op.store _ _ _, _, _, _, _⟩ :: _) _ _); go_loud (apply S_stAll hS; rfl; rfl; rfl; rfl; (focus ((repeat (first | exact .here | apply At.there)); done)); (first | assumption | (rw [List.length_map, HL.out]; rfl) | (focus (simp [bV, wV, Value.oneCell']; done)) | (focus (simp [bV, Value.oneCell']; done))); (first | rfl | (rw [List.length_map, HL.out]; rfl)); (first | rfl | (rw [List.length_map, HL.out]; rfl)); clear hS; intro w_ hS)))
    (try simp only [Exit.inBlock, Exit.then]); refine bodyPost_ret (results_cell_one hS rfl _ rfl (by focus ((repeat (first | exact .here | apply At.there)); done)) rfl (by rw [List.length_map, HL.out]; rfl)) rfl ⟨rfl, hS.below⟩

/-- Readable bytes, and a word that all is well. -/
def GivesRd (m : Nat) (xs : List UInt8) (w : World) (e : Ending) (w' : World) : Prop :=
  ∃ A, e = .returned (.tuple #[.slice A m m, .bool true]) ∧ RdB w' A xs ∧ Below w.heap.size w w'

theorem expand_no (A : Option Addr) (n c : Nat) (info : ByteArray) (z : Int) (w : World) (hz : z < 0 ∨ 16320 < z) :
    Calls Tryd.prog 8 #[.slice A n c, .string info, .int .i64 z] w fun e w' => e = .returned (.tuple #[.slice none 0 0, .bool false]) ∧ Below w.heap.size w w' := by
  by_cases h1 : z < 0
  · go_enter Tryd.func8, Tryd.ntmps8
    go_wp2
    go_ret2
    exact ⟨rfl, Below.refl _ _⟩
  · have h2 : 16320 < z := by omega
    go_enter Tryd.func8, Tryd.ntmps8
    go_wp2
    go_ret2
    exact ⟨rfl, Below.refl _ _⟩

theorem byte_i {k : Nat} (hk : k < 255) : (((k + 1) % 256 : Nat) : Int) = ((UInt8.ofNat (k + 1)).toNat : Int) := by
  rw [UInt8.toNat_ofNat']

set_option maxRecDepth 8000 in
set_option maxHeartbeats 1600000 in
theorem expand_any (A : Option Addr) (n c : Nat) (key info : List UInt8) (m : Nat) (w : World) (hn : key.length = n) (hr : RdB w A key) (hk : n ≤ 100000) (hi : info.length ≤ 100000) (hm : m ≤ 16320) (hG : GK w) :
    Calls Tryd.prog 8 #[.slice A n c, .string (str info), .int .i64 (m : Int)] w (GivesRd m (expF key info m) w) := by
  have hb := Below.refl w.heap.size w
  have HR := Lib.hid hr
  have HN := Lib.hid hn
  have HG := Lib.hid hG
  have HM := Lib.hid (expF_len key info hm)
  clear hr hn hG
  have i0 : ¬ ((m : Int) < 0) := by omega
  have i1 : ¬ (16320 : Int) < (m : Int) := by omega
  go_enter Tryd.func8, Tryd.ntmps8
  go_wp2
  go_loopw [8, 9, 10] (fun vo vl vi wr => ∃ (k : Nat) (Ao Al : Option Addr) (co cl ll : Nat), k ≤ 255 ∧ vo = .slice Ao (64 * k) co ∧ vl = .slice Al ll cl ∧ ll ≤ 64 ∧ 64 * k ≤ co ∧ vi = .int .u8 (((k + 1) % 256 : Nat) : Int) ∧ Hid (RdB wr Ao (expA key info k)) ∧ Hid (RdB wr Al (tB key info k)) ∧ Hid ((tB key info k).length = ll) ∧ Hid (64 * k < m + 64) ∧ Below w.heap.size w wr) (fun vo _ _ _ => match vo with | .slice _ l _ => 16400 - l | _ => 0)
  case atStart => exact ⟨0, none, none, 0, 0, 0, by omega, rfl, rfl, by omega, by omega, rfl, Lib.hid (Rd.nil _ _), Lib.hid (Rd.nil _ _), Lib.hid rfl, Lib.hid (by omega), hb⟩
  case round =>
    clear hb
    obtain ⟨k, Ao, Al, co, cl, ll, hk5, rfl, rfl, hll, hco, rfl, HO, HT, HTL, HK, hb⟩ := hrel
    have HOL := Lib.hid (expA_len key info k)
    by_cases hlt : 64 * k < m
    · have hk4 : k < 255 := by omega
      have hlt2 : ((64 * k : Nat) : Int) < (m : Int) := by omega
      have hE := Lib.hid (show expA key info (k + 1) = expA key info k ++ tB key info (k + 1) from rfl)
      have hTT := Lib.hid (show tB key info (k + 1) = hmacF key (tB key info k ++ info ++ [UInt8.ofNat (k + 1)]) from rfl)
      have hT4 := Lib.hid (tB_len key info k)
      have hfl := Lib.hid (show [tB key info k, info, [UInt8.ofNat (k + 1)]].flatten = tB key info k ++ info ++ [UInt8.ofNat (k + 1)] by simp)
      have hfl2 := Lib.hid (show [expA key info k, tB key info (k + 1)].flatten = expA key info (k + 1) by rw [hE.out]; simp)
      have hEL := Lib.hid (expA_len key info (k + 1))
      have hbi := byte_i hk4
      generalize hiv : (((k + 1) % 256 : Nat) : Int) = iv at *
      have HIV := Lib.hid hiv
      have hbv := Lib.hid (show [Value.int .u8 iv] = [UInt8.ofNat (k + 1)].map bV by rw [hbi]; rfl)
      clear hbi hiv
      have hS := St.start wr
      have HGr := Lib.hid (HG.out.keep hb)
      have HRr := Lib.hid (HR.out.keep hb)
      go_wp2_with (first | ((with_reducible show wpList _ _ _ (⟨some 27, Op.convert _ _ _, _, _, _, _⟩ :: _) _ _); go_loud (apply S_byt hS; rfl; rfl; rfl; rfl; rfl; rfl; rfl; clear hS; intro b27 c27 C27 fr27 w_ HC27 hc27 hS)) | ((with_reducible show wpList _ _ _ (⟨some 29, Op.buildSlice _ _ _, _, _, _, _⟩ :: _) _ _); go_loud (apply S_bslice hS; rfl; (go_simp; first | with_reducible rfl | (refine ⟨?_, ?_⟩ <;> with_reducible rfl)); rfl; rfl; rfl; rfl; clear hS; intro b29 w_ hS)) | ((with_reducible show wpList _ _ _ (⟨some 30, Op.buildSlice _ _ _, _, _, _, _⟩ :: _) _ _); go_loud (apply S_bslice hS; rfl; (go_simp; first | with_reducible rfl | (refine ⟨?_, ?_⟩ <;> with_reducible rfl)); rfl; rfl; rfl; rfl; clear hS; intro b30 w_ hS)) | (go_at_call 15; refine (hsum_any A _ n c 3 _ key _ [tB key info k, info, [UInt8.ofNat (k + 1)]] _ HN.out (hS.rdp HRr.out) rfl (RdBB.of (hS.ownRd (A := some ⟨b30, 0, none⟩) (by focus ((repeat (first | exact .here | apply At.there)); done))) (Slcs.cons (Slcs.cons (Slcs.cons (Slcs.nil _) (show RdB _ (some ⟨b29, 0, none⟩) _ by have := hS.ownRd (A := some ⟨b29, 0, none⟩) (by focus ((repeat (first | exact .here | apply At.there)); done)); rw [hbv.out] at this; exact this) rfl) (hS.objRd (b := b27) (by focus ((repeat (first | exact .here | apply At.there)); done)) HC27) rfl) (hS.rdp HT.out) HTL.out)) (by omega) (by rw [hfl.out, List.length_append, List.length_append, HTL.out, List.length_cons, List.length_nil]; omega) (by decide) (HGr.out.keep hS.below)).mono ?_; rw [hfl.out, ← hTT.out]; rintro e w_ ⟨rfl, hb_⟩; replace hS := hS.ext hb_; clear hb_) | ((with_reducible show wpList _ _ _ (⟨some 11, Op.alloc _, _, _, _, _⟩ :: _) _ _); go_loud (refine S_alloc (z := .agg (List.replicate 64 (.int .u8 0)).toArray) (L := (List.replicate 64 (.int .u8 0))) hS rfl rfl ?_ ?_ ?_; (show _ = _; kernel_rfl); (show _ = _; kernel_rfl); clear hS; intro b11 w_ hS)) | ((with_reducible show wpList _ _ _ (⟨_, Op.store _ _ _, _, _, _, _⟩ :: _) _ _); go_loud (apply S_stAll hS; rfl; rfl; rfl; rfl; (focus ((repeat (first | exact .here | apply At.there)); done)); (first | assumption | (rw [List.length_map, hT4.out]; rfl) | (focus (simp [bV, wV, Value.oneCell']; done)) | (focus (simp [bV, Value.oneCell']; done))); (first | rfl | (rw [List.length_map, hT4.out]; rfl)); (first | rfl | (rw [List.length_map, hT4.out]; rfl)); clear hS; intro w_ hS)) | ((with_reducible show wpList _ _ _ (⟨some 35, Op.buildSlice _ _ _, _, _, _, _⟩ :: _) _ _); go_loud (apply S_bslice hS; rfl; (go_simp; first | with_reducible rfl | (refine ⟨?_, ?_⟩ <;> with_reducible rfl)); rfl; rfl; rfl; rfl; clear hS; intro b35 w_ hS)) | (go_at_call 16; refine (concat_any _ 2 2 _ [expA key info k, tB key info (k + 1)] _ rfl (RdBB.of (hS.ownRd (A := some ⟨b35, 0, none⟩) (by focus ((repeat (first | exact .here | apply At.there)); done))) (Slcs.cons (Slcs.cons (Slcs.nil _) (hS.blkRd (b := b11) (by focus ((repeat (first | exact .here | apply At.there)); done))) hT4.out) (hS.rdp HO.out) HOL.out)) (by rw [hfl2.out, hEL.out]; omega) (by decide)).mono ?_; rw [hfl2.out]; rintro e w_ ⟨v_, rfl, hown_, hb_⟩; rw [hEL.out] at hown_; obtain ⟨A8, c8, rfl, -⟩ := own_rd hown_; replace hS := hS.got hb_ hown_; clear hb_ hown_))
      go_roundw
      case rel => exact ⟨k + 1, A8, some ⟨b11, 0, none⟩, c8, 64, 64, by omega, rfl, rfl, by omega, hS.ownCap (A := A8) (by focus ((repeat (first | exact .here | apply At.there)); done)), by rw [show (((k + 1 + 1) % 256 : Nat) : Int) = (iv + 1) % 256 by rw [← HIV.out]; omega], Lib.hid (hS.ownRd (A := A8) (by focus ((repeat (first | exact .here | apply At.there)); done))), Lib.hid (hS.blkRd (b := b11) (by focus ((repeat (first | exact .here | apply At.there)); done))), hT4, Lib.hid (by omega), hb.trans (hS.below.mono hb.size)⟩
      case measure => simp; omega
    · have hlt2 : ¬ ((64 * k : Nat) : Int) < (m : Int) := by omega
      have hq := Lib.hid (expF_eq key info (m := m) (k := k) (by omega) hk5)
      go_wp2_with (first | ((with_reducible show wpList _ _ _ (⟨some 40, Op.slice _ _ _ _ _, _, _, _, _⟩ :: _) _ _); go_loud (apply S_slice3 (h := m); rfl; rfl; rfl; rfl; rfl; rfl; rfl; omega)))
      go_ret2
      exact ⟨Ao, rfl, by rw [← hq.out]; exact RdB.take HO.out m, hb⟩
end Go.Proofs.YtfmfpckpldlahaaDoor
