/- The plain law of the records' octets. -/
import Derived.Test.YtilpafmfknphlaaIno4
namespace Go.Proofs.Ytilpafmfknphlaa
open Go.RowKit

theorem piece {L A B C : List UInt8} {o k : Nat} (h : L = A ++ (B ++ C)) (ha : A.length = o) (hb : B.length = k) : (L.drop o).take k = B := by
  subst ha hb
  rw [h, List.drop_left, List.take_left]
theorem nm_lay {L A C : List UInt8} {o k : Nat} {n : Int} (h : L = A ++ (layK n k ++ C)) (ha : A.length = o) (h0 : 0 ≤ n) (h1 : n < 256 ^ k) (h2 : n ≤ 9223372036854775807) : nm L o k = n := by
  unfold nm
  rw [piece h ha (layK_length n k), num_lay, Int.emod_eq_of_lt h0 h1]
  unfold wrap64; omega

structure Bd (x : Ino) : Prop where
  k : 0 ≤ x.k ∧ x.k < 256
  m : 0 ≤ x.m ∧ x.m < 65536
  l : 0 ≤ x.l ∧ x.l < 4294967296
  s : 0 ≤ x.s ∧ x.s ≤ 9223372036854775807
  t : 0 ≤ x.t ∧ x.t ≤ 9223372036854775807
  u : 0 ≤ x.u ∧ x.u < 256
  sec : 0 ≤ x.sec ∧ x.sec < 4294967296
  d : 0 ≤ x.d ∧ x.d < 256
theorem bd_of {x : Ino} (h : PackP x) : Bd x := by
  rcases h with rfl | h
  · exact ⟨by decide, by decide, by decide, by decide, by decide, by decide, by decide, by decide⟩
  · obtain ⟨hk, ⟨hm, hl⟩, ⟨hs, ht⟩, hp, hq⟩ := h
    obtain ⟨-, hd, hsec⟩ := hq
    have hu : x.u = 0 ∨ x.u = 16 ∨ x.u = 32 := hp.elim (fun h => Or.inl h.1) Or.inr
    exact ⟨by omega, by omega, by omega, by omega, by omega, by omega, by omega, by omega⟩

theorem packF_flat (x : Ino) : packF x = layK x.k 1 ++ (layK x.m 2 ++ (layK x.l 4 ++ (layK x.s 8 ++ (layK x.t 8 ++ (x.nonce ++ (layK x.u 1 ++ (x.key ++ (layK x.sec 4 ++ (x.mac ++ (layK x.d 1 ++ List.replicate 35 0)))))))))) := by
  simp [packF, pkL, List.append_assoc]

theorem par_pack {x : Ino} (hx : x.WF) (h : PackP x) : parF (packF x) = x := by
  obtain ⟨bk, bm, bl, bs, bt, bu, bsec, bd⟩ := bd_of h
  have e := packF_flat x
  generalize packF x = L at e
  have hn := hx.hn
  have hk := hx.hk
  have hm := hx.hm
  cases x with
  | mk k m l s t nonce u key sec mac d =>
  simp only at e bk bm bl bs bt bu bsec bd hn hk hm
  unfold parF
  congr 1
  · exact nm_lay (A := []) (by rw [e]; rfl) rfl bk.1 (by omega) (by omega)
  · exact nm_lay (A := layK k 1) (by rw [e]) (by simp [layK_length]) bm.1 (by omega) (by omega)
  · exact nm_lay (A := layK k 1 ++ layK m 2) (by rw [e]; simp only [List.append_assoc]; rfl) (by simp [layK_length]) bl.1 (by omega) (by omega)
  · exact nm_lay (A := layK k 1 ++ (layK m 2 ++ layK l 4)) (by rw [e]; simp only [List.append_assoc]; rfl) (by simp [layK_length]) bs.1 (by omega) (by omega)
  · exact nm_lay (A := layK k 1 ++ (layK m 2 ++ (layK l 4 ++ layK s 8))) (by rw [e]; simp only [List.append_assoc]; rfl) (by simp [layK_length]) bt.1 (by omega) (by omega)
  · exact piece (A := layK k 1 ++ (layK m 2 ++ (layK l 4 ++ (layK s 8 ++ layK t 8)))) (by rw [e]; simp only [List.append_assoc]; rfl) (by simp [layK_length]) hn
  · exact nm_lay (A := layK k 1 ++ (layK m 2 ++ (layK l 4 ++ (layK s 8 ++ (layK t 8 ++ nonce))))) (by rw [e]; simp only [List.append_assoc]; rfl) (by simp [layK_length, hn]) bu.1 (by omega) (by omega)
  · exact piece (A := layK k 1 ++ (layK m 2 ++ (layK l 4 ++ (layK s 8 ++ (layK t 8 ++ (nonce ++ layK u 1)))))) (by rw [e]; simp only [List.append_assoc]; rfl) (by simp [layK_length, hn]) hk
  · exact nm_lay (A := layK k 1 ++ (layK m 2 ++ (layK l 4 ++ (layK s 8 ++ (layK t 8 ++ (nonce ++ (layK u 1 ++ key))))))) (by rw [e]; simp only [List.append_assoc]; rfl) (by simp [layK_length, hn, hk]) bsec.1 (by omega) (by omega)
  · exact piece (A := layK k 1 ++ (layK m 2 ++ (layK l 4 ++ (layK s 8 ++ (layK t 8 ++ (nonce ++ (layK u 1 ++ (key ++ layK sec 4)))))))) (by rw [e]; simp only [List.append_assoc]; rfl) (by simp [layK_length, hn, hk]) hm
  · exact nm_lay (A := layK k 1 ++ (layK m 2 ++ (layK l 4 ++ (layK s 8 ++ (layK t 8 ++ (nonce ++ (layK u 1 ++ (key ++ (layK sec 4 ++ mac))))))))) (by rw [e]; simp only [List.append_assoc]; rfl) (by simp [layK_length, hn, hk, hm]) bd.1 (by omega) (by omega)

theorem packF_inj {x y : Ino} (hx : x.WF) (hy : y.WF) (px : PackP x) (py : PackP y) : packF x = packF y ↔ x = y :=
  ⟨fun h => by rw [← par_pack hx px, ← par_pack hy py, h], fun h => by rw [h]⟩
theorem unp_pack {x : Ino} (hx : x.WF) (px : PackP x) : unpF (packF x) = (x, true) := by
  unfold unpF
  rw [par_pack hx px, if_pos ⟨packF_len hx, px, rfl⟩]
theorem packF_z : packF zIno = List.replicate 128 0 := by decide +kernel
theorem pack_z : PackP zIno := Or.inl rfl
theorem zIno_not : ¬ RightP zIno := fun h => by have := h.1; revert this; decide
end Go.Proofs.Ytilpafmfknphlaa
