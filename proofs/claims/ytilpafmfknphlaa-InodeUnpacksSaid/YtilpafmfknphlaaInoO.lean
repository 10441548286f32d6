/- A record as an argument. -/
import Derived.Test.YtilpafmfknphlaaOpn
import Derived.Test.YtilpafmfknphlaaIno
namespace Go.Proofs.Ytilpafmfknphlaa
open Go.RowKit

theorem ino_of {cs : List Value} (h : mtchW lfIno cs) : ∃ x : Ino, x.WF ∧ cs = inoC x := by
  unfold lfIno lfPol lfPtr at h
  obtain ⟨v0, r0, e0, h0, g0⟩ := mtchW_cut h
  obtain ⟨k, q1, e1, -, h1⟩ := mtchW_int (lb := List.replicate 4 (.int .i64)) h0
  obtain ⟨m, q2, e2, -, h2⟩ := mtchW_int (lb := List.replicate 3 (.int .i64)) h1
  obtain ⟨l, q3, e3, -, h3⟩ := mtchW_int (lb := List.replicate 2 (.int .i64)) h2
  obtain ⟨s, q4, e4, -, h4⟩ := mtchW_int (lb := List.replicate 1 (.int .i64)) h3
  obtain ⟨t, q5, e5, -, h5⟩ := mtchW_int (lb := []) h4
  have e6 := mtchW_nil h5
  obtain ⟨v1, r1, f1, n1, g1⟩ := mtchW_cut g0
  obtain ⟨nonce, hn, f2⟩ := mtchW_bytes 16 n1
  obtain ⟨v2, r2, f3, n2, g2⟩ := mtchW_cut g1
  obtain ⟨u, r3, f4, -, n3⟩ := mtchW_int n2
  obtain ⟨key, hk, f5⟩ := mtchW_bytes 16 n3
  obtain ⟨v3, r4, f6, n4, g3⟩ := mtchW_cut g2
  obtain ⟨sec, r5, f7, -, n5⟩ := mtchW_int n4
  obtain ⟨mac, hm, f8⟩ := mtchW_bytes 32 n5
  obtain ⟨d, r6, f9, -, g4⟩ := mtchW_int g3
  have f10 := mtchW_nil g4
  refine ⟨⟨k, m, l, s, t, nonce, u, key, sec, mac, d⟩, ⟨hn, hk, hm⟩, ?_⟩
  subst e6 f10
  rw [e0, e1, e2, e3, e4, e5, f1, f2, f3, f4, f5, f6, f7, f8, f9]
  simp [inoC, polC, treC, ptrC]
end Go.Proofs.Ytilpafmfknphlaa
