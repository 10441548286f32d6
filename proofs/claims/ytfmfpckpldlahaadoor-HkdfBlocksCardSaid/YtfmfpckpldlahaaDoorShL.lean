/- The walk of Sums. -/
import Derived.Test.YtfmfpckpldlahaaDoorShA
import Derived.Test.YtfmfpckpldlahaaDoorSt
namespace Go.Proofs.YtfmfpckpldlahaaDoor
open Go.RowKit Go.Proofs.YtfmfpckpldlahaaDoor.Pure Go.Proofs.YtfmfpckpldlahaaDoor.PB Go.Proofs.YtfmfpckpldlahaaDoorW.PrintWords

theorem u8s_flatten (l : List (List Int)) : u8s l.flatten = (l.map u8s).flatten := by
  unfold u8s
  rw [List.map_flatten]
theorem isB8_flatten {l : List (List Int)} (h : l.all isB8 = true) : isB8 l.flatten = true := by
  unfold isB8
  rw [List.all_eq_true] at h ⊢
  intro z hz
  obtain ⟨x, hx, hzx⟩ := List.mem_flatten.1 hz
  exact List.all_eq_true.1 (h x hx) z hzx

theorem arrA (s : List UInt8) : ((i8s s).map (Value.int .u8)).toArray = (s.map bV).toArray := by
  unfold i8s
  rw [List.map_map]; rfl
theorem run_eql_arrA (s : List UInt8) (w : World) (h : s.length = 64 := by first | assumption | exact sumF_length _) : (binOp .eql 30 (.agg (s.map bV).toArray) (.agg (s.map bV).toArray)).run Tryd.prog w = .ok (.bool true) w := by
  rw [← arrA]
  exact run_eql_same w Tryd.underlying30 Tryd.underlying5 (by kernel_rfl) (i8s s) (by rw [i8s_length]; exact h)

theorem bb1 {w : World} {b : Nat} {A : Option Addr} {l c : Nat} {d : List UInt8} (h1 : Rd w (some ⟨b, 0, none⟩) [.slice A l c]) (h2 : Rd w A (d.map bV)) (hl : d.length = l) : RdBB w (some ⟨b, 0, none⟩) [.slice A l c] [d] := by
  refine ⟨h1, rfl, fun i xs hi => ?_⟩
  match i, hi with
  | 0, hi => cases hi; exact ⟨A, c, by rw [hl]; rfl, h2⟩
  | i + 1, hi => simp at hi

end Go.Proofs.YtfmfpckpldlahaaDoor
