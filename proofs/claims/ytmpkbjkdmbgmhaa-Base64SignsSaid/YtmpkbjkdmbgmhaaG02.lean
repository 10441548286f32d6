/- The contracts of base64.Encode and base64.Decode in the printed form. -/
import Derived.Test.YtmpkbjkdmbgmhaaB64K
import Derived.Test.YtmpkbjkdmbgmhaaKd
namespace Go.Proofs.Ytmpkbjkdmbgmhaa
open Go.RowKit Go.Proofs.YtmpkbjkdmbgmhaaW.PrintWords

def base64_Encode.f (l0 : List (List Int)) : Option ByteArray :=
  if l0.all isB8 = true ∧ (l0.map u8s).flatten.length ≤ 1099511627776 ∧ l0.length ≤ 70368744177664 then some (str (encF (l0.map u8s).flatten)) else none
theorem base64_Encode.calls (A0 : Option Addr) (c0 : Nat) (l0 : List (List Int)) (r : ByteArray) (w : World) (hr0 : Kd.C (Kd.slice 5 (Kd.int .u8)) w A0 l0.length l0) (hc0 : l0.length ≤ c0) (h : base64_Encode.f l0 = some r) :
    Calls Try.prog 10 #[.slice A0 l0.length c0] w fun e w' => e = .returned (.string r) ∧ Below w.heap.size w w' := by
  unfold base64_Encode.f at h
  split at h
  · rename_i hh
    obtain ⟨h1, h2, h3⟩ := hh
    obtain ⟨vs, hv⟩ := RdBB_of_C hr0 h1
    refine (encode_any A0 l0.length c0 vs (l0.map u8s) w (by simp) hv h2 h3).mono ?_
    rintro e w' ⟨rfl, hb⟩
    exact ⟨by rw [Option.some.inj h], hb⟩
  · cases h

def base64_Decode.f (a0 : ByteArray) : Option (List Int × Bool) :=
  if a0.size ≤ 1099511627776 then some (i8s (decF a0.data.toList), okD a0.data.toList) else none
theorem base64_Decode.calls (a0 : ByteArray) (r1 : List Int) (r2 : Bool) (w : World) (h : base64_Decode.f a0 = some (r1, r2)) :
    Calls Try.prog 8 #[.string a0] w fun e w' => ∃ v0_ : Value, e = .returned (.tuple #[v0_, .bool r2]) ∧ Kd.R (Kd.int .u8) 5 w' w.heap.size (fun _ => True) v0_ r1 ∧ Below w.heap.size w w' := by
  unfold base64_Decode.f at h
  split at h
  · rename_i hh
    obtain ⟨rfl, rfl⟩ := Prod.mk.inj (Option.some.inj h)
    have := decode_any a0.data.toList w (by rw [Array.length_toList]; exact hh)
    rw [str_of] at this
    refine this.mono ?_
    rintro e w' ⟨v, rfl, ho, hb⟩
    exact ⟨v, rfl, R_of_ownB ho rfl, hb⟩
  · cases h

def turnkeylaw02_awake.f : Option Bool := some true
theorem turnkeylaw02_awake.calls (r : Bool) (w : World) (h : turnkeylaw02_awake.f = some r) :
    Calls Try.prog 7 #[] w fun e w' => e = .returned (.bool r) ∧ Below w.heap.size w w' := by
  obtain rfl := Option.some.inj h
  exact awake_any w
end Go.Proofs.Ytmpkbjkdmbgmhaa
