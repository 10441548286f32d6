/- hkdf: what is computed, in plain lists. -/
import Derived.Test.YtfmfpckpldlahaaDoorHmT
namespace Go.Proofs.YtfmfpckpldlahaaDoor
open Go.RowKit Go.Proofs.YtfmfpckpldlahaaDoor.Pure

def saltF (salt : List UInt8) : List UInt8 := if salt.length = 0 then List.replicate 64 0 else salt
def extF (salt mat : List UInt8) : List UInt8 := hmacF (saltF salt) mat
def tB (key info : List UInt8) : Nat → List UInt8
  | 0 => []
  | k + 1 => hmacF key (tB key info k ++ info ++ [UInt8.ofNat (k + 1)])
def expA (key info : List UInt8) : Nat → List UInt8
  | 0 => []
  | k + 1 => expA key info k ++ tB key info (k + 1)
def expF (key info : List UInt8) (m : Nat) : List UInt8 := (expA key info 255).take m
theorem saltF_le {salt : List UInt8} {n : Nat} (h : salt.length = n) : (saltF salt).length ≤ n + 64 := by
  unfold saltF; split
  · simp
  · omega
theorem tB_len (key info : List UInt8) (k : Nat) : (tB key info (k + 1)).length = 64 := hmacF_len _ _
theorem tB_le (key info : List UInt8) : ∀ k, (tB key info k).length ≤ 64
  | 0 => by simp [tB]
  | k + 1 => by rw [tB_len]; decide
theorem expA_len (key info : List UInt8) : ∀ k, (expA key info k).length = 64 * k
  | 0 => rfl
  | k + 1 => by rw [expA, List.length_append, expA_len key info k, tB_len]; omega
theorem expA_pre (key info : List UInt8) (j : Nat) : ∀ d, (expA key info (j + d)).take (64 * j) = expA key info j
  | 0 => List.take_of_length_le (by rw [expA_len]; omega)
  | d + 1 => by
    show (expA key info (j + d) ++ tB key info (j + d + 1)).take (64 * j) = _
    rw [List.take_append_of_le_length (by rw [expA_len]; omega)]
    exact expA_pre key info j d
theorem expF_eq (key info : List UInt8) {m k : Nat} (hm : m ≤ 64 * k) (hk : k ≤ 255) : (expA key info k).take m = expF key info m := by
  have h := expA_pre key info k (255 - k)
  rw [show k + (255 - k) = 255 by omega] at h
  unfold expF
  rw [← h, List.take_take, Nat.min_eq_left hm]
theorem expF_len (key info : List UInt8) {m : Nat} (hm : m ≤ 16320) : (expF key info m).length = m := by
  unfold expF; rw [List.length_take, expA_len]; omega
theorem expF_take (key info : List UInt8) {a b : Nat} (h : a ≤ b) : (expF key info b).take a = expF key info a := by
  unfold expF; rw [List.take_take, Nat.min_eq_left h]
theorem expF_blk (key info : List UInt8) {i : Nat} (hi : i < 3) : ((expF key info 192).take (64 * i + 64)).drop (64 * i) = tB key info (i + 1) := by
  rw [expF_take _ _ (by omega), ← expF_eq (k := i + 1) _ _ (by omega) (by omega), List.take_of_length_le (by rw [expA_len]; omega)]
  show (expA key info i ++ tB key info (i + 1)).drop (64 * i) = _
  rw [List.drop_append_of_le_length (by rw [expA_len]; omega), List.drop_of_length_le (by rw [expA_len]; omega), List.nil_append]
end Go.Proofs.YtfmfpckpldlahaaDoor
