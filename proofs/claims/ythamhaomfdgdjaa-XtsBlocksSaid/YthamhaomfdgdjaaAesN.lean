/- AES: New. -/
import Derived.Test.YthamhaomfdgdjaaAesX
import Derived.Test.YthamhaomfdgdjaaAesF
namespace Go.Proofs.Ythamhaomfdgdjaa
open Go.RowKit

def GivesC (key : List UInt8) (w : World) (e : Ending) (w' : World) : Prop :=
  ∃ bC, e = .returned (.tuple #[.pointer (some ⟨bC, 0, none⟩), .int .i64 0]) ∧ w.heap.size ≤ bC ∧ Blk w' bC 64 (ciC (keysF key)) ∧ Below w.heap.size w w'
theorem St.gotBlk {K : Nat → Prop} {w0 w w' : World} {H : List Ent} {b : Nat} {e : TypeId} {L : List Value} (h : St K w0 w H) (hb : Below w.heap.size w w') (hge : w.heap.size ≤ b) (hB : Blk w' b e L) : St K w0 w' (.blk b e L :: H) :=
  h.add (grown_of_ext hb) (y := .blk b e L) hB (fun k hk => by cases hk; exact hge)
theorem St.blkLt {K : Nat → Prop} {w0 w : World} {H : List Ent} {f : Ent → List Ent} {b : Nat} {e : TypeId} {L : List Value} (h : St K w0 w H) (hat : At H (.blk b e L) f) : b < w.heap.size := Ent.lt (h.get hat) rfl

theorem new_no (A : Option Addr) (n c : Nat) (w : World) (h : n ≠ 32) :
    Calls Try.prog 19 #[.slice A n c] w fun e w' => e = .returned (.tuple #[.pointer none, .int .i64 2]) ∧ Below w.heap.size w w' := by
  have hn : ((n : Int) != 32) = true := by simp only [bne_iff_ne, ne_eq]; omega
  go_enter Try.func19, Try.ntmps19
  go_wp2
  go_ret2
  exact ⟨rfl, Below.refl _ _⟩

set_option maxRecDepth 8000 in
set_option maxHeartbeats 1600000 in
theorem new_any (A : Option Addr) (c : Nat) (key : List UInt8) (w : World) (hk : key.length = 32) (hr : RdB w A key) (hc : 32 ≤ c) :
    Calls Try.prog 19 #[.slice A 32 c] w (GivesC key w) := by
  have hS := St.start w
  have HK := Lib.hid hk
  have HR := Lib.hid hr
  have HA := Lib.hid (show ∀ ad, A = some ad → ad.block < w.heap.size from fun ad e => by
    obtain ⟨b, o, e2, hl⟩ := Rd.lt hr (by intro h; have := congrArg List.length h; rw [List.length_map, hk] at this; simp at this)
    rw [e] at e2; cases e2; exact hl)
  clear hk hr
  go_enter Try.func19, Try.ntmps19
  go_wp2_with (first | ((with_reducible show wpList _ _ _ (⟨some 8, Op.build _ _, _, _, _, _⟩ :: _) _ _); go_loud (apply S_build (L := tL (List.replicate 256 0)); rfl; rfl; kernel_rfl)) | ((with_reducible show wpList _ _ _ (⟨some 9, Op.box _ _, _, _, _, _⟩ :: _) _ _); go_loud (apply S_box hS; rfl; rfl; (focus ((conv => lhs; whnf) <;> rfl)); rfl; clear hS; intro b9 w_ hS)) | (go_at_call 30; refine (tables_any b9 _ (hS.blk (by focus ((repeat (first | exact .here | apply At.there)); done)))).mono ?_; rintro e w_ ⟨rfl, hg_, hB_⟩; replace hS := hS.updB (by focus ((repeat (first | exact .here | apply At.there)); done)) hg_ hB_; clear hg_ hB_) | (go_at_call 31; refine (expand1_any b9 A c key _ (hS.blk (by focus ((repeat (first | exact .here | apply At.there)); done))) HK.out (hS.rdp HR.out) (fun ad e => hS.neOld (b := b9) (by focus ((repeat (first | exact .here | apply At.there)); done)) (HA.out ad e)) hc).mono ?_; rintro e w_ ⟨rfl, hg_, hB_⟩; replace hS := hS.updB (by focus ((repeat (first | exact .here | apply At.there)); done)) hg_ hB_; clear hg_ hB_))
  go_ret2
  exact ⟨b9, rfl, Nat.le_of_not_lt (fun h => hS.neOld (b := b9) (by focus ((repeat (first | exact .here | apply At.there)); done)) h rfl), hS.blk (by focus ((repeat (first | exact .here | apply At.there)); done)), hS.below⟩
end Go.Proofs.Ythamhaomfdgdjaa
