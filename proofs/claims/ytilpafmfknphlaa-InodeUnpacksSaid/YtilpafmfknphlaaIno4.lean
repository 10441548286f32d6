/- Contract of inode.Unpack. -/
import Derived.Test.YtilpafmfknphlaaIno3
import Derived.Test.YtilpafmfknphlaaEqu
namespace Go.Proofs.Ytilpafmfknphlaa
open Go.RowKit

/-! ### a record's cells, one by one -/
theorem set_app_r {α : Type} (a b : List α) (i : Nat) (v : α) : (a ++ b).set (a.length + i) v = a ++ b.set i v := by
  rw [List.set_append_right _ _ (by omega), Nat.add_sub_cancel_left]
theorem splice_app_r (a b : List Value) (i : Nat) (vs : List Value) : splice (a ++ b) (a.length + i) vs = a ++ splice b i vs := by
  unfold splice
  rw [List.take_length_add_append, List.append_assoc, Nat.add_assoc, List.drop_length_add_append]
theorem splice_left (a b vs : List Value) (h : vs.length = a.length) : splice (a ++ b) 0 vs = vs ++ b := by
  unfold splice
  rw [List.take_zero, List.nil_append, Nat.zero_add, h, List.drop_left]
theorem h5 (x : Ino) : [Value.int .i64 x.k, .int .i64 x.m, .int .i64 x.l, .int .i64 x.s, .int .i64 x.t].length = 5 := rfl
def hd21 (x : Ino) : List Value := [Value.int .i64 x.k, .int .i64 x.m, .int .i64 x.l, .int .i64 x.s, .int .i64 x.t] ++ x.nonce.map bV
def hd38 (x : Ino) : List Value := hd21 x ++ polC x.u x.key
theorem inoC_eq21 (x : Ino) : inoC x = hd21 x ++ (polC x.u x.key ++ treC x.sec x.mac x.d) := by unfold inoC hd21; rw [List.append_assoc]
theorem len21 {x : Ino} (h : x.WF) : (hd21 x).length = 21 := by simp [hd21, h.hn]
theorem inoC_eq38 (x : Ino) : inoC x = hd38 x ++ treC x.sec x.mac x.d := by unfold inoC hd38 hd21; simp only [List.append_assoc]
theorem len38 {x : Ino} (h : x.WF) : (hd38 x).length = 38 := by rw [hd38, List.length_append, len21 h, polC_len h.hk]
theorem set_nonce (x : Ino) (h : x.WF) (i : Nat) (c : UInt8) : (inoC x).set (5 + i) (bV c) = inoC { x with nonce := x.nonce.set i c } ∨ 16 ≤ i := by
  by_cases hi : i < 16
  · left
    unfold inoC
    rw [← h5 x, set_app_r, List.set_append_left _ _ (by simp [h.hn]; exact hi), ← List.map_set]
  · exact .inr (by omega)
theorem set_nonce' {x : Ino} (h : x.WF) {i : Nat} (hi : i < 16) (c : UInt8) : (inoC x).set (5 + i) (bV c) = inoC { x with nonce := x.nonce.set i c } := (set_nonce x h i c).resolve_right (by omega)
theorem splice_nonce {x : Ino} (h : x.WF) {n : List UInt8} (hn : n.length = 16) : splice (inoC x) 5 (n.map bV) = inoC { x with nonce := n } := by
  unfold inoC
  rw [show (5 : Nat) = [Value.int .i64 x.k, .int .i64 x.m, .int .i64 x.l, .int .i64 x.s, .int .i64 x.t].length + 0 from rfl, splice_app_r, splice_left _ _ _ (by simp [h.hn, hn])]
theorem set_u {x : Ino} (h : x.WF) (v : Int) : (inoC x).set 21 (.int .i64 v) = inoC { x with u := v } := by
  rw [inoC_eq21, show (21 : Nat) = (hd21 x).length + 0 by rw [len21 h], set_app_r, inoC_eq21]; rfl
theorem splice_key {x : Ino} (h : x.WF) {n : List UInt8} (hn : n.length = 16) : splice (inoC x) 22 (n.map bV) = inoC { x with key := n } := by
  have e : polC x.u x.key ++ treC x.sec x.mac x.d = [Value.int .i64 x.u] ++ (x.key.map bV ++ treC x.sec x.mac x.d) := rfl
  rw [inoC_eq21, e, show 22 = (hd21 x).length + ([Value.int .i64 x.u].length + 0) by rw [len21 h]; rfl, splice_app_r, splice_app_r, splice_left _ _ _ (by simp [h.hk, hn]), inoC_eq21]; rfl
theorem set_key {x : Ino} (h : x.WF) {i : Nat} (hi : i < 16) (c : UInt8) : (inoC x).set (22 + i) (bV c) = inoC { x with key := x.key.set i c } := by
  have e : polC x.u x.key ++ treC x.sec x.mac x.d = [Value.int .i64 x.u] ++ (x.key.map bV ++ treC x.sec x.mac x.d) := rfl
  rw [inoC_eq21, e, show 22 + i = (hd21 x).length + ([Value.int .i64 x.u].length + i) by rw [len21 h, List.length_singleton]; omega, set_app_r, set_app_r, List.set_append_left _ _ (by simp [h.hk]; exact hi), ← List.map_set, inoC_eq21]; rfl
theorem splice_ptr {x : Ino} (h : x.WF) {s : Int} {n : List UInt8} (hn : n.length = 32) : splice (inoC x) 38 (ptrC s n) = inoC { x with sec := s, mac := n } := by
  rw [inoC_eq38, show (38 : Nat) = (hd38 x).length + 0 by rw [len38 h], splice_app_r]
  unfold treC
  rw [splice_left _ _ _ (by rw [ptrC_len hn, ptrC_len h.hm]), inoC_eq38]; rfl
theorem set_sec {x : Ino} (h : x.WF) (v : Int) : (inoC x).set 38 (.int .i64 v) = inoC { x with sec := v } := by
  rw [inoC_eq38, show (38 : Nat) = (hd38 x).length + 0 by rw [len38 h], set_app_r, inoC_eq38]; rfl
theorem set_mac {x : Ino} (h : x.WF) {i : Nat} (hi : i < 32) (c : UInt8) : (inoC x).set (39 + i) (bV c) = inoC { x with mac := x.mac.set i c } := by
  have e : treC x.sec x.mac x.d = [Value.int .i64 x.sec] ++ (x.mac.map bV ++ [.int .i64 x.d]) := rfl
  rw [inoC_eq38, e, show 39 + i = (hd38 x).length + ([Value.int .i64 x.sec].length + i) by rw [len38 h, List.length_singleton]; omega, set_app_r, set_app_r, List.set_append_left _ _ (by simp [h.hm]; exact hi), ← List.map_set, inoC_eq38]; rfl
theorem set_d {x : Ino} (h : x.WF) (v : Int) : (inoC x).set 71 (.int .i64 v) = inoC { x with d := v } := by
  have e : treC x.sec x.mac x.d = ptrC x.sec x.mac ++ [.int .i64 x.d] := rfl
  rw [inoC_eq38, e, show 71 = (hd38 x).length + ((ptrC x.sec x.mac).length + 0) by rw [len38 h, ptrC_len h.hm], set_app_r, set_app_r, inoC_eq38]; rfl

/-! ### what octets say -/
def nm (b : List UInt8) (o k : Nat) : Int := wrap64 (numN ((b.drop o).take k))
def parF (b : List UInt8) : Ino := ⟨nm b 0 1, nm b 1 2, nm b 3 4, nm b 7 8, nm b 15 8, (b.drop 23).take 16, nm b 39 1, (b.drop 40).take 16, nm b 56 4, (b.drop 60).take 32, nm b 92 1⟩
theorem parF_WF {b : List UInt8} (h : b.length = 128) : (parF b).WF := ⟨by simp [parF, h], by simp [parF, h], by simp [parF, h]⟩
def unpF (b : List UInt8) : Ino × Bool := if b.length = 128 ∧ PackP (parF b) ∧ packF (parF b) = b then (parF b, true) else (zIno, false)

/-- Reading: n octets are left. -/
structure RS (w0 : World) (A : Option Addr) (n c : Nat) (xs : List UInt8) : Prop where
  hn : xs.length = n
  hc : n ≤ c
  hr : RdB w0 A xs
  hb : ∀ ad, A = some ad → ad.block < w0.heap.size
theorem RS.cut {w0 : World} {A : Option Addr} {n c : Nat} {xs : List UInt8} (h : RS w0 A n c xs) {k : Nat} (hk : k ≤ n) : RS w0 (cutA A c k) (n - k) (c - k) (xs.drop k) := by
  refine ⟨by rw [List.length_drop, h.hn], by have := h.hc; omega, by have := Rd.cut (l := k) h.hr (c := c) (by rw [List.length_map, h.hn]; exact h.hc); rwa [← List.map_drop] at this, fun ad e => ?_⟩
  unfold cutA at e
  split at e
  · exact h.hb ad e
  · cases hA : A with
    | none => rw [hA] at e; cases e
    | some a =>
      rw [hA] at e
      simp only [Option.map_some, Option.some.injEq] at e
      rw [← e]
      have := h.hb a hA
      unfold Addr.add; split <;> exact this
section
variable {w0 w : World} {H : List Ent} {f : Ent → List Ent} {A : Option Addr} {n c br : Nat} {xs : List UInt8}
theorem rnum_S (hS : St (Kp w0) w0 w H) (hat : At H (.blk br 53 [.slice A n c]) f) (hR : RS w0 A n c xs) (k : Nat) (hk : k ≤ n) (hm : n ≤ 1000000) :
    Calls Try.prog 21 #[.pointer (some ⟨br, 0, none⟩), .int .i64 (k : Int)] w fun e w' => e = .returned (.int .i64 (wrap64 (numN (xs.take k)))) ∧ ∃ A' c', RS w0 A' (n - k) c' (xs.drop k) ∧ w.grownBy w' (some br) ∧ Blk w' br 53 [.slice A' (n - k) c'] := by
  refine (rnumber_any br A n c k xs w (hS.blk hat) hk hR.hc (hS.rdp hR.hr) hR.hn (fun ad e h => ?_) hm).mono ?_
  · have h1 := hR.hb ad e
    exact hS.off _ hat.mem br rfl (by rw [← h]; exact h1)
  · rintro e w' ⟨rfl, h1, h2⟩
    exact ⟨rfl, _, _, hR.cut hk, h2, h1⟩
theorem rtake_S (hS : St (Kp w0) w0 w H) (hat : At H (.blk br 53 [.slice A n c]) f) (hR : RS w0 A n c xs) (k : Nat) (hk : k ≤ n) :
    Calls Try.prog 22 #[.pointer (some ⟨br, 0, none⟩), .int .i64 (k : Int)] w fun e w' => e = .returned (.slice A k c) ∧ RdB w0 A (xs.take k) ∧ k ≤ c ∧ ∃ A' c', RS w0 A' (n - k) c' (xs.drop k) ∧ w.grownBy w' (some br) ∧ Blk w' br 53 [.slice A' (n - k) c'] := by
  refine (take_any br A n c k w (hS.blk hat) hk hR.hc).mono ?_
  rintro e w' ⟨rfl, h1, h2⟩
  exact ⟨rfl, by unfold RdB; rw [List.map_take]; exact Rd.take hR.hr k, by have := hR.hc; omega, _, _, hR.cut hk, h2, h1⟩
end
end Go.Proofs.Ytilpafmfknphlaa
