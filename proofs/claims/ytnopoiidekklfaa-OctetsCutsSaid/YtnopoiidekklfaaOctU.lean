/- Contracts of octets.Unhex and of the reference's. -/
import Derived.Test.YtnopoiidekklfaaOctH
import Derived.Test.YtnopoiidekklfaaIdx
namespace Go.Proofs.Ytnopoiidekklfaa
open Go.RowKit

def isHex (c : UInt8) : Bool := (48 ≤ c && c ≤ 57) || (97 ≤ c && c ≤ 102)
def hexV (c : UInt8) : Nat := if c ≤ 57 then c.toNat - 48 else c.toNat - 87
def pairs : List UInt8 → List UInt8
  | a :: b :: r => UInt8.ofNat (16 * hexV a + hexV b) :: pairs r
  | _ => []
def okH (s : List UInt8) : Bool := s.length % 2 == 0 && s.all isHex
def unhF (s : List UInt8) : List UInt8 := if okH s then pairs s else []

theorem pairs_snoc (a b : UInt8) : ∀ l : List UInt8, l.length % 2 = 0 → pairs (l ++ [a, b]) = pairs l ++ [UInt8.ofNat (16 * hexV a + hexV b)]
  | [], _ => rfl
  | [_], h => by simp at h
  | x :: y :: r, h => by
    have := pairs_snoc a b r (by simp at h; omega)
    simp [pairs, this]

theorem pairs_length : ∀ l : List UInt8, (pairs l).length = l.length / 2
  | [] => rfl
  | [_] => by simp [pairs]
  | x :: y :: r => by simp [pairs, pairs_length r]; omega

theorem byte_all {p : UInt8 → Prop} (h : ∀ n : Fin 256, p (UInt8.ofNat n.1)) (c : UInt8) : p c := by
  have := h ⟨c.toNat, UInt8.toNat_lt c⟩
  rwa [UInt8.ofNat_toNat] at this

theorem idx_digs (c : UInt8) : Lib.indexByte digs c = if isHex c then (hexV c : Int) else -1 :=
  byte_all (p := fun c => Lib.indexByte digs c = if isHex c then (hexV c : Int) else -1) (by decide +kernel) c

theorem hexV_lt (c : UInt8) : isHex c = true → hexV c < 16 :=
  byte_all (p := fun c => isHex c = true → hexV c < 16) (by decide +kernel) c

theorem quiet_eq {P : Program} {f : FuncId} {args : Array Value} {w : World} {n : Nat} {v : Value}
    (h : Calls P f args (w.drewN n) fun e w' => e = .returned v ∧ w.drewN n = w') : Calls P f args (w.drewN n) fun e w'' => e = .returned v ∧ ∃ m, w'' = w.drewN m :=
  h.mono fun _ _ ⟨he, hm⟩ => ⟨he, n, hm.symm⟩

def digI (c : UInt8) : Int := if isHex c then (hexV c : Int) else -1

theorem idxDig_any (c : UInt8) (w : World) :
    Calls Try.prog 30 #[.string { data := #[48, 49, 50, 51, 52, 53, 54, 55, 56, 57, 97, 98, 99, 100, 101, 102] }, .int .u8 (c.toNat : Int)] w fun e w' => e = .returned (.int .i64 (digI c)) ∧ w = w' := by
  refine (indexByte_any (str digs) (c.toNat : Int) w).mono fun e w' ⟨he, hw⟩ => ⟨?_, hw⟩
  rw [he]
  refine ret_int ?_
  rw [str_data, Int.toNat_natCast, show c.toNat.toUInt8 = c from UInt8.ofNat_toNat, idx_digs]; rfl

/-- Two more signs of a text. -/
theorem take_two (l : List UInt8) (j : Nat) (h : 2 * j + 1 < l.length) : l.take (2 * (j + 1)) = l.take (2 * j) ++ [l.getD (2 * j) 0, l.getD (2 * j + 1) 0] := by
  rw [show 2 * (j + 1) = 2 * j + 1 + 1 by omega, take_snoc l _ 0 h, take_snoc l _ 0 (by omega), List.append_assoc]; rfl

theorem okH_no {l : List UInt8} (k : Nat) (hk : k < l.length) (h : isHex (l.getD k 0) = false) : okH l = false ∧ unhF l = [] := by
  have h1 : l.all isHex = false := by rw [all_split isHex l k 0 hk, h]; simp
  have : okH l = false := by unfold okH; rw [h1]; simp
  exact ⟨this, by unfold unhF; rw [this]; rfl⟩

theorem join_hex (a b : Nat) (ha : a < 16) (hb : b < 16) : bits .or .i64 ((a : Int) * 16) (b : Int) % 256 = 16 * (a : Int) + (b : Int) := by
  have h1 : bits .or .i64 ((a : Int) * 16) (b : Int) = (16 * a + b : Nat) := by
    rw [show (a : Int) * 16 = ((16 * a : Nat) : Int) by omega]
    have := (bits_nat .i64 8 (by decide) (fun n h0 h1 => by rw [i64_wrap, wrap64_id (by omega) (by omega)]) (16 * a) b (by omega) (by omega)).2
    rw [this, nat_join 4 (16 * a) b (by omega) (by omega)]
  rw [h1]
  omega

theorem ofNat_hex {a b : Nat} (ha : a < 16) (hb : b < 16) : ((UInt8.ofNat (16 * a + b)).toNat : Int) = 16 * (a : Int) + (b : Int) := by
  rw [UInt8.toNat_ofNat_of_lt' (by simp [UInt8.size]; omega)]; omega

theorem own_drewN {w : World} {B : Nat} {e : TypeId} {sz : Nat} {v : Value} {n : Nat} {xs : List Value} (h : w.ownsRow B e sz v n xs) (k : Nat) : (w.drewN k).ownsRow B e sz v n xs := h
theorem below_drewN {B : Nat} {w w' : World} (h : Below B w w') (k : Nat) : Below B w (w'.drewN k) := ⟨h.os, h.tape, h.output, h.size, h.block⟩

theorem cell_one_at (w : World) (v : Value) (e : TypeId) : (w.alloc (.cells #[v] e)).cell? ⟨w.heap.size, 0, none⟩ = some v := by
  rw [cell_of_row _ w.heap.size 0 #[v] e (0, 0) (heap_alloc_new w _)]; rfl

/-- What a function that gives a new slice of bytes and a bool comes to. -/
def GivesBO (xs : List UInt8) (ok : Bool) (w : World) (e : Ending) (w' : World) : Prop :=
  ∃ v, e = .returned (.tuple #[v, .bool ok]) ∧ w'.ownsRow w.heap.size 5 1 v xs.length (xs.map bV) ∧ Below w.heap.size w w'

theorem GivesBO.no {w w' : World} (hb : Below w.heap.size w w') : GivesBO [] false w (.returned (.tuple #[.slice none 0 0, .bool false])) w' := ⟨_, rfl, World.ownsRow_nil _ _ _ _, hb⟩

set_option maxHeartbeats 1000000 in
theorem unhex_any (s : List UInt8) (w : World) (hm : s.length ≤ 70368744177664) :
    Calls Try.prog 20 #[.string (str s)] w (GivesBO (unhF s) (okH s) w) := by
  have hsz := str_size s
  by_cases hodd : s.length % 2 = 1
  · have ho : okH s = false := by unfold okH; rw [hodd]; rfl
    have hu : unhF s = [] := by unfold unhF; rw [ho]; rfl
    rw [ho, hu]
    clear ho hu
    have b1 : ((s.length : Int) % 2 != 0) = true := by rw [bne_iff_ne]; omega
    go_enter Try.func20, Try.ntmps20
    go_wp2
    go_ret2
    exact GivesBO.no (Below.refl _ w)
  · have b1 : ((s.length : Int) % 2 != 0) = false := by rw [bne_eq_false_iff_eq]; omega
    have hix := Lib.hid (idx_str (P := Try.prog) Try.underlying9 s)
    go_enter Try.func20, Try.ntmps20
    go_wp2
    go_loopw [4, 5, 6, 7] (fun v i _ _ wr => ∃ (m k : Nat) (A : Option Addr) (c : Nat), m ≤ s.length ∧ i = .int .i64 (m : Int) ∧ v = .slice A k c ∧ Hid (m = 2 * k) ∧ Hid ((s.take m).all isHex = true) ∧ Hid (wr.ownsRow w.heap.size 5 1 v k ((pairs (s.take m)).map bV)) ∧ Below w.heap.size w wr) (fun _ i _ _ _ => s.length - (intOf i).toNat)
    case atStart => exact ⟨0, 0, none, 0, Nat.zero_le _, rfl, rfl, rfl, rfl, World.ownsRow_nil _ _ _ _, Below.refl _ w⟩
    case round =>
      obtain ⟨m, k, A, c, hk, rfl, rfl, hmk, hall, hown, hbel⟩ := hrel
      by_cases hlt : m < s.length
      · have hm1 : m + 1 < s.length := by have := hmk.out; omega
        have hk2 : k ≤ 70368744177664 := by have := hmk.out; omega
        have hx := hix.out m hlt
        have hx1 : ∀ wx, (Instr.index 9 (.string (str s)) (.int .i64 ((m : Int) + 1))).run Try.prog wx = .ok (.int .u8 ((s.getD (m + 1) 0).toNat : Int)) wx := hix.out (m + 1) (by omega)
        have htk : Hid (s.take (m + 2) = s.take m ++ [s.getD m 0, s.getD (m + 1) 0]) := by
          unfold Hid; rw [take_snoc s (m + 1) 0 hm1, take_snoc s m 0 hlt, List.append_assoc]; rfl
        have n0 := Lib.hid (fun h => okH_no (l := s) m hlt h)
        have n1 := Lib.hid (fun h => okH_no (l := s) (m + 1) hm1 h)
        have hlen : Hid ((s.take m).length % 2 = 0) := by unfold Hid; rw [List.length_take]; have := hmk.out; omega
        generalize s.getD m 0 = a at *
        generalize s.getD (m + 1) 0 = b at *
        have v1 : IntKind.i64.wrap ((m : Int) + 1) = (m : Int) + 1 := IntWalk.i64_in _ (by omega)
        cases ha : isHex a with
        | false =>
          have hF := Lib.hid (n0.out ha)
          have e1 : digI a = -1 := by unfold digI; rw [ha]; rfl
          clear n0 n1 ha htk hall hlen hown
          go_wp2
          go_quiet ((go_at_call 30; exact quiet_eq (idxDig_any _ _)))
          go_wp2
          go_ret2
          rw [hF.out.1, hF.out.2]
          exact GivesBO.no ⟨hbel.os, hbel.tape, hbel.output, hbel.size, hbel.block⟩
        | true =>
          have e1 : digI a = hexV a := by unfold digI; rw [ha]; rfl
          have la := hexV_lt a ha
          cases hb : isHex b with
          | false =>
            have hF := Lib.hid (n1.out hb)
            have e2 : digI b = -1 := by unfold digI; rw [hb]; rfl
            clear n0 n1 ha hb htk hall hlen hown
            go_wp2
            go_quiet ((go_at_call 30; exact quiet_eq (idxDig_any _ _)))
            go_wp2
            go_ret2
            rw [hF.out.1, hF.out.2]
            exact GivesBO.no ⟨hbel.os, hbel.tape, hbel.output, hbel.size, hbel.block⟩
          | true =>
            have e2 : digI b = hexV b := by unfold digI; rw [hb]; rfl
            have lb := hexV_lt b hb
            have HA := Lib.hid ha
            have HB := Lib.hid hb
            have d1 : decide ((hexV a : Int) < 0) = false := decide_eq_false (by omega)
            have d2 : decide ((hexV b : Int) < 0) = false := decide_eq_false (by omega)
            have hj := join_hex (hexV a) (hexV b) la lb
            have hsrc := Lib.hid fun (wx : World) => RdB.src (P := Try.prog) (c := 1) (A := some ⟨wx.heap.size, 0, none⟩) (w := wx.alloc (.cells #[.int .u8 (16 * (hexV a : Int) + (hexV b : Int))] 5)) (xs := [UInt8.ofNat (16 * hexV a + hexV b)]) (n := 1) Try.underlying22 (Rd.mk (fun i hi => by simp at hi; subst hi; rw [Nat.add_zero, cell_one_at]; simp only [List.map_cons, List.map_nil, List.getElem?_cons_zero, bV]; rw [ofNat_hex la lb])) rfl
            clear n0 n1 ha hb
            go_wp2
            go_quiet ((go_at_call 30; exact quiet_eq (idxDig_any _ _)))
            go_wp2_with (at_builtin; go_loud (refine wpList_app' TB w.heap.size ((own_drewN hown.out _).alloc _) _ (hsrc.out _) rfl rfl rfl rfl (by unfold maxLen; omega) (by omega) (by have := hbel.size; simp; omega) ((below_drewN hbel _).alloc hbel.size _) (fun A1 c1 w1 hown1 hg hbel1 => ?_)))
            go_roundw
            case rel =>
              refine ⟨m + 2, k + 1, A1, c1, by omega, by go_num, rfl, ?_, ?_, ?_, hbel1⟩
              · have := hmk.out; unfold Hid; omega
              · unfold Hid; rw [htk.out, List.all_append, hall.out]; simp [HA.out, HB.out]
              · unfold Hid; rw [htk.out, pairs_snoc a b _ hlen.out, List.map_append]; exact hown1
            case measure => simp [intOf]; omega
      · have e : m = s.length := by omega
        subst e
        have ho : okH s = true := by
          unfold okH
          have h1 := hall.out
          rw [List.take_length] at h1
          rw [h1, show s.length % 2 = 0 by omega]; rfl
        have hu : unhF s = pairs s := by unfold unhF; rw [ho]; rfl
        have HU := Lib.hid hu
        have HO := Lib.hid ho
        clear ho hu
        go_wp2
        go_ret2
        rw [HU.out, HO.out]
        have h1 := hown.out
        rw [List.take_length] at h1
        refine ⟨_, rfl, ?_, hbel⟩
        rw [pairs_length, show s.length / 2 = k by have := hmk.out; omega]
        exact h1
end Go.Proofs.Ytnopoiidekklfaa
