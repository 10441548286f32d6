/- append(s, make([]byte, k)...). -/
import Derived.Test.YthgfkmjdibhifaaDoorStR
namespace Go.Proofs.YthgfkmjdibhifaaDoor
open Go.RowKit

theorem zeroCells_u8 (k : Nat) : Builtin.zeroCells (Value.int .u8 0).cells k = (List.replicate k (Value.int .u8 0)).toArray := by
  apply Array.ext'
  apply List.ext_getElem?
  intro i
  show (Builtin.zeroCells #[Value.int .u8 0] k).toList[i]? = _
  unfold Builtin.zeroCells
  simp only [Array.toList_map, Array.toList_range, List.getElem?_map, List.getElem?_replicate, List.size_toArray, List.length_cons, List.length_nil, Nat.zero_add, Nat.mul_one, Nat.mod_one]
  by_cases h : i < k
  · rw [if_pos h]; simp [List.getElem?_range, h]
  · rw [if_neg h]; simp [h]

theorem run_append_zeros {P : Program} {t tI tS ty e : TypeId} {i : TypeInfo} (ht : P.underlying t = some (.slice e)) (hI : P.underlying tI = some (.int .i64)) (hT : P.underlying tS = some .string) (hi : P.info? e = some i) (hz : i.zero = some (.int .u8 0)) (hsz : i.size = 1) (hb : i.bytes = 1) (k n c : Nat) (hk : k ≤ 1000000) (hn : n ≤ 1000000) (A : Option Addr) (w : World) :
    (Builtin.append_ #[t, tI] ty #[.slice A n c, .int .i64 (k : Int)]).run P w = (Builtin.append_ #[t, tS] ty #[.slice A n c, .string (str (List.replicate k 0))]).run P w := by
  have h1 : IntKind.i64.wrap (k : Int) = (k : Int) := by rw [IntKind.wrap_i64]; omega
  have h2 : ¬ ((k : Int) < 0) := by omega
  have h3 : ¬ (281474976710656 < (k : Int)) := by omega
  have h4 : (str (List.replicate k 0)).size = k := by rw [str_size, List.length_replicate]
  have h5 : ¬ (9223372036854775807 < (n : Int) + (k : Int)) := by omega
  have h6 : (Array.map (fun b : UInt8 => Value.int .u8 (b.toNat : Int)) (str (List.replicate k 0)).data).extract 0 k = (List.replicate k (Value.int .u8 0)).toArray := by
    apply Array.ext'
    simp [str]
  have h7 : List.take k (List.map (fun b : UInt8 => Value.int .u8 (b.toNat : Int)) (str (List.replicate k 0)).data.toList) = List.replicate k (Value.int .u8 0) := by
    rw [str_data, List.map_replicate, List.take_of_length_le (by simp)]; rfl
  have h8 := fun m => zeroCells_u8 m
  by_cases hroom : n + k ≤ c
  · by_cases hk0 : k = 0
    · subst hk0
      have hroom2 : n ≤ c := by omega
      simp [Builtin.append_, run_underlying ht, run_underlying hI, run_underlying hT, sizeOf, typeInfo, hi, hsz, hb, Builtin.lenOf, Builtin.firstCells, asInt, asIntOf, hroom2, str, show ByteArray.size { data := #[] } = 0 from rfl, show IntKind.i64.wrap 0 = 0 from rfl]
    · simp [Builtin.append_, run_underlying ht, run_underlying hI, run_underlying hT, sizeOf, typeInfo, hi, hsz, hb, Builtin.lenOf, Builtin.firstCells, asInt, asIntOf, hroom, h1, h2, h3, h4, hk0, zeroValue, hz, h6, h7, h8]
  · have hfit : ¬ (281474976710656 < Builtin.nextslicecap (n + k) c) := by
      have := growslice_fits (bytes := 1) (need := n + k) (old := c) (by omega) (by omega)
      omega
    by_cases hk0 : k = 0
    · subst hk0
      have hroom2 : ¬ n ≤ c := by omega
      have h52 : ¬ (9223372036854775807 < (n : Int)) := by omega
      simp [Builtin.append_, run_underlying ht, run_underlying hI, run_underlying hT, sizeOf, typeInfo, hi, hsz, hb, Builtin.lenOf, Builtin.firstCells, asInt, asIntOf, hroom2, str, show ByteArray.size { data := #[] } = 0 from rfl, show IntKind.i64.wrap 0 = 0 from rfl, h52, zeroValue, hz, h8, show ¬ (281474976710656 < Builtin.nextslicecap n c) from hfit]
    · simp [Builtin.append_, run_underlying ht, run_underlying hI, run_underlying hT, sizeOf, typeInfo, hi, hsz, hb, Builtin.lenOf, Builtin.firstCells, asInt, asIntOf, hroom, h1, h2, h3, h4, h5, hfit, hk0, zeroValue, hz, h6, h7, h8]
section
variable {P : Program} {K : Nat → Prop} {w0 w w' : World} {H : List Ent} {f : Ent → List Ent} {ops : Array Oper} {rest : List Oper} {o : Oper} {a : Act} {Q : Exit → Act → World → Prop}
theorem S_appZ {t e tI tS : TypeId} (T : ElemT P t e (.int .u8 0) 1) (hS : St K w0 w H) {s x : Operand} {A : Option Addr} {n c k : Nat} {xs : List Value} (hT : P.underlying tS = some .string) (hgd : o.guard = none)
    (ho : o.op = .call { callee := .builtin .append, args := #[s, x], argTypes := #[t, tI] }) (hI : P.underlying tI = some (.int .i64)) (hsv : a.eval s = .slice A n c) (hat : At H (.own e 1 (.slice A n c) n xs) f) (hxv : a.eval x = .int .i64 (k : Int)) (hk : k ≤ 1000000) (hn : n ≤ 1000000)
    (h : ∀ A c w', St K w0 w' (f (.own e 1 (.slice A (n + k) c) (n + k) (xs ++ List.replicate k (.int .u8 0)))) → wpList P ops Q rest (a.put o.dst (.slice A (n + k) c)) w') : wpList P ops Q (o :: rest) a w := by
  have hown := hS.get hat
  obtain ⟨i, hi, hz, h1, h2⟩ := info_parts T.hi
  have hs := Src.ofString (P := P) w hT (str (List.replicate k 0))
  unfold byteCells at hs
  rw [str_data, str_size, List.length_replicate, List.map_replicate] at hs
  obtain ⟨v', w', hr, k1, k2, k3⟩ := run_append_src2 w 0 t tS (o.type) e i (.int .u8 0) 1 T.ht hi hz h1 h2 T.hz (.slice A n c) n xs hown _ k _ hs (by unfold maxLen; omega) (by omega) (Nat.zero_le _)
  obtain ⟨A', c', rfl, -⟩ := own_rd k1
  rw [← run_append_zeros T.ht hI hT hi hz h1 h2 k n c hk hn A w] at hr
  refine S_val hgd (exec_append ho hsv hxv hr) (h A' c' w' (hS.upd hat k2 k1 fun b hb => ?_))
  rcases k3 with k3 | k3
  · exact .inl (by rw [← hb]; exact k3.symm)
  · right
    have : some b = some w.heap.size := by rw [← hb]; exact k3
    injection this with this
    omega
end
end Go.Proofs.YthgfkmjdibhifaaDoor
