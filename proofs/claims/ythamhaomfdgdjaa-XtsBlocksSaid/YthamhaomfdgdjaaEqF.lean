/- Equality of structs and arrays whose cells are whole numbers, bools and strings: it is the equality of the cells. -/
import Derived.Test.YthamhaomfdgdjaaSt
import Derived.Laws.StructEq
namespace Go.Proofs.Ythamhaomfdgdjaa
open Go.RowKit

inductive Leaf where
  | int (k : IntKind)
  | bool
  | str
def Leaf.fits : Leaf → Value → Bool
  | .int k, .int k' _ => k == k'
  | .bool, .bool _ => true
  | .str, .string _ => true
  | _, _ => false
/-- Are these cells of that shape? -/
def mtch : List Leaf → List Value → Bool
  | [], [] => true
  | l :: ls, v :: vs => l.fits v && mtch ls vs
  | _, _ => false
theorem mtch_length : ∀ {ls : List Leaf} {vs : List Value}, mtch ls vs = true → ls.length = vs.length
  | [], [], _ => rfl
  | [], _ :: _, h => by cases h
  | _ :: _, [], h => by cases h
  | l :: ls, v :: vs, h => by
    simp only [mtch, Bool.and_eq_true] at h
    simp [mtch_length h.2]
theorem mtch_append : ∀ {la : List Leaf} {lb : List Leaf} {va vb : List Value}, mtch la va = true → mtch lb vb = true → mtch (la ++ lb) (va ++ vb) = true
  | [], _, [], _, _, h2 => h2
  | [], _, _ :: _, _, h1, _ => by cases h1
  | _ :: _, _, [], _, h1, _ => by cases h1
  | l :: la, lb, v :: va, vb, h1, h2 => by
    simp only [mtch, Bool.and_eq_true] at h1
    simp only [List.cons_append, mtch, Bool.and_eq_true]
    exact ⟨h1.1, mtch_append h1.2 h2⟩
theorem mtch_split : ∀ (n : Nat) {ls : List Leaf} {vs : List Value}, mtch ls vs = true → mtch (ls.take n) (vs.take n) = true ∧ mtch (ls.drop n) (vs.drop n) = true
  | 0, ls, vs, h => ⟨by simp [mtch], by simpa using h⟩
  | n + 1, [], [], _ => ⟨rfl, rfl⟩
  | n + 1, [], _ :: _, h => by cases h
  | n + 1, _ :: _, [], h => by cases h
  | n + 1, l :: ls, v :: vs, h => by
    simp only [mtch, Bool.and_eq_true] at h
    have ih := mtch_split n h.2
    exact ⟨by simp only [List.take_succ_cons, mtch, h.1, ih.1, Bool.and_self], by simpa using ih.2⟩
theorem mtch_ints (k : IntKind) : ∀ (zs : List Int) (n : Nat), zs.length = n → mtch (List.replicate n (.int k)) (zs.map (Value.int k)) = true
  | [], n, h => by subst h; rfl
  | z :: zs, n, h => by
    subst h
    simp only [List.length_cons, List.replicate_succ, List.map_cons, mtch, Leaf.fits, beq_self_eq_true, Bool.true_and]
    exact mtch_ints k zs _ rfl
theorem mtch_bytes : ∀ (zs : List UInt8) (n : Nat), zs.length = n → mtch (List.replicate n (.int .u8)) (zs.map bV) = true
  | [], n, h => by subst h; rfl
  | z :: zs, n, h => by
    subst h
    simp only [List.length_cons, List.replicate_succ, List.map_cons, mtch, Leaf.fits, bV, beq_self_eq_true, Bool.true_and]
    exact mtch_bytes zs _ rfl

theorem fits_int {k : IntKind} {v : Value} (h : mtch [.int k] [v] = true) : ∃ n, v = .int k n := by
  cases v <;> simp [mtch, Leaf.fits] at h
  subst h; exact ⟨_, rfl⟩
theorem fits_bool {v : Value} (h : mtch [.bool] [v] = true) : ∃ n, v = .bool n := by
  cases v <;> simp [mtch, Leaf.fits] at h
  exact ⟨_, rfl⟩
theorem fits_str {v : Value} (h : mtch [.str] [v] = true) : ∃ n, v = .string n := by
  cases v <;> simp [mtch, Leaf.fits] at h
  exact ⟨_, rfl⟩

section
variable (P : Program)
/-- The shapes of fields that lie in a row from a place on. -/
def shpF (f : TypeId → Option (List Leaf)) : List Field → Nat → Option (List Leaf)
  | [], _ => some []
  | x :: r, off => if x.offset == off && x.name != "_" then (f x.type).bind fun a => if (P.info? x.type).map (·.size) == some a.length then (shpF f r (off + a.length)).map (a ++ ·) else none else none
def shp : Nat → TypeId → Option (List Leaf)
  | 0, _ => none
  | d + 1, t =>
    match P.underlying t with
    | some (.int k) => some [.int k]
    | some .bool => some [.bool]
    | some .string => some [.str]
    | some (.struct fs) => if P.stoodInHeld t then none else shpF P (shp d) fs.toList 0
    | some (.array n e) => (shp d e).bind fun a => if (P.info? e).map (·.size) == some a.length then some ((List.replicate n a).flatten) else none
    | _ => none
/-- A value of so many cells. -/
def valOf (t : TypeId) (cs : List Value) : Value := if agg? P t = some true then .agg cs.toArray else cs.headD undef
end
variable {P : Program}

theorem run_part {t : TypeId} {L : List Value} {off n : Nat} {ag : Bool} (ha : agg? P t = some ag) (hs : (P.info? t).map (·.size) = some n) (hn : off + n ≤ L.length) (h1 : ag = false → n = 1) (w : World) :
    (Go.part t L.toArray off).run P w = .ok (valOf P t ((L.drop off).take n)) w := by
  unfold Go.part valOf
  cases ag with
  | true =>
    simp only [Sem.run_bind, run_isAgg ha, Result.andThen_ok, if_true, run_sizeOf hs, Sem.run_pure, ha]
    congr 2
    rw [List.extract_toArray, List.extract_eq_take_drop]
    congr 2
    omega
  | false =>
    have hn1 := h1 rfl
    subst hn1
    have hlt : off < L.length := by omega
    have he : (L.drop off).take 1 = [L[off]] := by rw [List.drop_eq_getElem_cons hlt, List.take_succ_cons, List.take_zero]
    simp only [Sem.run_bind, run_isAgg ha, Result.andThen_ok, Bool.false_eq_true, if_false, ha, he]
    rw [List.getElem?_toArray, List.getElem?_eq_getElem hlt]
    simp

theorem agg_of_shp {d : Nat} {t : TypeId} {ls : List Leaf} (h : shp P d t = some ls) : ∃ ag, agg? P t = some ag ∧ (ag = false → ls.length = 1) := by
  cases d with
  | zero => cases h
  | succ d =>
    unfold shp at h
    unfold agg?
    cases hu : P.underlying t with
    | none => rw [hu] at h; cases h
    | some x =>
      rw [hu] at h
      cases x <;> simp at h <;> first | exact ⟨false, rfl, fun _ => by rw [← h]; rfl⟩ | exact ⟨true, rfl, fun e => by cases e⟩

theorem list_split_eq {α : Type} {a b : List α} (n : Nat) : (a = b) ↔ (a.take n = b.take n ∧ a.drop n = b.drop n) :=
  ⟨fun h => (by rw [h]; exact ⟨rfl, rfl⟩), fun ⟨h1, h2⟩ => by rw [← List.take_append_drop n a, ← List.take_append_drop n b, h1, h2]⟩

theorem run_fields {d : Nat} (ih : ∀ (t : TypeId) (ls : List Leaf) (xs ys : List Value) (w : World), shp P d t = some ls → mtch ls xs = true → mtch ls ys = true → ∃ b, (Op.equalIn d t (valOf P t xs) (valOf P t ys)).run P w = .ok b w ∧ (b = true ↔ xs = ys)) (X Y : List Value) :
    ∀ (fs : List Field) (off : Nat) (ls : List Leaf) (w : World), shpF P (shp P d) fs off = some ls → mtch ls (X.drop off) = true → mtch ls (Y.drop off) = true → off ≤ X.length → off ≤ Y.length →
      ∃ b, (Op.eqFields d X.toArray Y.toArray fs).run P w = .ok b w ∧ (b = true ↔ X.drop off = Y.drop off)
  | [], off, ls, w, h, h1, h2, _, _ => by
    cases h
    refine ⟨true, by simp [Op.eqFields], Iff.intro (fun _ => ?_) (fun _ => rfl)⟩
    have n1 := mtch_length h1
    have n2 := mtch_length h2
    rw [List.eq_nil_of_length_eq_zero n1.symm, List.eq_nil_of_length_eq_zero n2.symm]
  | f :: fs, off, ls, w, h, h1, h2, hX, hY => by
    unfold shpF at h
    split at h
    · rename_i hc
      simp only [Bool.and_eq_true, beq_iff_eq, bne_iff_ne] at hc
      cases ha : shp P d f.type with
      | none => rw [ha] at h; cases h
      | some a =>
        rw [ha, Option.bind_some] at h
        split at h
        · rename_i hs
          simp only [beq_iff_eq] at hs
          cases hr : shpF P (shp P d) fs (off + a.length) with
          | none => rw [hr] at h; cases h
          | some r =>
            rw [hr, Option.map_some] at h
            cases h
            have l1 := mtch_length h1
            have l2 := mtch_length h2
            rw [List.length_append, List.length_drop] at l1 l2
            have s1 := mtch_split a.length h1
            have s2 := mtch_split a.length h2
            rw [List.take_left, List.drop_left, List.drop_drop] at s1 s2
            obtain ⟨ag, hag, hag1⟩ := agg_of_shp ha
            obtain ⟨b, hb, hbe⟩ := ih f.type a _ _ w ha s1.1 s2.1
            have p1 := run_part (L := X) (off := off) hag hs (by omega) hag1 w
            have p2 := run_part (L := Y) (off := off) hag hs (by omega) hag1 w
            obtain ⟨c, hc2, hce⟩ := run_fields ih X Y fs (off + a.length) r w hr s1.2 s2.2 (by omega) (by omega)
            have key : (X.drop off = Y.drop off) ↔ ((X.drop off).take a.length = (Y.drop off).take a.length ∧ X.drop (off + a.length) = Y.drop (off + a.length)) := by
              rw [list_split_eq a.length, List.drop_drop, List.drop_drop]
            unfold Op.eqFields
            rw [if_pos hc.2, hc.1]
            simp only [Sem.run_bind, p1, p2, hb, Result.andThen_ok]
            cases b with
            | true =>
              simp only [Bool.not_true, Bool.false_eq_true, if_false]
              refine ⟨c, hc2, ?_⟩
              rw [key, hce]
              exact ⟨fun h => ⟨hbe.1 rfl, h⟩, fun h => h.2⟩
            | false =>
              simp only [Bool.not_false, if_true]
              refine ⟨false, by simp, ⟨fun h => (by cases h), fun h => ?_⟩⟩
              exact absurd (hbe.2 (key.1 h).1) (by simp)
        · cases h
    · cases h

theorem mtch_rep {a : List Leaf} : ∀ (n : Nat) {X : List Value}, mtch ((List.replicate n a).flatten) X = true → ∀ i, i < n → mtch a ((X.drop (i * a.length)).take a.length) = true
  | 0, _, _, i, hi => absurd hi (Nat.not_lt_zero _)
  | n + 1, X, h, i, hi => by
    rw [List.replicate_succ, List.flatten_cons] at h
    have s := mtch_split a.length h
    rw [List.take_left, List.drop_left] at s
    cases i with
    | zero => simpa using s.1
    | succ i =>
      have := mtch_rep n s.2 i (by omega)
      rw [List.drop_drop] at this
      rw [Nat.succ_mul, Nat.add_comm]
      exact this

theorem rows_eq {α : Type} (m : Nat) : ∀ (n : Nat) (X Y : List α), X.length = n * m → Y.length = n * m → (∀ i, i < n → (X.drop (i * m)).take m = (Y.drop (i * m)).take m) → X = Y
  | 0, X, Y, hX, hY, _ => by rw [List.eq_nil_of_length_eq_zero (l := X) (by omega), List.eq_nil_of_length_eq_zero (l := Y) (by omega)]
  | n + 1, X, Y, hX, hY, h => by
    rw [Nat.succ_mul] at hX hY
    refine (list_split_eq m).2 ⟨by simpa using h 0 (by omega), rows_eq m n _ _ (by rw [List.length_drop]; omega) (by rw [List.length_drop]; omega) (fun i hi => ?_)⟩
    have := h (i + 1) (by omega)
    rw [Nat.succ_mul, Nat.add_comm (i * m) m] at this
    rw [List.drop_drop, List.drop_drop]
    exact this

theorem run_equal_flat : ∀ (d : Nat) (t : TypeId) (ls : List Leaf) (xs ys : List Value) (w : World), shp P d t = some ls → mtch ls xs = true → mtch ls ys = true →
    ∃ b, (Op.equalIn d t (valOf P t xs) (valOf P t ys)).run P w = .ok b w ∧ (b = true ↔ xs = ys)
  | 0, _, _, _, _, _, h, _, _ => by cases h
  | d + 1, t, ls, xs, ys, w, h, h1, h2 => by
    have ih := run_equal_flat d
    unfold shp at h
    cases hu : P.underlying t with
    | none => rw [hu] at h; cases h
    | some x =>
      rw [hu] at h
      have l1 := mtch_length h1
      have l2 := mtch_length h2
      cases x <;> simp only at h <;> try (cases h; done)
      case bool =>
        cases h
        have hv : agg? P t = some false := by simp [agg?, hu]
        match xs, ys, l1, l2 with
        | [x], [y], _, _ =>
          obtain ⟨a, rfl⟩ := fits_bool h1
          obtain ⟨b, rfl⟩ := fits_bool h2
          exact ⟨a == b, by simp [valOf, hv, Op.equalIn, run_underlying hu], by simp⟩
      case int k =>
        cases h
        have hv : agg? P t = some false := by simp [agg?, hu]
        match xs, ys, l1, l2 with
        | [x], [y], _, _ =>
          obtain ⟨a, rfl⟩ := fits_int h1
          obtain ⟨b, rfl⟩ := fits_int h2
          exact ⟨a == b, by simp [valOf, hv, Op.equalIn, run_underlying hu], by simp⟩
      case string =>
        cases h
        have hv : agg? P t = some false := by simp [agg?, hu]
        match xs, ys, l1, l2 with
        | [x], [y], _, _ =>
          obtain ⟨a, rfl⟩ := fits_str h1
          obtain ⟨b, rfl⟩ := fits_str h2
          exact ⟨a == b, by simp [valOf, hv, Op.equalIn, run_underlying hu], by rw [beq_toListBytes, beq_iff_eq]; simp only [List.cons.injEq, Value.string.injEq, and_true]; exact ⟨fun h => by rw [toList_data, toList_data, Array.toList_inj] at h; exact ByteArray.ext h, fun h => by rw [h]⟩⟩
      case struct fs =>
        split at h
        · cases h
        · rename_i hst
          have hst' : P.stoodInHeld t = false := by simpa using hst
          have hv : agg? P t = some true := by simp [agg?, hu]
          have hf : P.fieldsOf t = fs := by simp [Program.fieldsOf, hu]
          obtain ⟨b, hb, hbe⟩ := run_fields ih xs ys fs.toList 0 ls w h (by simpa using h1) (by simpa using h2) (Nat.zero_le _) (Nat.zero_le _)
          refine ⟨b, ?_, by simpa using hbe⟩
          simp only [valOf, hv, if_true]
          rw [run_equalIn_struct w d t _ _ (by rw [hf]; exact hu) hst', hf]
          exact hb
      case array n e =>
        cases ha : shp P d e with
        | none => rw [ha] at h; cases h
        | some a =>
          rw [ha, Option.bind_some] at h
          split at h
          · rename_i hs
            simp only [beq_iff_eq] at hs
            cases h
            have hv : agg? P t = some true := by simp [agg?, hu]
            have hlen : ((List.replicate n a).flatten).length = n * a.length := by simp
            rw [hlen] at l1 l2
            obtain ⟨ag, hag, hag1⟩ := agg_of_shp ha
            simp only [valOf, hv, if_true]
            rw [Op.equalIn]
            simp only [Sem.run_bind, run_underlying hu, Result.andThen_ok, run_sizeOf hs]
            rw [Std.Legacy.Range.forIn_eq_forIn_range']
            have key : ∀ (l : List Nat), (∀ i ∈ l, i < n) → ∃ r : Option Bool, (Sem.run P (forIn l ((none, ()) : Option Bool × Unit) fun i __s => do
                  let u ← Go.part e xs.toArray (i * a.length)
                  let v ← Go.part e ys.toArray (i * a.length)
                  let r ← Op.equalIn d e u v
                  if (!r) = true then pure (ForInStep.done (some false, ())) else pure (ForInStep.yield (none, ()))) w) = .ok (r, ()) w ∧ ((r = none ∧ ∀ i ∈ l, (xs.drop (i * a.length)).take a.length = (ys.drop (i * a.length)).take a.length) ∨ (r = some false ∧ ∃ i ∈ l, (xs.drop (i * a.length)).take a.length ≠ (ys.drop (i * a.length)).take a.length)) := by
              intro l
              induction l with
              | nil => intro _; exact ⟨none, by simp, .inl ⟨rfl, fun i hi => by cases hi⟩⟩
              | cons i l ihl =>
                intro hl
                have hi := hl i (by simp)
                have hb1 : i * a.length + a.length ≤ n * a.length := by
                  have := Nat.mul_le_mul_right a.length (show i + 1 ≤ n from hi)
                  rw [Nat.succ_mul] at this; exact this
                have p1 := run_part (L := xs) (off := i * a.length) hag hs (by omega) hag1 w
                have p2 := run_part (L := ys) (off := i * a.length) hag hs (by omega) hag1 w
                obtain ⟨b, hb, hbe⟩ := ih e a _ _ w ha (mtch_rep n h1 i hi) (mtch_rep n h2 i hi)
                simp only [List.forIn_cons, Sem.run_bind, p1, p2, hb, Result.andThen_ok]
                cases b with
                | true =>
                  obtain ⟨r, hr, hre⟩ := ihl fun j hj => hl j (by simp [hj])
                  refine ⟨r, by simpa using hr, ?_⟩
                  rcases hre with ⟨rfl, h⟩ | ⟨rfl, j, hj, h⟩
                  · exact .inl ⟨rfl, fun j hj => by rcases List.mem_cons.1 hj with rfl | hj; exact hbe.1 rfl; exact h j hj⟩
                  · exact .inr ⟨rfl, j, by simp [hj], h⟩
                | false =>
                  refine ⟨some false, by simp, .inr ⟨rfl, i, by simp, fun e => ?_⟩⟩
                  exact absurd (hbe.2 e) (by simp)
            obtain ⟨r, hr, hre⟩ := key (List.range' 0 (Std.Legacy.Range.size { start := 0, stop := n, step := 1, step_pos := Nat.zero_lt_one }) 1) (fun i hi => by
              have := List.mem_range'.1 hi
              obtain ⟨j, hj, rfl⟩ := this
              simp [Std.Legacy.Range.size] at hj ⊢
              omega)
            rcases hre with ⟨rfl, hall⟩ | ⟨rfl, i, hi, hne⟩
            · refine ⟨true, by rw [hr]; simp, ⟨fun _ => rows_eq a.length n xs ys l1.symm l2.symm fun i hi => hall i ?_, fun _ => rfl⟩⟩
              exact List.mem_range'.2 ⟨i, by simp [Std.Legacy.Range.size]; exact hi, by simp⟩
            · exact ⟨false, by rw [hr]; simp, ⟨fun h => (by cases h), fun h => absurd (by rw [h]) hne⟩⟩
          · cases h

theorem equalIn_more : ∀ (d : Nat) (t : TypeId) {ls : List Leaf}, shp P d t = some ls → shp P (d + 1) t = some ls := by
  intro d
  induction d with
  | zero => intro t ls h; cases h
  | succ d ih =>
    intro t ls h
    unfold shp at h ⊢
    cases hu : P.underlying t with
    | none => rw [hu] at h; cases h
    | some x =>
      rw [hu] at h
      cases x <;> simp only at h ⊢ <;> try exact h
      case struct fs =>
        split at h
        · cases h
        · rename_i hst
          rw [if_neg hst]
          generalize fs.toList = l at h ⊢
          generalize 0 = off at h ⊢
          induction l generalizing off ls with
          | nil => exact h
          | cons f l ihl =>
            unfold shpF at h ⊢
            split at h
            · rename_i hc
              rw [if_pos hc]
              cases ha : shp P d f.type with
              | none => rw [ha] at h; cases h
              | some a =>
                rw [ha, Option.bind_some] at h
                rw [ih f.type ha, Option.bind_some]
                split at h
                · rename_i hs
                  rw [if_pos hs]
                  cases hr : shpF P (shp P d) l (off + a.length) with
                  | none => rw [hr] at h; cases h
                  | some r => rw [hr] at h; rw [ihl _ hr]; exact h
                · cases h
            · cases h
      case array n e =>
        cases ha : shp P d e with
        | none => rw [ha] at h; cases h
        | some a => rw [ha] at h; rw [ih e ha]; exact h
theorem shp_big {d : Nat} {t : TypeId} {ls : List Leaf} (h : shp P d t = some ls) : ∀ k, shp P (d + k) t = some ls
  | 0 => h
  | k + 1 => equalIn_more _ t (shp_big h k)

/-- x == y of structs or arrays. -/
theorem run_eql_flat {t : TypeId} {ls : List Leaf} {xs ys : List Value} (hs : shp P 20 t = some ls) (ha : agg? P t = some true) (h1 : mtch ls xs = true) (h2 : mtch ls ys = true) {q : Prop} [Decidable q] (hq : xs = ys ↔ q) (w : World) :
    (binOp .eql t (.agg xs.toArray) (.agg ys.toArray)).run P w = .ok (.bool (decide q)) w := by
  obtain ⟨b, hb, hbe⟩ := run_equal_flat 10000 t ls xs ys w (shp_big hs 9980) h1 h2
  simp only [valOf, ha, if_true] at hb
  rw [run_eql_struct, hb]
  simp only [Result.andThen_ok]
  congr 2
  cases b with
  | true => exact (decide_eq_true (hq.1 (hbe.1 rfl))).symm
  | false => exact (decide_eq_false (fun e => absurd (hbe.2 (hq.2 e)) (by simp))).symm
theorem run_neq_flat {t : TypeId} {ls : List Leaf} {xs ys : List Value} (hs : shp P 20 t = some ls) (ha : agg? P t = some true) (h1 : mtch ls xs = true) (h2 : mtch ls ys = true) {q : Prop} [Decidable q] (hq : xs = ys ↔ q) (w : World) :
    (binOp .neq t (.agg xs.toArray) (.agg ys.toArray)).run P w = .ok (.bool (!(decide q))) w := by
  obtain ⟨b, hb, hbe⟩ := run_equal_flat 10000 t ls xs ys w (shp_big hs 9980) h1 h2
  simp only [valOf, ha, if_true] at hb
  rw [run_neq_struct, hb]
  simp only [Result.andThen_ok]
  congr 3
  cases b with
  | true => exact (decide_eq_true (hq.1 (hbe.1 rfl))).symm
  | false => exact (decide_eq_false (fun e => absurd (hbe.2 (hq.2 e)) (by simp))).symm
end Go.Proofs.Ythamhaomfdgdjaa
