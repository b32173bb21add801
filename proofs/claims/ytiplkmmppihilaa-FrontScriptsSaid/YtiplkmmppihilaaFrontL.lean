/- What the functions of layer 6 (vec) and of its reference answer, as plain facts on lists of numbers. Conditions: none beyond those that each lemma states. -/
import Derived.Test.YtiplkmmppihilaaPFrontx1
import Derived.Test.YtiplkmmppihilaaPFrontx2
import Derived.Test.YtiplkmmppihilaaPFrontx3
namespace Go.Proofs.Ytiplkmmppihilaa.FrontA
open Go.RowKit Go.Proofs.Ytiplkmmppihilaa.PFront Go.Proofs.YtiplkmmppihilaaW.PrintWords Go.Proofs.YtiplkmmppihilaaW.PrintLast Go.Proofs.YtiplkmmppihilaaW.PrintMore
set_option linter.unusedVariables false
set_option linter.unusedSimpArgs false

/-! ### lists -/
theorem rd_at (l : List Int) (i : Nat) (h : i < l.length) : rd l i = l[i] := by
  simp [rd, List.getD_eq_getElem?_getD, List.getElem?_eq_getElem h]
theorem rd_mem (l : List Int) (i : Nat) (h : i < l.length) : rd l i ∈ l := by
  rw [rd_at l i h]; exact List.getElem_mem h
theorem mem_rd {l : List Int} {n : Int} (h : n ∈ l) : ∃ i : Nat, i < l.length ∧ rd l i = n := by
  obtain ⟨i, hi, rfl⟩ := List.getElem_of_mem h
  exact ⟨i, hi, rd_at l i hi⟩
theorem rd_drop (l : List Int) (j : Nat) (h : j < l.length) : l.drop j = rd l j :: l.drop (j + 1) := by
  rw [rd_at l j h]; exact List.drop_eq_getElem_cons h
def Vok (l : List Int) : Prop := 1 ≤ l.length ∧ l.length ≤ 16 ∧ ∀ n ∈ l, 0 ≤ n ∧ n ≤ 4294967295
instance (l : List Int) : Decidable (Vok l) := inferInstanceAs (Decidable (1 ≤ l.length ∧ l.length ≤ 16 ∧ ∀ n ∈ l, 0 ≤ n ∧ n ≤ 4294967295))
def T (l m : List Int) : Prop := l.length = m.length ∧ Vok l ∧ Vok m
instance (l m : List Int) : Decidable (T l m) := inferInstanceAs (Decidable (l.length = m.length ∧ Vok l ∧ Vok m))
theorem Vok.rd {l : List Int} (h : Vok l) (i : Nat) (hi : i < l.length) : 0 ≤ rd l i ∧ rd l i ≤ 4294967295 := h.2.2 _ (rd_mem l i hi)

theorem minTo_lt (l : List Int) (c : Int) : ∀ k : Nat, minTo l k < c ↔ ∃ i : Nat, i ≤ k ∧ rd l i < c
  | 0 => by
    unfold minTo
    constructor
    · intro h
      exact ⟨0, Nat.le_refl _, h⟩
    · rintro ⟨i, hi, h⟩
      obtain rfl : i = 0 := by omega
      exact h
  | k + 1 => by
    have ih := minTo_lt l c k
    unfold minTo
    have hm : mn (minTo l k) (rd l ((k : Int) + 1)) < c ↔ minTo l k < c ∨ rd l ((k : Int) + 1) < c := by
      unfold mn; split <;> omega
    rw [hm, ih]
    constructor
    · rintro (⟨i, hi, h⟩ | h)
      · exact ⟨i, by omega, h⟩
      · exact ⟨k + 1, Nat.le_refl _, by rw [show ((k + 1 : Nat) : Int) = (k : Int) + 1 by omega]; exact h⟩
    · rintro ⟨i, hi, h⟩
      by_cases c : i ≤ k
      · exact .inl ⟨i, c, h⟩
      · obtain rfl : i = k + 1 := by omega
        exact .inr (by rw [show ((k + 1 : Nat) : Int) = (k : Int) + 1 by omega] at h; exact h)
theorem maxTo_gt (l : List Int) (c : Int) : ∀ k : Nat, maxTo l k > c ↔ ∃ i : Nat, i ≤ k ∧ rd l i > c
  | 0 => by
    unfold maxTo
    constructor
    · intro h
      exact ⟨0, Nat.le_refl _, h⟩
    · rintro ⟨i, hi, h⟩
      obtain rfl : i = 0 := by omega
      exact h
  | k + 1 => by
    have ih := maxTo_gt l c k
    unfold maxTo
    have hm : mx (maxTo l k) (rd l ((k : Int) + 1)) > c ↔ maxTo l k > c ∨ rd l ((k : Int) + 1) > c := by
      unfold mx; split <;> omega
    rw [hm, ih]
    constructor
    · rintro (⟨i, hi, h⟩ | h)
      · exact ⟨i, by omega, h⟩
      · exact ⟨k + 1, Nat.le_refl _, by rw [show ((k + 1 : Nat) : Int) = (k : Int) + 1 by omega]; exact h⟩
    · rintro ⟨i, hi, h⟩
      by_cases c : i ≤ k
      · exact .inl ⟨i, c, h⟩
      · obtain rfl : i = k + 1 := by omega
        exact .inr (by rw [show ((k + 1 : Nat) : Int) = (k : Int) + 1 by omega] at h; exact h)
theorem check_is (l : List Int) : vec_Vec_Check.f l = some (if Vok l then 0 else 1) := by
  unfold vec_Vec_Check.f vec_Vec_int_75.f vec_Vec_int_76.f
  by_cases c1 : (l.length : Int) < 1
  · rw [if_pos c1, if_neg (by unfold Vok; omega)]
  · rw [if_neg c1]
    by_cases c2 : (l.length : Int) > 16
    · rw [if_pos c2, if_neg (by unfold Vok; omega)]
    · rw [if_neg c2, if_neg (show ¬ l.length = 0 by omega), if_neg (show ¬ l.length = 0 by omega), Option.bind_some]
      by_cases c3 : minTo l (l.length - 1) < 0
      · obtain ⟨i, hi, h⟩ := (minTo_lt l 0 _).mp c3
        rw [if_pos c3, if_neg (fun hg => by have := hg.rd i (by omega); omega)]
      · rw [if_neg c3, Option.bind_some]
        by_cases c4 : maxTo l (l.length - 1) > 4294967295
        · obtain ⟨i, hi, h⟩ := (maxTo_gt l _ _).mp c4
          rw [if_pos c4, if_neg (fun hg => by have := hg.rd i (by omega); omega)]
        · rw [if_neg c4, if_pos]
          refine ⟨by omega, by omega, fun n hn => ?_⟩
          obtain ⟨i, hi, rfl⟩ := mem_rd hn
          have h1 : ¬ rd l i < 0 := fun h => c3 ((minTo_lt l 0 _).mpr ⟨i, by omega, h⟩)
          have h2 : ¬ rd l i > 4294967295 := fun h => c4 ((maxTo_gt l _ _).mpr ⟨i, by omega, h⟩)
          omega
theorem may_loop (l : List Int) (hb : l.length ≤ 9223372036854775807) : ∀ (d j K : Nat), j + d = l.length → d < K → (∀ i, i < j → 0 ≤ rd l (i : Nat) ∧ rd l (i : Nat) ≤ 4294967295) → duetref06_May.l0 K l j = some (decide (Vok l)) := by
  intro d
  induction d with
  | zero =>
    intro j K hj hK hg
    obtain ⟨K, rfl⟩ : ∃ q, K = q + 1 := ⟨K - 1, by omega⟩
    simp only [duetref06_May.l0]
    rw [if_neg (by omega)]
    have hall : ∀ n ∈ l, 0 ≤ n ∧ n ≤ 4294967295 := fun n hn => by
      obtain ⟨i, hi, rfl⟩ := mem_rd hn
      exact hg i (by omega)
    by_cases c : (l.length : Int) ≥ 1
    · rw [if_pos c]
      congr 1
      by_cases c2 : (l.length : Int) ≤ 16
      · rw [decide_eq_true c2, decide_eq_true]; exact ⟨by omega, by omega, hall⟩
      · rw [decide_eq_false c2, decide_eq_false]; intro h; have := h.2.1; omega
    · rw [if_neg c, decide_eq_false]; intro h; have := h.1; omega
  | succ d ih =>
    intro j K hj hK hg
    obtain ⟨K, rfl⟩ : ∃ q, K = q + 1 := ⟨K - 1, by omega⟩
    simp only [duetref06_May.l0]
    rw [if_pos (by omega), if_pos (by omega)]
    by_cases c1 : rd l j < 0
    · rw [if_pos c1, decide_eq_false]; intro h; have := h.rd j (by omega); omega
    · rw [if_neg c1]
      by_cases c2 : rd l j > 4294967295
      · rw [if_pos c2, decide_eq_false]; intro h; have := h.rd j (by omega); omega
      · rw [if_neg c2, show wrap64 ((j : Int) + 1) = ((j + 1 : Nat) : Int) by unfold wrap64; omega]
        refine ih (j + 1) K (by omega) (by omega) (fun i hi => ?_)
        by_cases c : i < j
        · exact hg i c
        · obtain rfl : i = j := by omega
          omega
theorem may_is (l : List Int) (K : Nat) (hb : l.length ≤ 9223372036854775807) (hK : l.length < K) : duetref06_May.f K l = some (decide (Vok l)) :=
  may_loop l hb l.length 0 K (by omega) hK (fun i hi => by omega)
theorem same_loop (a b : List Int) (h : a.length = b.length) (hb : a.length ≤ 140737488351232) : ∀ (d j K : Nat), j + d = a.length → d < K → duetref01_Same.l0 K a b j = some (decide (a.drop j = b.drop j)) := by
  intro d
  induction d with
  | zero =>
    intro j K hj hK
    obtain ⟨K, rfl⟩ : ∃ q, K = q + 1 := ⟨K - 1, by omega⟩
    simp only [duetref01_Same.l0]
    rw [if_neg (by omega), List.drop_eq_nil_of_le (by omega), List.drop_eq_nil_of_le (by omega)]
    rfl
  | succ d ih =>
    intro j K hj hK
    obtain ⟨K, rfl⟩ : ∃ q, K = q + 1 := ⟨K - 1, by omega⟩
    simp only [duetref01_Same.l0]
    rw [if_pos (by omega), if_pos (by omega), if_pos (by omega), rd_drop a j (by omega), rd_drop b j (by omega)]
    by_cases c : rd a j = rd b j
    · rw [if_pos c, show wrap64 ((j : Int) + 1) = ((j + 1 : Nat) : Int) by unfold wrap64; omega, ih (j + 1) K (by omega) (by omega)]
      congr 1
      simp [c]
    · rw [if_neg c]
      congr 1
      simp [c]
theorem same_is (a b : List Int) (K : Nat) (hb : a.length ≤ 140737488351232) (hK : a.length < K) : duetref01_Same.f K a b = some (decide (a = b)) := by
  unfold duetref01_Same.f
  by_cases c : (a.length : Int) = (b.length : Int)
  · rw [if_pos c]
    exact same_loop a b (by omega) hb a.length 0 K (by omega) hK
  · rw [if_neg c, decide_eq_false]
    intro h; rw [h] at c; exact c rfl
theorem goes_is (l m : List Int) : vec_Vec_goes.f l m = some (decide (T l m)) := by
  unfold vec_Vec_goes.f
  rw [check_is, check_is]
  by_cases c : (l.length : Int) = (m.length : Int)
  · rw [if_pos c, Option.bind_some]
    by_cases c1 : Vok l
    · rw [if_pos c1, if_pos rfl, Option.bind_some]
      by_cases c2 : Vok m
      · rw [if_pos c2, decide_eq_true (show T l m from ⟨by omega, c1, c2⟩)]; rfl
      · rw [if_neg c2, decide_eq_false (show ¬ T l m from fun h => c2 h.2.2)]; rfl
    · rw [if_neg c1, if_neg (by decide), decide_eq_false (show ¬ T l m from fun h => c1 h.2.1)]
  · rw [if_neg c, decide_eq_false (show ¬ T l m from fun h => c (by have := h.1; omega))]
theorem join_is (l m : List Int) : vec_Vec_Join.f l m = some (if T l m then (List.zipWith mx l m, 0) else ([], 1)) := by
  unfold vec_Vec_Join.f
  rw [goes_is, Option.bind_some]
  by_cases c : T l m
  · have h1 := c.2.1.1; have h2 := c.2.1.2.1
    rw [if_pos (decide_eq_true c), if_neg (by omega), if_pos c.1, if_pos (by omega), if_pos c]
  · rw [if_neg (by rw [decide_eq_true_eq]; exact c), if_neg c]
theorem meet_is (l m : List Int) : vec_Vec_Meet.f l m = some (if T l m then (List.zipWith mn l m, 0) else ([], 1)) := by
  unfold vec_Vec_Meet.f
  rw [goes_is, Option.bind_some]
  by_cases c : T l m
  · have h1 := c.2.1.1; have h2 := c.2.1.2.1
    rw [if_pos (decide_eq_true c), if_neg (by omega), if_pos c.1, if_pos (by omega), if_pos c]
  · rw [if_neg (by rw [decide_eq_true_eq]; exact c), if_neg c]

/-! ### Compare -/
/-- Is a number of the first one less than the other's? -/
def lt : List Int → List Int → Bool
  | a :: l, b :: m => decide (a < b) || lt l m
  | _, _ => false
theorem lt_nil (l : List Int) : lt l [] = false := by cases l <;> rfl
theorem nil_lt (l : List Int) : lt [] l = false := rfl
def code (x y : Bool) : Int := (if x then 1 else 0) + (if y then 2 else 0)
theorem or_one (x y : Bool) : Go.bits .or .i64 (code x y) 1 = code true y := by cases x <;> cases y <;> decide
theorem or_two (x y : Bool) : Go.bits .or .i64 (code x y) 2 = code x true := by cases x <;> cases y <;> decide
theorem below_loop (l m : List Int) (hb : l.length ≤ 140737488351232) : ∀ (d j K : Nat), j + d = l.length → 2 * d + 1 < K → duetref06_Below.l0 K l m j = some (!lt (m.drop j) (l.drop j)) := by
  intro d
  induction d with
  | zero =>
    intro j K hj hK
    obtain ⟨K, rfl⟩ : ∃ q, K = q + 1 := ⟨K - 1, by omega⟩
    obtain ⟨K, rfl⟩ : ∃ q, K = q + 1 := ⟨K - 1, by omega⟩
    rw [duetref06_Below.l0, if_neg (by omega), duetref06_Below.j1, if_neg (by decide), List.drop_eq_nil_of_le (show l.length ≤ j by omega), lt_nil]
    rfl
  | succ d ih =>
    intro j K hj hK
    obtain ⟨K, rfl⟩ : ∃ q, K = q + 1 := ⟨K - 1, by omega⟩
    obtain ⟨K, rfl⟩ : ∃ q, K = q + 1 := ⟨K - 1, by omega⟩
    rw [duetref06_Below.l0, if_pos (by omega), duetref06_Below.j1]
    by_cases c : (j : Int) < (m.length : Int)
    · rw [if_pos (decide_eq_true c), if_pos (by omega), if_pos (by omega), if_pos (by omega), rd_drop l j (by omega), rd_drop m j (by omega), show wrap64 ((j : Int) + 1) = ((j + 1 : Nat) : Int) by unfold wrap64; omega, ih (j + 1) K (by omega) (by omega)]
      simp only [lt]
      by_cases c2 : rd l j > rd m j
      · rw [if_pos c2, decide_eq_true (show rd m j < rd l j from c2)]; rfl
      · rw [if_neg c2, decide_eq_false (show ¬ rd m j < rd l j from c2), Bool.false_or]
    · rw [if_neg (by rw [decide_eq_true_eq]; exact c), List.drop_eq_nil_of_le (show m.length ≤ j by omega)]; rfl
theorem below_is (l m : List Int) (K : Nat) (hb : l.length ≤ 140737488351232) (hK : 2 * l.length + 1 < K) : duetref06_Below.f K l m = some (!lt m l) :=
  below_loop l m hb l.length 0 K (by omega) hK
theorem tog_is (l m : List Int) (K : Nat) (hl : l.length ≤ 140737488351232) (hK : l.length < K) (hm : m.length ≤ 140737488351232) (hK' : m.length < K) : duetref06_together.f K l m = some (decide (T l m)) := by
  unfold duetref06_together.f
  rw [may_is l K (by omega) hK, may_is m K (by omega) hK', Option.bind_some]
  by_cases c1 : Vok l
  · rw [if_pos (decide_eq_true c1), Option.bind_some]
    by_cases c2 : Vok m
    · rw [if_pos (decide_eq_true c2)]
      by_cases c : (l.length : Int) = (m.length : Int)
      · rw [decide_eq_true (show T l m from ⟨by omega, c1, c2⟩), c, beq_self_eq_true]
      · rw [decide_eq_false (show ¬ T l m from fun h => c (by have := h.1; omega)), beq_eq_false_iff_ne.mpr c]
    · rw [if_neg (by rw [decide_eq_true_eq]; exact c2), decide_eq_false (show ¬ T l m from fun h => c2 h.2.2)]
  · rw [if_neg (by rw [decide_eq_true_eq]; exact c1), decide_eq_false (show ¬ T l m from fun h => c1 h.2.1)]
theorem refjoin_loop (l m : List Int) (h : l.length = m.length) (hb : l.length ≤ 1000) : ∀ (d j K : Nat) (acc : List Int), j + d = l.length → d < K → acc.length ≤ j → duetref06_Join.l0 K l m acc j = some (acc ++ List.zipWith mx (l.drop j) (m.drop j), 0) := by
  intro d
  induction d with
  | zero =>
    intro j K acc hj hK ha
    obtain ⟨K, rfl⟩ : ∃ q, K = q + 1 := ⟨K - 1, by omega⟩
    simp only [duetref06_Join.l0]
    rw [if_neg (by omega), List.drop_eq_nil_of_le (by omega), List.drop_eq_nil_of_le (by omega), List.zipWith_nil_left, List.append_nil]
  | succ d ih =>
    intro j K acc hj hK ha
    obtain ⟨K, rfl⟩ : ∃ q, K = q + 1 := ⟨K - 1, by omega⟩
    simp only [duetref06_Join.l0]
    rw [if_pos (by omega), if_pos (by omega), if_pos (by omega), if_pos (by omega), rd_drop l j (by omega), rd_drop m j (by omega), show wrap64 ((j : Int) + 1) = ((j + 1 : Nat) : Int) by unfold wrap64; omega, ih (j + 1) K _ (by omega) (by omega) (by rw [List.length_append]; simp only [List.length_cons, List.length_nil]; omega), List.zipWith_cons_cons, List.append_assoc]
    rfl
theorem refmeet_loop (l m : List Int) (h : l.length = m.length) (hb : l.length ≤ 1000) : ∀ (d j K : Nat) (acc : List Int), j + d = l.length → d < K → acc.length ≤ j → duetref06_Meet.l0 K l m acc j = some (acc ++ List.zipWith mn (l.drop j) (m.drop j), 0) := by
  intro d
  induction d with
  | zero =>
    intro j K acc hj hK ha
    obtain ⟨K, rfl⟩ : ∃ q, K = q + 1 := ⟨K - 1, by omega⟩
    simp only [duetref06_Meet.l0]
    rw [if_neg (by omega), List.drop_eq_nil_of_le (by omega), List.drop_eq_nil_of_le (by omega), List.zipWith_nil_left, List.append_nil]
  | succ d ih =>
    intro j K acc hj hK ha
    obtain ⟨K, rfl⟩ : ∃ q, K = q + 1 := ⟨K - 1, by omega⟩
    simp only [duetref06_Meet.l0]
    rw [if_pos (by omega), if_pos (by omega), if_pos (by omega), if_pos (by omega), rd_drop l j (by omega), rd_drop m j (by omega), show wrap64 ((j : Int) + 1) = ((j + 1 : Nat) : Int) by unfold wrap64; omega, ih (j + 1) K _ (by omega) (by omega) (by rw [List.length_append]; simp only [List.length_cons, List.length_nil]; omega), List.zipWith_cons_cons, List.append_assoc]
    rfl
theorem refjoin_is (l m : List Int) (K : Nat) (hl : l.length ≤ 1000) (hm : m.length ≤ 1000) (hK : 3000 ≤ K) : duetref06_Join.f K l m = some (if T l m then (List.zipWith mx l m, 0) else ([], 1)) := by
  unfold duetref06_Join.f
  rw [tog_is l m _ (by omega) (by omega) (by omega) (by omega), Option.bind_some]
  by_cases c : T l m
  · rw [if_pos (decide_eq_true c), if_pos c]
    exact refjoin_loop l m c.1 (by omega) l.length 0 K [] (by omega) (by omega) (Nat.le_refl _)
  · rw [if_neg (by rw [decide_eq_true_eq]; exact c), if_neg c]
theorem refmeet_is (l m : List Int) (K : Nat) (hl : l.length ≤ 1000) (hm : m.length ≤ 1000) (hK : 3000 ≤ K) : duetref06_Meet.f K l m = some (if T l m then (List.zipWith mn l m, 0) else ([], 1)) := by
  unfold duetref06_Meet.f
  rw [tog_is l m _ (by omega) (by omega) (by omega) (by omega), Option.bind_some]
  by_cases c : T l m
  · rw [if_pos (decide_eq_true c), if_pos c]
    exact refmeet_loop l m c.1 (by omega) l.length 0 K [] (by omega) (by omega) (Nat.le_refl _)
  · rw [if_neg (by rw [decide_eq_true_eq]; exact c), if_neg c]

/-! ### Tick, New, Covers -/
theorem rd_int {l : List Int} (h : Vok l) (a : Int) (h0 : 0 ≤ a) (h1 : a < l.length) : 0 ≤ rd l a ∧ rd l a ≤ 4294967295 := by
  have := h.rd a.toNat (by omega)
  rw [Int.toNat_of_nonneg h0] at this; exact this
def fresh (n : Int) : List Int × Int := if 1 ≤ n ∧ n ≤ 16 then (List.replicate n.toNat 0, 0) else ([], 1)
theorem new_is (n : Int) : vec_New.f n = some (fresh n) := by
  unfold vec_New.f fresh
  by_cases c1 : n < 1
  · rw [if_pos c1, if_neg (by omega)]
  · rw [if_neg c1]
    by_cases c2 : n > 16
    · rw [if_pos c2, if_neg (by omega)]
    · rw [if_neg c2, if_pos (by omega), if_pos (by omega), if_pos (by omega)]
theorem zero_loop (n : Nat) (hn : n ≤ 1000) : ∀ (d j K : Nat), j + d = n → d < K → duetref06_Zero.l0 K n (List.replicate j 0) j = some (List.replicate n 0) := by
  intro d
  induction d with
  | zero =>
    intro j K hj hK
    obtain ⟨K, rfl⟩ : ∃ q, K = q + 1 := ⟨K - 1, by omega⟩
    simp only [duetref06_Zero.l0]
    rw [if_neg (by omega), show j = n by omega]
  | succ d ih =>
    intro j K hj hK
    obtain ⟨K, rfl⟩ : ∃ q, K = q + 1 := ⟨K - 1, by omega⟩
    simp only [duetref06_Zero.l0]
    rw [if_pos (by omega), if_pos (by rw [List.length_replicate]; omega), show wrap64 ((j : Int) + 1) = ((j + 1 : Nat) : Int) by unfold wrap64; omega, ← List.replicate_succ', ih (j + 1) K (by omega) (by omega)]
theorem zero_is (n K : Nat) (hn : n ≤ 1000) (hK : n < K) : duetref06_Zero.f K n = some (List.replicate n 0) := zero_loop n hn n 0 K (by omega) hK
/-! ### laws of lists -/
theorem mx_or (a b : Int) : mx a b = a ∨ mx a b = b := by unfold mx; split <;> simp
theorem mn_or (a b : Int) : mn a b = a ∨ mn a b = b := by unfold mn; split <;> simp
theorem mem_zip (f : Int → Int → Int) (hf : ∀ a b, f a b = a ∨ f a b = b) : ∀ (l m : List Int) (n : Int), n ∈ List.zipWith f l m → n ∈ l ∨ n ∈ m
  | [], _, n, h => by simp at h
  | _ :: _, [], n, h => by simp at h
  | a :: l, b :: m, n, h => by
    rw [List.zipWith_cons_cons] at h
    rcases List.mem_cons.mp h with rfl | h
    · rcases hf a b with e | e <;> rw [e] <;> simp
    · rcases mem_zip f hf l m n h with h | h
      · exact .inl (List.mem_cons_of_mem _ h)
      · exact .inr (List.mem_cons_of_mem _ h)
theorem good_zip (f : Int → Int → Int) (hf : ∀ a b, f a b = a ∨ f a b = b) {l m : List Int} (h : T l m) : Vok (List.zipWith f l m) ∧ (List.zipWith f l m).length = l.length := by
  have hl : (List.zipWith f l m).length = l.length := by rw [List.length_zipWith]; have := h.1; omega
  refine ⟨⟨by rw [hl]; exact h.2.1.1, by rw [hl]; exact h.2.1.2.1, fun n hn => ?_⟩, hl⟩
  rcases mem_zip f hf l m n hn with hn | hn
  · exact h.2.1.2.2 n hn
  · exact h.2.2.2.2 n hn
theorem mx_comm (a b : Int) : mx a b = mx b a := by unfold mx; split <;> split <;> omega
theorem mn_comm (a b : Int) : mn a b = mn b a := by unfold mn; split <;> split <;> omega
theorem mx_assoc (a b c : Int) : mx (mx a b) c = mx a (mx b c) := by
  unfold mx
  repeat' split
  all_goals omega
theorem zip_comm (f : Int → Int → Int) (hf : ∀ a b, f a b = f b a) : ∀ l m : List Int, List.zipWith f l m = List.zipWith f m l
  | [], [] => rfl
  | [], _ :: _ => rfl
  | _ :: _, [] => rfl
  | a :: l, b :: m => by rw [List.zipWith_cons_cons, List.zipWith_cons_cons, hf, zip_comm f hf l m]
theorem zip_assoc : ∀ l m n : List Int, List.zipWith mx (List.zipWith mx l m) n = List.zipWith mx l (List.zipWith mx m n)
  | [], _, _ => by simp
  | _ :: _, [], _ => by simp
  | _ :: _, _ :: _, [] => by simp
  | a :: l, b :: m, c :: n => by simp only [List.zipWith_cons_cons, mx_assoc, zip_assoc l m n]
theorem zip_absorb : ∀ l m : List Int, l.length = m.length → List.zipWith mx l (List.zipWith mn l m) = l
  | [], _, _ => by simp
  | a :: l, [], h => by simp at h
  | a :: l, b :: m, h => by
    simp only [List.zipWith_cons_cons]
    rw [zip_absorb l m (by simpa using h)]
    congr 1
    unfold mx mn; repeat' split
    all_goals omega
theorem zip_absorb' : ∀ l m : List Int, l.length = m.length → List.zipWith mn l (List.zipWith mx l m) = l
  | [], _, _ => by simp
  | a :: l, [], h => by simp at h
  | a :: l, b :: m, h => by
    simp only [List.zipWith_cons_cons]
    rw [zip_absorb' l m (by simpa using h)]
    congr 1
    unfold mx mn; repeat' split
    all_goals omega
theorem lt_up : ∀ l m : List Int, l.length = m.length → lt (List.zipWith mx l m) l = false
  | [], _, _ => by simp [lt]
  | a :: l, [], h => by simp at h
  | a :: l, b :: m, h => by
    simp only [List.zipWith_cons_cons, lt]
    rw [lt_up l m (by simpa using h), Bool.or_false, decide_eq_false]
    unfold mx; split <;> omega
theorem lt_least : ∀ l m n : List Int, lt n l = false → lt n m = false → lt n (List.zipWith mx l m) = false
  | [], _, _, _, _ => by simp [lt_nil]
  | _ :: _, [], _, _, _ => by simp [lt_nil]
  | _ :: _, _ :: _, [], _, _ => by simp [lt]
  | a :: l, b :: m, c :: n, h1, h2 => by
    simp only [List.zipWith_cons_cons, lt, Bool.or_eq_false_iff, decide_eq_false_iff_not] at h1 h2 ⊢
    refine ⟨?_, lt_least l m n h1.2 h2.2⟩
    unfold mx; split <;> omega
theorem lt_self : ∀ l : List Int, lt l l = false
  | [] => rfl
  | a :: l => by simp [lt, lt_self l]
theorem lt_eq : ∀ l m : List Int, l.length = m.length → lt l m = false → lt m l = false → l = m
  | [], [], _, _, _ => rfl
  | [], _ :: _, h, _, _ => by simp at h
  | _ :: _, [], h, _, _ => by simp at h
  | a :: l, b :: m, h, h1, h2 => by
    simp only [lt, Bool.or_eq_false_iff, decide_eq_false_iff_not] at h1 h2
    rw [lt_eq l m (by simpa using h) h1.2 h2.2, show a = b by omega]
theorem lt_rd : ∀ (l m : List Int), lt l m = false → ∀ i : Nat, i < l.length → i < m.length → rd m i ≤ rd l i
  | [], _, _, i, h, _ => by simp at h
  | _ :: _, [], _, i, _, h => by simp at h
  | a :: l, b :: m, h, i, h1, h2 => by
    simp only [lt, Bool.or_eq_false_iff, decide_eq_false_iff_not] at h
    cases i with
    | zero => show b ≤ a; omega
    | succ i =>
      have := lt_rd l m h.2 i (by simpa using h1) (by simpa using h2)
      have e : ∀ (x : Int) (l : List Int), rd (x :: l) ((i + 1 : Nat) : Int) = rd l i := fun x l => by
        simp only [rd, Int.toNat_natCast, List.getD_cons_succ]
      rw [e, e]; exact this
theorem code_zero (x y : Bool) : code x y = 0 ↔ x = false ∧ y = false := by cases x <;> cases y <;> decide
theorem code_one (x y : Bool) : code x y = 1 ↔ x = true ∧ y = false := by cases x <;> cases y <;> decide
theorem code_two (x y : Bool) : code x y = 2 ↔ x = false ∧ y = true := by cases x <;> cases y <;> decide
theorem set_facts (l : List Int) : ∀ (i : Nat) (v : Int), i < l.length → rd l i < v → lt l (l.set i v) = true ∧ lt (l.set i v) l = false ∧ List.zipWith mx l (l.set i v) = l.set i v := by
  induction l with
  | nil => intro i v h; simp at h
  | cons a l ih =>
    intro i v h hv
    cases i with
    | zero =>
      have hv : a < v := hv
      refine ⟨?_, ?_, ?_⟩
      · simp [lt, hv]
      · simp [lt, lt_self]; omega
      · simp only [List.set_cons_zero, List.zipWith_cons_cons]
        rw [show mx a v = v by unfold mx; rw [if_pos hv]]
        congr 1
        have : ∀ l : List Int, List.zipWith mx l l = l := fun l => by
          induction l with
          | nil => rfl
          | cons x l ih => rw [List.zipWith_cons_cons, ih, show mx x x = x by unfold mx; split <;> rfl]
        exact this l
    | succ i =>
      have e : rd (a :: l) ((i + 1 : Nat) : Int) = rd l i := by
        simp only [rd, Int.toNat_natCast, List.getD_cons_succ]
      rw [e] at hv
      obtain ⟨h1, h2, h3⟩ := ih i v (by simpa using h) hv
      simp only [List.set_cons_succ, lt, List.zipWith_cons_cons]
      refine ⟨?_, ?_, ?_⟩
      · rw [h1, Bool.or_true]
      · rw [h2, Bool.or_false, decide_eq_false (by omega)]
      · rw [h3, show mx a a = a by unfold mx; split <;> rfl]
theorem zeros_lt : ∀ (l : List Int), (∀ n ∈ l, 0 ≤ n) → lt l (List.replicate l.length 0) = false ∧ List.zipWith mx (List.replicate l.length 0) l = l ∧ List.zipWith mn l (List.replicate l.length 0) = List.replicate l.length 0
  | [], _ => ⟨rfl, rfl, rfl⟩
  | a :: l, h => by
    obtain ⟨h1, h2, h3⟩ := zeros_lt l (fun n hn => h n (List.mem_cons_of_mem _ hn))
    have ha := h a (List.mem_cons_self ..)
    simp only [List.length_cons, List.replicate_succ, lt, List.zipWith_cons_cons]
    refine ⟨?_, ?_, ?_⟩
    · rw [h1, Bool.or_false, decide_eq_false (by omega)]
    · rw [h2]; congr 1; unfold mx; split <;> omega
    · rw [h3]; congr 1; unfold mn; split <;> omega
theorem good_zeros (n : Nat) (h1 : 1 ≤ n) (h2 : n ≤ 16) : Vok (List.replicate n 0) := by
  refine ⟨by rw [List.length_replicate]; exact h1, by rw [List.length_replicate]; exact h2, fun x hx => ?_⟩
  rw [List.mem_replicate] at hx
  omega
end Go.Proofs.Ytiplkmmppihilaa.FrontA
