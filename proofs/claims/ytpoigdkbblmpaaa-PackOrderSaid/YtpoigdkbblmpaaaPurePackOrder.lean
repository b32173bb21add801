/- The pure statement of PackOrder: a greater number has greater bytes; cut off they are none. Conditions: those that the statement itself names (kinds and sizes of the arguments). -/
import Derived.Test.YtpoigdkbblmpaaaPackL
namespace Go.Proofs.Ytpoigdkbblmpaaa.Pure
open Go.RowKit Go.Proofs.Ytpoigdkbblmpaaa.PPack Go.Proofs.YtpoigdkbblmpaaaW.PrintWords Go.Proofs.YtpoigdkbblmpaaaW.PrintLast Go.Proofs.Ytpoigdkbblmpaaa.PackL
set_option linter.unusedVariables false
set_option linter.unusedSimpArgs false

theorem S_toList (n : Int) : (S n).toList = (numB n).map (fun x => UInt8.ofNat x.toNat) := by
  rw [ByteArray.toList_eq]
  simp [S, strOfNums]
theorem less_cons (x y : Int) (xs ys : List UInt8) (hx : 0 ≤ x ∧ x ≤ 255) (hy : 0 ≤ y ∧ y ≤ 255) :
    Op.bytesLess (UInt8.ofNat x.toNat :: xs) (UInt8.ofNat y.toNat :: ys) = (decide (x < y) || (decide (x = y) && Op.bytesLess xs ys)) := by
  simp only [Op.bytesLess]
  have e1 : (UInt8.ofNat x.toNat < UInt8.ofNat y.toNat) ↔ x < y := by
    rw [UInt8.lt_iff_toNat_lt]
    simp only [UInt8.toNat_ofNat']
    omega
  have e2 : (UInt8.ofNat x.toNat == UInt8.ofNat y.toNat) = decide (x = y) := by
    rw [Bool.eq_iff_iff, beq_iff_eq, decide_eq_true_eq, ← UInt8.toNat_inj]
    simp only [UInt8.toNat_ofNat']
    omega
  rw [e2]
  congr 1
  exact decide_eq_decide.mpr e1
theorem less_nil (xs : List UInt8) : Op.bytesLess xs [] = false := by cases xs <;> rfl
theorem lex4 (a3 a2 a1 a0 b3 b2 b1 b0 : Int) (ha3 : 0 ≤ a3 ∧ a3 ≤ 255) (ha2 : 0 ≤ a2 ∧ a2 ≤ 255) (ha1 : 0 ≤ a1 ∧ a1 ≤ 255) (ha0 : 0 ≤ a0 ∧ a0 ≤ 255) (hb3 : 0 ≤ b3 ∧ b3 ≤ 255) (hb2 : 0 ≤ b2 ∧ b2 ≤ 255) (hb1 : 0 ≤ b1 ∧ b1 ≤ 255) (hb0 : 0 ≤ b0 ∧ b0 ≤ 255) :
    (a3 < b3 ∨ a3 = b3 ∧ (a2 < b2 ∨ a2 = b2 ∧ (a1 < b1 ∨ a1 = b1 ∧ a0 < b0))) ↔ 16777216 * a3 + 65536 * a2 + 256 * a1 + a0 < 16777216 * b3 + 65536 * b2 + 256 * b1 + b0 := by
  rcases Int.lt_trichotomy a3 b3 with h | h | h
  · omega
  · subst h
    rcases Int.lt_trichotomy a2 b2 with h | h | h
    · omega
    · subst h
      omega
    · omega
  · omega
theorem first_byte (n : Int) (h : Cl n) : ∃ r, numB n = (if n < 248 then n else if n > 16777215 then 251 else if n > 65535 then 250 else if n > 255 then 249 else 248) :: r := by
  obtain ⟨h0, h1⟩ := h
  unfold numB
  repeat' split
  · exact ⟨[], by congr 1; omega⟩
  all_goals exact ⟨_, rfl⟩
theorem S_less (n m : Int) (hn : Cl n) (hm : Cl m) : Op.bytesLess (S n).toList (S m).toList = decide (n < m) := by
  rw [S_toList, S_toList]
  obtain ⟨r, e1⟩ := first_byte n hn
  obtain ⟨q, e2⟩ := first_byte m hm
  have b1 := numB_range n
  have b2 := numB_range m
  by_cases hne : (if n < 248 then n else if n > 16777215 then 251 else if n > 65535 then 250 else if n > 255 then 249 else 248) = (if m < 248 then m else if m > 16777215 then 251 else if m > 65535 then 250 else if m > 255 then 249 else 248)
  · obtain ⟨n0, n1⟩ := hn
    obtain ⟨m0, m1⟩ := hm
    clear e1 e2
    unfold numB at b1 b2 ⊢
    by_cases c0 : n < 248
    · have c0' : m < 248 := by repeat' split at hne <;> omega
      rw [if_pos c0, if_pos c0']
      simp only [List.map_cons, List.map_nil]
      rw [less_cons _ _ _ _ (by omega) (by omega), less_nil]
      rw [Bool.eq_iff_iff]
      simp
      omega
    · by_cases c1 : n > 16777215
      · have c1' : m > 16777215 := by repeat' split at hne <;> omega
        rw [if_neg c0, if_pos c1, if_neg (show ¬ m < 248 by omega), if_pos c1']
        simp only [List.map_cons, List.map_nil]
        rw [less_cons _ _ _ _ (by omega) (by omega), less_cons _ _ _ _ (by omega) (by omega), less_cons _ _ _ _ (by omega) (by omega), less_cons _ _ _ _ (by omega) (by omega), less_cons _ _ _ _ (by omega) (by omega), less_nil]
        rw [Bool.eq_iff_iff]
        have hn4 : n = 16777216 * (n / 16777216 % 256) + 65536 * (n / 65536 % 256) + 256 * (n / 256 % 256) + n % 256 := by omega
        have hm4 : m = 16777216 * (m / 16777216 % 256) + 65536 * (m / 65536 % 256) + 256 * (m / 256 % 256) + m % 256 := by omega
        have hl4 := lex4 (n / 16777216 % 256) (n / 65536 % 256) (n / 256 % 256) (n % 256) (m / 16777216 % 256) (m / 65536 % 256) (m / 256 % 256) (m % 256) (by omega) (by omega) (by omega) (by omega) (by omega) (by omega) (by omega) (by omega)
        rw [← hn4, ← hm4] at hl4
        simp only [Int.lt_irrefl, decide_false, decide_true, Bool.true_and, Bool.false_or, Bool.or_eq_true, Bool.and_eq_true, decide_eq_true_eq, Bool.and_false, Bool.or_false]
        exact hl4
      · by_cases c2 : n > 65535
        · have c2' : m ≤ 16777215 ∧ m > 65535 := by repeat' split at hne <;> omega
          rw [if_neg c0, if_neg c1, if_pos c2, if_neg (show ¬ m < 248 by omega), if_neg (show ¬ m > 16777215 by omega), if_pos c2'.2]
          simp only [List.map_cons, List.map_nil]
          rw [less_cons _ _ _ _ (by omega) (by omega), less_cons _ _ _ _ (by omega) (by omega), less_cons _ _ _ _ (by omega) (by omega), less_cons _ _ _ _ (by omega) (by omega), less_nil]
          rw [Bool.eq_iff_iff]
          simp
          omega
        · by_cases c3 : n > 255
          · have c3' : m ≤ 65535 ∧ m > 255 := by repeat' split at hne <;> omega
            rw [if_neg c0, if_neg c1, if_neg c2, if_pos c3, if_neg (show ¬ m < 248 by omega), if_neg (show ¬ m > 16777215 by omega), if_neg (show ¬ m > 65535 by omega), if_pos c3'.2]
            simp only [List.map_cons, List.map_nil]
            rw [less_cons _ _ _ _ (by omega) (by omega), less_cons _ _ _ _ (by omega) (by omega), less_cons _ _ _ _ (by omega) (by omega), less_nil]
            rw [Bool.eq_iff_iff]
            simp
            omega
          · have c4' : m ≤ 255 ∧ 248 ≤ m := by repeat' split at hne <;> omega
            rw [if_neg c0, if_neg c1, if_neg c2, if_neg c3, if_neg (show ¬ m < 248 by omega), if_neg (show ¬ m > 16777215 by omega), if_neg (show ¬ m > 65535 by omega), if_neg (show ¬ m > 255 by omega)]
            simp only [List.map_cons, List.map_nil]
            rw [less_cons _ _ _ _ (by omega) (by omega), less_cons _ _ _ _ (by omega) (by omega), less_nil]
            rw [Bool.eq_iff_iff]
            simp
            omega
  · rw [e1] at b1
    rw [e2] at b2
    rw [e1, e2]
    simp only [List.map_cons]
    rw [less_cons _ _ _ _ (b1 _ List.mem_cons_self) (b2 _ List.mem_cons_self), decide_eq_false hne, Bool.false_and, Bool.or_false]
    obtain ⟨n0, n1⟩ := hn
    obtain ⟨m0, m1⟩ := hm
    clear b1 b2 e1 e2
    rw [decide_eq_decide]
    repeat' split at hne
    all_goals omega

theorem PackOrder : duetlaw01_PackOrder.Pure := by
  intro n m c _ _ _
  obtain ⟨K, hK⟩ : ∃ K, 3000 ≤ K := ⟨3000, Nat.le_refl _⟩
  refine ⟨K + 1 + 1 + 1, ?_⟩
  unfold duetlaw01_PackOrder.f
  have hlive := fun q (h : 30 ≤ q) => live_is q h
  have hend : ∀ a b, duetlaw01_PackOrder.j0 (K + 1 + 1 + 1) n m c a b true = some true := by
    intro a b
    simp only [duetlaw01_PackOrder.j0]
    rw [if_pos trivial, hlive _ (by omega)]; rfl
  by_cases h1 : Cl n
  · by_cases h2 : Cl m
    · rw [num_okK _ (by omega) n h1, num_okK _ (by omega) m h2, Option.bind_some, Option.bind_some, if_pos rfl]
      simp only
      have hz := numB_len n
      have hj2 : c < 0 ∨ (S n).size ≤ c → duetlaw01_PackOrder.j2 (K + 1) c (S n) true = some true := by
        intro _
        simp only [duetlaw01_PackOrder.j2]
        rw [if_pos trivial, hlive _ (by omega)]; rfl
      have hj1 : duetlaw01_PackOrder.j1 (K + 1 + 1) c (S n) false = some true := by
        simp only [duetlaw01_PackOrder.j1]
        rw [if_neg (by decide)]
        by_cases d1 : c < 0
        · rw [if_pos d1]; exact hj2 (.inl d1)
        · rw [if_neg d1]
          by_cases d2 : c ≥ ((S n).size : Int)
          · rw [show decide (c ≥ ((S n).size : Int)) = true from decide_eq_true d2]; exact hj2 (.inr d2)
          · rw [show decide (c ≥ ((S n).size : Int)) = false from decide_eq_false d2]
            simp only [duetlaw01_PackOrder.j2]
            rw [if_neg (by decide), if_pos (by omega), if_pos (by omega), take_cut n c.toNat h1 (by omega), Option.bind_some, if_pos rfl, hlive _ (by omega)]
            rfl
      have he : ((0 : Int) != 0) = false := rfl
      rw [he]
      simp only [duetlaw01_PackOrder.j0]
      rw [if_neg (by decide), if_neg (by rw [S_size]; omega), if_neg (by rw [S_size]; omega), S_less n m h1 h2, show (decide (n < m) != decide (n < m)) = false by simp]
      exact hj1
    · rw [num_okK _ (by omega) n h1, num_noK _ (by omega) m h2, Option.bind_some, Option.bind_some, if_pos rfl]
      exact hend _ _
  · obtain ⟨t, ht⟩ : ∃ t, pack_Num.f (K + 1 + 1 + 1) m = some t := by
      by_cases h2 : Cl m
      · exact ⟨_, num_okK _ (by omega) m h2⟩
      · exact ⟨_, num_noK _ (by omega) m h2⟩
    rw [num_noK _ (by omega) n h1, ht, Option.bind_some, Option.bind_some, if_neg (by decide)]
    exact hend _ _

end Go.Proofs.Ytpoigdkbblmpaaa.Pure
