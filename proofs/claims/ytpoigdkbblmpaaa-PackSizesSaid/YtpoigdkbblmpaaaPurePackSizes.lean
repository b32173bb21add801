/- The pure statement of PackSizes: how many bytes numbers, texts and lists have. Conditions: those that the statement itself names (kinds and sizes of the arguments). -/
import Derived.Test.YtpoigdkbblmpaaaPackL
namespace Go.Proofs.Ytpoigdkbblmpaaa.Pure
open Go.RowKit Go.Proofs.Ytpoigdkbblmpaaa.PPack Go.Proofs.YtpoigdkbblmpaaaW.PrintWords Go.Proofs.YtpoigdkbblmpaaaW.PrintLast Go.Proofs.Ytpoigdkbblmpaaa.PackL
set_option linter.unusedVariables false
set_option linter.unusedSimpArgs false

theorem numB_sizes (n : Int) (h : Cl n) : (((S n).size : Int) = 1 ↔ n < 248) ∧ (((S n).size : Int) = 2 ↔ (248 ≤ n ∧ n < 256)) ∧ (((S n).size : Int) = 5 ↔ 16777216 ≤ n) := by
  obtain ⟨h0, h1⟩ := h
  rw [S_size]
  unfold numB
  repeat' split
  all_goals
    simp only [List.length_cons, List.length_nil]
    omega
theorem beqd (a b : Int) (p : Prop) [Decidable p] (h : a = b ↔ p) : ((a == b) != decide p) = false := by
  have : (a == b) = decide p := by rw [Bool.eq_iff_iff, beq_iff_eq, decide_eq_true_eq]; exact h
  rw [this]; simp
theorem sizes_end (s : ByteArray) (l : List Int) (hs : s.size ≤ 70000) (hl : l.length ≤ 1000) (hc : ∀ n ∈ l, Cl n) (q : Nat) (hq : 3000 ≤ q) (x7 : Int) (hx : x7 = (S l.length).size + (body l).size) :
    ((pack_List.f l).bind fun bt331 => ((pack_Text.f q s).bind fun bt333 => ((pack_Num.f q (s.size : Int)).bind fun bt335 => (if (bt331.1.size : Int) = x7 then (if bt333.2 = 0 then (if (bt333.1.size : Int) = (wrap64 ((bt335.1.size : Int) + (s.size : Int))) then ((duetlaw01_live.f q).bind fun t337 => (some t337)) else (none)) else ((duetlaw01_live.f q).bind fun t338 => (some t338))) else (none))))) = some true := by
  have hn := numB_len s.size
  rw [list_ok l hl hc, Option.bind_some, show q = (q - 1) + 1 by omega, text_is, num_ok _ _ ⟨by omega, by omega⟩, live_is _ (by omega)]
  by_cases c : (s.size : Int) > 65535
  · rw [if_pos c, Option.bind_some, Option.bind_some]
    simp only
    rw [if_pos (by rw [ByteArray.size_append, hx]; omega), if_neg (by decide)]
    rfl
  · rw [if_neg c, Option.bind_some, Option.bind_some]
    simp only
    rw [if_pos (by rw [ByteArray.size_append, hx]; omega), if_pos trivial, if_pos (by rw [ByteArray.size_append, S_size]; unfold wrap64; omega)]
    rfl
theorem sizes_loop (s : ByteArray) (l : List Int) (hs : s.size ≤ 70000) (hl : l.length ≤ 1000) (K : Nat) (hK : 3000 ≤ K) : ∀ (d j : Nat) (x7 : Int), j + d = l.length → (∀ n ∈ l.take j, Cl n) → x7 + (body (l.drop j)).size = (S l.length).size + (body l).size → 0 ≤ x7 →
    duetlaw01_PackSizes.l0 (K + d + 1) s l x7 j = some true := by
  intro d
  have hbl := body_size l
  have hsl := numB_len l.length
  have hS := S_size (l.length : Int)
  induction d with
  | zero =>
    intro j x7 hj hc hx h0
    have hall : ∀ n ∈ l, Cl n := by rw [List.take_of_length_le (by omega)] at hc; exact hc
    rw [Nat.add_zero]
    simp only [duetlaw01_PackSizes.l0]
    rw [if_neg (by omega)]
    refine sizes_end s l hs hl hall K hK x7 ?_
    rw [List.drop_eq_nil_of_le (by omega)] at hx
    have : (body []).size = 0 := rfl
    omega
  | succ d ih =>
    intro j x7 hj hc hx h0
    have ihj := ih (j + 1)
    rw [show K + (d + 1) + 1 = (K + d + 1) + 1 by omega]
    have hq : 3000 ≤ K + d + 1 := by omega
    generalize K + d + 1 = q at *
    simp only [duetlaw01_PackSizes.l0]
    rw [if_pos (by omega), if_pos (by omega)]
    have hlen := numB_len (rd l j)
    by_cases c : Cl (rd l j)
    · rw [num_okK q (by omega) _ c, Option.bind_some, if_pos rfl]
      simp only
      obtain ⟨z1, z2, z3⟩ := numB_sizes _ c
      rw [rd_drop l j (by omega), body, ByteArray.size_append] at hx
      have hz : ((S (rd l j)).size : Int) ≤ 5 := by rw [S_size]; omega
      have hx7 : x7 ≤ 10000 := by omega
      have hnext : duetlaw01_PackSizes.l0 q s l (wrap64 (x7 + ((S (rd l j)).size : Int))) (wrap64 ((j : Int) + 1)) = some true := by
        rw [show wrap64 ((j : Int) + 1) = ((j + 1 : Nat) : Int) by unfold wrap64; omega, show wrap64 (x7 + ((S (rd l j)).size : Int)) = x7 + ((S (rd l j)).size : Int) by clear hx; unfold wrap64; omega]
        refine ihj _ (by omega) (fun n hn => ?_) (by omega) (by omega)
        rw [List.take_add_one, List.getElem?_eq_getElem (show j < l.length by omega)] at hn
        rcases List.mem_append.mp hn with hn | hn
        · exact hc n hn
        · have : n = rd l j := by
            simp [rd, List.getD_eq_getElem?_getD, List.getElem?_eq_getElem (show j < l.length by omega)] at hn ⊢
            exact hn
          rw [this]; exact c
      rw [if_neg (by rw [beqd _ _ _ z1]; decide)]
      by_cases g : rd l j ≥ 248
      · rw [if_pos g, if_neg (by rw [beqd _ _ (rd l j < 256) (by omega)]; decide), if_neg (by rw [beqd _ _ (rd l j ≥ 16777216) (by omega)]; decide)]
        exact hnext
      · have e2 : (((S (rd l j)).size : Int) == 2) = false := by rw [beq_eq_false_iff_ne]; omega
        rw [if_neg g, if_neg (by rw [e2]; decide), if_neg (by rw [beqd _ _ (rd l j ≥ 16777216) (by omega)]; decide)]
        exact hnext
    · rw [num_noK q (by omega) _ c, Option.bind_some, if_neg (by decide), live_is q (by omega)]
      rfl

theorem PackSizes : duetlaw01_PackSizes.Pure := by
  intro s l _ _ _ _
  obtain ⟨K, hK⟩ : ∃ K, 3000 ≤ K := ⟨3000, Nat.le_refl _⟩
  refine ⟨K + l.length + 1 + 1, ?_⟩
  have hq : 3000 ≤ K + l.length + 1 := by omega
  have hloop := fun (hs : s.size ≤ 70000) (hl : l.length ≤ 1000) => sizes_loop s l hs hl K hK l.length 0 (S l.length).size (by omega) (fun n hn => by simp at hn) (by rw [List.drop_zero]) (by omega)
  generalize hg : K + l.length + 1 = q at *
  unfold duetlaw01_PackSizes.f duetlaw01_short.f
  rw [Option.bind_some]
  have hlive := live_is q (by omega)
  by_cases c1 : (s.size : Int) ≤ 70000
  · rw [if_pos (decide_eq_true c1)]
    by_cases c3 : (l.length : Int) > 1000
    · rw [show decide ((l.length : Int) > 1000) = true from decide_eq_true c3]
      simp only [duetlaw01_PackSizes.j0]
      rw [if_pos trivial, hlive]; rfl
    · rw [show decide ((l.length : Int) > 1000) = false from decide_eq_false c3]
      simp only [duetlaw01_PackSizes.j0]
      rw [if_neg (by decide), num_okK q (by omega) _ ⟨by omega, by omega⟩, Option.bind_some]
      exact hloop (by omega) (by omega)
  · rw [if_neg (by rw [decide_eq_true_eq]; exact c1)]
    simp only [duetlaw01_PackSizes.j0]
    rw [if_pos trivial, hlive]; rfl

end Go.Proofs.Ytpoigdkbblmpaaa.Pure
