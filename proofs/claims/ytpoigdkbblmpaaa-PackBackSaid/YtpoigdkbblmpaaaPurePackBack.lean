/- The pure statement of PackBack: what is written is read, whatever is behind it. Conditions: those that the statement itself names (kinds and sizes of the arguments). -/
import Derived.Test.YtpoigdkbblmpaaaPackL
namespace Go.Proofs.Ytpoigdkbblmpaaa.Pure
open Go.RowKit Go.Proofs.Ytpoigdkbblmpaaa.PPack Go.Proofs.YtpoigdkbblmpaaaW.PrintWords Go.Proofs.YtpoigdkbblmpaaaW.PrintLast Go.Proofs.Ytpoigdkbblmpaaa.PackL
set_option linter.unusedVariables false
set_option linter.unusedSimpArgs false

theorem back_loop (l : List Int) (b : ByteArray) (hb : b.size ≤ 70000) (hl : l.length ≤ 1100) (K : Nat) (hK : 3000 ≤ K) : ∀ (d j : Nat), j + d = l.length → (∀ n ∈ l.take j, Cl n) → duetlaw01_PackBack.l0 (K + d + 1) l b j = some true := by
  intro d
  induction d with
  | zero =>
    intro j hj hc
    have hall : ∀ n ∈ l, Cl n := by rw [List.take_of_length_le (by omega)] at hc; exact hc
    rw [Nat.add_zero]
    simp only [duetlaw01_PackBack.l0]
    rw [if_neg (by omega)]
    by_cases c : (l.length : Int) > 1000
    · rw [if_pos c, live_is K (by omega)]; rfl
    · have hs := numB_len l.length
      have hbody : (body l).size ≤ 5 * l.length := body_size l
      rw [if_neg c, list_ok l (by omega) hall, Option.bind_some]
      simp only
      rw [if_pos (by rw [ByteArray.size_append, S_size]; omega), each_is _ K (by omega), eachF_S l b (by omega) hall, Option.bind_some, if_pos trivial]
      simp only
      rw [same_is _ _ K (by omega) (by omega), Option.bind_some, if_pos (decide_eq_true rfl), if_pos trivial, if_pos trivial, live_is K (by omega)]
      rfl
  | succ d ih =>
    intro j hj hc
    have ihj := ih (j + 1) (by omega)
    rw [show K + (d + 1) + 1 = (K + d + 1) + 1 by omega]
    have hq : 3000 ≤ K + d + 1 := by omega
    generalize K + d + 1 = q at *
    simp only [duetlaw01_PackBack.l0]
    rw [if_pos (by omega), if_pos (by omega)]
    have hlen := numB_len (rd l j)
    by_cases c : Cl (rd l j)
    · rw [num_okK q (by omega) _ c, Option.bind_some, if_pos rfl]
      simp only
      rw [if_pos (by rw [S_size]; omega), take_S _ _ c, Option.bind_some]
      simp only [if_pos]
      rw [show wrap64 ((j : Int) + 1) = ((j + 1 : Nat) : Int) by unfold wrap64; omega]
      refine ihj (fun n hn => ?_)
      rw [List.take_add_one, List.getElem?_eq_getElem (show j < l.length by omega)] at hn
      rcases List.mem_append.mp hn with hn | hn
      · exact hc n hn
      · have : n = rd l j := by
          simp [rd, List.getD_eq_getElem?_getD, List.getElem?_eq_getElem (show j < l.length by omega)] at hn ⊢
          exact hn
        rw [this]; exact c
    · rw [num_noK q (by omega) _ c, Option.bind_some, if_neg (by decide), live_is q (by omega)]
      rfl

theorem PackBack : duetlaw01_PackBack.Pure := by
  intro s l b _ _ _ _ _
  obtain ⟨K, hK⟩ : ∃ K, 3000 ≤ K := ⟨3000, Nat.le_refl _⟩
  refine ⟨K + l.length + 1 + 1 + 1, ?_⟩
  have hq : 3000 ≤ K + l.length + 1 := by omega
  have hloop := fun (hb : b.size ≤ 70000) (hl : l.length ≤ 1100) => back_loop l b hb hl K hK l.length 0 (by omega) (fun n hn => by simp at hn)
  generalize hg : K + l.length + 1 = q at *
  unfold duetlaw01_PackBack.f duetlaw01_short.f
  rw [Option.bind_some, Option.bind_some]
  have hlive := live_is (q + 1) (by omega)
  by_cases c1 : (s.size : Int) ≤ 70000
  · rw [if_pos (decide_eq_true c1)]
    by_cases c2 : (b.size : Int) ≤ 70000
    · rw [if_pos (decide_eq_true c2)]
      by_cases c3 : (l.length : Int) > 1100
      · rw [show decide ((l.length : Int) > 1100) = true from decide_eq_true c3]
        simp only [duetlaw01_PackBack.j0]
        rw [if_pos trivial, hlive]; rfl
      · rw [show decide ((l.length : Int) > 1100) = false from decide_eq_false c3]
        have hj1 : duetlaw01_PackBack.j1 (q + 1) l b = some true := by
          simp only [duetlaw01_PackBack.j1]
          exact hloop (by omega) (by omega)
        generalize hq1 : q + 1 = q1 at *
        simp only [duetlaw01_PackBack.j0]
        rw [if_neg (by decide), show q1 = (q1 - 1) + 1 by omega, text_is, show q1 - 1 + 1 = q1 by omega]
        have hn := numB_len s.size
        by_cases c4 : (s.size : Int) > 65535
        · rw [if_pos c4, Option.bind_some, if_neg (by decide)]
          exact hj1
        · rw [if_neg c4, Option.bind_some, if_pos rfl]
          simp only
          rw [if_pos (by rw [ByteArray.size_append, S_size]; omega), cut_S s b (by omega), Option.bind_some]
          simp only [if_pos]
          exact hj1
    · rw [if_neg (by rw [decide_eq_true_eq]; exact c2)]
      simp only [duetlaw01_PackBack.j0]
      rw [if_pos trivial, hlive]; rfl
  · rw [if_neg (by rw [decide_eq_true_eq]; exact c1)]
    simp only [duetlaw01_PackBack.j0]
    rw [if_pos trivial, hlive]; rfl

end Go.Proofs.Ytpoigdkbblmpaaa.Pure
