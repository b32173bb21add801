/- The pure statement of PackAgain: what is read is what was written. Conditions: those that the statement itself names (kinds and sizes of the arguments). -/
import Derived.Test.YtpoigdkbblmpaaaPackL
namespace Go.Proofs.Ytpoigdkbblmpaaa.Pure
open Go.RowKit Go.Proofs.Ytpoigdkbblmpaaa.PPack Go.Proofs.YtpoigdkbblmpaaaW.PrintWords Go.Proofs.YtpoigdkbblmpaaaW.PrintLast Go.Proofs.Ytpoigdkbblmpaaa.PackL
set_option linter.unusedVariables false
set_option linter.unusedSimpArgs false

theorem PackAgain : duetlaw01_PackAgain.Pure := by
  intro s hs
  obtain ⟨K, hK⟩ : ∃ K, 3000 ≤ K := ⟨3000, Nat.le_refl _⟩
  refine ⟨K + 1 + 1, ?_⟩
  unfold duetlaw01_PackAgain.f duetlaw01_short.f
  rw [Option.bind_some, live_is (K + 1 + 1) (by omega)]
  by_cases c1 : (s.size : Int) ≤ 70000
  · rw [if_pos (decide_eq_true c1)]
    have hj1 : duetlaw01_PackAgain.j1 (K + 1) s = some true := by
      simp only [duetlaw01_PackAgain.j1]
      rw [each_is s K (by omega), Option.bind_some, live_is K (by omega)]
      rcases eachF_cases s with ⟨l, r, h1, h2, h3, h4⟩ | ⟨e, he, h4⟩
      · have hz := congrArg ByteArray.size h3
        rw [ByteArray.size_append] at hz
        rw [h4, if_pos rfl]
        simp only
        rw [list_ok l h1 h2, Option.bind_some, if_pos rfl]
        simp only
        rw [if_pos (by omega), if_pos (by rw [← h3])]
        rfl
      · rw [h4, if_neg he]
        rfl
    have hj0 : duetlaw01_PackAgain.j0 (K + 1 + 1) s false = some true := by
      generalize hq1 : K + 1 = q1 at *
      simp only [duetlaw01_PackAgain.j0]
      rw [if_neg (by decide)]
      rcases cut_cases s with ⟨t, r, h1, h2, h3⟩ | ⟨e, he, h3⟩
      · have hz := congrArg ByteArray.size h2
        rw [ByteArray.size_append] at hz
        rw [h3, Option.bind_some, if_pos rfl]
        simp only
        rw [show q1 = (q1 - 1) + 1 by omega, text_is, if_neg (by omega), Option.bind_some, if_pos rfl, show q1 - 1 + 1 = q1 by omega]
        simp only
        rw [if_pos (by omega), if_pos (by rw [← h2])]
        exact hj1
      · rw [h3, Option.bind_some, if_neg he]
        exact hj1
    rcases take_cases s with ⟨n, r, hn, h1, h2⟩ | ⟨e, he, h2⟩
    · have hz := congrArg ByteArray.size h1
      rw [ByteArray.size_append] at hz
      rw [h2, Option.bind_some, if_pos rfl]
      simp only
      rw [num_okK _ (by omega) n hn, Option.bind_some, if_pos rfl]
      simp only
      rw [if_pos (by omega), ← h1, show (s.toList != s.toList) = false by simp]
      exact hj0
    · have : ¬ e = 0 := by omega
      rw [h2, Option.bind_some, if_neg this]
      simp only [if_pos]
      rw [if_pos (by rw [toList_empty]; rfl)]
      rfl
  · rw [if_neg (by rw [decide_eq_true_eq]; exact c1)]
    rfl

end Go.Proofs.Ytpoigdkbblmpaaa.Pure
