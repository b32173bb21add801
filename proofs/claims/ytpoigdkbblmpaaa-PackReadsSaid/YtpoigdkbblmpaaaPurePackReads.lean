/- The pure statement of PackReads: whatever bytes, what the program reads is what the reference reads. Conditions: those that the statement itself names (the argument's size). -/
import Derived.Test.YtpoigdkbblmpaaaPackL
namespace Go.Proofs.Ytpoigdkbblmpaaa.Pure
open Go.RowKit Go.Proofs.Ytpoigdkbblmpaaa.PPack Go.Proofs.YtpoigdkbblmpaaaW.PrintWords Go.Proofs.YtpoigdkbblmpaaaW.PrintLast Go.Proofs.Ytpoigdkbblmpaaa.PackL
set_option linter.unusedVariables false
set_option linter.unusedSimpArgs false

theorem PackReads : duetlaw01_PackReads.Pure := by
  intro s _
  obtain ⟨K, hK⟩ : ∃ K, 5000 ≤ K := ⟨5000, Nat.le_refl _⟩
  refine ⟨K, ?_⟩
  unfold duetlaw01_PackReads.f duetlaw01_short.f
  rw [Option.bind_some, live_is K (by omega)]
  by_cases c1 : (s.size : Int) ≤ 70000
  · rw [if_pos (decide_eq_true c1), ref_take s K (by omega), ref_cut s K (by omega), each_is s K (by omega), ref_each s K (by omega)]
    obtain ⟨t, ht⟩ : ∃ t, pack_Take.f s = some t := by
      rcases take_cases s with ⟨n, r, _, _, h⟩ | ⟨e, _, h⟩
      · exact ⟨_, h⟩
      · exact ⟨_, h⟩
    obtain ⟨u, hu⟩ : ∃ u, pack_Cut.f s = some u := by
      rcases cut_cases s with ⟨t, r, _, _, h⟩ | ⟨e, _, h⟩
      · exact ⟨_, h⟩
      · exact ⟨_, h⟩
    have hl := eachF_len s
    simp only [ht, hu, Option.bind_some, if_pos]
    rw [same_is _ _ K (by omega) (by omega), Option.bind_some, if_pos (decide_eq_true rfl)]
  · rw [if_neg (by rw [decide_eq_true_eq]; exact c1)]
    rfl

end Go.Proofs.Ytpoigdkbblmpaaa.Pure
