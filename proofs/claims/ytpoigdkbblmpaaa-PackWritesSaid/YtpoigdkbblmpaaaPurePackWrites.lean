/- The pure statement of PackWrites: whatever number, text and numbers, what the program writes is what the reference writes. Conditions: those that the statement itself names (kinds and sizes of the arguments). -/
import Derived.Test.YtpoigdkbblmpaaaPackL
namespace Go.Proofs.Ytpoigdkbblmpaaa.Pure
open Go.RowKit Go.Proofs.Ytpoigdkbblmpaaa.PPack Go.Proofs.YtpoigdkbblmpaaaW.PrintWords Go.Proofs.YtpoigdkbblmpaaaW.PrintLast Go.Proofs.Ytpoigdkbblmpaaa.PackL
set_option linter.unusedVariables false
set_option linter.unusedSimpArgs false

theorem PackWrites : duetlaw01_PackWrites.Pure := by
  intro n s l _ _ _ _ _
  obtain ⟨K, hK⟩ : ∃ K, 5000 ≤ K := ⟨5000, Nat.le_refl _⟩
  refine ⟨K + 1, ?_⟩
  unfold duetlaw01_PackWrites.f duetlaw01_short.f
  rw [Option.bind_some]
  simp only [duetlaw01_PackWrites.j0]
  by_cases c1 : (s.size : Int) ≤ 70000
  · rw [if_pos (decide_eq_true c1)]
    by_cases c2 : (l.length : Int) > 1100
    · rw [if_pos (decide_eq_true c2), live_is K (by omega)]; rfl
    · rw [if_neg (by rw [decide_eq_true_eq]; exact c2)]
      have e1 : duetref01_Num.f K n = pack_Num.f K n := by
        by_cases c : Cl n
        · rw [ref_okK K (by omega) n c, num_okK K (by omega) n c]
        · rw [ref_noK K (by omega) n c, num_noK K (by omega) n c]
      have e2 : ∃ t, pack_Num.f K n = some t := by
        by_cases c : Cl n
        · exact ⟨_, num_okK K (by omega) n c⟩
        · exact ⟨_, num_noK K (by omega) n c⟩
      have e3 : duetref01_Text.f K s = pack_Text.f K s := by
        rw [show K = (K - 6) + 6 by omega, ref_text, show (K - 6) + 6 = (K - 1) + 1 by omega, text_is]
      have e4 : ∃ t, pack_Text.f K s = some t := by
        rw [show K = (K - 1) + 1 by omega, text_is]
        split
        · exact ⟨_, rfl⟩
        · exact ⟨_, rfl⟩
      have e5 : ∃ t, pack_List.f l = some t := by
        by_cases c3 : 1000 < l.length
        · exact ⟨_, list_far l c3⟩
        · by_cases c4 : ∀ n ∈ l, Cl n
          · exact ⟨_, list_ok l (by omega) c4⟩
          · exact ⟨_, list_no l (by omega) c4⟩
      rw [e1, e3, ref_list l K (by omega), live_is K (by omega)]
      obtain ⟨t, ht⟩ := e2
      obtain ⟨u, hu⟩ := e4
      obtain ⟨v, hv⟩ := e5
      simp only [ht, hu, hv, Option.bind_some, if_pos]
  · rw [if_neg (by rw [decide_eq_true_eq]; exact c1), if_pos trivial, live_is K (by omega)]
    rfl

end Go.Proofs.Ytpoigdkbblmpaaa.Pure
