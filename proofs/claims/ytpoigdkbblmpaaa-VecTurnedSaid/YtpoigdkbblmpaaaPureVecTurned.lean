/- The pure statement of VecTurned: two compared the other way round stand the other way round. Conditions: those that the statement itself names (kinds and sizes of the arguments). -/
import Derived.Test.YtpoigdkbblmpaaaPVecx7
import Derived.Test.YtpoigdkbblmpaaaVecL
namespace Go.Proofs.Ytpoigdkbblmpaaa.Pure
open Go.RowKit Go.Proofs.Ytpoigdkbblmpaaa.PVec Go.Proofs.YtpoigdkbblmpaaaW.PrintWords Go.Proofs.YtpoigdkbblmpaaaW.PrintLast Go.Proofs.YtpoigdkbblmpaaaW.PrintMore Go.Proofs.Ytpoigdkbblmpaaa.VecL
set_option linter.unusedVariables false
set_option linter.unusedSimpArgs false

theorem VecTurned : duetlaw06_VecTurned.Pure := by
  intro l m _ hl _ _ hm _
  refine ⟨1002, ?_⟩
  unfold duetlaw06_VecTurned.f
  have hj0 : duetlaw06_VecTurned.j0 1002 l m true = some true := by
    rw [duetlaw06_VecTurned.j0, if_pos rfl, live_is]; rfl
  by_cases c1 : (l.length : Int) > 30
  · rw [if_pos c1]; exact hj0
  · rw [if_neg c1]
    by_cases c2 : (m.length : Int) > 30
    · rw [decide_eq_true c2]; exact hj0
    · rw [decide_eq_false c2, duetlaw06_VecTurned.j0, if_neg (by decide), cmp_is l m _ (by omega), cmp_is m l _ (by omega), cmp_is l l _ (by omega), Option.bind_some, Option.bind_some, Option.bind_some]
      by_cases c : T l m
      · have c' : T m l := ⟨c.1.symm, c.2.2, c.2.1⟩
        have c'' : T l l := ⟨rfl, c.2.1, c.2.1⟩
        rw [if_pos c, if_pos c', if_pos c'', if_pos rfl, if_pos rfl, duetlaw06_VecTurned.j1]
        have hs := same_is l m 1000 (by omega) (by omega)
        have he : (code (lt l m) (lt m l) == 0) = decide (l = m) := by
          by_cases e : l = m
          · rw [decide_eq_true e, ← e, lt_self]; rfl
          · rw [decide_eq_false e, beq_eq_false_iff_ne]
            intro h
            obtain ⟨h1, h2⟩ := (code_zero _ _).mp h
            exact e (lt_eq l m c.1 h1 h2)
        rw [lt_self, if_neg (by decide), if_pos rfl, hs, Option.bind_some, he, if_pos (beq_self_eq_true _), live_is]
        simp only
        rw [if_pos (by cases lt l m <;> cases lt m l <;> decide), if_pos (by cases lt l m <;> cases lt m l <;> decide), if_pos, if_pos (by decide)]
        · rfl
        · rw [← he]
          cases lt l m <;> cases lt m l <;> decide
      · have c' : ¬ T m l := fun h => c ⟨h.1.symm, h.2.2, h.2.1⟩
        rw [if_neg c, if_neg c', if_pos rfl, if_neg (by decide), duetlaw06_VecTurned.j1, if_neg (by decide), if_neg (by decide), if_pos rfl, if_pos rfl, live_is]
        rfl

end Go.Proofs.Ytpoigdkbblmpaaa.Pure
