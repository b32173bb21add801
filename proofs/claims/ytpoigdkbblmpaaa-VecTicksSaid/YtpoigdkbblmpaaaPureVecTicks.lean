/- The pure statement of VecTicks: a Vec behind a tick is after it, covers one more. Conditions: those that the statement itself names (kinds and sizes of the arguments). -/
import Derived.Test.YtpoigdkbblmpaaaPVecx6
import Derived.Test.YtpoigdkbblmpaaaVecL
namespace Go.Proofs.Ytpoigdkbblmpaaa.Pure
open Go.RowKit Go.Proofs.Ytpoigdkbblmpaaa.PVec Go.Proofs.YtpoigdkbblmpaaaW.PrintWords Go.Proofs.YtpoigdkbblmpaaaW.PrintLast Go.Proofs.YtpoigdkbblmpaaaW.PrintMore Go.Proofs.Ytpoigdkbblmpaaa.VecL
set_option linter.unusedVariables false
set_option linter.unusedSimpArgs false

theorem VecTicks : duetlaw06_VecTicks.Pure := by
  intro l a _ hl _ _
  refine ⟨1002, ?_⟩
  unfold duetlaw06_VecTicks.f
  rw [tick_is l a _ (by omega) (by omega), Option.bind_some]
  unfold tick
  by_cases c : Vok l ∧ 0 ≤ a ∧ a < l.length
  · rw [if_pos c]
    obtain ⟨g, h0, h1⟩ := c
    have g2 := g.2.1
    by_cases c5 : rd l a = 4294967295
    · rw [if_pos c5, if_neg (by decide), if_pos (by decide), live_is]; rfl
    · rw [if_neg c5]
      obtain ⟨i, rfl⟩ : ∃ i : Nat, a = i := ⟨a.toNat, by omega⟩
      rw [Int.toNat_natCast]
      have hr := g.rd i (by omega)
      have ln : (l.set i (rd l i + 1)).length = l.length := List.length_set
      have rs : rd (l.set i (rd l i + 1)) i = rd l i + 1 := by
        rw [rd_at _ i (by omega), List.getElem_set_self]
      have g' : Vok (l.set i (rd l i + 1)) := by
        refine ⟨by rw [ln]; exact g.1, by rw [ln]; exact g.2.1, fun n hn => ?_⟩
        rcases List.mem_or_eq_of_mem_set hn with h | h
        · exact g.2.2 n h
        · omega
      obtain ⟨s1, s2, s3⟩ := set_facts l i (rd l i + 1) (by omega) (by omega)
      have t1 : T l (l.set i (rd l i + 1)) := ⟨ln.symm, g, g'⟩
      have t2 : T (l.set i (rd l i + 1)) l := ⟨ln, g', g⟩
      have hw : wrap64 (rd l i + 1) = rd l i + 1 := by unfold wrap64; omega
      have v1 : covers (l.set i (rd l i + 1)) i (rd l i + 1) = true := decide_eq_true ⟨g', by omega, by omega, by omega, by rw [rs]; omega⟩
      have v2 : covers l i (rd l i + 1) = false := decide_eq_false (fun h => by have := h.2.2.2.2; omega)
      simp only
      rw [if_pos trivial, if_pos (by omega), if_neg (by omega), if_neg (by omega), cmp_is _ _ _ (by omega), cmp_is _ _ _ (by omega), join_is, if_pos t1, if_pos t2, if_pos t1, Option.bind_some, Option.bind_some, Option.bind_some, if_pos rfl, if_pos rfl, if_pos rfl, s1, s2, s3, if_pos (by decide), if_pos (by decide), same_is _ _ _ (by show (l.set i (rd l i + 1)).length ≤ _; omega) (by show (l.set i (rd l i + 1)).length < _; omega), Option.bind_some, if_pos (decide_eq_true rfl), if_pos (by omega), if_pos (by omega), hw, covers_is, v1, covers_is, v2, Option.bind_some, Option.bind_some, if_pos rfl, if_neg (by decide), if_pos (by omega), if_pos rs, live_is]
      rfl
  · rw [if_neg c, if_neg (by decide), if_pos (by decide), live_is]; rfl

end Go.Proofs.Ytpoigdkbblmpaaa.Pure
