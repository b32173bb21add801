/- The pure statement of VecAnswers: any Vecs ticked, joined, met, compared, or why not. Conditions: those that it names. -/
import Derived.Test.YtpoigdkbblmpaaaPVecx4
import Derived.Test.YtpoigdkbblmpaaaVecL
namespace Go.Proofs.Ytpoigdkbblmpaaa.Pure
open Go.RowKit Go.Proofs.Ytpoigdkbblmpaaa.PVec Go.Proofs.YtpoigdkbblmpaaaW.PrintWords Go.Proofs.YtpoigdkbblmpaaaW.PrintLast Go.Proofs.YtpoigdkbblmpaaaW.PrintMore Go.Proofs.Ytpoigdkbblmpaaa.VecL
set_option linter.unusedVariables false
set_option linter.unusedSimpArgs false

theorem ticked_len (l : List Int) (a : Int) : (tick l a).1.length ≤ l.length := by
  unfold tick
  split
  · split
    · simp
    · rw [List.length_set]; exact Nat.le_refl _
  · simp
theorem fresh_len (n : Int) : (fresh n).1.length ≤ 16 := by
  unfold fresh
  split
  · rw [List.length_replicate]; omega
  · simp
theorem zipped_len (f : Int → Int → Int) (l m : List Int) : (if T l m then (List.zipWith f l m, (0 : Int)) else ([], 1)).1.length ≤ l.length := by
  split
  · rw [List.length_zipWith]; omega
  · simp
theorem VecAnswers (l m : List Int) (a s : Int) : ∃ k, duetlaw06_VecAnswers.f k l m a s = some true := by
  refine ⟨3000, ?_⟩
  unfold duetlaw06_VecAnswers.f
  rw [live_is, Option.bind_some]
  by_cases c1 : (l.length : Int) > 30
  · rw [if_pos c1]
  · rw [if_neg c1]
    by_cases c2 : (m.length : Int) > 30
    · rw [if_pos c2]
    · have h1 := ticked_len l a
      have h2 := zipped_len mx l m
      have h3 := zipped_len mn l m
      have h4 := fresh_len a
      rw [if_neg c2, if_pos (by rw [List.length_nil]; omega), List.nil_append, Option.bind_some, tick_is l a _ (by omega) (by omega), reftick_is l a _ (by omega) (by omega), join_is, refjoin_is l m _ (by omega) (by omega) (by omega), meet_is, refmeet_is l m _ (by omega) (by omega) (by omega), cmp_is l m _ (by omega), refcmp_is l m _ (by omega) (by omega) (by omega)]
      simp only [Option.bind_some]
      rw [same_is _ _ _ (by omega) (by omega), Option.bind_some, if_pos (decide_eq_true rfl), if_pos trivial, same_is _ _ _ (by omega) (by omega), Option.bind_some, if_pos (decide_eq_true rfl), if_pos trivial, same_is _ _ _ (by omega) (by omega), Option.bind_some, if_pos (decide_eq_true rfl), if_pos trivial, if_pos trivial, if_pos trivial, new_is, refnew_is a _ (by omega), Option.bind_some, Option.bind_some, same_is _ _ _ (by omega) (by omega), Option.bind_some, if_pos (decide_eq_true rfl), if_pos rfl, covers_is, refcovers_is l a s _ (by omega) (by omega), Option.bind_some, Option.bind_some, if_pos (beq_self_eq_true _), check_is, may_is l _ (by omega) (by omega), Option.bind_some, Option.bind_some, same_is _ _ _ (by omega) (by omega), Option.bind_some, if_pos, if_pos (decide_eq_true rfl)]
      by_cases g : Vok l
      · rw [if_pos g, decide_eq_true g]; rfl
      · rw [if_neg g, decide_eq_false g]; rfl

end Go.Proofs.Ytpoigdkbblmpaaa.Pure
