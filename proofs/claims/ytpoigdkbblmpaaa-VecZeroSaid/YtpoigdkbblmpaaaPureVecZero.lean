/- The pure statement of VecZero: zeros are before each other Vec; joined with it they are it. Conditions: those that the statement itself names (kinds and sizes of the arguments). -/
import Derived.Test.YtpoigdkbblmpaaaPVecx8
import Derived.Test.YtpoigdkbblmpaaaVecL
namespace Go.Proofs.Ytpoigdkbblmpaaa.Pure
open Go.RowKit Go.Proofs.Ytpoigdkbblmpaaa.PVec Go.Proofs.YtpoigdkbblmpaaaW.PrintWords Go.Proofs.YtpoigdkbblmpaaaW.PrintLast Go.Proofs.YtpoigdkbblmpaaaW.PrintMore Go.Proofs.Ytpoigdkbblmpaaa.VecL
set_option linter.unusedVariables false
set_option linter.unusedSimpArgs false

theorem VecZero : duetlaw06_VecZero.Pure := by
  intro l _ hl _
  refine ⟨l.length + 1002, ?_⟩
  unfold duetlaw06_VecZero.f
  rw [may_is l _ (by omega) (by omega), Option.bind_some]
  by_cases g : Vok l
  · have h1 := g.1; have h2 := g.2.1
    have gz := good_zeros l.length h1 h2
    have ln : (List.replicate l.length (0 : Int)).length = l.length := List.length_replicate
    have t1 : T (List.replicate l.length 0) l := ⟨ln, gz, g⟩
    have t2 : T l (List.replicate l.length 0) := ⟨ln.symm, g, gz⟩
    obtain ⟨z1, z2, z3⟩ := zeros_lt l (fun n hn => (g.2.2 n hn).1)
    have hf : fresh (l.length : Int) = (List.replicate l.length 0, 0) := by
      unfold fresh; rw [if_pos (by omega), Int.toNat_natCast]
    rw [if_pos (decide_eq_true g), new_is, Option.bind_some, hf]
    simp only
    rw [cmp_is _ _ _ (by omega), join_is, meet_is, if_pos t1, if_pos t1, if_pos t2, Option.bind_some, Option.bind_some, Option.bind_some, if_pos rfl, if_pos rfl, if_pos trivial, z1, z2, z3, duetlaw06_VecZero.j0, if_neg (show ¬ ((0 : Int) != 0) = true by decide)]
    have s1 := same_is l l (l.length + 1001) (by omega) (by omega)
    have s2 := same_is (List.replicate l.length 0) (List.replicate l.length 0) (l.length + 1001) (by rw [ln]; omega) (by rw [ln]; omega)
    have s3 := same_is l (List.replicate l.length 0) (l.length + 1001) (by omega) (by omega)
    rw [s1, s2, s3, zero_is _ _ (by omega) (by omega), Option.bind_some, Option.bind_some, Option.bind_some, Option.bind_some, s2, Option.bind_some, live_is]
    simp only [decide_true, if_true]
    cases hc : lt (List.replicate l.length 0) l with
    | true => rw [if_pos (by decide)]; rfl
    | false =>
      have e : l = List.replicate l.length 0 := lt_eq l _ ln.symm z1 hc
      rw [if_neg (by decide), if_pos (by decide), if_pos (decide_eq_true e)]; rfl
  · rw [if_neg (by rw [decide_eq_true_eq]; exact g), live_is]; rfl

end Go.Proofs.Ytpoigdkbblmpaaa.Pure
