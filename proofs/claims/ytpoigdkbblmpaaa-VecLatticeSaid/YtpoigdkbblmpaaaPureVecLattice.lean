/- The pure statement of VecLattice: joined or met it is the same whichever way round, and of three as one likes. Conditions: those that the statement itself names (kinds and sizes of the arguments). -/
import Derived.Test.YtpoigdkbblmpaaaPVecx5
import Derived.Test.YtpoigdkbblmpaaaVecL
namespace Go.Proofs.Ytpoigdkbblmpaaa.Pure
open Go.RowKit Go.Proofs.Ytpoigdkbblmpaaa.PVec Go.Proofs.YtpoigdkbblmpaaaW.PrintWords Go.Proofs.YtpoigdkbblmpaaaW.PrintLast Go.Proofs.YtpoigdkbblmpaaaW.PrintMore Go.Proofs.Ytpoigdkbblmpaaa.VecL
set_option linter.unusedVariables false
set_option linter.unusedSimpArgs false

theorem VecLattice : duetlaw06_VecLattice.Pure := by
  intro a b c _ ha _ _ hb _ _ hc _
  refine ⟨a.length + b.length + c.length + 1005, ?_⟩
  unfold duetlaw06_VecLattice.f
  rw [may_is a _ (by omega) (by omega), may_is b _ (by omega) (by omega), may_is c _ (by omega) (by omega), Option.bind_some, Option.bind_some, Option.bind_some]
  obtain ⟨K, hK, hKe⟩ : ∃ K, 1000 ≤ K ∧ a.length + b.length + c.length + 1005 = K + 5 := ⟨a.length + b.length + c.length + 1000, by omega, by omega⟩
  rw [hKe]
  have hj : duetlaw06_VecLattice.j0 (K + 5) a b c true = some true := by
    rw [duetlaw06_VecLattice.j0, if_pos rfl, live_is]; rfl
  rw [hj]
  by_cases ga : Vok a
  · rw [if_pos (decide_eq_true ga)]
    by_cases gb : Vok b
    · rw [if_pos (decide_eq_true gb)]
      by_cases gc : Vok c
      · rw [if_pos (decide_eq_true gc)]
        by_cases e1 : (a.length : Int) = (b.length : Int)
        · rw [if_pos e1]
          by_cases e2 : (b.length : Int) = (c.length : Int)
          · rw [e2, bne_self_eq_false, duetlaw06_VecLattice.j0, if_neg (by decide)]
            have tab : T a b := ⟨by omega, ga, gb⟩
            have tba : T b a := ⟨by omega, gb, ga⟩
            have tbc : T b c := ⟨by omega, gb, gc⟩
            obtain ⟨gu, lu⟩ := good_zip mx mx_or tab
            obtain ⟨gv, lv⟩ := good_zip mx mx_or tbc
            obtain ⟨gm, lm⟩ := good_zip mn mn_or tab
            have tuc : T (List.zipWith mx a b) c := ⟨by omega, gu, gc⟩
            have tav : T a (List.zipWith mx b c) := ⟨by omega, ga, gv⟩
            have tau : T a (List.zipWith mx a b) := ⟨by omega, ga, gu⟩
            have tam : T a (List.zipWith mn a b) := ⟨by omega, ga, gm⟩
            obtain ⟨gx, lx⟩ := good_zip mx mx_or tuc
            have bu := gu.2.1; have bx := gx.2.1; have bm := gm.2.1; have ba := ga.2.1
            rw [join_is a b, join_is b a, join_is b c, if_pos tab, if_pos tba, if_pos tbc]
            simp only [Option.bind_some]
            rw [join_is _ c, if_pos tuc, join_is a _, if_pos tav, Option.bind_some, Option.bind_some, zip_comm mx mx_comm b a, same_is _ _ _ (by omega) (by omega), Option.bind_some, if_pos (decide_eq_true rfl)]
            simp only
            rw [zip_assoc, same_is _ _ _ (by rw [← zip_assoc]; omega) (by rw [← zip_assoc]; omega), Option.bind_some, decide_eq_true rfl, Bool.not_true, duetlaw06_VecLattice.j1, if_neg (by decide), cmp_is _ _ _ (by omega), if_pos tau, Option.bind_some, lt_up a b (by omega)]
            have hj3 : duetlaw06_VecLattice.j3 (K + 2) a b c c (List.zipWith mx a b) false = some true := by
              rw [duetlaw06_VecLattice.j3, if_neg (by decide), below_is _ _ _ (by omega) (by omega), below_is _ _ _ (by omega) (by omega), Option.bind_some, Option.bind_some]
              have h4 : duetlaw06_VecLattice.j4 (K + 1) c (List.zipWith mx a b) false = some true := by
                rw [duetlaw06_VecLattice.j4, if_neg (by decide), live_is]; rfl
              cases r1 : lt c a with
              | true => rw [Bool.not_true, if_neg (by decide)]; exact h4
              | false =>
                rw [Bool.not_false, if_pos rfl]
                cases r2 : lt c b with
                | true => exact h4
                | false =>
                  rw [Bool.not_false, duetlaw06_VecLattice.j4, if_pos rfl, cmp_is _ _ _ (by omega), if_pos tuc, Option.bind_some, lt_least a b c r1 r2, live_is]
                  cases lt (List.zipWith mx a b) c
                  · rw [if_pos (by decide)]; rfl
                  · rw [if_neg (by decide), if_pos (by decide)]; rfl
            have hj2 : duetlaw06_VecLattice.j2 (K + 3) a b c a b c (List.zipWith mx a b) false = some true := by
              rw [duetlaw06_VecLattice.j2, if_neg (by decide), meet_is, meet_is, meet_is, if_pos tab, if_pos tba, if_pos tau, Option.bind_some, Option.bind_some]
              simp only
              rw [join_is, if_pos tam, Option.bind_some, Option.bind_some]
              simp only
              rw [zip_comm mn mn_comm b a, same_is _ _ _ (by omega) (by omega), Option.bind_some, if_pos (decide_eq_true rfl), zip_absorb a b (by omega), zip_absorb' a b (by omega), same_is _ _ _ (by omega) (by omega), Option.bind_some, if_pos (decide_eq_true rfl), Option.bind_some, decide_eq_true rfl]
              exact hj3
            cases lt a (List.zipWith mx a b)
            · rw [if_pos (by decide)]; exact hj2
            · rw [if_neg (by decide), show ((code true false, (0 : Int)).1 != 1) = false from by decide]; exact hj2
          · rw [show ((b.length : Int) != (c.length : Int)) = true from bne_iff_ne.mpr e2, hj]
        · rw [if_neg e1]
      · rw [if_neg (by rw [decide_eq_true_eq]; exact gc)]
    · rw [if_neg (by rw [decide_eq_true_eq]; exact gb)]
  · rw [if_neg (by rw [decide_eq_true_eq]; exact ga)]

end Go.Proofs.Ytpoigdkbblmpaaa.Pure
