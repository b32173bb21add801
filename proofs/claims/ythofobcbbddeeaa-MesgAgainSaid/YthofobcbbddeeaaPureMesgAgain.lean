/- The pure statement of MesgAgain: what is read may be, and is what was written. Conditions: those that the statement itself names (kinds and sizes of the arguments). -/
import Derived.Test.YthofobcbbddeeaaPMesgx8
import Derived.Test.YthofobcbbddeeaaMesgL
namespace Go.Proofs.Ythofobcbbddeeaa.Pure
open Go.RowKit Go.Proofs.Ythofobcbbddeeaa.PMesg Go.Proofs.YthofobcbbddeeaaW.PrintWords Go.Proofs.YthofobcbbddeeaaW.PrintLast Go.Proofs.Ythofobcbbddeeaa.MesgL
set_option linter.unusedVariables false
set_option linter.unusedSimpArgs false

theorem MesgAgain : duetlaw04_MesgAgain.Pure := by
  intro s _
  refine ⟨1010, ?_⟩
  have hv : duetlaw04_live.f = some true := rfl
  unfold duetlaw04_MesgAgain.f
  by_cases c : (s.size : Int) > 3000
  · rw [if_pos c, hv]; rfl
  · rw [if_neg c]
    rcases decode_any s 1010 (by omega) with ⟨a0, a1, l, a3, a4, a5, a6, a7, a8, a9, ho, rfl⟩ | ⟨e, he, hd⟩
    · rw [decode_enc ho _ (by omega), Option.bind_some]
      simp only
      rw [if_pos trivial, encode_ok ho _ (by omega), Option.bind_some, check_ok ho, Option.bind_some, if_pos rfl]
      simp only
      rw [if_pos trivial, if_pos trivial, hv]
      rfl
    · rw [hd]
      unfold mesg_Decode.bad
      rw [Option.bind_some]
      simp only
      rw [if_neg he]
      obtain ⟨r, hr, hi⟩ := same_msg 0 0 [] 0 0 0 0 0 0 0 0 0 [] 0 0 0 0 0 0 0 (by simp) 1010 (by simp)
      rw [hr, Option.bind_some, if_pos (hi.mpr ⟨rfl, rfl, rfl, rfl, rfl, rfl, rfl, rfl, rfl, rfl⟩), hv]
      rfl

end Go.Proofs.Ythofobcbbddeeaa.Pure
