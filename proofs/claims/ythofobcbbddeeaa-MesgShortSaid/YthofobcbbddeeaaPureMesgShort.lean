/- The pure statement of MesgShort: a message has few bytes. Conditions: those that the statement itself names (kinds and sizes of the arguments). -/
import Derived.Test.YthofobcbbddeeaaPMesgx8
import Derived.Test.YthofobcbbddeeaaMesgL
namespace Go.Proofs.Ythofobcbbddeeaa.Pure
open Go.RowKit Go.Proofs.Ythofobcbbddeeaa.PMesg Go.Proofs.YthofobcbbddeeaaW.PrintWords Go.Proofs.YthofobcbbddeeaaW.PrintLast Go.Proofs.Ythofobcbbddeeaa.MesgL
set_option linter.unusedVariables false
set_option linter.unusedSimpArgs false

theorem MesgShort (a0 a1 : Int) (l : List Int) (a3 a4 a5 a6 a7 a8 a9 : Int) : ∃ k, duetlaw04_MesgShort.f k a0 a1 l a3 a4 a5 a6 a7 a8 a9 = some true := by
  refine ⟨20, ?_⟩
  have hv : duetlaw04_live.f = some true := rfl
  unfold duetlaw04_MesgShort.f
  by_cases c : (l.length : Int) > 30
  · rw [if_pos c, hv]; rfl
  · rw [if_neg c]
    by_cases ho : Ok a0 a1 l a3 a4 a5 a6 a7 a8 a9
    · have hs := enc_size ho
      rw [encode_ok ho 20 (by omega), Option.bind_some, if_pos rfl]
      simp only
      rw [if_pos (by unfold wrap64; omega), if_pos (by unfold wrap64; omega), hv]
      rfl
    · rw [encode_no ho, Option.bind_some, if_neg (by decide), hv]
      rfl

end Go.Proofs.Ythofobcbbddeeaa.Pure
