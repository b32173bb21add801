/- The pure statement of MesgWrites: any message's bytes, or why there are none. Conditions: those that the statement itself names (kinds and sizes of the arguments). -/
import Derived.Test.YthofobcbbddeeaaPMeswx12
import Derived.Test.YthofobcbbddeeaaMeswL
namespace Go.Proofs.Ythofobcbbddeeaa.Pure
open Go.RowKit Go.Proofs.Ythofobcbbddeeaa.PMesw Go.Proofs.YthofobcbbddeeaaW.PrintWords Go.Proofs.YthofobcbbddeeaaW.PrintLast Go.Proofs.Ythofobcbbddeeaa.MeswL
set_option linter.unusedVariables false
set_option linter.unusedSimpArgs false

theorem MesgWrites (a0 a1 : Int) (l : List Int) (a3 a4 a5 a6 a7 a8 a9 : Int) (x : Int) : ∃ k, duetlaw04_MesgWrites.f k a0 a1 l a3 a4 a5 a6 a7 a8 a9 x = some true := by
  refine ⟨50, ?_⟩
  have hv : duetlaw04_live.f = some true := rfl
  unfold duetlaw04_MesgWrites.f
  by_cases c : (l.length : Int) > 30
  · rw [if_pos c, hv]; rfl
  · rw [if_neg c]
    unfold duetref04_Copy.f
    rw [if_pos (by omega), Option.bind_some]
    simp only
    have hend : ∀ (s : ByteArray) (e : Int), mesg_Check.f a0 a1 l a3 a4 a5 a6 a7 a8 a9 = some e →
        ((mesg_Check.f a0 a1 l a3 a4 a5 a6 a7 a8 a9).bind fun t261 => ((duetref04_Check.f 50 a0 a1 l a3 a4 a5 a6 a7 a8 a9).bind fun t262 => (if t261 = t262 then ((mesg_Rune.f 50 x).bind fun t263 => ((duetref04_Rune.f x).bind fun t264 => (if (t263 == t264) = true then ((duetref04_Same.f 50 a0 a1 l a3 a4 a5 a6 a7 a8 a9 a0 a1 l a3 a4 a5 a6 a7 a8 a9).bind fun t265 => (if t265 = true then ((duetlaw04_live.f).bind fun t266 => (some t266)) else (none))) else (none)))) else (none)))) = some true := by
      intro s e he
      rw [ref_check _ _ _ _ _ _ _ _ _ _ (by omega) _ (by omega), he, Option.bind_some, Option.bind_some, if_pos rfl]
      rw [at_rounds (mesg_Rune.mono x) (show 9 ≤ 50 by omega) (mesg_Check.isrune x), Option.bind_some, duetref04_op.rune_is, Option.bind_some, if_pos (beq_iff_eq.mpr rfl)]
      obtain ⟨r, hr, hi⟩ := same_msg a0 a1 l a3 a4 a5 a6 a7 a8 a9 a0 a1 l a3 a4 a5 a6 a7 a8 a9 (by omega) 50 (by omega)
      rw [hr, Option.bind_some, if_pos (hi.mpr ⟨rfl, rfl, rfl, rfl, rfl, rfl, rfl, rfl, rfl, rfl⟩), hv]
      rfl
    by_cases ho : Ok a0 a1 l a3 a4 a5 a6 a7 a8 a9
    · rw [encode_ok ho _ (by omega), Option.bind_some, ref_encode_ok ho _ (by omega), Option.bind_some, if_pos rfl, if_pos rfl]
      exact hend (enc a0 a1 l a3 a4 a5 a6 a7 a8 a9) 0 (check_ok ho)
    · rw [encode_no ho, Option.bind_some, ref_encode_no ho (by omega) _ (by omega), Option.bind_some, if_pos rfl, if_pos rfl]
      exact hend ⟨#[]⟩ 1 (check_no ho)

end Go.Proofs.Ythofobcbbddeeaa.Pure
