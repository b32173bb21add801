/- The pure statement of MesgBack: what is written is read; cut off it is not. Conditions: those that the statement itself names (kinds and sizes of the arguments). -/
import Derived.Test.YthofobcbbddeeaaPMesgx8
import Derived.Test.YthofobcbbddeeaaMesgL
namespace Go.Proofs.Ythofobcbbddeeaa.Pure
open Go.RowKit Go.Proofs.Ythofobcbbddeeaa.PMesg Go.Proofs.YthofobcbbddeeaaW.PrintWords Go.Proofs.YthofobcbbddeeaaW.PrintLast Go.Proofs.Ythofobcbbddeeaa.MesgL
set_option linter.unusedVariables false
set_option linter.unusedSimpArgs false

theorem MesgBack (a0 a1 : Int) (l : List Int) (a3 a4 a5 a6 a7 a8 a9 : Int) (x : Int) : ∃ k, duetlaw04_MesgBack.f k a0 a1 l a3 a4 a5 a6 a7 a8 a9 x = some true := by
  obtain ⟨K, hK⟩ : ∃ K, 1010 ≤ K := ⟨1010, Nat.le_refl _⟩
  refine ⟨K + 1 + 1, ?_⟩
  have hv : duetlaw04_live.f = some true := rfl
  unfold duetlaw04_MesgBack.f
  by_cases c : (l.length : Int) > 30
  · rw [if_pos c, hv]; rfl
  · rw [if_neg c]
    by_cases ho : Ok a0 a1 l a3 a4 a5 a6 a7 a8 a9
    · rw [encode_ok ho _ (by omega), Option.bind_some, if_pos rfl]
      simp only
      rw [decode_enc ho _ (by omega), Option.bind_some]
      simp only
      rw [if_pos trivial]
      obtain ⟨r, hr, hi⟩ := same_msg a0 a1 l a3 a4 a5 a6 a7 a8 a9 a0 a1 l a3 a4 a5 a6 a7 a8 a9 (by omega) (K + 1 + 1) (by omega)
      rw [hr, Option.bind_some, hi.mpr ⟨rfl, rfl, rfl, rfl, rfl, rfl, rfl, rfl, rfl, rfl⟩]
      have h1 : ∀ b : Bool, (b = false → 0 ≤ x ∧ x < ((enc a0 a1 l a3 a4 a5 a6 a7 a8 a9).size : Int)) → duetlaw04_MesgBack.j1 (K + 1) x (enc a0 a1 l a3 a4 a5 a6 a7 a8 a9) b = some true := by
        intro b hb
        cases b with
        | true => simp only [duetlaw04_MesgBack.j1]; rw [if_pos trivial, hv]; rfl
        | false =>
          have hx := hb rfl
          simp only [duetlaw04_MesgBack.j1]
          rw [if_neg (by decide), if_pos hx.1, if_pos (by omega), decode_cut ho K hK x.toNat (by omega)]
          unfold mesg_Decode.bad
          rw [Option.bind_some, if_pos rfl, hv]
          rfl
      generalize hq : K + 1 = q at *
      simp only [duetlaw04_MesgBack.j0]
      rw [if_neg (by decide)]
      by_cases c0 : x < 0
      · rw [if_pos c0]
        exact h1 true (fun h => by cases h)
      · rw [if_neg c0]
        refine h1 _ (fun h => ?_)
        have := of_decide_eq_false h
        omega
    · rw [encode_no ho, Option.bind_some, if_neg (by decide), if_pos (by rw [toList_empty]; rfl), hv]
      rfl

end Go.Proofs.Ythofobcbbddeeaa.Pure
