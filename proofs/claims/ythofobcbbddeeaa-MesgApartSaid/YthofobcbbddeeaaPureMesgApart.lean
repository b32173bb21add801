/- The pure statement of MesgApart: messages that are not the same have unlike bytes. Conditions: those that the statement itself names (kinds and sizes of the arguments). -/
import Derived.Test.YthofobcbbddeeaaPMesgx9
import Derived.Test.YthofobcbbddeeaaMesgL
namespace Go.Proofs.Ythofobcbbddeeaa.Pure
open Go.RowKit Go.Proofs.Ythofobcbbddeeaa.PMesg Go.Proofs.YthofobcbbddeeaaW.PrintWords Go.Proofs.YthofobcbbddeeaaW.PrintLast Go.Proofs.Ythofobcbbddeeaa.MesgL
set_option linter.unusedVariables false
set_option linter.unusedSimpArgs false

theorem MesgApart (a0 a1 : Int) (l : List Int) (a3 a4 a5 a6 a7 a8 a9 : Int) (b0 b1 : Int) (m : List Int) (b3 b4 b5 b6 b7 b8 b9 : Int) : ∃ k, duetlaw04_MesgApart.f k a0 a1 l a3 a4 a5 a6 a7 a8 a9 b0 b1 m b3 b4 b5 b6 b7 b8 b9 = some true := by
  obtain ⟨K, hK⟩ : ∃ K, 1010 ≤ K := ⟨1010, Nat.le_refl _⟩
  refine ⟨K + 1 + 1, ?_⟩
  have hv : duetlaw04_live.f = some true := rfl
  have h1 : ∀ (x y : ByteArray) (b : Bool), (b = false → l.length ≤ 30 ∧ Ok a0 a1 l a3 a4 a5 a6 a7 a8 a9 ∧ Ok b0 b1 m b3 b4 b5 b6 b7 b8 b9 ∧ x = enc a0 a1 l a3 a4 a5 a6 a7 a8 a9 ∧ y = enc b0 b1 m b3 b4 b5 b6 b7 b8 b9) → duetlaw04_MesgApart.j1 (K + 1) x y b a0 a1 l a3 a4 a5 a6 a7 a8 a9 b0 b1 m b3 b4 b5 b6 b7 b8 b9 = some true := by
    intro x y b hb
    cases b with
    | true => simp only [duetlaw04_MesgApart.j1]; rw [if_pos trivial, hv]; rfl
    | false =>
      obtain ⟨hl, oa, ob, rfl, rfl⟩ := hb rfl
      simp only [duetlaw04_MesgApart.j1]
      rw [if_neg (by decide)]
      obtain ⟨r, hr, hi⟩ := same_msg a0 a1 l a3 a4 a5 a6 a7 a8 a9 b0 b1 m b3 b4 b5 b6 b7 b8 b9 (by omega) K (by omega)
      rw [hr, Option.bind_some, if_pos, hv]
      · rfl
      · have e : ((enc a0 a1 l a3 a4 a5 a6 a7 a8 a9).toList == (enc b0 b1 m b3 b4 b5 b6 b7 b8 b9).toList) = r := by
          cases r with
          | true =>
            obtain ⟨rfl, rfl, rfl, rfl, rfl, rfl, rfl, rfl, rfl, rfl⟩ := hi.mp rfl
            exact beq_iff_eq.mpr rfl
          | false =>
            rw [beq_eq_false_iff_ne]
            intro h
            have h2 := toList_inj h
            have da := decode_enc oa K hK
            have db := decode_enc ob K hK
            rw [h2, db] at da
            simp only [Option.some.injEq, Prod.mk.injEq] at da
            obtain ⟨rfl, rfl, rfl, rfl, rfl, rfl, rfl, rfl, rfl, rfl, _⟩ := da
            have := hi.mpr ⟨rfl, rfl, rfl, rfl, rfl, rfl, rfl, rfl, rfl, rfl⟩
            cases this
        rw [e]
        exact beq_iff_eq.mpr rfl
  have h0 : ∀ b : Bool, (b = false → l.length ≤ 30) → duetlaw04_MesgApart.j0 (K + 1 + 1) b a0 a1 l a3 a4 a5 a6 a7 a8 a9 b0 b1 m b3 b4 b5 b6 b7 b8 b9 = some true := by
    intro b hb
    generalize hq : K + 1 = q at *
    cases b with
    | true => simp only [duetlaw04_MesgApart.j0]; rw [if_pos trivial, hv]; rfl
    | false =>
      simp only [duetlaw04_MesgApart.j0]
      rw [if_neg (by decide)]
      by_cases oa : Ok a0 a1 l a3 a4 a5 a6 a7 a8 a9
      · rw [encode_ok oa _ (by omega), Option.bind_some]
        by_cases ob : Ok b0 b1 m b3 b4 b5 b6 b7 b8 b9
        · rw [encode_ok ob _ (by omega), Option.bind_some, if_pos rfl]
          exact h1 _ _ _ (fun _ => ⟨hb rfl, oa, ob, rfl, rfl⟩)
        · rw [encode_no ob, Option.bind_some, if_pos rfl]
          exact h1 _ _ _ (fun h => by cases h)
      · rw [encode_no oa, Option.bind_some]
        by_cases ob : Ok b0 b1 m b3 b4 b5 b6 b7 b8 b9
        · rw [encode_ok ob _ (by omega), Option.bind_some, if_neg (by decide)]
          exact h1 _ _ _ (fun h => by cases h)
        · rw [encode_no ob, Option.bind_some, if_neg (by decide)]
          exact h1 _ _ _ (fun h => by cases h)
  unfold duetlaw04_MesgApart.f
  by_cases c : (l.length : Int) > 30
  · rw [if_pos c]
    exact h0 true (fun h => by cases h)
  · rw [if_neg c]
    exact h0 _ (fun _ => by omega)

end Go.Proofs.Ythofobcbbddeeaa.Pure
