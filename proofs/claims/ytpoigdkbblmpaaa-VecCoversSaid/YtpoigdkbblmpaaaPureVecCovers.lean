/- The pure statement of VecCovers: a site's messages are covered up to its number, none beyond. Conditions: those that it names. -/
import Derived.Test.YtpoigdkbblmpaaaPVecx7
import Derived.Test.YtpoigdkbblmpaaaVecL
namespace Go.Proofs.Ytpoigdkbblmpaaa.Pure
open Go.RowKit Go.Proofs.Ytpoigdkbblmpaaa.PVec Go.Proofs.YtpoigdkbblmpaaaW.PrintWords Go.Proofs.YtpoigdkbblmpaaaW.PrintLast Go.Proofs.YtpoigdkbblmpaaaW.PrintMore Go.Proofs.Ytpoigdkbblmpaaa.VecL
set_option linter.unusedVariables false
set_option linter.unusedSimpArgs false

theorem VecCovers (l m : List Int) (a s : Int) (hl : l.length ≤ 9223372036854775807) (hm : m.length ≤ 9223372036854775807) : ∃ k, duetlaw06_VecCovers.f k l m a s = some true := by
  refine ⟨l.length + m.length + 1003, ?_⟩
  unfold duetlaw06_VecCovers.f
  rw [may_is l _ hl (by omega), may_is m _ hm (by omega), Option.bind_some, Option.bind_some]
  obtain ⟨K, hK, hKe⟩ : ∃ K, 1000 ≤ K ∧ l.length + m.length + 1003 = K + 3 := ⟨l.length + m.length + 1000, by omega, by omega⟩
  rw [hKe]
  have hj : duetlaw06_VecCovers.j0 (K + 3) l m a s true = some true := by
    rw [duetlaw06_VecCovers.j0, if_pos rfl, live_is]; rfl
  by_cases gl : Vok l
  · rw [if_pos (decide_eq_true gl)]
    by_cases gm : Vok m
    · rw [decide_eq_true gm, Bool.not_true, duetlaw06_VecCovers.j0, if_neg (by decide), covers_is, Option.bind_some]
      have c0 : covers l a 0 = false := decide_eq_false (by omega)
      have c1 : covers l l.length 1 = false := decide_eq_false (by omega)
      have hj2 : duetlaw06_VecCovers.j2 (K + 1) l a l false = some true := by
        rw [duetlaw06_VecCovers.j2, if_neg (by decide), covers_is, Option.bind_some, c0, if_neg (by decide), covers_is, Option.bind_some, c1, if_neg (by decide), live_is]; rfl
      have hj1 : duetlaw06_VecCovers.j1 (K + 2) l a s l m (covers l a s) false = some true := by
        rw [duetlaw06_VecCovers.j1, if_neg (by decide), cmp_is _ _ _ (by omega), Option.bind_some, covers_is, Option.bind_some, hj2]
        by_cases t : T l m
        · have key : lt m l = false → covers l a s = true → covers m a s = true := by
            intro h hc
            obtain ⟨_, h0, h1, h2, h3⟩ := of_decide_eq_true hc
            have hr := lt_rd m l h a.toNat (by have := t.1; omega) (by omega)
            rw [Int.toNat_of_nonneg h0] at hr
            exact decide_eq_true ⟨gm, h0, by have := t.1; omega, h2, by omega⟩
          rw [if_pos t, if_pos rfl]
          simp only
          cases h2 : lt m l with
          | true => cases lt l m <;> rw [if_neg (by decide), if_neg (by decide)]
          | false =>
            have key := key h2
            cases hc : covers l a s with
            | false => cases lt l m <;> simp
            | true => rw [key hc, Bool.not_true, hj2]; cases lt l m <;> simp [code]
        · rw [if_neg t, if_neg (by decide)]
      by_cases b0 : a ≥ 0
      · rw [if_pos b0]
        by_cases b1 : a < l.length
        · rw [if_pos b1]
          by_cases b2 : s ≥ 1
          · have e : covers l a s = decide (s ≤ rd l a) := decide_eq_decide.mpr ⟨fun h => h.2.2.2.2, fun h => ⟨gl, b0, b1, b2, h⟩⟩
            rw [if_pos b2, if_pos b0, ← e, bne_self_eq_false]; exact hj1
          · have e : covers l a s = false := decide_eq_false (by omega)
            rw [if_neg b2, show (covers l a s != false) = false by rw [e]; rfl]; exact hj1
        · rw [if_neg b1]; exact hj1
      · rw [if_neg b0]; exact hj1
    · rw [decide_eq_false gm]; exact hj
  · rw [if_neg (by rw [decide_eq_true_eq]; exact gl)]; exact hj

end Go.Proofs.Ytpoigdkbblmpaaa.Pure
