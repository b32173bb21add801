/- VecAnswersSaid: for every input that the statement lets in, the law VecAnswers returns true and leaves its arguments as they were. Conditions: none beyond the statement's own. -/
import Derived.Test.YtpoigdkbblmpaaaRows
import Derived.Test.YtpoigdkbblmpaaaPVecx4
import Derived.Test.YtpoigdkbblmpaaaXO
import Derived.Test.YtpoigdkbblmpaaaPureVecAnswers
import Derived.WalkKit
import Derived.ProofKit
import Derived.OpenShut
import Derived.ShutString
import Derived.ChangeOld
import Derived.Below
import Derived.SizedLaws
namespace Go.Proofs.Ytpoigdkbblmpaaa.vecAnswers
open Go.ChangeShapes Go.WideShapes Go.ChangeAt Go.RowKit
open Go.ChangeMaps (open_string shut_string)
open Go.Proofs.Ytpoigdkbblmpaaa.XO Go.Proofs.YtpoigdkbblmpaaaW.PrintWords
set_option linter.unusedVariables false
set_option linter.unusedSimpArgs false
theorem own : ownKnob Try.prog.godebug = none := by kernel_rfl
theorem laidOut : laidOutB Try.prog = true := by kernel_rfl
set_option maxRecDepth 100000 in
theorem lifted (os : Os) (started : os.Started) (H : Type) (enc : TypeId × Value → H) :
    ReturnsInHanded {} Try.checked os 3 .any (Rows.vecAnswersSpec.pre6 enc Try.prog Try.f3 Rows.vecAnswersRow.domain false) (Rows.vecAnswersSpec.post enc Try.prog Try.f3 false true false false) := by
  refine returnsInHanded_of_change_sized (C := Try.checked) own started (by kernel_rfl) Try.func3
    (ChangeSpec.witness6 (enc := enc) (C := Try.checked) false ⟨#[], #[.agg #[.slice none 0 0, .slice none 0 0, .int .i64 0, .int .i64 0]], []⟩ 8 (by kernel_rfl) (by kernel_rfl) (by kernel_rfl) (by kernel_rfl)) ?_
  intro W base args ds gs before hval0 hW hcnd hsz0 _
  have hval : ∀ (j : Nat) t v, Try.f3.params[j]? = some t → args[j]? = some v → Value.okWide Try.prog W .any base t v := hval0
  have hW' := hW
  obtain ⟨p, q, hA0, hV, rfl, hfz, hnd⟩ := hW
  have hA : DataW.TrodAll enc Try.prog W 0 (fun _ => true) true Try.f3.params.toList args.toList ds p := hA0
  rw [Try.params3] at hA hval
  obtain ⟨v0, vs0, d0, ds0, p0, q0, hargs, rfl, rfl, h0, r0⟩ := trodAll_cons hA
  obtain ⟨rfl, rfl, rfl⟩ := trodAll_nil r0
  obtain rfl : args = #[v0] := by cases args; simp_all
  obtain ⟨rfl, rfl⟩ := trodVars_none hV
  have k0 := h0
  have lt0 : ∀ x ∈ p0, x.block < W.heap.size := by obtain ⟨m, hm⟩ := k0; exact DataW.trod_lt m _ _ _ hm
  have o0 : Value.okWide Try.prog W .any base 24 v0 := hval 0 24 v0 rfl rfl
  clear hA0 hval0 hsz0
  have op : Opens Try.prog 24 (Kd.iso (Kd.pair (Kd.slice 3 (Kd.int .i64)) (Kd.pair (Kd.slice 3 (Kd.int .i64)) (Kd.pair (Kd.int .i64) (Kd.int .i64)))) id) _ :=
    opens_struct [(0, 22), (1, 22), (2, 3), (3, 3)] Try.underlying24 (by kernel_rfl) (by kernel_rfl) id id (fun _ => rfl)
      (opensF_cons 0 (opens_slice 3 Try.underlying22 (by kernel_rfl) (opens_int Try.underlying3 (by kernel_rfl)))
        (opensF_cons 1 (opens_slice 3 Try.underlying22 (by kernel_rfl) (opens_int Try.underlying3 (by kernel_rfl)))
          (opensF_cons 2 (opens_int Try.underlying3 (by kernel_rfl)) (opensF_one 3 (opens_int Try.underlying3 (by kernel_rfl))))))
  obtain ⟨⟨la, lb, a, s⟩, hK0, ⟨hla, _⟩, ⟨hlb, _⟩, _⟩ := op.arg h0
  obtain ⟨cs, rfl, _⟩ := okWide_struct Try.underlying24 o0
  obtain ⟨c0, c1, e, ⟨A, c, rfl, hc0, hr0⟩, c2, c3, rfl, ⟨A', c', rfl, hc1, hr1⟩, c4, c5, rfl, rfl, rfl⟩ := hK0
  obtain rfl : cs = #[.slice A la.length c, .slice A' lb.length c', .int .i64 a, .int .i64 s] := Array.ext' e
  obtain ⟨k, hk⟩ := Pure.VecAnswers la lb a s 
  have hcall := PVec.duetlaw06_VecAnswers.calls k A c la A' c' lb a s true W hr0 hc0 hr1 hc1 hk
  refine hcall.mono fun e W' ⟨he, bel⟩ => ?_
  subst he
  exact ⟨_, rfl, _, _, _, [], _, [], hW', trodAll_mk1 (shut_bool Try.underlying4 _), (trodAll_cons_mk (Below.trod laidOut (by kernel_rfl) (of_decide_eq_true (by kernel_rfl)) k0 bel lt0) trodAll_mk0), rfl, bel.frame _, fun h => by cases h⟩
theorem over : Rows.vecAnswersRow.holds Try.pinned (OpenSpec.ofChange Rows.vecAnswersSpec) :=
  OpenClaim.holds_of_wide 3 Try.f3 rfl rfl rfl rfl rfl rfl rfl ⟨rfl, rfl, rfl, rfl, rfl⟩ rfl rfl rfl rfl rfl (by kernel_rfl) Try.func3 (by kernel_rfl)
    (of_decide_eq_true (by kernel_rfl)) (by unfold Func.isWrapper; first | (rw [if_pos (by decide +kernel)]; kernel_rfl) | (rw [if_neg (by decide +kernel)]; exact ⟨rfl, rfl⟩))
    (fun os started H enc _ => lifted os started H enc)
theorem proved : Rows.VecAnswersSaid := over
#print axioms proved
end Go.Proofs.Ytpoigdkbblmpaaa.vecAnswers
namespace Go.Proofs.Ytpoigdkbblmpaaa
/-- The row, under a short name, for the claim. -/
theorem vecAnswers_holds : Rows.VecAnswersSaid := vecAnswers.proved
end Go.Proofs.Ytpoigdkbblmpaaa
