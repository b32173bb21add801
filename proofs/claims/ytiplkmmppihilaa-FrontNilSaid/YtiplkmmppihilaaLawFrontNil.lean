/- FrontNilSaid: for every input that the statement lets in, the law FrontNil returns true and leaves its arguments as they were. Conditions: none beyond the statement's own. -/
import Derived.Test.YtiplkmmppihilaaRows
import Derived.Test.YtiplkmmppihilaaFrontL1
import Derived.Test.YtiplkmmppihilaaXO
import Derived.WalkKit
import Derived.ProofKit
import Derived.OpenShut
import Derived.ShutString
import Derived.ChangeOld
import Derived.Below
import Derived.SizedLaws
namespace Go.Proofs.Ytiplkmmppihilaa.frontNil
open Go.ChangeShapes Go.WideShapes Go.ChangeAt Go.RowKit
open Go.ChangeMaps (open_string shut_string)
open Go.Proofs.Ytiplkmmppihilaa.XO Go.Proofs.YtiplkmmppihilaaW.PrintWords
set_option linter.unusedVariables false
set_option linter.unusedSimpArgs false
theorem own : ownKnob Try.prog.godebug = none := by kernel_rfl
theorem laidOut : laidOutB Try.prog = true := by kernel_rfl
set_option maxRecDepth 100000 in
theorem lifted (os : Os) (started : os.Started) (H : Type) (enc : TypeId × Value → H) :
    ReturnsInHanded {} Try.checked os 11 .any (Rows.frontNilSpec.pre6 enc Try.prog Try.f11 Rows.frontNilRow.domain false) (Rows.frontNilSpec.post enc Try.prog Try.f11 false true false false) := by
  refine returnsInHanded_of_change_sized (C := Try.checked) own started (by kernel_rfl) Try.func11
    (ChangeSpec.witness6 (enc := enc) (C := Try.checked) false ⟨#[], #[.agg #[.int .i64 0, .slice none 0 0]], []⟩ 8 (by kernel_rfl) (by kernel_rfl) (by kernel_rfl) (by kernel_rfl)) ?_
  intro W base args ds gs before hval0 hW hcnd hsz0 _
  have hval : ∀ (j : Nat) t v, Try.f11.params[j]? = some t → args[j]? = some v → Value.okWide Try.prog W .any base t v := hval0
  have hW' := hW
  obtain ⟨p, q, hA0, hV, rfl, hfz, hnd⟩ := hW
  have hA : DataW.TrodAll enc Try.prog W 0 (fun _ => true) true Try.f11.params.toList args.toList ds p := hA0
  rw [Try.params11] at hA hval
  obtain ⟨v0, vs0, d0, ds0, p0, q0, hargs, rfl, rfl, h0, r0⟩ := trodAll_cons hA
  obtain ⟨rfl, rfl, rfl⟩ := trodAll_nil r0
  obtain rfl : args = #[v0] := by cases args; simp_all
  obtain ⟨rfl, rfl⟩ := trodVars_none hV
  have k0 := h0
  have lt0 : ∀ x ∈ p0, x.block < W.heap.size := by obtain ⟨m, hm⟩ := k0; exact DataW.trod_lt m _ _ _ hm
  have o0 : Value.okWide Try.prog W .any base 73 v0 := hval 0 73 v0 rfl rfl
  clear hA0 hval0 hsz0
  have op0 : Opens Try.prog 73 (Kd.iso (Kd.pair (Kd.int .i64) (Kd.slice 3 (Kd.int .i64))) id) _ := (opens_struct [(0, 3), (1, 50)] Try.underlying73 (by kernel_rfl) (by kernel_rfl) id id (fun _ => rfl) (opensF_cons 0 (opens_int Try.underlying3 (by kernel_rfl)) (opensF_one 1 (opens_slice 3 Try.underlying50 (by kernel_rfl) (opens_int Try.underlying3 (by kernel_rfl))))))
  obtain ⟨⟨s0, l0⟩, hK0, _, ⟨hl0, _⟩⟩ := op0.arg h0
  obtain ⟨cs0, rfl, _⟩ := okWide_struct Try.underlying73 o0
  obtain ⟨_, _, e0, rfl, A0, c0, rfl, hc0, hr0⟩ := hK0
  obtain rfl : cs0 = #[.int .i64 s0, .slice A0 l0.length c0] := Array.ext' e0
  have hm0 : l0.length ≤ maxLen := hl0
  unfold maxLen at hm0
  have hcall := FrontA.frontNil s0 A0 c0 l0 W hr0 hc0
  refine hcall.mono fun e W' ⟨he, bel⟩ => ?_
  subst he
  exact ⟨_, rfl, _, _, _, [], _, [], hW', trodAll_mk1 (shut_bool Try.underlying4 _), (trodAll_cons_mk (Below.trod laidOut (by kernel_rfl) (of_decide_eq_true (by kernel_rfl)) k0 bel lt0) trodAll_mk0), rfl, bel.frame _, fun h => by cases h⟩
theorem over : Rows.frontNilRow.holds Try.pinned (OpenSpec.ofChange Rows.frontNilSpec) :=
  OpenClaim.holds_of_wide 11 Try.f11 rfl rfl rfl rfl rfl rfl rfl ⟨rfl, rfl, rfl, rfl, rfl⟩ rfl rfl rfl rfl rfl (by kernel_rfl) Try.func11 (by kernel_rfl)
    (of_decide_eq_true (by kernel_rfl)) (by unfold Func.isWrapper; first | (rw [if_pos (by decide +kernel)]; kernel_rfl) | (rw [if_neg (by decide +kernel)]; exact ⟨rfl, rfl⟩))
    (fun os started H enc _ => lifted os started H enc)
theorem proved : Rows.FrontNilSaid := over
#print axioms proved
end Go.Proofs.Ytiplkmmppihilaa.frontNil
namespace Go.Proofs.Ytiplkmmppihilaa
/-- The row, under a short name, for the claim. -/
theorem frontNil_holds : Rows.FrontNilSaid := frontNil.proved
end Go.Proofs.Ytiplkmmppihilaa
