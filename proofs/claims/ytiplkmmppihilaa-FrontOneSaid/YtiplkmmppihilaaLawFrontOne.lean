/- FrontOneSaid: for every input that the statement lets in, the law FrontOne returns true and leaves its arguments as they were. Conditions: none beyond the statement's own. -/
import Derived.Test.YtiplkmmppihilaaRows
import Derived.Test.YtiplkmmppihilaaFrontL3
import Derived.Test.YtiplkmmppihilaaXO
import Derived.WalkKit
import Derived.ProofKit
import Derived.OpenShut
import Derived.ShutString
import Derived.ChangeOld
import Derived.Below
import Derived.SizedLaws
namespace Go.Proofs.Ytiplkmmppihilaa.frontOne
open Go.ChangeShapes Go.WideShapes Go.ChangeAt Go.RowKit
open Go.ChangeMaps (open_string shut_string)
open Go.Proofs.Ytiplkmmppihilaa.XO Go.Proofs.YtiplkmmppihilaaW.PrintWords
set_option linter.unusedVariables false
set_option linter.unusedSimpArgs false
theorem own : ownKnob Try.prog.godebug = none := by kernel_rfl
theorem laidOut : laidOutB Try.prog = true := by kernel_rfl
set_option maxRecDepth 100000 in
theorem lifted (os : Os) (started : os.Started) (H : Type) (enc : TypeId × Value → H) :
    ReturnsInHanded {} Try.checked os 13 .any (Rows.frontOneSpec.pre6 enc Try.prog Try.f13 Rows.frontOneRow.domain false) (Rows.frontOneSpec.post enc Try.prog Try.f13 false true false false) := by
  refine returnsInHanded_of_change_sized (C := Try.checked) own started (by kernel_rfl) Try.func13
    (ChangeSpec.witness6 (enc := enc) (C := Try.checked) false ⟨#[], #[.int .i64 0, .agg #[.int .i64 0, .slice none 0 0], .agg #[.int .i64 0, .slice none 0 0]], []⟩ 8 (by kernel_rfl) (by kernel_rfl) (by kernel_rfl) (by kernel_rfl)) ?_
  intro W base args ds gs before hval0 hW hcnd hsz0 _
  have hval : ∀ (j : Nat) t v, Try.f13.params[j]? = some t → args[j]? = some v → Value.okWide Try.prog W .any base t v := hval0
  have hW' := hW
  obtain ⟨p, q, hA0, hV, rfl, hfz, hnd⟩ := hW
  have hA : DataW.TrodAll enc Try.prog W 0 (fun _ => true) true Try.f13.params.toList args.toList ds p := hA0
  rw [Try.params13] at hA hval
  obtain ⟨v0, vs0, d0, ds0, p0, q0, hargs, rfl, rfl, h0, r0⟩ := trodAll_cons hA
  obtain ⟨v1, vs1, d1, ds1, p1, q1, rfl, rfl, rfl, h1, r1⟩ := trodAll_cons r0
  obtain ⟨v2, vs2, d2, ds2, p2, q2, rfl, rfl, rfl, h2, r2⟩ := trodAll_cons r1
  obtain ⟨rfl, rfl, rfl⟩ := trodAll_nil r2
  obtain rfl : args = #[v0, v1, v2] := by cases args; simp_all
  obtain ⟨rfl, rfl⟩ := trodVars_none hV
  have k0 := h0
  have lt0 : ∀ x ∈ p0, x.block < W.heap.size := by obtain ⟨m, hm⟩ := k0; exact DataW.trod_lt m _ _ _ hm
  have o0 : Value.okWide Try.prog W .any base 3 v0 := hval 0 3 v0 rfl rfl
  have k1 := h1
  have lt1 : ∀ x ∈ p1, x.block < W.heap.size := by obtain ⟨m, hm⟩ := k1; exact DataW.trod_lt m _ _ _ hm
  have o1 : Value.okWide Try.prog W .any base 73 v1 := hval 1 73 v1 rfl rfl
  have k2 := h2
  have lt2 : ∀ x ∈ p2, x.block < W.heap.size := by obtain ⟨m, hm⟩ := k2; exact DataW.trod_lt m _ _ _ hm
  have o2 : Value.okWide Try.prog W .any base 73 v2 := hval 2 73 v2 rfl rfl
  clear hA0 hval0 hsz0
  obtain ⟨x0, rfl, rfl, rfl, wx0⟩ := open_int Try.underlying3 o0 h0
  have op1 : Opens Try.prog 73 (Kd.iso (Kd.pair (Kd.int .i64) (Kd.slice 3 (Kd.int .i64))) id) _ := (opens_struct [(0, 3), (1, 50)] Try.underlying73 (by kernel_rfl) (by kernel_rfl) id id (fun _ => rfl) (opensF_cons 0 (opens_int Try.underlying3 (by kernel_rfl)) (opensF_one 1 (opens_slice 3 Try.underlying50 (by kernel_rfl) (opens_int Try.underlying3 (by kernel_rfl))))))
  obtain ⟨⟨s1, l1⟩, hK1, _, ⟨hl1, _⟩⟩ := op1.arg h1
  obtain ⟨cs1, rfl, _⟩ := okWide_struct Try.underlying73 o1
  obtain ⟨_, _, e1, rfl, A1, c1, rfl, hc1, hr1⟩ := hK1
  obtain rfl : cs1 = #[.int .i64 s1, .slice A1 l1.length c1] := Array.ext' e1
  have hm1 : l1.length ≤ maxLen := hl1
  unfold maxLen at hm1
  have op2 : Opens Try.prog 73 (Kd.iso (Kd.pair (Kd.int .i64) (Kd.slice 3 (Kd.int .i64))) id) _ := (opens_struct [(0, 3), (1, 50)] Try.underlying73 (by kernel_rfl) (by kernel_rfl) id id (fun _ => rfl) (opensF_cons 0 (opens_int Try.underlying3 (by kernel_rfl)) (opensF_one 1 (opens_slice 3 Try.underlying50 (by kernel_rfl) (opens_int Try.underlying3 (by kernel_rfl))))))
  obtain ⟨⟨s2, l2⟩, hK2, _, ⟨hl2, _⟩⟩ := op2.arg h2
  obtain ⟨cs2, rfl, _⟩ := okWide_struct Try.underlying73 o2
  obtain ⟨_, _, e2, rfl, A2, c2, rfl, hc2, hr2⟩ := hK2
  obtain rfl : cs2 = #[.int .i64 s2, .slice A2 l2.length c2] := Array.ext' e2
  have hm2 : l2.length ≤ maxLen := hl2
  unfold maxLen at hm2
  have hcall := FrontA.frontOne x0 s1 A1 c1 l1 s2 A2 c2 l2 W hr1 hc1 hr2 hc2
  refine hcall.mono fun e W' ⟨he, bel⟩ => ?_
  subst he
  exact ⟨_, rfl, _, _, _, [], _, [], hW', trodAll_mk1 (shut_bool Try.underlying4 _), (trodAll_cons_mk (Below.trod laidOut (by kernel_rfl) (of_decide_eq_true (by kernel_rfl)) k0 bel lt0) (trodAll_cons_mk (Below.trod laidOut (by kernel_rfl) (of_decide_eq_true (by kernel_rfl)) k1 bel lt1) (trodAll_cons_mk (Below.trod laidOut (by kernel_rfl) (of_decide_eq_true (by kernel_rfl)) k2 bel lt2) trodAll_mk0))), rfl, bel.frame _, fun h => by cases h⟩
theorem over : Rows.frontOneRow.holds Try.pinned (OpenSpec.ofChange Rows.frontOneSpec) :=
  OpenClaim.holds_of_wide 13 Try.f13 rfl rfl rfl rfl rfl rfl rfl ⟨rfl, rfl, rfl, rfl, rfl⟩ rfl rfl rfl rfl rfl (by kernel_rfl) Try.func13 (by kernel_rfl)
    (of_decide_eq_true (by kernel_rfl)) (by unfold Func.isWrapper; first | (rw [if_pos (by decide +kernel)]; kernel_rfl) | (rw [if_neg (by decide +kernel)]; exact ⟨rfl, rfl⟩))
    (fun os started H enc _ => lifted os started H enc)
theorem proved : Rows.FrontOneSaid := over
#print axioms proved
end Go.Proofs.Ytiplkmmppihilaa.frontOne
namespace Go.Proofs.Ytiplkmmppihilaa
/-- The row, under a short name, for the claim. -/
theorem frontOne_holds : Rows.FrontOneSaid := frontOne.proved
end Go.Proofs.Ytiplkmmppihilaa
