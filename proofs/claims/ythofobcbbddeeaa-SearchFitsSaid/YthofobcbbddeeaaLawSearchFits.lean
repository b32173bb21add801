/- SearchFitsSaid: for every input that the statement lets in, the law SearchFits returns true and leaves its arguments as they were. Conditions: none beyond the statement's own. -/
import Derived.HandedShaped
import Derived.Test.YthofobcbbddeeaaRows
import Derived.Test.YthofobcbbddeeaaSrchL2
import Derived.Test.YthofobcbbddeeaaXO
import Derived.WalkKit
import Derived.ProofKit
import Derived.OpenShut
import Derived.ShutString
import Derived.ChangeOld
import Derived.Below
import Derived.SizedLaws
namespace Go.Proofs.Ythofobcbbddeeaa.searchFits
open Go.ChangeShapes Go.WideShapes Go.ChangeAt Go.RowKit
open Go.ChangeMaps (open_string shut_string)
open Go.Proofs.Ythofobcbbddeeaa.XO Go.Proofs.YthofobcbbddeeaaW.PrintWords
set_option linter.unusedVariables false
set_option linter.unusedSimpArgs false
theorem own : ownKnob Try.prog.godebug = none := by kernel_rfl
theorem laidOut : laidOutB Try.prog = true := by kernel_rfl
set_option maxRecDepth 100000 in
theorem lifted (os : Os) (started : os.Started) (H : Type) (enc : TypeId × Value → H) :
    ReturnsInHanded {} Try.checked os 13 .any (Rows.searchFitsSpec.pre6 enc Try.prog Try.f13 Rows.searchFitsRow.domain false) (Rows.searchFitsSpec.post enc Try.prog Try.f13 false true false false) := by
  refine returnsInHanded_of_change_shaped (C := Try.checked) own started (by kernel_rfl) Try.func13
    (ChangeSpec.witness6 (enc := enc) (C := Try.checked) false ⟨#[], #[.slice none 0 0, .slice none 0 0], []⟩ 8 (by kernel_rfl) (by kernel_rfl) (by kernel_rfl) (by kernel_rfl)) ?_
  intro W base args ds gs before hval0 hW hcnd hsz0 hsh _
  have hval : ∀ (j : Nat) t v, Try.f13.params[j]? = some t → args[j]? = some v → Value.okWide Try.prog W .any base t v := hval0
  have hW' := hW
  obtain ⟨p, q, hA0, hV, rfl, hfz, hnd⟩ := hW
  have hA : DataW.TrodAll enc Try.prog W 0 (fun _ => true) true Try.f13.params.toList args.toList ds p := hA0
  rw [Try.params13] at hA hval
  obtain ⟨v0, vs0, d0, ds0, p0, q0, hargs, rfl, rfl, h0, r0⟩ := trodAll_cons hA
  obtain ⟨v1, vs1, d1, ds1, p1, q1, rfl, rfl, rfl, h1, r1⟩ := trodAll_cons r0
  obtain ⟨rfl, rfl, rfl⟩ := trodAll_nil r1
  obtain rfl : args = #[v0, v1] := by cases args; simp_all
  obtain ⟨rfl, rfl⟩ := trodVars_none hV
  have k0 := h0
  have lt0 : ∀ x ∈ p0, x.block < W.heap.size := by obtain ⟨m, hm⟩ := k0; exact DataW.trod_lt m _ _ _ hm
  have o0 : Value.okWide Try.prog W .any base 42 v0 := hval 0 42 v0 rfl rfl
  have k1 := h1
  have lt1 : ∀ x ∈ p1, x.block < W.heap.size := by obtain ⟨m, hm⟩ := k1; exact DataW.trod_lt m _ _ _ hm
  have o1 : Value.okWide Try.prog W .any base 62 v1 := hval 1 62 v1 rfl rfl
  clear hA0 hval0 hsz0
  have op0 : Opens Try.prog 42 (Kd.slice 9 Kd.string) _ := opens_slice 9 Try.underlying42 (by kernel_rfl) (opens_string Try.underlying9 (by kernel_rfl))
  obtain ⟨l0, hK0, hl0, hq0⟩ := op0.arg h0
  obtain ⟨a0, n0, b0, rfl⟩ := okWide_slice Try.underlying42 o0
  obtain ⟨A0, c0, e0, hc0, hr0⟩ := hK0
  obtain ⟨rfl, rfl, rfl⟩ : a0 = A0 ∧ n0 = l0.length ∧ b0 = c0 := by simpa [Value.cells] using e0
  unfold maxLen at hl0
  have op1 : Opens Try.prog 62 (Kd.slice 66 (Kd.iso (Kd.pair (Kd.int .i64) (Kd.int .i64)) id)) _ := opens_slice 66 Try.underlying62 (by kernel_rfl) (opens_struct [(0, 3), (1, 3)] Try.underlying66 (by kernel_rfl) (by kernel_rfl) id id (fun _ => rfl) (opensF_cons 0 (opens_int Try.underlying3 (by kernel_rfl)) (opensF_one 1 (opens_int Try.underlying3 (by kernel_rfl)))))
  obtain ⟨l1, hK1, hl1, hq1⟩ := op1.arg h1
  obtain ⟨a1, n1, b1, rfl⟩ := okWide_slice Try.underlying62 o1
  obtain ⟨A1, c1, e1, hc1, hr1⟩ := hK1
  obtain ⟨rfl, rfl, rfl⟩ : a1 = A1 ∧ n1 = l1.length ∧ b1 = c1 := by simpa [Value.cells] using e1
  unfold maxLen at hl1
  obtain ⟨m, hm0⟩ := SrchS.laysM144.s1_3 W hsh
  have hm : W.cell? ⟨0, 0, none⟩ = some (.int .i64 m) := hm0
  have hcall := SrchA.searchFits a0 b0 l0 a1 b1 l1 W m hm hr0 hc0 hr1 hc1 (by omega)
  refine hcall.mono fun e W' ⟨he, bel⟩ => ?_
  subst he
  exact ⟨_, rfl, _, _, _, [], _, [], hW', trodAll_mk1 (shut_bool Try.underlying4 _), (trodAll_cons_mk (Below.trod laidOut (by kernel_rfl) (of_decide_eq_true (by kernel_rfl)) k0 bel lt0) (trodAll_cons_mk (Below.trod laidOut (by kernel_rfl) (of_decide_eq_true (by kernel_rfl)) k1 bel lt1) trodAll_mk0)), rfl, bel.frame _, fun h => by cases h⟩
theorem over : Rows.searchFitsRow.holds Try.pinned (OpenSpec.ofChange Rows.searchFitsSpec) :=
  OpenClaim.holds_of_wide 13 Try.f13 rfl rfl rfl rfl rfl rfl rfl ⟨rfl, rfl, rfl, rfl, rfl⟩ rfl rfl rfl rfl rfl (by kernel_rfl) Try.func13 (by kernel_rfl)
    (of_decide_eq_true (by kernel_rfl)) (by unfold Func.isWrapper; first | (rw [if_pos (by decide +kernel)]; kernel_rfl) | (rw [if_neg (by decide +kernel)]; exact ⟨rfl, rfl⟩))
    (fun os started H enc _ => lifted os started H enc)
theorem proved : Rows.SearchFitsSaid := over
#print axioms proved
end Go.Proofs.Ythofobcbbddeeaa.searchFits
namespace Go.Proofs.Ythofobcbbddeeaa
/-- The row, under a short name, for the claim. -/
theorem searchFits_holds : Rows.SearchFitsSaid := searchFits.proved
end Go.Proofs.Ythofobcbbddeeaa
