/- SearchNilSaid: for every input that the statement lets in, the law SearchNil returns true and leaves its arguments as they were. Conditions: none beyond the statement's own. -/
import Derived.HandedShaped
import Derived.Test.YthofobcbbddeeaaRows
import Derived.Test.YthofobcbbddeeaaSrchN
import Derived.Test.YthofobcbbddeeaaXO
import Derived.WalkKit
import Derived.ProofKit
import Derived.OpenShut
import Derived.ShutString
import Derived.ChangeOld
import Derived.Below
import Derived.SizedLaws
namespace Go.Proofs.Ythofobcbbddeeaa.searchNil
open Go.ChangeShapes Go.WideShapes Go.ChangeAt Go.RowKit
open Go.ChangeMaps (open_string shut_string)
open Go.Proofs.Ythofobcbbddeeaa.XO Go.Proofs.YthofobcbbddeeaaW.PrintWords
set_option linter.unusedVariables false
set_option linter.unusedSimpArgs false
theorem own : ownKnob Try.prog.godebug = none := by kernel_rfl
theorem laidOut : laidOutB Try.prog = true := by kernel_rfl
set_option maxRecDepth 100000 in
theorem lifted (os : Os) (started : os.Started) (H : Type) (enc : TypeId × Value → H) :
    ReturnsInHanded {} Try.checked os 12 .any (Rows.searchNilSpec.pre6 enc Try.prog Try.f12 Rows.searchNilRow.domain false) (Rows.searchNilSpec.post enc Try.prog Try.f12 false true false false) := by
  refine returnsInHanded_of_change_shaped (C := Try.checked) own started (by kernel_rfl) Try.func12
    (ChangeSpec.witness6 (enc := enc) (C := Try.checked) false ⟨#[], #[.agg #[.int .i64 0, .int .i64 0]], []⟩ 8 (by kernel_rfl) (by kernel_rfl) (by kernel_rfl) (by kernel_rfl)) ?_
  intro W base args ds gs before hval0 hW hcnd hsz0 hsh _
  have hval : ∀ (j : Nat) t v, Try.f12.params[j]? = some t → args[j]? = some v → Value.okWide Try.prog W .any base t v := hval0
  have hW' := hW
  obtain ⟨p, q, hA0, hV, rfl, hfz, hnd⟩ := hW
  have hA : DataW.TrodAll enc Try.prog W 0 (fun _ => true) true Try.f12.params.toList args.toList ds p := hA0
  rw [Try.params12] at hA hval
  obtain ⟨v0, vs0, d0, ds0, p0, q0, hargs, rfl, rfl, h0, r0⟩ := trodAll_cons hA
  obtain ⟨rfl, rfl, rfl⟩ := trodAll_nil r0
  obtain rfl : args = #[v0] := by cases args; simp_all
  obtain ⟨rfl, rfl⟩ := trodVars_none hV
  have k0 := h0
  have lt0 : ∀ x ∈ p0, x.block < W.heap.size := by obtain ⟨m, hm⟩ := k0; exact DataW.trod_lt m _ _ _ hm
  have o0 : Value.okWide Try.prog W .any base 66 v0 := hval 0 66 v0 rfl rfl
  clear hA0 hval0 hsz0
  have op0 : Opens Try.prog 66 (Kd.iso (Kd.pair (Kd.int .i64) (Kd.int .i64)) id) _ := (opens_struct [(0, 3), (1, 3)] Try.underlying66 (by kernel_rfl) (by kernel_rfl) id id (fun _ => rfl) (opensF_cons 0 (opens_int Try.underlying3 (by kernel_rfl)) (opensF_one 1 (opens_int Try.underlying3 (by kernel_rfl)))))
  obtain ⟨⟨d0, n0⟩, hK0, _⟩ := op0.arg h0
  obtain ⟨cs0, rfl, _⟩ := okWide_struct Try.underlying66 o0
  obtain ⟨_, _, e0, rfl, rfl⟩ := hK0
  obtain rfl : cs0 = #[.int .i64 d0, .int .i64 n0] := Array.ext' e0
  obtain ⟨m, hm0⟩ := SrchS.laysM144.s1_3 W hsh
  have hm : W.cell? ⟨0, 0, none⟩ = some (.int .i64 m) := hm0
  have hcall := SrchA.searchNil d0 n0 W m hm
  refine hcall.mono fun e W' ⟨he, bel⟩ => ?_
  subst he
  exact ⟨_, rfl, _, _, _, [], _, [], hW', trodAll_mk1 (shut_bool Try.underlying4 _), (trodAll_cons_mk (Below.trod laidOut (by kernel_rfl) (of_decide_eq_true (by kernel_rfl)) k0 bel lt0) trodAll_mk0), rfl, bel.frame _, fun h => by cases h⟩
theorem over : Rows.searchNilRow.holds Try.pinned (OpenSpec.ofChange Rows.searchNilSpec) :=
  OpenClaim.holds_of_wide 12 Try.f12 rfl rfl rfl rfl rfl rfl rfl ⟨rfl, rfl, rfl, rfl, rfl⟩ rfl rfl rfl rfl rfl (by kernel_rfl) Try.func12 (by kernel_rfl)
    (of_decide_eq_true (by kernel_rfl)) (by unfold Func.isWrapper; first | (rw [if_pos (by decide +kernel)]; kernel_rfl) | (rw [if_neg (by decide +kernel)]; exact ⟨rfl, rfl⟩))
    (fun os started H enc _ => lifted os started H enc)
theorem proved : Rows.SearchNilSaid := over
#print axioms proved
end Go.Proofs.Ythofobcbbddeeaa.searchNil
namespace Go.Proofs.Ythofobcbbddeeaa
/-- The row, under a short name, for the claim. -/
theorem searchNil_holds : Rows.SearchNilSaid := searchNil.proved
end Go.Proofs.Ythofobcbbddeeaa
