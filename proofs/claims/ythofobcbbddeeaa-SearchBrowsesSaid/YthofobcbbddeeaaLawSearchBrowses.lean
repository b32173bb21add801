/- SearchBrowsesSaid: for every input that the statement lets in, the law SearchBrowses returns true and leaves its arguments as they were. Conditions: none beyond the statement's own. -/
import Derived.HandedShaped
import Derived.Test.YthofobcbbddeeaaRows
import Derived.Test.YthofobcbbddeeaaSrchL3
import Derived.Test.YthofobcbbddeeaaXO
import Derived.WalkKit
import Derived.ProofKit
import Derived.OpenShut
import Derived.ShutString
import Derived.ChangeOld
import Derived.Below
import Derived.SizedLaws
namespace Go.Proofs.Ythofobcbbddeeaa.searchBrowses
open Go.ChangeShapes Go.WideShapes Go.ChangeAt Go.RowKit
open Go.ChangeMaps (open_string shut_string)
open Go.Proofs.Ythofobcbbddeeaa.XO Go.Proofs.YthofobcbbddeeaaW.PrintWords
set_option linter.unusedVariables false
set_option linter.unusedSimpArgs false
theorem own : ownKnob Try.prog.godebug = none := by kernel_rfl
theorem laidOut : laidOutB Try.prog = true := by kernel_rfl
set_option maxRecDepth 100000 in
theorem lifted (os : Os) (started : os.Started) (H : Type) (enc : TypeId × Value → H) :
    ReturnsInHanded {} Try.checked os 9 .any (Rows.searchBrowsesSpec.pre6 enc Try.prog Try.f9 Rows.searchBrowsesRow.domain false) (Rows.searchBrowsesSpec.post enc Try.prog Try.f9 false true false false) := by
  refine returnsInHanded_of_change_shaped (C := Try.checked) own started (by kernel_rfl) Try.func9
    (ChangeSpec.witness6 (enc := enc) (C := Try.checked) false ⟨#[], #[.slice none 0 0, .string ⟨#[]⟩, .slice none 0 0], []⟩ 8 (by kernel_rfl) (by kernel_rfl) (by kernel_rfl) (by kernel_rfl)) ?_
  intro W base args ds gs before hval0 hW hcnd hsz0 hsh _
  have hval : ∀ (j : Nat) t v, Try.f9.params[j]? = some t → args[j]? = some v → Value.okWide Try.prog W .any base t v := hval0
  have hW' := hW
  obtain ⟨p, q, hA0, hV, rfl, hfz, hnd⟩ := hW
  have hA : DataW.TrodAll enc Try.prog W 0 (fun _ => true) true Try.f9.params.toList args.toList ds p := hA0
  rw [Try.params9] at hA hval
  obtain ⟨v0, vs0, d0, ds0, p0, q0, hargs, rfl, rfl, h0, r0⟩ := trodAll_cons hA
  obtain ⟨v1, vs1, d1, ds1, p1, q1, rfl, rfl, rfl, h1, r1⟩ := trodAll_cons r0
  obtain ⟨v2, vs2, d2, ds2, p2, q2, rfl, rfl, rfl, h2, r2⟩ := trodAll_cons r1
  obtain ⟨rfl, rfl, rfl⟩ := trodAll_nil r2
  obtain rfl : args = #[v0, v1, v2] := by cases args; simp_all
  obtain ⟨rfl, rfl⟩ := trodVars_none hV
  have k0 := h0
  have lt0 : ∀ x ∈ p0, x.block < W.heap.size := by obtain ⟨m, hm⟩ := k0; exact DataW.trod_lt m _ _ _ hm
  have o0 : Value.okWide Try.prog W .any base 42 v0 := hval 0 42 v0 rfl rfl
  have k1 := h1
  have lt1 : ∀ x ∈ p1, x.block < W.heap.size := by obtain ⟨m, hm⟩ := k1; exact DataW.trod_lt m _ _ _ hm
  have o1 : Value.okWide Try.prog W .any base 9 v1 := hval 1 9 v1 rfl rfl
  have k2 := h2
  have lt2 : ∀ x ∈ p2, x.block < W.heap.size := by obtain ⟨m, hm⟩ := k2; exact DataW.trod_lt m _ _ _ hm
  have o2 : Value.okWide Try.prog W .any base 43 v2 := hval 2 43 v2 rfl rfl
  clear hA0 hval0 hsz0
  have op0 : Opens Try.prog 42 (Kd.slice 9 Kd.string) _ := opens_slice 9 Try.underlying42 (by kernel_rfl) (opens_string Try.underlying9 (by kernel_rfl))
  obtain ⟨l0, hK0, hl0, hq0⟩ := op0.arg h0
  obtain ⟨a0, n0, b0, rfl⟩ := okWide_slice Try.underlying42 o0
  obtain ⟨A0, c0, e0, hc0, hr0⟩ := hK0
  obtain ⟨rfl, rfl, rfl⟩ : a0 = A0 ∧ n0 = l0.length ∧ b0 = c0 := by simpa [Value.cells] using e0
  unfold maxLen at hl0
  obtain ⟨x1, rfl, rfl, rfl, wx1⟩ := open_string Try.underlying9 o1 h1
  have op2 : Opens Try.prog 43 (Kd.slice 51 (Kd.iso (Kd.pair (Kd.int .i64) Kd.string) id)) _ := opens_slice 51 Try.underlying43 (by kernel_rfl) (opens_struct [(0, 3), (1, 9)] Try.underlying51 (by kernel_rfl) (by kernel_rfl) id id (fun _ => rfl) (opensF_cons 0 (opens_int Try.underlying3 (by kernel_rfl)) (opensF_one 1 (opens_string Try.underlying9 (by kernel_rfl)))))
  obtain ⟨l2, hK2, hl2, hq2⟩ := op2.arg h2
  obtain ⟨a2, n2, b2, rfl⟩ := okWide_slice Try.underlying43 o2
  obtain ⟨A2, c2, e2, hc2, hr2⟩ := hK2
  obtain ⟨rfl, rfl, rfl⟩ : a2 = A2 ∧ n2 = l2.length ∧ b2 = c2 := by simpa [Value.cells] using e2
  unfold maxLen at hl2
  obtain ⟨m, hm0⟩ := SrchS.laysM144.s1_3 W hsh
  have hm : W.cell? ⟨0, 0, none⟩ = some (.int .i64 m) := hm0
  have hcall := SrchA.searchBrowses a0 b0 l0 x1 a2 b2 l2 W m hm hr0 hc0 hr2 hc2 (by omega)
  refine hcall.mono fun e W' ⟨he, bel⟩ => ?_
  subst he
  exact ⟨_, rfl, _, _, _, [], _, [], hW', trodAll_mk1 (shut_bool Try.underlying4 _), (trodAll_cons_mk (Below.trod laidOut (by kernel_rfl) (of_decide_eq_true (by kernel_rfl)) k0 bel lt0) (trodAll_cons_mk (Below.trod laidOut (by kernel_rfl) (of_decide_eq_true (by kernel_rfl)) k1 bel lt1) (trodAll_cons_mk (Below.trod laidOut (by kernel_rfl) (of_decide_eq_true (by kernel_rfl)) k2 bel lt2) trodAll_mk0))), rfl, bel.frame _, fun h => by cases h⟩
theorem over : Rows.searchBrowsesRow.holds Try.pinned (OpenSpec.ofChange Rows.searchBrowsesSpec) :=
  OpenClaim.holds_of_wide 9 Try.f9 rfl rfl rfl rfl rfl rfl rfl ⟨rfl, rfl, rfl, rfl, rfl⟩ rfl rfl rfl rfl rfl (by kernel_rfl) Try.func9 (by kernel_rfl)
    (of_decide_eq_true (by kernel_rfl)) (by unfold Func.isWrapper; first | (rw [if_pos (by decide +kernel)]; kernel_rfl) | (rw [if_neg (by decide +kernel)]; exact ⟨rfl, rfl⟩))
    (fun os started H enc _ => lifted os started H enc)
theorem proved : Rows.SearchBrowsesSaid := over
#print axioms proved
end Go.Proofs.Ythofobcbbddeeaa.searchBrowses
namespace Go.Proofs.Ythofobcbbddeeaa
/-- The row, under a short name, for the claim. -/
theorem searchBrowses_holds : Rows.SearchBrowsesSaid := searchBrowses.proved
end Go.Proofs.Ythofobcbbddeeaa
