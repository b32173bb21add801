/- PastGrowsSaid: for every input that the statement lets in, the law PastGrows returns true and leaves its arguments as they were. Conditions: none beyond the statement's own. -/
import Derived.Test.YtiplkmmppihilaaRows
import Derived.Test.YtiplkmmppihilaaPastL2
import Derived.Test.YtiplkmmppihilaaXO
import Derived.WalkKit
import Derived.ProofKit
import Derived.OpenShut
import Derived.ShutString
import Derived.ChangeOld
import Derived.Below
import Derived.SizedLaws
namespace Go.Proofs.Ytiplkmmppihilaa.pastGrows
open Go.ChangeShapes Go.WideShapes Go.ChangeAt Go.RowKit
open Go.ChangeMaps (open_string shut_string)
open Go.Proofs.Ytiplkmmppihilaa.XO Go.Proofs.YtiplkmmppihilaaW.PrintWords
set_option linter.unusedVariables false
set_option linter.unusedSimpArgs false
theorem own : ownKnob Try.prog.godebug = none := by kernel_rfl
theorem laidOut : laidOutB Try.prog = true := by kernel_rfl
set_option maxRecDepth 100000 in
theorem lifted (os : Os) (started : os.Started) (H : Type) (enc : TypeId × Value → H) :
    ReturnsInHanded {} Try.checked os 7 .any (Rows.pastGrowsSpec.pre6 enc Try.prog Try.f7 Rows.pastGrowsRow.domain false) (Rows.pastGrowsSpec.post enc Try.prog Try.f7 false true false false) := by
  refine returnsInHanded_of_change_sized (C := Try.checked) own started (by kernel_rfl) Try.func7
    (ChangeSpec.witness6 (enc := enc) (C := Try.checked) false ⟨#[], #[.slice none 0 0, .int .i64 0], []⟩ 8 (by kernel_rfl) (by kernel_rfl) (by kernel_rfl) (by kernel_rfl)) ?_
  intro W base args ds gs before hval0 hW hcnd hsz0 _
  have hval : ∀ (j : Nat) t v, Try.f7.params[j]? = some t → args[j]? = some v → Value.okWide Try.prog W .any base t v := hval0
  have hW' := hW
  obtain ⟨p, q, hA0, hV, rfl, hfz, hnd⟩ := hW
  have hA : DataW.TrodAll enc Try.prog W 0 (fun _ => true) true Try.f7.params.toList args.toList ds p := hA0
  rw [Try.params7] at hA hval
  obtain ⟨v0, vs0, d0, ds0, p0, q0, hargs, rfl, rfl, h0, r0⟩ := trodAll_cons hA
  obtain ⟨v1, vs1, d1, ds1, p1, q1, rfl, rfl, rfl, h1, r1⟩ := trodAll_cons r0
  obtain ⟨rfl, rfl, rfl⟩ := trodAll_nil r1
  obtain rfl : args = #[v0, v1] := by cases args; simp_all
  obtain ⟨rfl, rfl⟩ := trodVars_none hV
  have k0 := h0
  have lt0 : ∀ x ∈ p0, x.block < W.heap.size := by obtain ⟨m, hm⟩ := k0; exact DataW.trod_lt m _ _ _ hm
  have o0 : Value.okWide Try.prog W .any base 22 v0 := hval 0 22 v0 rfl rfl
  have k1 := h1
  have lt1 : ∀ x ∈ p1, x.block < W.heap.size := by obtain ⟨m, hm⟩ := k1; exact DataW.trod_lt m _ _ _ hm
  have o1 : Value.okWide Try.prog W .any base 3 v1 := hval 1 3 v1 rfl rfl
  clear hA0 hval0 hsz0
  have op0 : Opens Try.prog 22 (Kd.slice 30 PastA.KLine) _ := opens_slice 30 Try.underlying22 (by kernel_rfl) (opens_struct [(0, 3), (1, 9)] Try.underlying30 (by kernel_rfl) (by kernel_rfl) id id (fun _ => rfl) (opensF_cons 0 (opens_int Try.underlying3 (by kernel_rfl)) (opensF_one 1 (opens_string Try.underlying9 (by kernel_rfl)))))
  obtain ⟨l0, hK0, hl0, hq0⟩ := op0.arg h0
  obtain ⟨a0, n0, b0, rfl⟩ := okWide_slice Try.underlying22 o0
  obtain ⟨A0, c0, e0, hc0, hr0⟩ := hK0
  obtain ⟨rfl, rfl, rfl⟩ : a0 = A0 ∧ n0 = l0.length ∧ b0 = c0 := by simpa [Value.cells] using e0
  unfold maxLen at hl0
  obtain ⟨x1, rfl, rfl, rfl, wx1⟩ := open_int Try.underlying3 o1 h1
  have hcall := PastA.pastGrows a0 b0 l0 x1 W hr0 hc0 (by omega)
  refine hcall.mono fun e W' ⟨he, bel⟩ => ?_
  subst he
  exact ⟨_, rfl, _, _, _, [], _, [], hW', trodAll_mk1 (shut_bool Try.underlying4 _), (trodAll_cons_mk (Below.trod laidOut (by kernel_rfl) (of_decide_eq_true (by kernel_rfl)) k0 bel lt0) (trodAll_cons_mk (Below.trod laidOut (by kernel_rfl) (of_decide_eq_true (by kernel_rfl)) k1 bel lt1) trodAll_mk0)), rfl, bel.frame _, fun h => by cases h⟩
theorem over : Rows.pastGrowsRow.holds Try.pinned (OpenSpec.ofChange Rows.pastGrowsSpec) :=
  OpenClaim.holds_of_wide 7 Try.f7 rfl rfl rfl rfl rfl rfl rfl ⟨rfl, rfl, rfl, rfl, rfl⟩ rfl rfl rfl rfl rfl (by kernel_rfl) Try.func7 (by kernel_rfl)
    (of_decide_eq_true (by kernel_rfl)) (by unfold Func.isWrapper; first | (rw [if_pos (by decide +kernel)]; kernel_rfl) | (rw [if_neg (by decide +kernel)]; exact ⟨rfl, rfl⟩))
    (fun os started H enc _ => lifted os started H enc)
theorem proved : Rows.PastGrowsSaid := over
#print axioms proved
end Go.Proofs.Ytiplkmmppihilaa.pastGrows
namespace Go.Proofs.Ytiplkmmppihilaa
/-- The row, under a short name, for the claim. -/
theorem pastGrows_holds : Rows.PastGrowsSaid := pastGrows.proved
end Go.Proofs.Ytiplkmmppihilaa
