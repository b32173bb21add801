/- PastNilSaid: for every input that the statement lets in, the law PastNil returns true and leaves its arguments as they were. Conditions: none beyond the statement's own. -/
import Derived.Test.YtiplkmmppihilaaRows
import Derived.Test.YtiplkmmppihilaaPastL5
import Derived.Test.YtiplkmmppihilaaXO
import Derived.WalkKit
import Derived.ProofKit
import Derived.OpenShut
import Derived.ShutString
import Derived.ChangeOld
import Derived.Below
import Derived.SizedLaws
namespace Go.Proofs.Ytiplkmmppihilaa.pastNil
open Go.ChangeShapes Go.WideShapes Go.ChangeAt Go.RowKit
open Go.ChangeMaps (open_string shut_string)
open Go.Proofs.Ytiplkmmppihilaa.XO Go.Proofs.YtiplkmmppihilaaW.PrintWords
set_option linter.unusedVariables false
set_option linter.unusedSimpArgs false
theorem own : ownKnob Try.prog.godebug = none := by kernel_rfl
theorem laidOut : laidOutB Try.prog = true := by kernel_rfl
set_option maxRecDepth 100000 in
theorem lifted (os : Os) (started : os.Started) (H : Type) (enc : TypeId × Value → H) :
    ReturnsInHanded {} Try.checked os 6 .any (Rows.pastNilSpec.pre6 enc Try.prog Try.f6 Rows.pastNilRow.domain false) (Rows.pastNilSpec.post enc Try.prog Try.f6 false true false false) := by
  refine returnsInHanded_of_change_sized (C := Try.checked) own started (by kernel_rfl) Try.func6
    (ChangeSpec.witness6 (enc := enc) (C := Try.checked) false ⟨#[], #[.agg #[.int .i64 0, .int .i64 0, .slice none 0 0, .int .i64 0, .int .i64 0, .int .i64 0, .int .i64 0, .int .i64 0, .int .i64 0, .int .i64 0], .string ⟨#[]⟩], []⟩ 8 (by kernel_rfl) (by kernel_rfl) (by kernel_rfl) (by kernel_rfl)) ?_
  intro W base args ds gs before hval0 hW hcnd hsz0 _
  have hval : ∀ (j : Nat) t v, Try.f6.params[j]? = some t → args[j]? = some v → Value.okWide Try.prog W .any base t v := hval0
  have hW' := hW
  obtain ⟨p, q, hA0, hV, rfl, hfz, hnd⟩ := hW
  have hA : DataW.TrodAll enc Try.prog W 0 (fun _ => true) true Try.f6.params.toList args.toList ds p := hA0
  rw [Try.params6] at hA hval
  obtain ⟨v0, vs0, d0, ds0, p0, q0, hargs, rfl, rfl, h0, r0⟩ := trodAll_cons hA
  obtain ⟨v1, vs1, d1, ds1, p1, q1, rfl, rfl, rfl, h1, r1⟩ := trodAll_cons r0
  obtain ⟨rfl, rfl, rfl⟩ := trodAll_nil r1
  obtain rfl : args = #[v0, v1] := by cases args; simp_all
  obtain ⟨rfl, rfl⟩ := trodVars_none hV
  have k0 := h0
  have lt0 : ∀ x ∈ p0, x.block < W.heap.size := by obtain ⟨m, hm⟩ := k0; exact DataW.trod_lt m _ _ _ hm
  have o0 : Value.okWide Try.prog W .any base 56 v0 := hval 0 56 v0 rfl rfl
  have k1 := h1
  have lt1 : ∀ x ∈ p1, x.block < W.heap.size := by obtain ⟨m, hm⟩ := k1; exact DataW.trod_lt m _ _ _ hm
  have o1 : Value.okWide Try.prog W .any base 9 v1 := hval 1 9 v1 rfl rfl
  clear hA0 hval0 hsz0
  have op0 : Opens Try.prog 56 PPast.k56 _ := (opens_struct [(0, 3), (1, 3), (2, 50), (3, 54)] Try.underlying56 (by kernel_rfl) (by kernel_rfl) (fun x : PPast.S56 => (x.f0, x.f1, x.f2, x.f3)) (fun a => ⟨a.1, a.2.1, a.2.2.1, a.2.2.2⟩) (fun _ => rfl) (opensF_cons 0 (opens_int Try.underlying3 (by kernel_rfl)) (opensF_cons 1 (opens_int Try.underlying3 (by kernel_rfl)) (opensF_cons 2 (opens_slice 3 Try.underlying50 (by kernel_rfl) (opens_int Try.underlying3 (by kernel_rfl))) (opensF_one 3 (opens_struct [(0, 3), (1, 3), (2, 52), (4, 52), (6, 3)] Try.underlying54 (by kernel_rfl) (by kernel_rfl) (fun x : PPast.S54 => (x.f0, x.f1, x.f2, x.f3, x.f4)) (fun a => ⟨a.1, a.2.1, a.2.2.1, a.2.2.2.1, a.2.2.2.2⟩) (fun _ => rfl) (opensF_cons 0 (opens_int Try.underlying3 (by kernel_rfl)) (opensF_cons 1 (opens_int Try.underlying3 (by kernel_rfl)) (opensF_cons 2 (opens_struct [(0, 3), (1, 3)] Try.underlying52 (by kernel_rfl) (by kernel_rfl) (fun x : PPast.S52 => (x.f0, x.f1)) (fun a => ⟨a.1, a.2⟩) (fun _ => rfl) (opensF_cons 0 (opens_int Try.underlying3 (by kernel_rfl)) (opensF_one 1 (opens_int Try.underlying3 (by kernel_rfl))))) (opensF_cons 4 (opens_struct [(0, 3), (1, 3)] Try.underlying52 (by kernel_rfl) (by kernel_rfl) (fun x : PPast.S52 => (x.f0, x.f1)) (fun a => ⟨a.1, a.2⟩) (fun _ => rfl) (opensF_cons 0 (opens_int Try.underlying3 (by kernel_rfl)) (opensF_one 1 (opens_int Try.underlying3 (by kernel_rfl))))) (opensF_one 6 (opens_int Try.underlying3 (by kernel_rfl)))))))))))))
  obtain ⟨m0, hK0, _⟩ := op0.arg h0
  obtain ⟨cs0, rfl, _⟩ := okWide_struct Try.underlying56 o0
  obtain ⟨A0, c0, e0, hc0, hr0⟩ := PPast.k56_open hK0
  obtain rfl : cs0 = #[.int .i64 m0.f0, .int .i64 m0.f1, .slice A0 m0.f2.length c0, .int .i64 m0.f3.f0, .int .i64 m0.f3.f1, .int .i64 m0.f3.f2.f0, .int .i64 m0.f3.f2.f1, .int .i64 m0.f3.f3.f0, .int .i64 m0.f3.f3.f1, .int .i64 m0.f3.f4] := Array.ext' e0
  obtain ⟨x1, rfl, rfl, rfl, wx1⟩ := open_string Try.underlying9 o1 h1
  have hcall := PastA.pastNil m0.f0 m0.f1 A0 c0 m0.f2.length m0.f3.f0 m0.f3.f1 m0.f3.f2.f0 m0.f3.f2.f1 m0.f3.f3.f0 m0.f3.f3.f1 m0.f3.f4 x1 W
  refine hcall.mono fun e W' ⟨he, bel⟩ => ?_
  subst he
  exact ⟨_, rfl, _, _, _, [], _, [], hW', trodAll_mk1 (shut_bool Try.underlying4 _), (trodAll_cons_mk (Below.trod laidOut (by kernel_rfl) (of_decide_eq_true (by kernel_rfl)) k0 bel lt0) (trodAll_cons_mk (Below.trod laidOut (by kernel_rfl) (of_decide_eq_true (by kernel_rfl)) k1 bel lt1) trodAll_mk0)), rfl, bel.frame _, fun h => by cases h⟩
theorem over : Rows.pastNilRow.holds Try.pinned (OpenSpec.ofChange Rows.pastNilSpec) :=
  OpenClaim.holds_of_wide 6 Try.f6 rfl rfl rfl rfl rfl rfl rfl ⟨rfl, rfl, rfl, rfl, rfl⟩ rfl rfl rfl rfl rfl (by kernel_rfl) Try.func6 (by kernel_rfl)
    (of_decide_eq_true (by kernel_rfl)) (by unfold Func.isWrapper; first | (rw [if_pos (by decide +kernel)]; kernel_rfl) | (rw [if_neg (by decide +kernel)]; exact ⟨rfl, rfl⟩))
    (fun os started H enc _ => lifted os started H enc)
theorem proved : Rows.PastNilSaid := over
#print axioms proved
end Go.Proofs.Ytiplkmmppihilaa.pastNil
namespace Go.Proofs.Ytiplkmmppihilaa
/-- The row, under a short name, for the claim. -/
theorem pastNil_holds : Rows.PastNilSaid := pastNil.proved
end Go.Proofs.Ytiplkmmppihilaa
