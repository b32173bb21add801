/- PastWhereSaid: for every input that the statement lets in, the law PastWhere returns true and leaves its arguments as they were. Conditions: none beyond the statement's own. -/
import Derived.Test.YtiplkmmppihilaaRows
import Derived.Test.YtiplkmmppihilaaPastL7
import Derived.Test.YtiplkmmppihilaaXO
import Derived.WalkKit
import Derived.ProofKit
import Derived.OpenShut
import Derived.ShutString
import Derived.ChangeOld
import Derived.Below
import Derived.SizedLaws
namespace Go.Proofs.Ytiplkmmppihilaa.pastWhere
open Go.ChangeShapes Go.WideShapes Go.ChangeAt Go.RowKit
open Go.ChangeMaps (open_string shut_string)
open Go.Proofs.Ytiplkmmppihilaa.XO Go.Proofs.YtiplkmmppihilaaW.PrintWords
set_option linter.unusedVariables false
set_option linter.unusedSimpArgs false
theorem own : ownKnob Try.prog.godebug = none := by kernel_rfl
theorem laidOut : laidOutB Try.prog = true := by kernel_rfl
set_option maxRecDepth 100000 in
theorem lifted (os : Os) (started : os.Started) (H : Type) (enc : TypeId × Value → H) :
    ReturnsInHanded {} Try.checked os 5 .any (Rows.pastWhereSpec.pre6 enc Try.prog Try.f5 Rows.pastWhereRow.domain false) (Rows.pastWhereSpec.post enc Try.prog Try.f5 false true false false) := by
  refine returnsInHanded_of_change_sized (C := Try.checked) own started (by kernel_rfl) Try.func5
    (ChangeSpec.witness6 (enc := enc) (C := Try.checked) false ⟨#[], #[.agg #[.int .i64 0, .slice none 0 0, .int .i64 0, .int .i64 0]], []⟩ 8 (by kernel_rfl) (by kernel_rfl) (by kernel_rfl) (by kernel_rfl)) ?_
  intro W base args ds gs before hval0 hW hcnd hsz0 _
  have hval : ∀ (j : Nat) t v, Try.f5.params[j]? = some t → args[j]? = some v → Value.okWide Try.prog W .any base t v := hval0
  have hW' := hW
  obtain ⟨p, q, hA0, hV, rfl, hfz, hnd⟩ := hW
  have hA : DataW.TrodAll enc Try.prog W 0 (fun _ => true) true Try.f5.params.toList args.toList ds p := hA0
  rw [Try.params5] at hA hval
  obtain ⟨v0, vs0, d0, ds0, p0, q0, hargs, rfl, rfl, h0, r0⟩ := trodAll_cons hA
  obtain ⟨rfl, rfl, rfl⟩ := trodAll_nil r0
  obtain rfl : args = #[v0] := by cases args; simp_all
  obtain ⟨rfl, rfl⟩ := trodVars_none hV
  have k0 := h0
  have lt0 : ∀ x ∈ p0, x.block < W.heap.size := by obtain ⟨m, hm⟩ := k0; exact DataW.trod_lt m _ _ _ hm
  have o0 : Value.okWide Try.prog W .any base 41 v0 := hval 0 41 v0 rfl rfl
  clear hA0 hval0 hsz0
  have op : Opens Try.prog 41 (Kd.iso (Kd.pair (Kd.int .i64) (Kd.pair (Kd.slice 56 PPast.k56) (Kd.pair (Kd.int .i64) (Kd.int .i64)))) id) _ := opens_struct [(0, 3), (1, 39), (2, 3), (3, 3)] Try.underlying41 (by kernel_rfl) (by kernel_rfl) id id (fun _ => rfl) (opensF_cons 0 (opens_int Try.underlying3 (by kernel_rfl)) (opensF_cons 1 (opens_slice 56 Try.underlying39 (by kernel_rfl) (opens_struct [(0, 3), (1, 3), (2, 50), (3, 54)] Try.underlying56 (by kernel_rfl) (by kernel_rfl) (fun x : PPast.S56 => (x.f0, x.f1, x.f2, x.f3)) (fun a => ⟨a.1, a.2.1, a.2.2.1, a.2.2.2⟩) (fun _ => rfl) (opensF_cons 0 (opens_int Try.underlying3 (by kernel_rfl)) (opensF_cons 1 (opens_int Try.underlying3 (by kernel_rfl)) (opensF_cons 2 (opens_slice 3 Try.underlying50 (by kernel_rfl) (opens_int Try.underlying3 (by kernel_rfl))) (opensF_one 3 (opens_struct [(0, 3), (1, 3), (2, 52), (4, 52), (6, 3)] Try.underlying54 (by kernel_rfl) (by kernel_rfl) (fun x : PPast.S54 => (x.f0, x.f1, x.f2, x.f3, x.f4)) (fun a => ⟨a.1, a.2.1, a.2.2.1, a.2.2.2.1, a.2.2.2.2⟩) (fun _ => rfl) (opensF_cons 0 (opens_int Try.underlying3 (by kernel_rfl)) (opensF_cons 1 (opens_int Try.underlying3 (by kernel_rfl)) (opensF_cons 2 (opens_struct [(0, 3), (1, 3)] Try.underlying52 (by kernel_rfl) (by kernel_rfl) (fun x : PPast.S52 => (x.f0, x.f1)) (fun a => ⟨a.1, a.2⟩) (fun _ => rfl) (opensF_cons 0 (opens_int Try.underlying3 (by kernel_rfl)) (opensF_one 1 (opens_int Try.underlying3 (by kernel_rfl))))) (opensF_cons 4 (opens_struct [(0, 3), (1, 3)] Try.underlying52 (by kernel_rfl) (by kernel_rfl) (fun x : PPast.S52 => (x.f0, x.f1)) (fun a => ⟨a.1, a.2⟩) (fun _ => rfl) (opensF_cons 0 (opens_int Try.underlying3 (by kernel_rfl)) (opensF_one 1 (opens_int Try.underlying3 (by kernel_rfl))))) (opensF_one 6 (opens_int Try.underlying3 (by kernel_rfl)))))))))))))) (opensF_cons 2 (opens_int Try.underlying3 (by kernel_rfl)) (opensF_one 3 (opens_int Try.underlying3 (by kernel_rfl))))))
  obtain ⟨⟨n, l0, s, e⟩, hK0, _, ⟨hl0, _⟩, _⟩ := op.arg h0
  obtain ⟨cs, rfl, _⟩ := okWide_struct Try.underlying41 o0
  obtain ⟨_, _, e0, rfl, _, _, rfl, ⟨A0, c0, rfl, hc0, hr0⟩, _, _, rfl, rfl, rfl⟩ := hK0
  obtain rfl : cs = #[.int .i64 n, .slice A0 l0.length c0, .int .i64 s, .int .i64 e] := Array.ext' e0
  have hl1 : l0.length ≤ maxLen := hl0
  unfold maxLen at hl1
  have hcall := PastA.pastWhere n s e A0 c0 l0 W hr0 hc0 (by omega)
  refine hcall.mono fun e W' ⟨he, bel⟩ => ?_
  subst he
  exact ⟨_, rfl, _, _, _, [], _, [], hW', trodAll_mk1 (shut_bool Try.underlying4 _), (trodAll_cons_mk (Below.trod laidOut (by kernel_rfl) (of_decide_eq_true (by kernel_rfl)) k0 bel lt0) trodAll_mk0), rfl, bel.frame _, fun h => by cases h⟩
theorem over : Rows.pastWhereRow.holds Try.pinned (OpenSpec.ofChange Rows.pastWhereSpec) :=
  OpenClaim.holds_of_wide 5 Try.f5 rfl rfl rfl rfl rfl rfl rfl ⟨rfl, rfl, rfl, rfl, rfl⟩ rfl rfl rfl rfl rfl (by kernel_rfl) Try.func5 (by kernel_rfl)
    (of_decide_eq_true (by kernel_rfl)) (by unfold Func.isWrapper; first | (rw [if_pos (by decide +kernel)]; kernel_rfl) | (rw [if_neg (by decide +kernel)]; exact ⟨rfl, rfl⟩))
    (fun os started H enc _ => lifted os started H enc)
theorem proved : Rows.PastWhereSaid := over
#print axioms proved
end Go.Proofs.Ytiplkmmppihilaa.pastWhere
namespace Go.Proofs.Ytiplkmmppihilaa
/-- The row, under a short name, for the claim. -/
theorem pastWhere_holds : Rows.PastWhereSaid := pastWhere.proved
end Go.Proofs.Ytiplkmmppihilaa
