/- MesgWritesSaid: for every input that the statement lets in, the law MesgWrites returns true and leaves its arguments as they were. Conditions: none beyond the statement's own. -/
import Derived.Test.YthofobcbbddeeaaRows
import Derived.Test.YthofobcbbddeeaaPMeswx12
import Derived.Test.YthofobcbbddeeaaXO
import Derived.Test.YthofobcbbddeeaaPureMesgWrites
import Derived.WalkKit
import Derived.ProofKit
import Derived.OpenShut
import Derived.ShutString
import Derived.ChangeOld
import Derived.Below
import Derived.SizedLaws
namespace Go.Proofs.Ythofobcbbddeeaa.mesgWrites
open Go.ChangeShapes Go.WideShapes Go.ChangeAt Go.RowKit
open Go.ChangeMaps (open_string shut_string)
open Go.Proofs.Ythofobcbbddeeaa.XO Go.Proofs.YthofobcbbddeeaaW.PrintWords
set_option linter.unusedVariables false
set_option linter.unusedSimpArgs false
theorem own : ownKnob Try.prog.godebug = none := by kernel_rfl
theorem laidOut : laidOutB Try.prog = true := by kernel_rfl
set_option maxRecDepth 100000 in
theorem lifted (os : Os) (started : os.Started) (H : Type) (enc : TypeId × Value → H) :
    ReturnsInHanded {} Try.checked os 3 .any (Rows.mesgWritesSpec.pre6 enc Try.prog Try.f3 Rows.mesgWritesRow.domain false) (Rows.mesgWritesSpec.post enc Try.prog Try.f3 false true false false) := by
  refine returnsInHanded_of_change_sized (C := Try.checked) own started (by kernel_rfl) Try.func3
    (ChangeSpec.witness6 (enc := enc) (C := Try.checked) false ⟨#[], #[.agg #[.int .i64 0, .int .i64 0, .slice none 0 0, .int .i64 0, .int .i64 0, .int .i64 0, .int .i64 0, .int .i64 0, .int .i64 0, .int .i64 0], .int .i64 0], []⟩ 8 (by kernel_rfl) (by kernel_rfl) (by kernel_rfl) (by kernel_rfl)) ?_
  intro W base args ds gs before hval0 hW hcnd hsz0 _
  have hval : ∀ (j : Nat) t v, Try.f3.params[j]? = some t → args[j]? = some v → Value.okWide Try.prog W .any base t v := hval0
  have hW' := hW
  obtain ⟨p, q, hA0, hV, rfl, hfz, hnd⟩ := hW
  have hA : DataW.TrodAll enc Try.prog W 0 (fun _ => true) true Try.f3.params.toList args.toList ds p := hA0
  rw [Try.params3] at hA hval
  obtain ⟨v0, vs0, d0, ds0, p0, q0, hargs, rfl, rfl, h0, r0⟩ := trodAll_cons hA
  obtain ⟨v1, vs1, d1, ds1, p1, q1, rfl, rfl, rfl, h1, r1⟩ := trodAll_cons r0
  obtain ⟨rfl, rfl, rfl⟩ := trodAll_nil r1
  obtain rfl : args = #[v0, v1] := by cases args; simp_all
  obtain ⟨rfl, rfl⟩ := trodVars_none hV
  have k0 := h0
  have lt0 : ∀ x ∈ p0, x.block < W.heap.size := by obtain ⟨m, hm⟩ := k0; exact DataW.trod_lt m _ _ _ hm
  have o0 : Value.okWide Try.prog W .any base 28 v0 := hval 0 28 v0 rfl rfl
  have k1 := h1
  have lt1 : ∀ x ∈ p1, x.block < W.heap.size := by obtain ⟨m, hm⟩ := k1; exact DataW.trod_lt m _ _ _ hm
  have o1 : Value.okWide Try.prog W .any base 3 v1 := hval 1 3 v1 rfl rfl
  clear hA0 hval0 hsz0
  have op : Opens Try.prog 28 (Kd.iso (Kd.pair (Kd.int .i64) (Kd.pair (Kd.int .i64) (Kd.pair (Kd.slice 3 (Kd.int .i64)) (Kd.iso (Kd.pair (Kd.int .i64) (Kd.pair (Kd.int .i64) (Kd.pair (Kd.iso (Kd.pair (Kd.int .i64) (Kd.int .i64)) id) (Kd.pair (Kd.iso (Kd.pair (Kd.int .i64) (Kd.int .i64)) id) (Kd.int .i64))))) id)))) id) _ := opens_struct [(0, 3), (1, 3), (2, 22), (3, 26)] Try.underlying28 (by kernel_rfl) (by kernel_rfl) id id (fun _ => rfl) (opensF_cons 0 (opens_int Try.underlying3 (by kernel_rfl)) (opensF_cons 1 (opens_int Try.underlying3 (by kernel_rfl)) (opensF_cons 2 (opens_slice 3 Try.underlying22 (by kernel_rfl) (opens_int Try.underlying3 (by kernel_rfl))) (opensF_one 3 (opens_struct [(0, 3), (1, 3), (2, 24), (4, 24), (6, 3)] Try.underlying26 (by kernel_rfl) (by kernel_rfl) id id (fun _ => rfl) (opensF_cons 0 (opens_int Try.underlying3 (by kernel_rfl)) (opensF_cons 1 (opens_int Try.underlying3 (by kernel_rfl)) (opensF_cons 2 (opens_struct [(0, 3), (1, 3)] Try.underlying24 (by kernel_rfl) (by kernel_rfl) id id (fun _ => rfl) (opensF_cons 0 (opens_int Try.underlying3 (by kernel_rfl)) (opensF_one 1 (opens_int Try.underlying3 (by kernel_rfl))))) (opensF_cons 4 (opens_struct [(0, 3), (1, 3)] Try.underlying24 (by kernel_rfl) (by kernel_rfl) id id (fun _ => rfl) (opensF_cons 0 (opens_int Try.underlying3 (by kernel_rfl)) (opensF_one 1 (opens_int Try.underlying3 (by kernel_rfl))))) (opensF_one 6 (opens_int Try.underlying3 (by kernel_rfl))))))))))))
  obtain ⟨⟨m0_0, m0_1, l0, m0_3, m0_4, ⟨m0_5, m0_6⟩, ⟨m0_7, m0_8⟩, m0_9⟩, hK0, _, _, ⟨hl0, _⟩, _⟩ := op.arg h0
  obtain ⟨cs0, rfl, _⟩ := okWide_struct Try.underlying28 o0
  obtain ⟨_, _, e0, rfl, _, _, rfl, rfl, _, _, rfl, ⟨A0, c0, rfl, hc0, hr0⟩, ⟨_, _, rfl, rfl, _, _, rfl, rfl, _, _, rfl, ⟨_, _, rfl, rfl, rfl⟩, _, _, rfl, ⟨_, _, rfl, rfl, rfl⟩, rfl⟩⟩ := hK0
  obtain rfl : cs0 = #[.int .i64 m0_0, .int .i64 m0_1, .slice A0 l0.length c0, .int .i64 m0_3, .int .i64 m0_4, .int .i64 m0_5, .int .i64 m0_6, .int .i64 m0_7, .int .i64 m0_8, .int .i64 m0_9] := Array.ext' e0
  obtain ⟨x1, rfl, rfl, rfl, wx1⟩ := open_int Try.underlying3 o1 h1
  obtain ⟨k, hk⟩ := Pure.MesgWrites m0_0 m0_1 l0 m0_3 m0_4 m0_5 m0_6 m0_7 m0_8 m0_9 x1
  have hcall := PMesw.duetlaw04_MesgWrites.calls k m0_0 m0_1 A0 c0 l0 m0_3 m0_4 m0_5 m0_6 m0_7 m0_8 m0_9 x1 true W hr0 hc0 hk
  refine hcall.mono fun e W' ⟨he, bel⟩ => ?_
  subst he
  exact ⟨_, rfl, _, _, _, [], _, [], hW', trodAll_mk1 (shut_bool Try.underlying4 _), (trodAll_cons_mk (Below.trod laidOut (by kernel_rfl) (of_decide_eq_true (by kernel_rfl)) k0 bel lt0) (trodAll_cons_mk (Below.trod laidOut (by kernel_rfl) (of_decide_eq_true (by kernel_rfl)) k1 bel lt1) trodAll_mk0)), rfl, bel.frame _, fun h => by cases h⟩
theorem over : Rows.mesgWritesRow.holds Try.pinned (OpenSpec.ofChange Rows.mesgWritesSpec) :=
  OpenClaim.holds_of_wide 3 Try.f3 rfl rfl rfl rfl rfl rfl rfl ⟨rfl, rfl, rfl, rfl, rfl⟩ rfl rfl rfl rfl rfl (by kernel_rfl) Try.func3 (by kernel_rfl)
    (of_decide_eq_true (by kernel_rfl)) (by unfold Func.isWrapper; first | (rw [if_pos (by decide +kernel)]; kernel_rfl) | (rw [if_neg (by decide +kernel)]; exact ⟨rfl, rfl⟩))
    (fun os started H enc _ => lifted os started H enc)
theorem proved : Rows.MesgWritesSaid := over
#print axioms proved
end Go.Proofs.Ythofobcbbddeeaa.mesgWrites
namespace Go.Proofs.Ythofobcbbddeeaa
/-- The row, under a short name, for the claim. -/
theorem mesgWrites_holds : Rows.MesgWritesSaid := mesgWrites.proved
end Go.Proofs.Ythofobcbbddeeaa
