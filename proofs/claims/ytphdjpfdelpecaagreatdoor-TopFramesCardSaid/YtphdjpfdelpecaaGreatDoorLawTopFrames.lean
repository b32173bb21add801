/- TopFramesCardSaid: for every text of bytes, TopFrames returns true and leaves its argument as it was; the variables that its row lists are tied to the program's text by the given tie. Conditions: none beyond the statement's own. -/
import Derived.Test.YtphdjpfdelpecaaGreatDoorRows
import Derived.Test.YtphdjpfdelpecaaGreatDoorCards
import Derived.Test.YtphdjpfdelpecaaGreatDoorTie
import Derived.Test.YtphdjpfdelpecaaGreatDoorFrmT
import Derived.WalkKit
import Derived.ProofKit
import Derived.OpenShut
import Derived.ShutString
import Derived.ChangeOld
import Derived.Below
import Derived.SizedLaws
import Derived.Lay
import Derived.LaidOnce
import Derived.SevenTiedAt
namespace Go.Proofs.YtphdjpfdelpecaaGreatDoor.topFrames
open Go.ChangeShapes Go.WideShapes Go.ChangeAt Go.RowKit
open Go.ChangeMaps (open_string shut_string)
set_option linter.unusedVariables false
theorem own : ownKnob Tryz.prog.godebug = none := by kernel_rfl
set_option maxRecDepth 100000 in
theorem lifted (os : Os) (started : os.Started) (H : Type) (enc : TypeId × Value → H) :
    ReturnsInHanded {} Tryz.checked os 4 .any (fun w args => (Rows.topFramesSpec.pre enc Tryz.prog Tryz.f4 [] false w args ∧ laidMetH Tryz.prog Rows.topFramesRow.laid w) ∧ sizedMet enc Tryz.prog Tryz.f4 (OpenSpec.ofChange Rows.topFramesSpec) false w args)
      (Rows.topFramesSpec.post enc Tryz.prog Tryz.f4 false true false false) := by
  refine returnsInHanded_of_change_and (C := Tryz.checked) (X := fun w _ => laidMetH Tryz.prog Rows.topFramesRow.laid w) (fun _ _ _ hh h => h.of_heap hh) own started (by kernel_rfl) Tryz.func4
    (ChangeSpec.witness_shaped (enc := enc) (C := Tryz.checked) (os := os) (X := fun w _ => laidMetH Tryz.prog Rows.topFramesRow.laid w) false (World.laidAll Tryz.prog os Rows.topFramesRow.laid) #[.string ByteArray.empty] 8 (World.laidAll_os _ _ _)
      (World.shaped_of_ZipB (by kernel_rfl) (by kernel_rfl)) (by kernel_rfl) (by kernel_rfl) (by kernel_rfl)
      (by rw [MakeChecks.laidMetH_plain _ _ _ (by kernel_rfl)]; exact laidMet_laidAll _ (by kernel_rfl) (by kernel_rfl))) ?_
  intro W base args ds gs before hval0 hW _ _ hL _
  have hval : ∀ (j : Nat) t v, Tryz.f4.params[j]? = some t → args[j]? = some v → Value.okWide Tryz.prog W .any base t v := hval0
  have hW' := hW
  obtain ⟨p, q, hA0, hV, rfl, _, _⟩ := hW
  have hA : DataW.TrodAll enc Tryz.prog W 0 (fun _ => true) true Tryz.f4.params.toList args.toList ds p := hA0
  rw [Tryz.params4] at hA hval
  obtain ⟨v0, d0, rfl, rfl, h0⟩ := trodAll_one hA
  obtain ⟨rfl, rfl⟩ := trodVars_none hV
  obtain ⟨a0, rfl, rfl, rfl, y0⟩ := open_string Tryz.underlying9 (hval 0 9 v0 rfl rfl) h0
  simp only [List.append_nil] at hW'
  clear hA0 hval0 hL
  refine (FrmA.top_is a0 W).mono fun e W' ⟨he, hb⟩ => ?_
  subst he
  exact ⟨_, rfl, _, _, _, [], [], [], hW', trodAll_mk1 (shut_bool Tryz.underlying4 _), trodAll_mk1 (shut_string Tryz.underlying9 y0), rfl, hb.frame _, fun h => by cases h⟩
theorem j1 : (Rows.topFramesRow.inPlace == Tryz.prog.inPlace 4) = true := by kernel_rfl
theorem j2 : (Rows.topFramesRow.unfollowed == Tryz.prog.unfollowed 4) = true := by kernel_rfl
theorem j3 : (Rows.topFramesRow.recurses == Tryz.prog.recurses 4) = true := by kernel_rfl
theorem j4 : (Rows.topFramesRow.named == Tryz.prog.varsNamed 4) = true := by kernel_rfl
theorem f1 : joinedFacts Tryz.prog 4 Tryz.f4 Rows.topFramesSpec Rows.topFramesRow = true := by
  unfold joinedFacts
  rw [j1, j2, j3, j4]
  kernel_rfl
theorem f2 : Tryz.f4.isInstance Tryz.prog Rows.topFramesRow.origin Rows.topFramesRow.targs := of_decide_eq_true (by kernel_rfl)
theorem f3 : Tryz.f4.isWrapper Tryz.prog Rows.topFramesRow.wrapper Rows.topFramesRow.mainSum := by unfold Func.isWrapper; first | (rw [if_pos (by decide +kernel)]; kernel_rfl) | (rw [if_neg (by decide +kernel)]; exact ⟨rfl, rfl⟩)
theorem over : Rows.topFramesRow.holds Tryz.pinned (OpenSpec.ofChange Rows.topFramesSpec) :=
  OpenClaim.holds_of_wide 4 Tryz.f4 rfl rfl rfl rfl rfl rfl rfl ⟨rfl, rfl, rfl, rfl, rfl⟩ rfl rfl rfl rfl rfl (by kernel_rfl) Tryz.func4 f1 f2 f3
    (fun os started H enc _ => lifted os started H enc)
theorem proved : Rows.TopFramesCardSaid :=
  Claim7.holds_tied_plain_at .later [] [.data, .data, .data, .data, .widerDeep, .widerDeep, .pinned] true (true, "2ee1e5a386a60f2d7272f6cdb957baa7bc19b5e21331be3305a48992fe60354d") true over (fun _ h => by cases h) (by kernel_rfl) (fun _ h => by cases h) topFrames_row_tie rfl ⟨rfl, rfl⟩ (by kernel_rfl) rfl
    (fun f fn hf hfn => by
      obtain rfl : f = 4 := Option.some.inj ((show Tryz.prog.funcNamed "duet/duettop.TopFrames" = some 4 by kernel_rfl).symm.trans hf) |>.symm
      obtain rfl : fn = Tryz.f4 := (Option.some.inj (Tryz.func4.symm.trans hfn)).symm
      exact ⟨by kernel_rfl, fun j t ht => by
        rw [Tryz.params4] at ht
        have hm : t ∈ [9] := by simpa using Array.mem_of_getElem? ht
        have hall : ([9].all fun u => !Tryz.prog.wantsStandIn u) = true := by kernel_rfl
        exact (show Tryz.prog.wantsStandIn t = false by simpa using List.all_eq_true.1 hall t hm)⟩)
    (by kernel_rfl)
#print axioms proved
end Go.Proofs.YtphdjpfdelpecaaGreatDoor.topFrames
namespace Go.Proofs.YtphdjpfdelpecaaGreatDoor
theorem topFrames_holds : Rows.TopFramesCardSaid := topFrames.proved
end Go.Proofs.YtphdjpfdelpecaaGreatDoor
