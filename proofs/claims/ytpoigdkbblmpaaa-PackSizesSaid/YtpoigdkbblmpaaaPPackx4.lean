/- Functions that the law reaches, each as a plain Lean function with the proof that the call does what it says. Conditions: none beyond those that each theorem states. Written by a program for this claim. -/
import Derived.Test.YtpoigdkbblmpaaaPPackx0
import Derived.Test.YtpoigdkbblmpaaaPPackx1
import Derived.Test.YtpoigdkbblmpaaaPPackx2
import Derived.Test.YtpoigdkbblmpaaaPPackx3
namespace Go.Proofs.Ytpoigdkbblmpaaa.PPack
open Go.RowKit Go.Proofs.YtpoigdkbblmpaaaW.PrintWords Go.Proofs.YtpoigdkbblmpaaaW.PrintLast Go.Proofs.YtpoigdkbblmpaaaW.PrintMore
attribute [local go_sem] max2_int min2_int max_two min_two max_three min_three max_four min_four   -- for this text's walks alone
set_option linter.unusedVariables false
set_option linter.unusedSimpArgs false

/-! ### duetlaw01_PackReads: function 10 -/
def duetlaw01_PackReads.f (k : Nat) (a0 : ByteArray) : Option (Bool) := (duetlaw01_short.f a0).bind fun t234 => (if t234 = true then ((pack_Take.f a0).bind fun bt236 => ((duetref01_Take.f k a0).bind fun bt239 => ((pack_Cut.f a0).bind fun bt242 => ((duetref01_Cut.f k a0).bind fun bt245 => ((pack_Each.f k a0).bind fun bt248 => ((duetref01_Each.f k a0).bind fun bt253 => (if bt236.1 = bt239.1 then (if bt236.2.1.toList = bt239.2.1.toList then (if bt236.2.2 = bt239.2.2 then (if bt242.1.toList = bt245.1.toList then (if bt242.2.1.toList = bt245.2.1.toList then (if bt242.2.2 = bt245.2.2 then ((duetref01_Same.f k bt248.1 bt253.1).bind fun t258 => (if t258 = true then (if bt248.2.1.toList = bt253.2.1.toList then (if bt248.2.2 = bt253.2.2 then ((duetlaw01_live.f k).bind fun t259 => (some t259)) else (none)) else (none)) else (none))) else (none)) else (none)) else (none)) else (none)) else (none)) else (none)))))))) else ((duetlaw01_live.f k).bind fun t235 => (some t235)))
theorem duetlaw01_PackReads.mono : ∀ a0 k, LeO (duetlaw01_PackReads.f k a0) (duetlaw01_PackReads.f (k + 1) a0) := by
  intro a0 k
  unfold duetlaw01_PackReads.f
  repeat' first
      | (with_reducible exact duetlaw01_live.mono _)
      | (with_reducible exact duetref01_Cut.mono _ _)
      | (with_reducible exact duetref01_Each.mono _ _)
      | (with_reducible exact duetref01_Same.mono _ _ _)
      | (with_reducible exact duetref01_Take.mono _ _)
      | (with_reducible exact pack_Each.mono _ _)
      | (with_reducible exact LeO.refl _)
      | (with_reducible exact LeO.none _)
      | (with_reducible refine LeO.ite ?_ ?_)
      | (with_reducible refine LeO.bind ?_ (fun _ => ?_))
      | exact duetlaw01_live.mono _
      | exact duetref01_Cut.mono _ _
      | exact duetref01_Each.mono _ _
      | exact duetref01_Same.mono _ _ _
      | exact duetref01_Take.mono _ _
      | exact pack_Each.mono _ _
      | exact LeO.none _
      | refine LeO.ite ?_ ?_
      | refine LeO.bind ?_ (fun _ => ?_)
set_option maxHeartbeats 8000000 in
set_option maxRecDepth 100000 in
theorem duetlaw01_PackReads.calls (k : Nat) (a0 : ByteArray) (r : Bool) (w : World) (h : duetlaw01_PackReads.f k a0 = some r) :
    Calls Try.prog 10 #[.string a0] w fun e w' => e = .returned (.bool r) ∧ Below w.heap.size w w' := by
  have HB := Aside0.mk (Below.refl w.heap.size w)
  have H : ((duetlaw01_short.f a0).bind fun t234 => (if t234 = true then ((pack_Take.f a0).bind fun bt236 => ((duetref01_Take.f k a0).bind fun bt239 => ((pack_Cut.f a0).bind fun bt242 => ((duetref01_Cut.f k a0).bind fun bt245 => ((pack_Each.f k a0).bind fun bt248 => ((duetref01_Each.f k a0).bind fun bt253 => (if bt236.1 = bt239.1 then (if bt236.2.1.toList = bt239.2.1.toList then (if bt236.2.2 = bt239.2.2 then (if bt242.1.toList = bt245.1.toList then (if bt242.2.1.toList = bt245.2.1.toList then (if bt242.2.2 = bt245.2.2 then ((duetref01_Same.f k bt248.1 bt253.1).bind fun t258 => (if t258 = true then (if bt248.2.1.toList = bt253.2.1.toList then (if bt248.2.2 = bt253.2.2 then ((duetlaw01_live.f k).bind fun t259 => (some t259)) else (none)) else (none)) else (none))) else (none)) else (none)) else (none)) else (none)) else (none)) else (none)))))))) else ((duetlaw01_live.f k).bind fun t235 => (some t235)))) = some r := h
  clear h
  replace H := Option.bind_eq_some_iff.mp H
  obtain ⟨t234, A20, H⟩ := H
  replace H : (if t234 = true then ((pack_Take.f a0).bind fun bt236 => ((duetref01_Take.f k a0).bind fun bt239 => ((pack_Cut.f a0).bind fun bt242 => ((duetref01_Cut.f k a0).bind fun bt245 => ((pack_Each.f k a0).bind fun bt248 => ((duetref01_Each.f k a0).bind fun bt253 => (if bt236.1 = bt239.1 then (if bt236.2.1.toList = bt239.2.1.toList then (if bt236.2.2 = bt239.2.2 then (if bt242.1.toList = bt245.1.toList then (if bt242.2.1.toList = bt245.2.1.toList then (if bt242.2.2 = bt245.2.2 then ((duetref01_Same.f k bt248.1 bt253.1).bind fun t258 => (if t258 = true then (if bt248.2.1.toList = bt253.2.1.toList then (if bt248.2.2 = bt253.2.2 then ((duetlaw01_live.f k).bind fun t259 => (some t259)) else (none)) else (none)) else (none))) else (none)) else (none)) else (none)) else (none)) else (none)) else (none)))))))) else ((duetlaw01_live.f k).bind fun t235 => (some t235))) = some r := H
  have A2 := Aside0.mk A20
  clear A20
  by_cases c3 : t234 = true
  · subst c3
    have H1 : ((pack_Take.f a0).bind fun bt236 => ((duetref01_Take.f k a0).bind fun bt239 => ((pack_Cut.f a0).bind fun bt242 => ((duetref01_Cut.f k a0).bind fun bt245 => ((pack_Each.f k a0).bind fun bt248 => ((duetref01_Each.f k a0).bind fun bt253 => (if bt236.1 = bt239.1 then (if bt236.2.1.toList = bt239.2.1.toList then (if bt236.2.2 = bt239.2.2 then (if bt242.1.toList = bt245.1.toList then (if bt242.2.1.toList = bt245.2.1.toList then (if bt242.2.2 = bt245.2.2 then ((duetref01_Same.f k bt248.1 bt253.1).bind fun t258 => (if t258 = true then (if bt248.2.1.toList = bt253.2.1.toList then (if bt248.2.2 = bt253.2.2 then ((duetlaw01_live.f k).bind fun t259 => (some t259)) else (none)) else (none)) else (none))) else (none)) else (none)) else (none)) else (none)) else (none)) else (none)))))))) = some r := by rw [if_pos rfl] at H; exact H
    clear H
    have H := H1
    clear H1
    replace H := Option.bind_eq_some_iff.mp H
    obtain ⟨⟨t236, t237, t238⟩, A40, H⟩ := H
    replace H : ((duetref01_Take.f k a0).bind fun bt239 => ((pack_Cut.f a0).bind fun bt242 => ((duetref01_Cut.f k a0).bind fun bt245 => ((pack_Each.f k a0).bind fun bt248 => ((duetref01_Each.f k a0).bind fun bt253 => (if t236 = bt239.1 then (if t237.toList = bt239.2.1.toList then (if t238 = bt239.2.2 then (if bt242.1.toList = bt245.1.toList then (if bt242.2.1.toList = bt245.2.1.toList then (if bt242.2.2 = bt245.2.2 then ((duetref01_Same.f k bt248.1 bt253.1).bind fun t258 => (if t258 = true then (if bt248.2.1.toList = bt253.2.1.toList then (if bt248.2.2 = bt253.2.2 then ((duetlaw01_live.f k).bind fun t259 => (some t259)) else (none)) else (none)) else (none))) else (none)) else (none)) else (none)) else (none)) else (none)) else (none))))))) = some r := H
    have A4 := Aside0.mk A40
    clear A40
    replace H := Option.bind_eq_some_iff.mp H
    obtain ⟨⟨t239, t240, t241⟩, A50, H⟩ := H
    replace H : ((pack_Cut.f a0).bind fun bt242 => ((duetref01_Cut.f k a0).bind fun bt245 => ((pack_Each.f k a0).bind fun bt248 => ((duetref01_Each.f k a0).bind fun bt253 => (if t236 = t239 then (if t237.toList = t240.toList then (if t238 = t241 then (if bt242.1.toList = bt245.1.toList then (if bt242.2.1.toList = bt245.2.1.toList then (if bt242.2.2 = bt245.2.2 then ((duetref01_Same.f k bt248.1 bt253.1).bind fun t258 => (if t258 = true then (if bt248.2.1.toList = bt253.2.1.toList then (if bt248.2.2 = bt253.2.2 then ((duetlaw01_live.f k).bind fun t259 => (some t259)) else (none)) else (none)) else (none))) else (none)) else (none)) else (none)) else (none)) else (none)) else (none)))))) = some r := H
    have A5 := Aside0.mk A50
    clear A50
    replace H := Option.bind_eq_some_iff.mp H
    obtain ⟨⟨t242, t243, t244⟩, A60, H⟩ := H
    replace H : ((duetref01_Cut.f k a0).bind fun bt245 => ((pack_Each.f k a0).bind fun bt248 => ((duetref01_Each.f k a0).bind fun bt253 => (if t236 = t239 then (if t237.toList = t240.toList then (if t238 = t241 then (if t242.toList = bt245.1.toList then (if t243.toList = bt245.2.1.toList then (if t244 = bt245.2.2 then ((duetref01_Same.f k bt248.1 bt253.1).bind fun t258 => (if t258 = true then (if bt248.2.1.toList = bt253.2.1.toList then (if bt248.2.2 = bt253.2.2 then ((duetlaw01_live.f k).bind fun t259 => (some t259)) else (none)) else (none)) else (none))) else (none)) else (none)) else (none)) else (none)) else (none)) else (none))))) = some r := H
    have A6 := Aside0.mk A60
    clear A60
    replace H := Option.bind_eq_some_iff.mp H
    obtain ⟨⟨t245, t246, t247⟩, A70, H⟩ := H
    replace H : ((pack_Each.f k a0).bind fun bt248 => ((duetref01_Each.f k a0).bind fun bt253 => (if t236 = t239 then (if t237.toList = t240.toList then (if t238 = t241 then (if t242.toList = t245.toList then (if t243.toList = t246.toList then (if t244 = t247 then ((duetref01_Same.f k bt248.1 bt253.1).bind fun t258 => (if t258 = true then (if bt248.2.1.toList = bt253.2.1.toList then (if bt248.2.2 = bt253.2.2 then ((duetlaw01_live.f k).bind fun t259 => (some t259)) else (none)) else (none)) else (none))) else (none)) else (none)) else (none)) else (none)) else (none)) else (none)))) = some r := H
    have A7 := Aside0.mk A70
    clear A70
    replace H := Option.bind_eq_some_iff.mp H
    obtain ⟨⟨t248, t249, t250⟩, A80, H⟩ := H
    replace H : ((duetref01_Each.f k a0).bind fun bt253 => (if t236 = t239 then (if t237.toList = t240.toList then (if t238 = t241 then (if t242.toList = t245.toList then (if t243.toList = t246.toList then (if t244 = t247 then ((duetref01_Same.f k t248 bt253.1).bind fun t258 => (if t258 = true then (if t249.toList = bt253.2.1.toList then (if t250 = bt253.2.2 then ((duetlaw01_live.f k).bind fun t259 => (some t259)) else (none)) else (none)) else (none))) else (none)) else (none)) else (none)) else (none)) else (none)) else (none))) = some r := H
    have A8 := Aside0.mk A80
    clear A80
    replace H := Option.bind_eq_some_iff.mp H
    obtain ⟨⟨t253, t254, t255⟩, A90, H⟩ := H
    replace H : (if t236 = t239 then (if t237.toList = t240.toList then (if t238 = t241 then (if t242.toList = t245.toList then (if t243.toList = t246.toList then (if t244 = t247 then ((duetref01_Same.f k t248 t253).bind fun t258 => (if t258 = true then (if t249.toList = t254.toList then (if t250 = t255 then ((duetlaw01_live.f k).bind fun t259 => (some t259)) else (none)) else (none)) else (none))) else (none)) else (none)) else (none)) else (none)) else (none)) else (none)) = some r := H
    have A9 := Aside0.mk A90
    clear A90
    by_cases c10 : t236 = t239
    · rw [if_pos c10] at H
      have c10b0 : (t236 == t239) = true := beq_iff_eq.mpr c10
      have c10b1 : (t236 != t239) = false := bne_eq_false_iff_eq.mpr c10
      clear c10
      by_cases c11 : t237.toList = t240.toList
      · rw [if_pos c11] at H
        have c11b0 : (t237.toList == t240.toList) = true := beq_iff_eq.mpr c11
        have c11b1 : (t237.toList != t240.toList) = false := bne_eq_false_iff_eq.mpr c11
        clear c11
        by_cases c12 : t238 = t241
        · rw [if_pos c12] at H
          have c12b0 : (t238 == t241) = true := beq_iff_eq.mpr c12
          have c12b1 : (t238 != t241) = false := bne_eq_false_iff_eq.mpr c12
          clear c12
          by_cases c13 : t242.toList = t245.toList
          · rw [if_pos c13] at H
            have c13b0 : (t242.toList == t245.toList) = true := beq_iff_eq.mpr c13
            have c13b1 : (t242.toList != t245.toList) = false := bne_eq_false_iff_eq.mpr c13
            clear c13
            by_cases c14 : t243.toList = t246.toList
            · rw [if_pos c14] at H
              have c14b0 : (t243.toList == t246.toList) = true := beq_iff_eq.mpr c14
              have c14b1 : (t243.toList != t246.toList) = false := bne_eq_false_iff_eq.mpr c14
              clear c14
              by_cases c15 : t244 = t247
              · rw [if_pos c15] at H
                have c15b0 : (t244 == t247) = true := beq_iff_eq.mpr c15
                have c15b1 : (t244 != t247) = false := bne_eq_false_iff_eq.mpr c15
                clear c15
                replace H := Option.bind_eq_some_iff.mp H
                obtain ⟨t258, A160, H⟩ := H
                replace H : (if t258 = true then (if t249.toList = t254.toList then (if t250 = t255 then ((duetlaw01_live.f k).bind fun t259 => (some t259)) else (none)) else (none)) else (none)) = some r := H
                have A16 := Aside0.mk A160
                clear A160
                by_cases c17 : t258 = true
                · subst c17
                  have H1 : (if t249.toList = t254.toList then (if t250 = t255 then ((duetlaw01_live.f k).bind fun t259 => (some t259)) else (none)) else (none)) = some r := by rw [if_pos rfl] at H; exact H
                  clear H
                  have H := H1
                  clear H1
                  by_cases c18 : t249.toList = t254.toList
                  · rw [if_pos c18] at H
                    have c18b0 : (t249.toList == t254.toList) = true := beq_iff_eq.mpr c18
                    have c18b1 : (t249.toList != t254.toList) = false := bne_eq_false_iff_eq.mpr c18
                    clear c18
                    by_cases c19 : t250 = t255
                    · rw [if_pos c19] at H
                      have c19b0 : (t250 == t255) = true := beq_iff_eq.mpr c19
                      have c19b1 : (t250 != t255) = false := bne_eq_false_iff_eq.mpr c19
                      clear c19
                      replace H := Option.bind_eq_some_iff.mp H
                      obtain ⟨t259, A200, H⟩ := H
                      replace H : (some t259) = some r := H
                      have A20 := Aside0.mk A200
                      clear A200
                      obtain rfl := Option.some.inj H
                      go_enter Try.func10, Try.ntmps10
                      go_wp2_with (first | ((with_reducible refine gate_callee (f := 33) rfl ?_); refine goesL_ (some 22) rfl rfl Try.func33 (by kernel_rfl) rfl #[.string a0] rfl (by (try simp only [List.map_toArray, List.map_cons, List.map_nil]); first | done | rfl | (simp only [List.length_drop, List.length_take]; rfl)) ?_; (with_reducible refine (duetlaw01_short.calls a0 true _ A2.out).mono ?_); rintro e w' ⟨rfl, ⟨nd, rfl⟩⟩; refine ⟨_, rfl, ?_⟩) | ((with_reducible refine gate_callee (f := 41) rfl ?_); refine goesL_ (some 27) rfl rfl Try.func41 (by kernel_rfl) rfl #[.string a0] rfl (by (try simp only [List.map_toArray, List.map_cons, List.map_nil]); first | done | rfl | (simp only [List.length_drop, List.length_take]; rfl)) ?_; (with_reducible refine (pack_Take.calls a0 t236 t237 t238 _ A4.out).mono ?_); rintro e w21 ⟨rfl, hb⟩; refine ⟨_, rfl, ?_⟩; have n0_ := Aside0.mk (below_step (by repeat (first | (with_reducible first | exact HB.out | apply below_alloc | apply pw_below_drewN | apply below_drew1) | exact HB.out)) hb); clear HB; have HB := n0_; clear n0_; (try clear hb); (try clear hb2); (try clear hk); (try clear hi)) | ((with_reducible refine gate_callee (f := 42) rfl ?_); refine goesL_ (some 33) rfl rfl Try.func42 (by kernel_rfl) rfl #[.string a0] rfl (by (try simp only [List.map_toArray, List.map_cons, List.map_nil]); first | done | rfl | (simp only [List.length_drop, List.length_take]; rfl)) ?_; (with_reducible refine (duetref01_Take.calls k a0 t239 t240 t241 _ A5.out).mono ?_); rintro e w22 ⟨rfl, hb⟩; refine ⟨_, rfl, ?_⟩; have n0_ := Aside0.mk (below_step (by repeat (first | (with_reducible first | exact HB.out | apply below_alloc | apply pw_below_drewN | apply below_drew1) | exact HB.out)) hb); clear HB; have HB := n0_; clear n0_; (try clear hb); (try clear hb2); (try clear hk); (try clear hi)) | ((with_reducible refine gate_callee (f := 43) rfl ?_); refine goesL_ (some 39) rfl rfl Try.func43 (by kernel_rfl) rfl #[.string a0] rfl (by (try simp only [List.map_toArray, List.map_cons, List.map_nil]); first | done | rfl | (simp only [List.length_drop, List.length_take]; rfl)) ?_; (with_reducible refine (pack_Cut.calls a0 t242 t243 t244 _ A6.out).mono ?_); rintro e w23 ⟨rfl, hb⟩; refine ⟨_, rfl, ?_⟩; have n0_ := Aside0.mk (below_step (by repeat (first | (with_reducible first | exact HB.out | apply below_alloc | apply pw_below_drewN | apply below_drew1) | exact HB.out)) hb); clear HB; have HB := n0_; clear n0_; (try clear hb); (try clear hb2); (try clear hk); (try clear hi)) | ((with_reducible refine gate_callee (f := 44) rfl ?_); refine goesL_ (some 45) rfl rfl Try.func44 (by kernel_rfl) rfl #[.string a0] rfl (by (try simp only [List.map_toArray, List.map_cons, List.map_nil]); first | done | rfl | (simp only [List.length_drop, List.length_take]; rfl)) ?_; (with_reducible refine (duetref01_Cut.calls k a0 t245 t246 t247 _ A7.out).mono ?_); rintro e w24 ⟨rfl, hb⟩; refine ⟨_, rfl, ?_⟩; have n0_ := Aside0.mk (below_step (by repeat (first | (with_reducible first | exact HB.out | apply below_alloc | apply pw_below_drewN | apply below_drew1) | exact HB.out)) hb); clear HB; have HB := n0_; clear n0_; (try clear hb); (try clear hb2); (try clear hk); (try clear hi)) | ((with_reducible refine gate_callee (f := 45) rfl ?_); refine goesL_ (some 51) rfl rfl Try.func45 (by kernel_rfl) rfl #[.string a0] rfl (by (try simp only [List.map_toArray, List.map_cons, List.map_nil]); first | done | rfl | (simp only [List.length_drop, List.length_take]; rfl)) ?_; (with_reducible refine (pack_Each.calls k a0 t248 t249 t250 _ A8.out).mono ?_); rintro e w25 ⟨v251, rfl, ho0, hb⟩; refine ⟨_, rfl, ?_⟩; have n0_ := Aside0.mk (Kd.R_lower ho0 (below_size (by repeat (first | (with_reducible first | exact HB.out | apply below_alloc | apply pw_below_drewN | apply below_drew1) | exact HB.out)))); have n1_ := Aside0.mk (below_step (by repeat (first | (with_reducible first | exact HB.out | apply below_alloc | apply pw_below_drewN | apply below_drew1) | exact HB.out)) hb); clear HB; have HO252 := n0_; have HB := n1_; clear n0_ n1_; (try clear hb); (try clear hb2); (try clear hk); (try clear hi); (try clear ho0)) | ((with_reducible refine gate_callee (f := 46) rfl ?_); refine goesL_ (some 57) rfl rfl Try.func46 (by kernel_rfl) rfl #[.string a0] rfl (by (try simp only [List.map_toArray, List.map_cons, List.map_nil]); first | done | rfl | (simp only [List.length_drop, List.length_take]; rfl)) ?_; (with_reducible refine (duetref01_Each.calls k a0 t253 t254 t255 _ A9.out).mono ?_); rintro e w26 ⟨v256, rfl, ho0, hb⟩; refine ⟨_, rfl, ?_⟩; have n0_ := Aside0.mk (Kd.R_elder' (by (with_reducible repeat (first | apply Kd.R_alloc | apply Kd.R_drewN | apply Kd.R_drew)); exact HO252.out) (Kd.R_base ho0) hb); have n1_ := Aside0.mk (Kd.R_lower (Kd.R_new' ho0 (Kd.R_lt (by (with_reducible repeat (first | apply Kd.R_alloc | apply Kd.R_drewN | apply Kd.R_drew)); exact HO252.out))) (below_size (by repeat (first | (with_reducible first | exact HB.out | apply below_alloc | apply pw_below_drewN | apply below_drew1) | exact HB.out)))); have n2_ := Aside0.mk (below_step (by repeat (first | (with_reducible first | exact HB.out | apply below_alloc | apply pw_below_drewN | apply below_drew1) | exact HB.out)) hb); clear HO252; clear HB; have HO252 := n0_; have HO257 := n1_; have HB := n2_; clear n0_ n1_ n2_; (try clear hb); (try clear hb2); (try clear hk); (try clear hi); (try clear ho0); obtain ⟨Ao27, co27, eo27⟩ := Kd.R_slice HO252.out; subst eo27; obtain ⟨Ao28, co28, eo28⟩ := Kd.R_slice HO257.out; subst eo28) | (go_at_call 24; (with_reducible refine (duetref01_Same.calls k _ _ t248 _ _ t253 true _ ?side1 ?side2 ?side3 ?side4 A16.out).mono ?_); (case side1 => repeat (first | exact (Kd.R_reads' HO252.out).2.2 | (with_reducible refine Kd.C_alloc ?_ _) | (with_reducible refine Kd.C_drewN ?_ _) | (with_reducible refine Kd.C_drew ?_))); (case side2 => exact (Kd.R_reads' HO252.out).2.1); (case side3 => repeat (first | exact (Kd.R_reads' HO257.out).2.2 | (with_reducible refine Kd.C_alloc ?_ _) | (with_reducible refine Kd.C_drewN ?_ _) | (with_reducible refine Kd.C_drew ?_))); (case side4 => exact (Kd.R_reads' HO257.out).2.1); rintro e w' ⟨rfl, ⟨nd, rfl⟩⟩) | (go_at_call 34; (with_reducible refine (duetlaw01_live.calls k  t259 _ A20.out).mono ?_); rintro e w29 ⟨rfl, hb⟩; have n0_ := Aside0.mk (Kd.R_below (by (with_reducible repeat (first | apply Kd.R_alloc | apply Kd.R_drewN | apply Kd.R_drew)); exact HO252.out) hb); have n1_ := Aside0.mk (Kd.R_below (by (with_reducible repeat (first | apply Kd.R_alloc | apply Kd.R_drewN | apply Kd.R_drew)); exact HO257.out) hb); have n2_ := Aside0.mk (below_step (by repeat (first | (with_reducible first | exact HB.out | apply below_alloc | apply pw_below_drewN | apply below_drew1) | exact HB.out)) hb); clear HO252; clear HO257; clear HB; have HO252 := n0_; have HO257 := n1_; have HB := n2_; clear n0_ n1_ n2_; (try clear hb); (try clear hb2); (try clear hk); (try clear hi)))
                      go_ret
                      exact ⟨by first | rfl | (simp [errW_none, errW_some] <;> rfl) | (simp [*, errW_none, errW_some] <;> rfl), by repeat (first | (with_reducible first | exact HB.out | apply below_alloc | apply pw_below_drewN | apply below_drew1) | exact HB.out)⟩
                    · rw [if_neg c19] at H
                      exact absurd H (by simp)
                  · rw [if_neg c18] at H
                    exact absurd H (by simp)
                · replace c17 := Bool.eq_false_iff.mpr c17
                  subst c17
                  have H1 : (none) = some r := by rw [if_neg (show ¬ (false = true) by decide)] at H; exact H
                  clear H
                  have H := H1
                  clear H1
                  exact absurd H (by simp)
              · rw [if_neg c15] at H
                exact absurd H (by simp)
            · rw [if_neg c14] at H
              exact absurd H (by simp)
          · rw [if_neg c13] at H
            exact absurd H (by simp)
        · rw [if_neg c12] at H
          exact absurd H (by simp)
      · rw [if_neg c11] at H
        exact absurd H (by simp)
    · rw [if_neg c10] at H
      exact absurd H (by simp)
  · replace c3 := Bool.eq_false_iff.mpr c3
    subst c3
    have H1 : ((duetlaw01_live.f k).bind fun t235 => (some t235)) = some r := by rw [if_neg (show ¬ (false = true) by decide)] at H; exact H
    clear H
    have H := H1
    clear H1
    replace H := Option.bind_eq_some_iff.mp H
    obtain ⟨t235, A300, H⟩ := H
    replace H : (some t235) = some r := H
    have A30 := Aside0.mk A300
    clear A300
    obtain rfl := Option.some.inj H
    go_enter Try.func10, Try.ntmps10
    go_wp2_with (first | ((with_reducible refine gate_callee (f := 33) rfl ?_); refine goesL_ (some 22) rfl rfl Try.func33 (by kernel_rfl) rfl #[.string a0] rfl (by (try simp only [List.map_toArray, List.map_cons, List.map_nil]); first | done | rfl | (simp only [List.length_drop, List.length_take]; rfl)) ?_; (with_reducible refine (duetlaw01_short.calls a0 false _ A2.out).mono ?_); rintro e w' ⟨rfl, ⟨nd, rfl⟩⟩; refine ⟨_, rfl, ?_⟩) | ((with_reducible refine gate_callee (f := 34) rfl ?_); refine goesL_ (some 24) rfl rfl Try.func34 (by kernel_rfl) rfl #[] rfl (by (try simp only [List.map_toArray, List.map_cons, List.map_nil]); first | done | rfl | (simp only [List.length_drop, List.length_take]; rfl)) ?_; (with_reducible refine (duetlaw01_live.calls k  t235 _ A30.out).mono ?_); rintro e w31 ⟨rfl, hb⟩; refine ⟨_, rfl, ?_⟩; have n0_ := Aside0.mk (below_step (by repeat (first | (with_reducible first | exact HB.out | apply below_alloc | apply pw_below_drewN | apply below_drew1) | exact HB.out)) hb); clear HB; have HB := n0_; clear n0_; (try clear hb); (try clear hb2); (try clear hk); (try clear hi)))
    go_ret
    exact ⟨by first | rfl | (simp [errW_none, errW_some] <;> rfl) | (simp [*, errW_none, errW_some] <;> rfl), by repeat (first | (with_reducible first | exact HB.out | apply below_alloc | apply pw_below_drewN | apply below_drew1) | exact HB.out)⟩

/-- THE ONE PURE STATEMENT of duetlaw01_PackReads: yours. -/
def duetlaw01_PackReads.Pure : Prop := ∀ (a0 : ByteArray), a0.size ≤ 140737488351232 → ∃ k, duetlaw01_PackReads.f k a0 = some true
theorem duetlaw01_PackReads.walk (P : duetlaw01_PackReads.Pure) (a0 : ByteArray) (w : World) (w0 : a0.size ≤ 140737488351232) :
    Calls Try.prog 10 #[.string a0] w fun e w' => e = .returned (.bool true) ∧ Below w.heap.size w w' := by
  obtain ⟨k, h⟩ := P a0 w0
  refine (duetlaw01_PackReads.calls k a0 true w h).mono ?_
  rintro e w' ⟨rfl, hd⟩
  exact ⟨rfl, hd⟩

/-! ### duetlaw01_PackBack: function 11 -/
mutual
def duetlaw01_PackBack.j0 : Nat → ByteArray → List Int → ByteArray → Bool → Option (Bool)
  | 0, _, _, _, _ => none
  | k + 1, x0, x1, x2, x35 => if x35 = true then ((duetlaw01_live.f k).bind fun t262 => (some t262)) else ((pack_Text.f k x0).bind fun bt263 => (if bt263.2 = 0 then (if bt263.1.size + x2.size ≤ 9223372036854775807 then ((pack_Cut.f (bt263.1 ++ x2)).bind fun bt265 => (if bt265.1.toList = x0.toList then (if bt265.2.1.toList = x2.toList then (if bt265.2.2 = 0 then (duetlaw01_PackBack.j1 k x1 x2) else (none)) else (none)) else (none))) else (none)) else (duetlaw01_PackBack.j1 k x1 x2)))
def duetlaw01_PackBack.j1 : Nat → List Int → ByteArray → Option (Bool)
  | 0, _, _ => none
  | k + 1, x1, x2 => duetlaw01_PackBack.l0 k x1 x2 0
def duetlaw01_PackBack.l0 : Nat → List Int → ByteArray → Int → Option (Bool)
  | 0, _, _, _ => none
  | k + 1, x1, x2, x12 => if x12 < (x1.length : Int) then (if 0 ≤ x12 then ((pack_Num.f k (rd x1 x12)).bind fun bt269 => (if bt269.2 = 0 then (if bt269.1.size + x2.size ≤ 9223372036854775807 then ((pack_Take.f (bt269.1 ++ x2)).bind fun bt271 => (if bt271.1 = (rd x1 x12) then (if bt271.2.1.toList = x2.toList then (if bt271.2.2 = 0 then (duetlaw01_PackBack.l0 k x1 x2 (wrap64 (x12 + 1))) else (none)) else (none)) else (none))) else (none)) else ((duetlaw01_live.f k).bind fun t275 => (some t275)))) else (none)) else (if (x1.length : Int) > 1000 then ((duetlaw01_live.f k).bind fun t276 => (some t276)) else ((pack_List.f x1).bind fun bt277 => (if bt277.1.size + x2.size ≤ 9223372036854775807 then ((pack_Each.f k (bt277.1 ++ x2)).bind fun bt279 => (if bt277.2 = 0 then ((duetref01_Same.f k bt279.1 x1).bind fun t284 => (if t284 = true then (if bt279.2.1.toList = x2.toList then (if bt279.2.2 = 0 then ((duetlaw01_live.f k).bind fun t285 => (some t285)) else (none)) else (none)) else (none))) else (none))) else (none))))
end
def duetlaw01_PackBack.f (k : Nat) (a0 : ByteArray) (l1 : List Int) (a2 : ByteArray) : Option (Bool) := (duetlaw01_short.f a0).bind fun t260 => (if t260 = true then ((duetlaw01_short.f a2).bind fun t261 => (if t261 = true then (duetlaw01_PackBack.j0 k a0 l1 a2 (decide ((l1.length : Int) > 1100))) else (duetlaw01_PackBack.j0 k a0 l1 a2 true))) else (duetlaw01_PackBack.j0 k a0 l1 a2 true))
theorem duetlaw01_PackBack.mono_l : ∀ k, (∀ y0 y1 y2 y3, LeO (duetlaw01_PackBack.j0 k y0 y1 y2 y3) (duetlaw01_PackBack.j0 (k + 1) y0 y1 y2 y3)) ∧ (∀ y0 y1, LeO (duetlaw01_PackBack.j1 k y0 y1) (duetlaw01_PackBack.j1 (k + 1) y0 y1)) ∧ (∀ y0 y1 y2, LeO (duetlaw01_PackBack.l0 k y0 y1 y2) (duetlaw01_PackBack.l0 (k + 1) y0 y1 y2))
  | 0 => ⟨fun _ _ _ _ r h => by simp [duetlaw01_PackBack.j0] at h, fun _ _ r h => by simp [duetlaw01_PackBack.j1] at h, fun _ _ _ r h => by simp [duetlaw01_PackBack.l0] at h⟩
  | k + 1 => by
    obtain ⟨ih0, ih1, ih2⟩ := duetlaw01_PackBack.mono_l k
    refine ⟨?_, ?_, ?_⟩
    · intro y0 y1 y2 y3
      unfold duetlaw01_PackBack.j0
      repeat' first
      | (with_reducible exact ih0 _ _ _ _)
      | (with_reducible exact ih1 _ _)
      | (with_reducible exact ih2 _ _ _)
      | (with_reducible exact duetlaw01_live.mono _)
      | (with_reducible exact duetref01_Same.mono _ _ _)
      | (with_reducible exact pack_Each.mono _ _)
      | (with_reducible exact pack_Num.mono _ _)
      | (with_reducible exact pack_Text.mono _ _)
      | (with_reducible exact LeO.refl _)
      | (with_reducible exact LeO.none _)
      | (with_reducible refine LeO.ite ?_ ?_)
      | (with_reducible refine LeO.bind ?_ (fun _ => ?_))
      | exact ih0 _ _ _ _
      | exact ih1 _ _
      | exact ih2 _ _ _
      | exact duetlaw01_live.mono _
      | exact duetref01_Same.mono _ _ _
      | exact pack_Each.mono _ _
      | exact pack_Num.mono _ _
      | exact pack_Text.mono _ _
      | exact LeO.none _
      | refine LeO.ite ?_ ?_
      | refine LeO.bind ?_ (fun _ => ?_)
    · intro y0 y1
      unfold duetlaw01_PackBack.j1
      repeat' first
      | (with_reducible exact ih0 _ _ _ _)
      | (with_reducible exact ih1 _ _)
      | (with_reducible exact ih2 _ _ _)
      | (with_reducible exact duetlaw01_live.mono _)
      | (with_reducible exact duetref01_Same.mono _ _ _)
      | (with_reducible exact pack_Each.mono _ _)
      | (with_reducible exact pack_Num.mono _ _)
      | (with_reducible exact pack_Text.mono _ _)
      | (with_reducible exact LeO.refl _)
      | (with_reducible exact LeO.none _)
      | (with_reducible refine LeO.ite ?_ ?_)
      | (with_reducible refine LeO.bind ?_ (fun _ => ?_))
      | exact ih0 _ _ _ _
      | exact ih1 _ _
      | exact ih2 _ _ _
      | exact duetlaw01_live.mono _
      | exact duetref01_Same.mono _ _ _
      | exact pack_Each.mono _ _
      | exact pack_Num.mono _ _
      | exact pack_Text.mono _ _
      | exact LeO.none _
      | refine LeO.ite ?_ ?_
      | refine LeO.bind ?_ (fun _ => ?_)
    · intro y0 y1 y2
      unfold duetlaw01_PackBack.l0
      repeat' first
      | (with_reducible exact ih0 _ _ _ _)
      | (with_reducible exact ih1 _ _)
      | (with_reducible exact ih2 _ _ _)
      | (with_reducible exact duetlaw01_live.mono _)
      | (with_reducible exact duetref01_Same.mono _ _ _)
      | (with_reducible exact pack_Each.mono _ _)
      | (with_reducible exact pack_Num.mono _ _)
      | (with_reducible exact pack_Text.mono _ _)
      | (with_reducible exact LeO.refl _)
      | (with_reducible exact LeO.none _)
      | (with_reducible refine LeO.ite ?_ ?_)
      | (with_reducible refine LeO.bind ?_ (fun _ => ?_))
      | exact ih0 _ _ _ _
      | exact ih1 _ _
      | exact ih2 _ _ _
      | exact duetlaw01_live.mono _
      | exact duetref01_Same.mono _ _ _
      | exact pack_Each.mono _ _
      | exact pack_Num.mono _ _
      | exact pack_Text.mono _ _
      | exact LeO.none _
      | refine LeO.ite ?_ ?_
      | refine LeO.bind ?_ (fun _ => ?_)
theorem duetlaw01_PackBack.mono : ∀ a0 a1 a2 k, LeO (duetlaw01_PackBack.f k a0 a1 a2) (duetlaw01_PackBack.f (k + 1) a0 a1 a2) := by
  intro a0 a1 a2 k
  obtain ⟨ih0, ih1, ih2⟩ := duetlaw01_PackBack.mono_l k
  unfold duetlaw01_PackBack.f
  repeat' first
      | (with_reducible exact ih0 _ _ _ _)
      | (with_reducible exact ih1 _ _)
      | (with_reducible exact ih2 _ _ _)
      | (with_reducible exact duetlaw01_live.mono _)
      | (with_reducible exact duetref01_Same.mono _ _ _)
      | (with_reducible exact pack_Each.mono _ _)
      | (with_reducible exact pack_Num.mono _ _)
      | (with_reducible exact pack_Text.mono _ _)
      | (with_reducible exact LeO.refl _)
      | (with_reducible exact LeO.none _)
      | (with_reducible refine LeO.ite ?_ ?_)
      | (with_reducible refine LeO.bind ?_ (fun _ => ?_))
      | exact ih0 _ _ _ _
      | exact ih1 _ _
      | exact ih2 _ _ _
      | exact duetlaw01_live.mono _
      | exact duetref01_Same.mono _ _ _
      | exact pack_Each.mono _ _
      | exact pack_Num.mono _ _
      | exact pack_Text.mono _ _
      | exact LeO.none _
      | refine LeO.ite ?_ ?_
      | refine LeO.bind ?_ (fun _ => ?_)
set_option maxHeartbeats 8000000 in
set_option maxRecDepth 100000 in
theorem duetlaw01_PackBack.calls (k : Nat) (a0 : ByteArray) (A1 : Option Addr) (c1 : Nat) (l1 : List Int) (a2 : ByteArray) (r : Bool) (w : World) (hr1 : Kd.C (Kd.int .i64) w A1 l1.length l1) (hc1 : l1.length ≤ c1) (h : duetlaw01_PackBack.f k a0 l1 a2 = some r) :
    Calls Try.prog 11 #[.string a0, .slice A1 l1.length c1, .string a2] w fun e w' => e = .returned (.bool r) ∧ Below w.heap.size w w' := by
  have HR1 := Aside0.mk hr1
  have HC1 := Aside0.mk hc1
  clear hr1 hc1
  have HB := Aside0.mk (Below.refl w.heap.size w)
  have H : ((duetlaw01_short.f a0).bind fun t260 => (if t260 = true then ((duetlaw01_short.f a2).bind fun t261 => (if t261 = true then (duetlaw01_PackBack.j0 k a0 l1 a2 (decide ((l1.length : Int) > 1100))) else (duetlaw01_PackBack.j0 k a0 l1 a2 true))) else (duetlaw01_PackBack.j0 k a0 l1 a2 true))) = some r := h
  clear h
  have HC4 := Aside0.mk H
  clear H
  go_enter Try.func11, Try.ntmps11
  go_upto_region 1 with (fail)
  go_cut [35] (fun v35 wc => ∃ (kq : Nat) (x35_3 : Bool), v35 = .bool x35_3 ∧ Aside0 (duetlaw01_PackBack.j0 kq a0 l1 a2 x35_3 = some r) ∧ Aside0 (kq ≤ k) ∧ Aside0 (Below w.heap.size w wc))
  case first =>
    have H := HC4.out
    clear HC4
    replace H := Option.bind_eq_some_iff.mp H
    obtain ⟨t260, A50, H⟩ := H
    replace H : (if t260 = true then ((duetlaw01_short.f a2).bind fun t261 => (if t261 = true then (duetlaw01_PackBack.j0 k a0 l1 a2 (decide ((l1.length : Int) > 1100))) else (duetlaw01_PackBack.j0 k a0 l1 a2 true))) else (duetlaw01_PackBack.j0 k a0 l1 a2 true)) = some r := H
    have A5 := Aside0.mk A50
    clear A50
    by_cases c6 : t260 = true
    · subst c6
      have H1 : ((duetlaw01_short.f a2).bind fun t261 => (if t261 = true then (duetlaw01_PackBack.j0 k a0 l1 a2 (decide ((l1.length : Int) > 1100))) else (duetlaw01_PackBack.j0 k a0 l1 a2 true))) = some r := by rw [if_pos rfl] at H; exact H
      clear H
      have H := H1
      clear H1
      replace H := Option.bind_eq_some_iff.mp H
      obtain ⟨t261, A70, H⟩ := H
      replace H : (if t261 = true then (duetlaw01_PackBack.j0 k a0 l1 a2 (decide ((l1.length : Int) > 1100))) else (duetlaw01_PackBack.j0 k a0 l1 a2 true)) = some r := H
      have A7 := Aside0.mk A70
      clear A70
      by_cases c8 : t261 = true
      · subst c8
        have H1 : (duetlaw01_PackBack.j0 k a0 l1 a2 (decide ((l1.length : Int) > 1100))) = some r := by rw [if_pos rfl] at H; exact H
        clear H
        have H := H1
        clear H1
        have H' := Aside0.mk H
        clear H
        go_wp2_with (first | ((with_reducible refine gate_callee (f := 33) rfl ?_); refine goesL_ (some 24) rfl rfl Try.func33 (by kernel_rfl) rfl #[.string a0] rfl (by (try simp only [List.map_toArray, List.map_cons, List.map_nil]); first | done | rfl | (simp only [List.length_drop, List.length_take]; rfl)) ?_; (with_reducible refine (duetlaw01_short.calls a0 true _ A5.out).mono ?_); rintro e w' ⟨rfl, ⟨nd, rfl⟩⟩; refine ⟨_, rfl, ?_⟩) | (go_at_call 33; (with_reducible refine (duetlaw01_short.calls a2 true _ A7.out).mono ?_); rintro e w' ⟨rfl, ⟨nd, rfl⟩⟩))
        go_meet
        case rel => exact ⟨_, (decide ((l1.length : Int) > 1100)), (by first | rfl | (simp; done) | (simp [*]; done)), H', ⟨by first | omega | exact Nat.le_refl _⟩, ⟨by repeat (first | (with_reducible first | exact HB.out | apply below_alloc | apply pw_below_drewN | apply below_drew1) | exact HB.out)⟩⟩
      · replace c8 := Bool.eq_false_iff.mpr c8
        subst c8
        have H1 : (duetlaw01_PackBack.j0 k a0 l1 a2 true) = some r := by rw [if_neg (show ¬ (false = true) by decide)] at H; exact H
        clear H
        have H := H1
        clear H1
        have H' := Aside0.mk H
        clear H
        go_wp2_with (first | ((with_reducible refine gate_callee (f := 33) rfl ?_); refine goesL_ (some 24) rfl rfl Try.func33 (by kernel_rfl) rfl #[.string a0] rfl (by (try simp only [List.map_toArray, List.map_cons, List.map_nil]); first | done | rfl | (simp only [List.length_drop, List.length_take]; rfl)) ?_; (with_reducible refine (duetlaw01_short.calls a0 true _ A5.out).mono ?_); rintro e w' ⟨rfl, ⟨nd, rfl⟩⟩; refine ⟨_, rfl, ?_⟩) | (go_at_call 33; (with_reducible refine (duetlaw01_short.calls a2 false _ A7.out).mono ?_); rintro e w' ⟨rfl, ⟨nd, rfl⟩⟩))
        go_meet
        case rel => exact ⟨_, (true), (by first | rfl | (simp; done) | (simp [*]; done)), H', ⟨by first | omega | exact Nat.le_refl _⟩, ⟨by repeat (first | (with_reducible first | exact HB.out | apply below_alloc | apply pw_below_drewN | apply below_drew1) | exact HB.out)⟩⟩
    · replace c6 := Bool.eq_false_iff.mpr c6
      subst c6
      have H1 : (duetlaw01_PackBack.j0 k a0 l1 a2 true) = some r := by rw [if_neg (show ¬ (false = true) by decide)] at H; exact H
      clear H
      have H := H1
      clear H1
      have H' := Aside0.mk H
      clear H
      go_wp2_with (first | ((with_reducible refine gate_callee (f := 33) rfl ?_); refine goesL_ (some 24) rfl rfl Try.func33 (by kernel_rfl) rfl #[.string a0] rfl (by (try simp only [List.map_toArray, List.map_cons, List.map_nil]); first | done | rfl | (simp only [List.length_drop, List.length_take]; rfl)) ?_; (with_reducible refine (duetlaw01_short.calls a0 false _ A5.out).mono ?_); rintro e w' ⟨rfl, ⟨nd, rfl⟩⟩; refine ⟨_, rfl, ?_⟩))
      go_meet
      case rel => exact ⟨_, (true), (by first | rfl | (simp; done) | (simp [*]; done)), H', ⟨by first | omega | exact Nat.le_refl _⟩, ⟨by repeat (first | (with_reducible first | exact HB.out | apply below_alloc | apply pw_below_drewN | apply below_drew1) | exact HB.out)⟩⟩
  case rest =>
    clear HC4
    try clear c1
    try clear p2
    try clear c3
    try clear c6
    try clear c8
    obtain ⟨kq, x35_3, rfl, HA, HJ3, HB⟩ := hcut
    cases kq with
    | zero => exact absurd HA.out (by simp [duetlaw01_PackBack.j0])
    | succ kj3 =>
      have H := HA.out
      clear HA
      simp only [duetlaw01_PackBack.j0] at H
      by_cases c9 : x35_3 = true
      · subst c9
        have H1 : ((duetlaw01_live.f kj3).bind fun t262 => (some t262)) = some r := by rw [if_pos rfl] at H; exact H
        clear H
        have H := H1
        clear H1
        replace H := Option.bind_eq_some_iff.mp H
        obtain ⟨t262, A100, H⟩ := H
        replace H : (some t262) = some r := H
        have A10 := Aside0.mk A100
        clear A100
        obtain rfl := Option.some.inj H
        go_wp2_with (first | ((with_reducible refine gate_callee (f := 34) rfl ?_); refine goesL_ (some 36) rfl rfl Try.func34 (by kernel_rfl) rfl #[] rfl (by (try simp only [List.map_toArray, List.map_cons, List.map_nil]); first | done | rfl | (simp only [List.length_drop, List.length_take]; rfl)) ?_; (with_reducible refine (duetlaw01_live.calls kj3  t262 _ A10.out).mono ?_); rintro e w11 ⟨rfl, hb⟩; refine ⟨_, rfl, ?_⟩; have n0_ := Aside0.mk (below_step (by repeat (first | (with_reducible first | exact HB.out | apply below_alloc | apply pw_below_drewN | apply below_drew1) | exact HB.out)) hb); clear HB; have HB := n0_; clear n0_; (try clear hb); (try clear hb2); (try clear hk); (try clear hi)))
        go_ret
        exact ⟨by first | rfl | (simp [errW_none, errW_some] <;> rfl) | (simp [*, errW_none, errW_some] <;> rfl), by repeat (first | (with_reducible first | exact HB.out | apply below_alloc | apply pw_below_drewN | apply below_drew1) | exact HB.out)⟩
      · replace c9 := Bool.eq_false_iff.mpr c9
        subst c9
        have H1 : ((pack_Text.f kj3 a0).bind fun bt263 => (if bt263.2 = 0 then (if bt263.1.size + a2.size ≤ 9223372036854775807 then ((pack_Cut.f (bt263.1 ++ a2)).bind fun bt265 => (if bt265.1.toList = a0.toList then (if bt265.2.1.toList = a2.toList then (if bt265.2.2 = 0 then (duetlaw01_PackBack.j1 kj3 l1 a2) else (none)) else (none)) else (none))) else (none)) else (duetlaw01_PackBack.j1 kj3 l1 a2))) = some r := by rw [if_neg (show ¬ (false = true) by decide)] at H; exact H
        clear H
        have H := H1
        clear H1
        replace H := Option.bind_eq_some_iff.mp H
        obtain ⟨⟨t263, t264⟩, A120, H⟩ := H
        replace H : (if t264 = 0 then (if t263.size + a2.size ≤ 9223372036854775807 then ((pack_Cut.f (t263 ++ a2)).bind fun bt265 => (if bt265.1.toList = a0.toList then (if bt265.2.1.toList = a2.toList then (if bt265.2.2 = 0 then (duetlaw01_PackBack.j1 kj3 l1 a2) else (none)) else (none)) else (none))) else (none)) else (duetlaw01_PackBack.j1 kj3 l1 a2)) = some r := H
        have A12 := Aside0.mk A120
        clear A120
        have HC13 := Aside0.mk H
        clear H
        go_upto_if 43 with (first | ((with_reducible refine gate_callee (f := 37) rfl ?_); refine goesL_ (some 39) rfl rfl Try.func37 (by kernel_rfl) rfl #[.string a0] rfl (by (try simp only [List.map_toArray, List.map_cons, List.map_nil]); first | done | rfl | (simp only [List.length_drop, List.length_take]; rfl)) ?_; (with_reducible refine (pack_Text.calls kj3 a0 t263 t264 _ A12.out).mono ?_); rintro e w14 ⟨rfl, hb⟩; refine ⟨_, rfl, ?_⟩; have n0_ := Aside0.mk (below_step (by repeat (first | (with_reducible first | exact HB.out | apply below_alloc | apply pw_below_drewN | apply below_drew1) | exact HB.out)) hb); clear HB; have HB := n0_; clear n0_; (try clear hb); (try clear hb2); (try clear hk); (try clear hi)))
        (try simp only [Act.put, List.setIfInBounds_toArray, List.set_cons_zero, List.set_cons_succ])
        go_cut [] (fun wc => ∃ (kq : Nat), Aside0 (duetlaw01_PackBack.j1 kq l1 a2 = some r) ∧ Aside0 (kq ≤ kj3) ∧ Aside0 (Below w.heap.size w wc))
        case first =>
          have H := HC13.out
          clear HC13
          by_cases c15 : t264 = 0
          · rw [if_pos c15] at H
            have c15b0 : (t264 == 0) = true := beq_iff_eq.mpr c15
            have c15b1 : (t264 != 0) = false := bne_eq_false_iff_eq.mpr c15
            clear c15
            (first | rw [c15b0] | (simp only [i64_w, i32_w]; rw [c15b0]) | skip)
            by_cases c16 : t263.size + a2.size ≤ 9223372036854775807
            · rw [if_pos c16] at H
              have c16b0 := eq_true c16
              have c16b1 : decide (t263.size + a2.size ≤ 9223372036854775807) = true := decide_eq_true c16
              try have c16b2 : (9223372036854775807 < t263.size + a2.size) = False := eq_false (Nat.not_lt.2 c16)
              replace H := Option.bind_eq_some_iff.mp H
              obtain ⟨⟨t265, t266, t267⟩, A170, H⟩ := H
              replace H : (if t265.toList = a0.toList then (if t266.toList = a2.toList then (if t267 = 0 then (duetlaw01_PackBack.j1 kj3 l1 a2) else (none)) else (none)) else (none)) = some r := H
              have A17 := Aside0.mk A170
              clear A170
              by_cases c18 : t265.toList = a0.toList
              · rw [if_pos c18] at H
                have c18b0 : (t265.toList == a0.toList) = true := beq_iff_eq.mpr c18
                have c18b1 : (t265.toList != a0.toList) = false := bne_eq_false_iff_eq.mpr c18
                clear c18
                by_cases c19 : t266.toList = a2.toList
                · rw [if_pos c19] at H
                  have c19b0 : (t266.toList == a2.toList) = true := beq_iff_eq.mpr c19
                  have c19b1 : (t266.toList != a2.toList) = false := bne_eq_false_iff_eq.mpr c19
                  clear c19
                  by_cases c20 : t267 = 0
                  · rw [if_pos c20] at H
                    have c20b0 : (t267 == 0) = true := beq_iff_eq.mpr c20
                    have c20b1 : (t267 != 0) = false := bne_eq_false_iff_eq.mpr c20
                    clear c20
                    have H' := Aside0.mk H
                    clear H
                    go_wp2_with (first | ((with_reducible refine gate_callee (f := 43) rfl ?_); refine goesL_ (some 48) rfl rfl Try.func43 (by kernel_rfl) rfl #[.string (t263 ++ a2)] rfl (by (try simp only [List.map_toArray, List.map_cons, List.map_nil]); first | done | rfl | (simp only [List.length_drop, List.length_take]; rfl)) ?_; (with_reducible refine (pack_Cut.calls (t263 ++ a2) t265 t266 t267 _ A17.out).mono ?_); rintro e w21 ⟨rfl, hb⟩; refine ⟨_, rfl, ?_⟩; have n0_ := Aside0.mk (below_step (by repeat (first | (with_reducible first | exact HB.out | apply below_alloc | apply pw_below_drewN | apply below_drew1) | exact HB.out)) hb); clear HB; have HB := n0_; clear n0_; (try clear hb); (try clear hb2); (try clear hk); (try clear hi)))
                    go_meet
                    case rel => exact ⟨_, H', ⟨by have := HJ3.out; first | omega | exact Nat.le_refl _⟩, ⟨by repeat (first | (with_reducible first | exact HB.out | apply below_alloc | apply pw_below_drewN | apply below_drew1) | exact HB.out)⟩⟩
                  · rw [if_neg c20] at H
                    exact absurd H (by simp)
                · rw [if_neg c19] at H
                  exact absurd H (by simp)
              · rw [if_neg c18] at H
                exact absurd H (by simp)
            · rw [if_neg c16] at H
              exact absurd H (by simp)
          · rw [if_neg c15] at H
            have c15b0 : (t264 == 0) = false := beq_eq_false_iff_ne.mpr c15
            have c15b1 : (t264 != 0) = true := bne_iff_ne.mpr c15
            (first | rw [c15b0] | (simp only [i64_w, i32_w]; rw [c15b0]) | skip)
            have H' := Aside0.mk H
            clear H
            go_wp2
            go_meet
            case rel => exact ⟨_, H', ⟨by have := HJ3.out; first | omega | exact Nat.le_refl _⟩, ⟨by repeat (first | (with_reducible first | exact HB.out | apply below_alloc | apply pw_below_drewN | apply below_drew1) | exact HB.out)⟩⟩
        case rest =>
          clear HC13
          try clear c1
          try clear c2
          try clear p2
          try clear c3
          try clear c4
          try clear c6
          try clear c8
          try clear c9
          try clear c11
          try clear c15
          try clear c15b0
          try clear c15b1
          try clear c16
          try clear c16b0
          try clear c16b1
          try clear c16b2
          try clear c18
          try clear c18b0
          try clear c18b1
          try clear c19
          try clear c19b0
          try clear c19b1
          try clear c20
          try clear c20b0
          try clear c20b1
          try clear p2
          obtain ⟨kq, HA, HJ12, HB⟩ := hcut
          cases kq with
          | zero => exact absurd HA.out (by simp [duetlaw01_PackBack.j1])
          | succ kj12 =>
            have H := HA.out
            clear HA
            simp only [duetlaw01_PackBack.j1] at H
            have H' := Aside0.mk H
            clear H
            go_wp2
            go_loopg [12] kj12 (fun kq v12 w' => ∃ (x12_3 : Int), v12 = .int .i64 x12_3 ∧ Aside0 (duetlaw01_PackBack.l0 kq l1 a2 x12_3 = some r) ∧ Aside0 (kq ≤ kj12) ∧ Aside0 (Below w.heap.size w w'))
            case atStart => exact ⟨(0), (by first | rfl | (simp; done) | (simp [*]; done)), H', ⟨Nat.le_refl _⟩, ⟨by repeat (first | (with_reducible first | exact HB.out | apply below_alloc | apply pw_below_drewN | apply below_drew1) | exact HB.out)⟩⟩
            case round =>
              clear H'
              try clear c1
              try clear c2
              try clear p2
              try clear c3
              try clear c4
              try clear c6
              try clear c8
              try clear c9
              try clear c11
              try clear c15
              try clear c15b0
              try clear c15b1
              try clear c16
              try clear c16b0
              try clear c16b1
              try clear c16b2
              try clear c18
              try clear c18b0
              try clear c18b1
              try clear c19
              try clear c19b0
              try clear c19b1
              try clear c20
              try clear c20b0
              try clear c20b1
              try clear p2
              obtain ⟨x12_3, rfl, HA, HK3, HB⟩ := hrel
              cases gk with
              | zero => exact absurd HA.out (by simp [duetlaw01_PackBack.l0])
              | succ k3 =>
                have H := HA.out
                clear HA
                simp only [duetlaw01_PackBack.l0] at H
                by_cases c22 : x12_3 < (l1.length : Int)
                · rw [if_pos c22] at H
                  have c22b0 : decide (x12_3 < (l1.length : Int)) = true := decide_eq_true c22
                  clear c22
                  by_cases c23 : 0 ≤ x12_3
                  · rw [if_pos c23] at H
                    have c23b0 : decide (0 ≤ x12_3) = true := decide_eq_true c23
                    clear c23
                    replace H := Option.bind_eq_some_iff.mp H
                    obtain ⟨⟨t269, t270⟩, A240, H⟩ := H
                    replace H : (if t270 = 0 then (if t269.size + a2.size ≤ 9223372036854775807 then ((pack_Take.f (t269 ++ a2)).bind fun bt271 => (if bt271.1 = (rd l1 x12_3) then (if bt271.2.1.toList = a2.toList then (if bt271.2.2 = 0 then (duetlaw01_PackBack.l0 k3 l1 a2 (wrap64 (x12_3 + 1))) else (none)) else (none)) else (none))) else (none)) else ((duetlaw01_live.f k3).bind fun t275 => (some t275))) = some r := H
                    have A24 := Aside0.mk A240
                    clear A240
                    by_cases c25 : t270 = 0
                    · rw [if_pos c25] at H
                      have c25b0 : (t270 == 0) = true := beq_iff_eq.mpr c25
                      have c25b1 : (t270 != 0) = false := bne_eq_false_iff_eq.mpr c25
                      clear c25
                      by_cases c26 : t269.size + a2.size ≤ 9223372036854775807
                      · rw [if_pos c26] at H
                        have c26b0 := eq_true c26
                        have c26b1 : decide (t269.size + a2.size ≤ 9223372036854775807) = true := decide_eq_true c26
                        try have c26b2 : (9223372036854775807 < t269.size + a2.size) = False := eq_false (Nat.not_lt.2 c26)
                        replace H := Option.bind_eq_some_iff.mp H
                        obtain ⟨⟨t271, t272, t273⟩, A270, H⟩ := H
                        replace H : (if t271 = (rd l1 x12_3) then (if t272.toList = a2.toList then (if t273 = 0 then (duetlaw01_PackBack.l0 k3 l1 a2 (wrap64 (x12_3 + 1))) else (none)) else (none)) else (none)) = some r := H
                        have A27 := Aside0.mk A270
                        clear A270
                        by_cases c28 : t271 = (rd l1 x12_3)
                        · rw [if_pos c28] at H
                          have c28b0 : (t271 == (rd l1 x12_3)) = true := beq_iff_eq.mpr c28
                          have c28b1 : (t271 != (rd l1 x12_3)) = false := bne_eq_false_iff_eq.mpr c28
                          clear c28
                          by_cases c29 : t272.toList = a2.toList
                          · rw [if_pos c29] at H
                            have c29b0 : (t272.toList == a2.toList) = true := beq_iff_eq.mpr c29
                            have c29b1 : (t272.toList != a2.toList) = false := bne_eq_false_iff_eq.mpr c29
                            clear c29
                            by_cases c30 : t273 = 0
                            · rw [if_pos c30] at H
                              have c30b0 : (t273 == 0) = true := beq_iff_eq.mpr c30
                              have c30b1 : (t273 != 0) = false := bne_eq_false_iff_eq.mpr c30
                              clear c30
                              have H' := Aside0.mk H
                              clear H
                              have p268 : 0 ≤ (x12_3 : Int) := of_decide_eq_true (by first | (with_reducible assumption) | assumption)
                              have q268 : x12_3 < (l1.length : Int) := of_decide_eq_true (by first | (with_reducible assumption) | assumption)
                              obtain ⟨ad268, e268, hx268_0⟩ := Kd.at_int HR1.out x12_3 p268 q268
                              cases e268
                              replace hx268_0 := (HB.out.cell (World.block_lt_of_cell? w _ hx268_0)).trans hx268_0
                              replace p268 := eq_true p268
                              replace q268 := eq_true q268
                              go_wp2_with (first | ((with_reducible refine gate_callee (f := 35) rfl ?_); refine goesL_ (some 75) rfl rfl Try.func35 (by kernel_rfl) rfl #[.int .i64 (rd l1 x12_3)] rfl (by (try simp only [List.map_toArray, List.map_cons, List.map_nil]); first | done | rfl | (simp only [List.length_drop, List.length_take]; rfl)) ?_; (with_reducible refine (pack_Num.calls k3 (rd l1 x12_3) t269 t270 _ A24.out).mono ?_); rintro e w31 ⟨rfl, hb⟩; refine ⟨_, rfl, ?_⟩; have n0_ := Aside0.mk (below_step (by repeat (first | (with_reducible first | exact HB.out | apply below_alloc | apply pw_below_drewN | apply below_drew1) | exact HB.out)) hb); clear HB; have HB := n0_; clear n0_; (try clear hb); (try clear hb2); (try clear hk); (try clear hi)) | ((with_reducible refine gate_callee (f := 41) rfl ?_); refine goesL_ (some 85) rfl rfl Try.func41 (by kernel_rfl) rfl #[.string (t269 ++ a2)] rfl (by (try simp only [List.map_toArray, List.map_cons, List.map_nil]); first | done | rfl | (simp only [List.length_drop, List.length_take]; rfl)) ?_; (with_reducible refine (pack_Take.calls (t269 ++ a2) t271 t272 t273 _ A27.out).mono ?_); rintro e w32 ⟨rfl, hb⟩; refine ⟨_, rfl, ?_⟩; have n0_ := Aside0.mk (below_step (by repeat (first | (with_reducible first | exact HB.out | apply below_alloc | apply pw_below_drewN | apply below_drew1) | exact HB.out)) hb); clear HB; have HB := n0_; clear n0_; (try clear hb); (try clear hb2); (try clear hk); (try clear hi); have p274 : 0 ≤ (x12_3 : Int) := of_decide_eq_true (by first | (with_reducible assumption) | assumption); have q274 : x12_3 < (l1.length : Int) := of_decide_eq_true (by first | (with_reducible assumption) | assumption); obtain ⟨ad274, e274, hx274_0⟩ := Kd.at_int HR1.out x12_3 p274 q274; obtain rfl : ad268 = ad274 := (by injection e274); replace hx274_0 := (HB.out.cell (World.block_lt_of_cell? w _ hx274_0)).trans hx274_0; replace p274 := eq_true p274; replace q274 := eq_true q274))
                              go_roundg k3
                              case measure => have := HJ3.out; have := HJ12.out; have := HK3.out; omega
                              case rel => exact ⟨(wrap64 (x12_3 + 1)), (by first | rfl | (simp; done) | (simp [*]; done)), H', ⟨by have := HJ3.out; have := HJ12.out; have := HK3.out; omega⟩, ⟨by repeat (first | (with_reducible first | exact HB.out | apply below_alloc | apply pw_below_drewN | apply below_drew1) | exact HB.out)⟩⟩
                            · rw [if_neg c30] at H
                              exact absurd H (by simp)
                          · rw [if_neg c29] at H
                            exact absurd H (by simp)
                        · rw [if_neg c28] at H
                          exact absurd H (by simp)
                      · rw [if_neg c26] at H
                        exact absurd H (by simp)
                    · rw [if_neg c25] at H
                      have c25b0 : (t270 == 0) = false := beq_eq_false_iff_ne.mpr c25
                      have c25b1 : (t270 != 0) = true := bne_iff_ne.mpr c25
                      replace H := Option.bind_eq_some_iff.mp H
                      obtain ⟨t275, A330, H⟩ := H
                      replace H : (some t275) = some r := H
                      have A33 := Aside0.mk A330
                      clear A330
                      obtain rfl := Option.some.inj H
                      have p268 : 0 ≤ (x12_3 : Int) := of_decide_eq_true (by first | (with_reducible assumption) | assumption)
                      have q268 : x12_3 < (l1.length : Int) := of_decide_eq_true (by first | (with_reducible assumption) | assumption)
                      obtain ⟨ad268, e268, hx268_0⟩ := Kd.at_int HR1.out x12_3 p268 q268
                      cases e268
                      replace hx268_0 := (HB.out.cell (World.block_lt_of_cell? w _ hx268_0)).trans hx268_0
                      replace p268 := eq_true p268
                      replace q268 := eq_true q268
                      go_wp2_with (first | ((with_reducible refine gate_callee (f := 35) rfl ?_); refine goesL_ (some 75) rfl rfl Try.func35 (by kernel_rfl) rfl #[.int .i64 (rd l1 x12_3)] rfl (by (try simp only [List.map_toArray, List.map_cons, List.map_nil]); first | done | rfl | (simp only [List.length_drop, List.length_take]; rfl)) ?_; (with_reducible refine (pack_Num.calls k3 (rd l1 x12_3) t269 t270 _ A24.out).mono ?_); rintro e w34 ⟨rfl, hb⟩; refine ⟨_, rfl, ?_⟩; have n0_ := Aside0.mk (below_step (by repeat (first | (with_reducible first | exact HB.out | apply below_alloc | apply pw_below_drewN | apply below_drew1) | exact HB.out)) hb); clear HB; have HB := n0_; clear n0_; (try clear hb); (try clear hb2); (try clear hk); (try clear hi)) | ((with_reducible refine gate_callee (f := 34) rfl ?_); refine goesL_ (some 80) rfl rfl Try.func34 (by kernel_rfl) rfl #[] rfl (by (try simp only [List.map_toArray, List.map_cons, List.map_nil]); first | done | rfl | (simp only [List.length_drop, List.length_take]; rfl)) ?_; (with_reducible refine (duetlaw01_live.calls k3  t275 _ A33.out).mono ?_); rintro e w35 ⟨rfl, hb⟩; refine ⟨_, rfl, ?_⟩; have n0_ := Aside0.mk (below_step (by repeat (first | (with_reducible first | exact HB.out | apply below_alloc | apply pw_below_drewN | apply below_drew1) | exact HB.out)) hb); clear HB; have HB := n0_; clear n0_; (try clear hb); (try clear hb2); (try clear hk); (try clear hi)))
                      go_ret
                      exact ⟨by first | rfl | (simp [errW_none, errW_some] <;> rfl) | (simp [*, errW_none, errW_some] <;> rfl), by repeat (first | (with_reducible first | exact HB.out | apply below_alloc | apply pw_below_drewN | apply below_drew1) | exact HB.out)⟩
                  · rw [if_neg c23] at H
                    exact absurd H (by simp)
                · rw [if_neg c22] at H
                  have c22b0 : decide (x12_3 < (l1.length : Int)) = false := decide_eq_false c22
                  clear c22
                  by_cases c36 : (l1.length : Int) > 1000
                  · rw [if_pos c36] at H
                    have c36b0 : decide (1000 < (l1.length : Int)) = true := decide_eq_true c36
                    have c36b1 : decide (1000 < l1.length) = true := decide_eq_true (by omega)
                    clear c36
                    replace H := Option.bind_eq_some_iff.mp H
                    obtain ⟨t276, A370, H⟩ := H
                    replace H : (some t276) = some r := H
                    have A37 := Aside0.mk A370
                    clear A370
                    obtain rfl := Option.some.inj H
                    go_wp2_with (first | ((with_reducible refine gate_callee (f := 34) rfl ?_); refine goesL_ (some 107) rfl rfl Try.func34 (by kernel_rfl) rfl #[] rfl (by (try simp only [List.map_toArray, List.map_cons, List.map_nil]); first | done | rfl | (simp only [List.length_drop, List.length_take]; rfl)) ?_; (with_reducible refine (duetlaw01_live.calls k3  t276 _ A37.out).mono ?_); rintro e w38 ⟨rfl, hb⟩; refine ⟨_, rfl, ?_⟩; have n0_ := Aside0.mk (below_step (by repeat (first | (with_reducible first | exact HB.out | apply below_alloc | apply pw_below_drewN | apply below_drew1) | exact HB.out)) hb); clear HB; have HB := n0_; clear n0_; (try clear hb); (try clear hb2); (try clear hk); (try clear hi)))
                    go_ret
                    exact ⟨by first | rfl | (simp [errW_none, errW_some] <;> rfl) | (simp [*, errW_none, errW_some] <;> rfl), by repeat (first | (with_reducible first | exact HB.out | apply below_alloc | apply pw_below_drewN | apply below_drew1) | exact HB.out)⟩
                  · rw [if_neg c36] at H
                    have c36b0 : decide (1000 < (l1.length : Int)) = false := decide_eq_false c36
                    have c36b1 : decide (1000 < l1.length) = false := decide_eq_false (by omega)
                    clear c36
                    replace H := Option.bind_eq_some_iff.mp H
                    obtain ⟨⟨t277, t278⟩, A390, H⟩ := H
                    replace H : (if t277.size + a2.size ≤ 9223372036854775807 then ((pack_Each.f k3 (t277 ++ a2)).bind fun bt279 => (if t278 = 0 then ((duetref01_Same.f k3 bt279.1 l1).bind fun t284 => (if t284 = true then (if bt279.2.1.toList = a2.toList then (if bt279.2.2 = 0 then ((duetlaw01_live.f k3).bind fun t285 => (some t285)) else (none)) else (none)) else (none))) else (none))) else (none)) = some r := H
                    have A39 := Aside0.mk A390
                    clear A390
                    by_cases c40 : t277.size + a2.size ≤ 9223372036854775807
                    · rw [if_pos c40] at H
                      have c40b0 := eq_true c40
                      have c40b1 : decide (t277.size + a2.size ≤ 9223372036854775807) = true := decide_eq_true c40
                      try have c40b2 : (9223372036854775807 < t277.size + a2.size) = False := eq_false (Nat.not_lt.2 c40)
                      replace H := Option.bind_eq_some_iff.mp H
                      obtain ⟨⟨t279, t280, t281⟩, A410, H⟩ := H
                      replace H : (if t278 = 0 then ((duetref01_Same.f k3 t279 l1).bind fun t284 => (if t284 = true then (if t280.toList = a2.toList then (if t281 = 0 then ((duetlaw01_live.f k3).bind fun t285 => (some t285)) else (none)) else (none)) else (none))) else (none)) = some r := H
                      have A41 := Aside0.mk A410
                      clear A410
                      by_cases c42 : t278 = 0
                      · rw [if_pos c42] at H
                        have c42b0 : (t278 == 0) = true := beq_iff_eq.mpr c42
                        have c42b1 : (t278 != 0) = false := bne_eq_false_iff_eq.mpr c42
                        clear c42
                        replace H := Option.bind_eq_some_iff.mp H
                        obtain ⟨t284, A430, H⟩ := H
                        replace H : (if t284 = true then (if t280.toList = a2.toList then (if t281 = 0 then ((duetlaw01_live.f k3).bind fun t285 => (some t285)) else (none)) else (none)) else (none)) = some r := H
                        have A43 := Aside0.mk A430
                        clear A430
                        by_cases c44 : t284 = true
                        · subst c44
                          have H1 : (if t280.toList = a2.toList then (if t281 = 0 then ((duetlaw01_live.f k3).bind fun t285 => (some t285)) else (none)) else (none)) = some r := by rw [if_pos rfl] at H; exact H
                          clear H
                          have H := H1
                          clear H1
                          by_cases c45 : t280.toList = a2.toList
                          · rw [if_pos c45] at H
                            have c45b0 : (t280.toList == a2.toList) = true := beq_iff_eq.mpr c45
                            have c45b1 : (t280.toList != a2.toList) = false := bne_eq_false_iff_eq.mpr c45
                            clear c45
                            by_cases c46 : t281 = 0
                            · rw [if_pos c46] at H
                              have c46b0 : (t281 == 0) = true := beq_iff_eq.mpr c46
                              have c46b1 : (t281 != 0) = false := bne_eq_false_iff_eq.mpr c46
                              clear c46
                              replace H := Option.bind_eq_some_iff.mp H
                              obtain ⟨t285, A470, H⟩ := H
                              replace H : (some t285) = some r := H
                              have A47 := Aside0.mk A470
                              clear A470
                              obtain rfl := Option.some.inj H
                              go_wp2_with (first | ((with_reducible refine gate_callee (f := 39) rfl ?_); refine goesL_ (some 110) rfl rfl Try.func39 (by kernel_rfl) rfl #[.slice A1 l1.length c1] rfl (by (try simp only [List.map_toArray, List.map_cons, List.map_nil]); first | done | rfl | (simp only [List.length_drop, List.length_take]; rfl)) ?_; (with_reducible refine (pack_List.calls _ _ l1 t277 t278 _ ?side1 ?side2 A39.out).mono ?_); (case side1 => repeat (first | exact (Kd.C_below HR1.out HB.out) | (with_reducible refine Kd.C_alloc ?_ _) | (with_reducible refine Kd.C_drewN ?_ _) | (with_reducible refine Kd.C_drew ?_))); (case side2 => exact HC1.out); rintro e w48 ⟨rfl, hb⟩; refine ⟨_, rfl, ?_⟩; have n0_ := Aside0.mk (below_step (by repeat (first | (with_reducible first | exact HB.out | apply below_alloc | apply pw_below_drewN | apply below_drew1) | exact HB.out)) hb); clear HB; have HB := n0_; clear n0_; (try clear hb); (try clear hb2); (try clear hk); (try clear hi)) | ((with_reducible refine gate_callee (f := 45) rfl ?_); refine goesL_ (some 117) rfl rfl Try.func45 (by kernel_rfl) rfl #[.string (t277 ++ a2)] rfl (by (try simp only [List.map_toArray, List.map_cons, List.map_nil]); first | done | rfl | (simp only [List.length_drop, List.length_take]; rfl)) ?_; (with_reducible refine (pack_Each.calls k3 (t277 ++ a2) t279 t280 t281 _ A41.out).mono ?_); rintro e w49 ⟨v282, rfl, ho0, hb⟩; refine ⟨_, rfl, ?_⟩; have n0_ := Aside0.mk (Kd.R_lower ho0 (below_size (by repeat (first | (with_reducible first | exact HB.out | apply below_alloc | apply pw_below_drewN | apply below_drew1) | exact HB.out)))); have n1_ := Aside0.mk (below_step (by repeat (first | (with_reducible first | exact HB.out | apply below_alloc | apply pw_below_drewN | apply below_drew1) | exact HB.out)) hb); clear HB; have HO283 := n0_; have HB := n1_; clear n0_ n1_; (try clear hb); (try clear hb2); (try clear hk); (try clear hi); (try clear ho0); obtain ⟨Ao50, co50, eo50⟩ := Kd.R_slice HO283.out; subst eo50) | (go_at_call 24; (with_reducible refine (duetref01_Same.calls k3 _ _ t279 _ _ l1 true _ ?side1 ?side2 ?side3 ?side4 A43.out).mono ?_); (case side1 => repeat (first | exact (Kd.R_reads' HO283.out).2.2 | (with_reducible refine Kd.C_alloc ?_ _) | (with_reducible refine Kd.C_drewN ?_ _) | (with_reducible refine Kd.C_drew ?_))); (case side2 => exact (Kd.R_reads' HO283.out).2.1); (case side3 => repeat (first | exact (Kd.C_below HR1.out HB.out) | (with_reducible refine Kd.C_alloc ?_ _) | (with_reducible refine Kd.C_drewN ?_ _) | (with_reducible refine Kd.C_drew ?_))); (case side4 => exact HC1.out); rintro e w' ⟨rfl, ⟨nd, rfl⟩⟩) | (go_at_call 34; (with_reducible refine (duetlaw01_live.calls k3  t285 _ A47.out).mono ?_); rintro e w51 ⟨rfl, hb⟩; have n0_ := Aside0.mk (Kd.R_below (by (with_reducible repeat (first | apply Kd.R_alloc | apply Kd.R_drewN | apply Kd.R_drew)); exact HO283.out) hb); have n1_ := Aside0.mk (below_step (by repeat (first | (with_reducible first | exact HB.out | apply below_alloc | apply pw_below_drewN | apply below_drew1) | exact HB.out)) hb); clear HO283; clear HB; have HO283 := n0_; have HB := n1_; clear n0_ n1_; (try clear hb); (try clear hb2); (try clear hk); (try clear hi)))
                              go_ret
                              exact ⟨by first | rfl | (simp [errW_none, errW_some] <;> rfl) | (simp [*, errW_none, errW_some] <;> rfl), by repeat (first | (with_reducible first | exact HB.out | apply below_alloc | apply pw_below_drewN | apply below_drew1) | exact HB.out)⟩
                            · rw [if_neg c46] at H
                              exact absurd H (by simp)
                          · rw [if_neg c45] at H
                            exact absurd H (by simp)
                        · replace c44 := Bool.eq_false_iff.mpr c44
                          subst c44
                          have H1 : (none) = some r := by rw [if_neg (show ¬ (false = true) by decide)] at H; exact H
                          clear H
                          have H := H1
                          clear H1
                          exact absurd H (by simp)
                      · rw [if_neg c42] at H
                        exact absurd H (by simp)
                    · rw [if_neg c40] at H
                      exact absurd H (by simp)

/-- THE ONE PURE STATEMENT of duetlaw01_PackBack: yours. -/
def duetlaw01_PackBack.Pure : Prop := ∀ (a0 : ByteArray) (l1 : List Int) (a2 : ByteArray), a0.size ≤ 140737488351232 → l1.length ≤ maxLen → l1.length * 8 ≤ 140737488351232 → (∀ x ∈ l1, (Lit.int .i64 x).wf = true) → a2.size ≤ 140737488351232 → ∃ k, duetlaw01_PackBack.f k a0 l1 a2 = some true
theorem duetlaw01_PackBack.walk (P : duetlaw01_PackBack.Pure) (a0 : ByteArray) (a1 : Option Addr) (len1 cap1 : Nat) (z1 : List Int) (a2 : ByteArray) (w : World) (w0 : a0.size ≤ 140737488351232) (w1 : (a1 = none ∧ len1 = 0 ∧ cap1 = 0 ∧ z1 = []) ∨ ∃ x, a1 = some x ∧ len1 ≤ cap1 ∧ cap1 ≤ maxLen ∧ z1.length = cap1 ∧ (∀ i, i < z1.length → w.cell? (x.add i) = some (.int .i64 (z1.getD i 0))) ∧ ∀ n ∈ z1, (Lit.int .i64 n).wf = true) (y1 : len1 * 8 ≤ 140737488351232) (w2 : a2.size ≤ 140737488351232) :
    Calls Try.prog 11 #[.string a0, .slice a1 len1 cap1, .string a2] w fun e w' => e = .returned (.bool true) ∧ Below w.heap.size w w' := by
  obtain ⟨l1, rfl, hr1, hm1, hw1, hc1⟩ := ReadsInt.ofRowC w1
  obtain ⟨k, h⟩ := P a0 l1 a2 w0 hm1 y1 hw1 w2
  refine (duetlaw01_PackBack.calls k a0 _ _ l1 a2 true w (Kd.C_of_reads (d := (0 : Int)) (h1 := fun _ => rfl) hr1) hc1 h).mono ?_
  rintro e w' ⟨rfl, hd⟩
  exact ⟨rfl, hd⟩

end Go.Proofs.Ytpoigdkbblmpaaa.PPack
