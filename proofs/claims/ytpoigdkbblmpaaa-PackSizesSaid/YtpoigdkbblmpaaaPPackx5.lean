/- Functions that the law reaches, each as a plain Lean function with the proof that the call does what it says. Conditions: none beyond those that each theorem states. Written by a program for this claim. -/
import Derived.Test.YtpoigdkbblmpaaaPPackx0
import Derived.Test.YtpoigdkbblmpaaaPPackx1
import Derived.Test.YtpoigdkbblmpaaaPPackx2
namespace Go.Proofs.Ytpoigdkbblmpaaa.PPack
open Go.RowKit Go.Proofs.YtpoigdkbblmpaaaW.PrintWords Go.Proofs.YtpoigdkbblmpaaaW.PrintLast Go.Proofs.YtpoigdkbblmpaaaW.PrintMore
attribute [local go_sem] max2_int min2_int max_two min_two max_three min_three max_four min_four   -- for this text's walks alone
set_option linter.unusedVariables false
set_option linter.unusedSimpArgs false

/-! ### duetlaw01_PackAgain: function 12 -/
mutual
def duetlaw01_PackAgain.j0 : Nat → ByteArray → Bool → Option (Bool)
  | 0, _, _ => none
  | k + 1, x0, x52 => if x52 = true then (none) else ((pack_Cut.f x0).bind fun bt294 => (if bt294.2.2 = 0 then ((pack_Text.f k bt294.1).bind fun bt297 => (if bt297.2 = 0 then (if bt297.1.size + bt294.2.1.size ≤ 9223372036854775807 then (if (bt297.1 ++ bt294.2.1).toList = x0.toList then (duetlaw01_PackAgain.j1 k x0) else (none)) else (none)) else (none))) else (duetlaw01_PackAgain.j1 k x0)))
def duetlaw01_PackAgain.j1 : Nat → ByteArray → Option (Bool)
  | 0, _ => none
  | k + 1, x0 => (pack_Each.f k x0).bind fun bt299 => (if bt299.2.2 = 0 then ((pack_List.f bt299.1).bind fun bt304 => (if bt304.2 = 0 then (if bt304.1.size + bt299.2.1.size ≤ 9223372036854775807 then (if (bt304.1 ++ bt299.2.1).toList = x0.toList then ((duetlaw01_live.f k).bind fun t306 => (some t306)) else (none)) else (none)) else (none))) else (if (bt299.1.length : Int) = 0 then ((duetlaw01_live.f k).bind fun t307 => (some t307)) else (none)))
end
def duetlaw01_PackAgain.f (k : Nat) (a0 : ByteArray) : Option (Bool) := (duetlaw01_short.f a0).bind fun t286 => (if t286 = true then ((pack_Take.f a0).bind fun bt288 => (if bt288.2.2 = 0 then ((pack_Num.f k bt288.1).bind fun bt292 => (if bt292.2 = 0 then (if bt292.1.size + bt288.2.1.size ≤ 9223372036854775807 then (duetlaw01_PackAgain.j0 k a0 ((bt292.1 ++ bt288.2.1).toList != a0.toList)) else (none)) else (duetlaw01_PackAgain.j0 k a0 true))) else (if bt288.1 = 0 then (if bt288.2.1.toList = ([] : List UInt8) then ((duetlaw01_live.f k).bind fun t291 => (some t291)) else (none)) else (none)))) else ((duetlaw01_live.f k).bind fun t287 => (some t287)))
theorem duetlaw01_PackAgain.mono_l : ∀ k, (∀ y0 y1, LeO (duetlaw01_PackAgain.j0 k y0 y1) (duetlaw01_PackAgain.j0 (k + 1) y0 y1)) ∧ (∀ y0, LeO (duetlaw01_PackAgain.j1 k y0) (duetlaw01_PackAgain.j1 (k + 1) y0))
  | 0 => ⟨fun _ _ r h => by simp [duetlaw01_PackAgain.j0] at h, fun _ r h => by simp [duetlaw01_PackAgain.j1] at h⟩
  | k + 1 => by
    obtain ⟨ih0, ih1⟩ := duetlaw01_PackAgain.mono_l k
    refine ⟨?_, ?_⟩
    · intro y0 y1
      unfold duetlaw01_PackAgain.j0
      repeat' first
      | (with_reducible exact ih0 _ _)
      | (with_reducible exact ih1 _)
      | (with_reducible exact duetlaw01_live.mono _)
      | (with_reducible exact pack_Each.mono _ _)
      | (with_reducible exact pack_Num.mono _ _)
      | (with_reducible exact pack_Text.mono _ _)
      | (with_reducible exact LeO.refl _)
      | (with_reducible exact LeO.none _)
      | (with_reducible refine LeO.ite ?_ ?_)
      | (with_reducible refine LeO.bind ?_ (fun _ => ?_))
      | exact ih0 _ _
      | exact ih1 _
      | exact duetlaw01_live.mono _
      | exact pack_Each.mono _ _
      | exact pack_Num.mono _ _
      | exact pack_Text.mono _ _
      | exact LeO.none _
      | refine LeO.ite ?_ ?_
      | refine LeO.bind ?_ (fun _ => ?_)
    · intro y0
      unfold duetlaw01_PackAgain.j1
      repeat' first
      | (with_reducible exact ih0 _ _)
      | (with_reducible exact ih1 _)
      | (with_reducible exact duetlaw01_live.mono _)
      | (with_reducible exact pack_Each.mono _ _)
      | (with_reducible exact pack_Num.mono _ _)
      | (with_reducible exact pack_Text.mono _ _)
      | (with_reducible exact LeO.refl _)
      | (with_reducible exact LeO.none _)
      | (with_reducible refine LeO.ite ?_ ?_)
      | (with_reducible refine LeO.bind ?_ (fun _ => ?_))
      | exact ih0 _ _
      | exact ih1 _
      | exact duetlaw01_live.mono _
      | exact pack_Each.mono _ _
      | exact pack_Num.mono _ _
      | exact pack_Text.mono _ _
      | exact LeO.none _
      | refine LeO.ite ?_ ?_
      | refine LeO.bind ?_ (fun _ => ?_)
theorem duetlaw01_PackAgain.mono : ∀ a0 k, LeO (duetlaw01_PackAgain.f k a0) (duetlaw01_PackAgain.f (k + 1) a0) := by
  intro a0 k
  obtain ⟨ih0, ih1⟩ := duetlaw01_PackAgain.mono_l k
  unfold duetlaw01_PackAgain.f
  repeat' first
      | (with_reducible exact ih0 _ _)
      | (with_reducible exact ih1 _)
      | (with_reducible exact duetlaw01_live.mono _)
      | (with_reducible exact pack_Each.mono _ _)
      | (with_reducible exact pack_Num.mono _ _)
      | (with_reducible exact pack_Text.mono _ _)
      | (with_reducible exact LeO.refl _)
      | (with_reducible exact LeO.none _)
      | (with_reducible refine LeO.ite ?_ ?_)
      | (with_reducible refine LeO.bind ?_ (fun _ => ?_))
      | exact ih0 _ _
      | exact ih1 _
      | exact duetlaw01_live.mono _
      | exact pack_Each.mono _ _
      | exact pack_Num.mono _ _
      | exact pack_Text.mono _ _
      | exact LeO.none _
      | refine LeO.ite ?_ ?_
      | refine LeO.bind ?_ (fun _ => ?_)
set_option maxHeartbeats 8000000 in
set_option maxRecDepth 100000 in
theorem duetlaw01_PackAgain.calls (k : Nat) (a0 : ByteArray) (r : Bool) (w : World) (h : duetlaw01_PackAgain.f k a0 = some r) :
    Calls Try.prog 12 #[.string a0] w fun e w' => e = .returned (.bool r) ∧ Below w.heap.size w w' := by
  have HB := Aside0.mk (Below.refl w.heap.size w)
  have H : ((duetlaw01_short.f a0).bind fun t286 => (if t286 = true then ((pack_Take.f a0).bind fun bt288 => (if bt288.2.2 = 0 then ((pack_Num.f k bt288.1).bind fun bt292 => (if bt292.2 = 0 then (if bt292.1.size + bt288.2.1.size ≤ 9223372036854775807 then (duetlaw01_PackAgain.j0 k a0 ((bt292.1 ++ bt288.2.1).toList != a0.toList)) else (none)) else (duetlaw01_PackAgain.j0 k a0 true))) else (if bt288.1 = 0 then (if bt288.2.1.toList = ([] : List UInt8) then ((duetlaw01_live.f k).bind fun t291 => (some t291)) else (none)) else (none)))) else ((duetlaw01_live.f k).bind fun t287 => (some t287)))) = some r := h
  clear h
  replace H := Option.bind_eq_some_iff.mp H
  obtain ⟨t286, A20, H⟩ := H
  replace H : (if t286 = true then ((pack_Take.f a0).bind fun bt288 => (if bt288.2.2 = 0 then ((pack_Num.f k bt288.1).bind fun bt292 => (if bt292.2 = 0 then (if bt292.1.size + bt288.2.1.size ≤ 9223372036854775807 then (duetlaw01_PackAgain.j0 k a0 ((bt292.1 ++ bt288.2.1).toList != a0.toList)) else (none)) else (duetlaw01_PackAgain.j0 k a0 true))) else (if bt288.1 = 0 then (if bt288.2.1.toList = ([] : List UInt8) then ((duetlaw01_live.f k).bind fun t291 => (some t291)) else (none)) else (none)))) else ((duetlaw01_live.f k).bind fun t287 => (some t287))) = some r := H
  have A2 := Aside0.mk A20
  clear A20
  by_cases c3 : t286 = true
  · subst c3
    have H1 : ((pack_Take.f a0).bind fun bt288 => (if bt288.2.2 = 0 then ((pack_Num.f k bt288.1).bind fun bt292 => (if bt292.2 = 0 then (if bt292.1.size + bt288.2.1.size ≤ 9223372036854775807 then (duetlaw01_PackAgain.j0 k a0 ((bt292.1 ++ bt288.2.1).toList != a0.toList)) else (none)) else (duetlaw01_PackAgain.j0 k a0 true))) else (if bt288.1 = 0 then (if bt288.2.1.toList = ([] : List UInt8) then ((duetlaw01_live.f k).bind fun t291 => (some t291)) else (none)) else (none)))) = some r := by rw [if_pos rfl] at H; exact H
    clear H
    have H := H1
    clear H1
    replace H := Option.bind_eq_some_iff.mp H
    obtain ⟨⟨t288, t289, t290⟩, A40, H⟩ := H
    replace H : (if t290 = 0 then ((pack_Num.f k t288).bind fun bt292 => (if bt292.2 = 0 then (if bt292.1.size + t289.size ≤ 9223372036854775807 then (duetlaw01_PackAgain.j0 k a0 ((bt292.1 ++ t289).toList != a0.toList)) else (none)) else (duetlaw01_PackAgain.j0 k a0 true))) else (if t288 = 0 then (if t289.toList = ([] : List UInt8) then ((duetlaw01_live.f k).bind fun t291 => (some t291)) else (none)) else (none))) = some r := H
    have A4 := Aside0.mk A40
    clear A40
    by_cases c5 : t290 = 0
    · rw [if_pos c5] at H
      have c5b0 : (t290 == 0) = true := beq_iff_eq.mpr c5
      have c5b1 : (t290 != 0) = false := bne_eq_false_iff_eq.mpr c5
      clear c5
      replace H := Option.bind_eq_some_iff.mp H
      obtain ⟨⟨t292, t293⟩, A60, H⟩ := H
      replace H : (if t293 = 0 then (if t292.size + t289.size ≤ 9223372036854775807 then (duetlaw01_PackAgain.j0 k a0 ((t292 ++ t289).toList != a0.toList)) else (none)) else (duetlaw01_PackAgain.j0 k a0 true)) = some r := H
      have A6 := Aside0.mk A60
      clear A60
      have HC7 := Aside0.mk H
      clear H
      go_enter Try.func12, Try.ntmps12
      go_upto_region 7 with (first | ((with_reducible refine gate_callee (f := 33) rfl ?_); refine goesL_ (some 19) rfl rfl Try.func33 (by kernel_rfl) rfl #[.string a0] rfl (by (try simp only [List.map_toArray, List.map_cons, List.map_nil]); first | done | rfl | (simp only [List.length_drop, List.length_take]; rfl)) ?_; (with_reducible refine (duetlaw01_short.calls a0 true _ A2.out).mono ?_); rintro e w' ⟨rfl, ⟨nd, rfl⟩⟩; refine ⟨_, rfl, ?_⟩) | ((with_reducible refine gate_callee (f := 41) rfl ?_); refine goesL_ (some 24) rfl rfl Try.func41 (by kernel_rfl) rfl #[.string a0] rfl (by (try simp only [List.map_toArray, List.map_cons, List.map_nil]); first | done | rfl | (simp only [List.length_drop, List.length_take]; rfl)) ?_; (with_reducible refine (pack_Take.calls a0 t288 t289 t290 _ A4.out).mono ?_); rintro e w8 ⟨rfl, hb⟩; refine ⟨_, rfl, ?_⟩; have n0_ := Aside0.mk (below_step (by repeat (first | (with_reducible first | exact HB.out | apply below_alloc | apply pw_below_drewN | apply below_drew1) | exact HB.out)) hb); clear HB; have HB := n0_; clear n0_; (try clear hb); (try clear hb2); (try clear hk); (try clear hi)) | ((with_reducible refine gate_callee (f := 35) rfl ?_); refine goesL_ (some 41) rfl rfl Try.func35 (by kernel_rfl) rfl #[.int .i64 t288] rfl (by (try simp only [List.map_toArray, List.map_cons, List.map_nil]); first | done | rfl | (simp only [List.length_drop, List.length_take]; rfl)) ?_; (with_reducible refine (pack_Num.calls k t288 t292 t293 _ A6.out).mono ?_); rintro e w9 ⟨rfl, hb⟩; refine ⟨_, rfl, ?_⟩; have n0_ := Aside0.mk (below_step (by repeat (first | (with_reducible first | exact HB.out | apply below_alloc | apply pw_below_drewN | apply below_drew1) | exact HB.out)) hb); clear HB; have HB := n0_; clear n0_; (try clear hb); (try clear hb2); (try clear hk); (try clear hi)))
      (try simp only [Act.put, List.setIfInBounds_toArray, List.set_cons_zero, List.set_cons_succ])
      go_cut [52] (fun v52 wc => ∃ (kq : Nat) (x52_6 : Bool), v52 = .bool x52_6 ∧ Aside0 (duetlaw01_PackAgain.j0 kq a0 x52_6 = some r) ∧ Aside0 (kq ≤ k) ∧ Aside0 (Below w.heap.size w wc))
      case first =>
        have H := HC7.out
        clear HC7
        by_cases c10 : t293 = 0
        · rw [if_pos c10] at H
          have c10b0 : (t293 == 0) = true := beq_iff_eq.mpr c10
          have c10b1 : (t293 != 0) = false := bne_eq_false_iff_eq.mpr c10
          clear c10
          (first | rw [c10b0] | (simp only [i64_w, i32_w]; rw [c10b0]) | skip)
          by_cases c11 : t292.size + t289.size ≤ 9223372036854775807
          · rw [if_pos c11] at H
            have c11b0 := eq_true c11
            have c11b1 : decide (t292.size + t289.size ≤ 9223372036854775807) = true := decide_eq_true c11
            try have c11b2 : (9223372036854775807 < t292.size + t289.size) = False := eq_false (Nat.not_lt.2 c11)
            have H' := Aside0.mk H
            clear H
            go_wp2
            go_meet
            case rel => exact ⟨_, (((t292 ++ t289).toList != a0.toList)), (by first | rfl | (simp; done) | (simp [*]; done)), H', ⟨by first | omega | exact Nat.le_refl _⟩, ⟨by repeat (first | (with_reducible first | exact HB.out | apply below_alloc | apply pw_below_drewN | apply below_drew1) | exact HB.out)⟩⟩
          · rw [if_neg c11] at H
            exact absurd H (by simp)
        · rw [if_neg c10] at H
          have c10b0 : (t293 == 0) = false := beq_eq_false_iff_ne.mpr c10
          have c10b1 : (t293 != 0) = true := bne_iff_ne.mpr c10
          (first | rw [c10b0] | (simp only [i64_w, i32_w]; rw [c10b0]) | skip)
          have H' := Aside0.mk H
          clear H
          go_wp2
          go_meet
          case rel => exact ⟨_, (true), (by first | rfl | (simp; done) | (simp [*]; done)), H', ⟨by first | omega | exact Nat.le_refl _⟩, ⟨by repeat (first | (with_reducible first | exact HB.out | apply below_alloc | apply pw_below_drewN | apply below_drew1) | exact HB.out)⟩⟩
      case rest =>
        clear HC7
        try clear c1
        try clear p2
        try clear c3
        try clear c4
        try clear c5
        try clear c5b0
        try clear c5b1
        try clear c10
        try clear c10b0
        try clear c10b1
        try clear c11
        try clear c11b0
        try clear c11b1
        try clear c11b2
        obtain ⟨kq, x52_6, rfl, HA, HJ6, HB⟩ := hcut
        cases kq with
        | zero => exact absurd HA.out (by simp [duetlaw01_PackAgain.j0])
        | succ kj6 =>
          have H := HA.out
          clear HA
          simp only [duetlaw01_PackAgain.j0] at H
          by_cases c12 : x52_6 = true
          · subst c12
            have H1 : (none) = some r := by rw [if_pos rfl] at H; exact H
            clear H
            have H := H1
            clear H1
            exact absurd H (by simp)
          · replace c12 := Bool.eq_false_iff.mpr c12
            subst c12
            have H1 : ((pack_Cut.f a0).bind fun bt294 => (if bt294.2.2 = 0 then ((pack_Text.f kj6 bt294.1).bind fun bt297 => (if bt297.2 = 0 then (if bt297.1.size + bt294.2.1.size ≤ 9223372036854775807 then (if (bt297.1 ++ bt294.2.1).toList = a0.toList then (duetlaw01_PackAgain.j1 kj6 a0) else (none)) else (none)) else (none))) else (duetlaw01_PackAgain.j1 kj6 a0))) = some r := by rw [if_neg (show ¬ (false = true) by decide)] at H; exact H
            clear H
            have H := H1
            clear H1
            replace H := Option.bind_eq_some_iff.mp H
            obtain ⟨⟨t294, t295, t296⟩, A130, H⟩ := H
            replace H : (if t296 = 0 then ((pack_Text.f kj6 t294).bind fun bt297 => (if bt297.2 = 0 then (if bt297.1.size + t295.size ≤ 9223372036854775807 then (if (bt297.1 ++ t295).toList = a0.toList then (duetlaw01_PackAgain.j1 kj6 a0) else (none)) else (none)) else (none))) else (duetlaw01_PackAgain.j1 kj6 a0)) = some r := H
            have A13 := Aside0.mk A130
            clear A130
            have HC14 := Aside0.mk H
            clear H
            go_upto_if 60 with (first | ((with_reducible refine gate_callee (f := 43) rfl ?_); refine goesL_ (some 55) rfl rfl Try.func43 (by kernel_rfl) rfl #[.string a0] rfl (by (try simp only [List.map_toArray, List.map_cons, List.map_nil]); first | done | rfl | (simp only [List.length_drop, List.length_take]; rfl)) ?_; (with_reducible refine (pack_Cut.calls a0 t294 t295 t296 _ A13.out).mono ?_); rintro e w15 ⟨rfl, hb⟩; refine ⟨_, rfl, ?_⟩; have n0_ := Aside0.mk (below_step (by repeat (first | (with_reducible first | exact HB.out | apply below_alloc | apply pw_below_drewN | apply below_drew1) | exact HB.out)) hb); clear HB; have HB := n0_; clear n0_; (try clear hb); (try clear hb2); (try clear hk); (try clear hi)))
            (try simp only [Act.put, List.setIfInBounds_toArray, List.set_cons_zero, List.set_cons_succ])
            go_cut [] (fun wc => ∃ (kq : Nat), Aside0 (duetlaw01_PackAgain.j1 kq a0 = some r) ∧ Aside0 (kq ≤ kj6) ∧ Aside0 (Below w.heap.size w wc))
            case first =>
              have H := HC14.out
              clear HC14
              by_cases c16 : t296 = 0
              · rw [if_pos c16] at H
                have c16b0 : (t296 == 0) = true := beq_iff_eq.mpr c16
                have c16b1 : (t296 != 0) = false := bne_eq_false_iff_eq.mpr c16
                clear c16
                (first | rw [c16b0] | (simp only [i64_w, i32_w]; rw [c16b0]) | skip)
                replace H := Option.bind_eq_some_iff.mp H
                obtain ⟨⟨t297, t298⟩, A170, H⟩ := H
                replace H : (if t298 = 0 then (if t297.size + t295.size ≤ 9223372036854775807 then (if (t297 ++ t295).toList = a0.toList then (duetlaw01_PackAgain.j1 kj6 a0) else (none)) else (none)) else (none)) = some r := H
                have A17 := Aside0.mk A170
                clear A170
                by_cases c18 : t298 = 0
                · rw [if_pos c18] at H
                  have c18b0 : (t298 == 0) = true := beq_iff_eq.mpr c18
                  have c18b1 : (t298 != 0) = false := bne_eq_false_iff_eq.mpr c18
                  clear c18
                  by_cases c19 : t297.size + t295.size ≤ 9223372036854775807
                  · rw [if_pos c19] at H
                    have c19b0 := eq_true c19
                    have c19b1 : decide (t297.size + t295.size ≤ 9223372036854775807) = true := decide_eq_true c19
                    try have c19b2 : (9223372036854775807 < t297.size + t295.size) = False := eq_false (Nat.not_lt.2 c19)
                    by_cases c20 : (t297 ++ t295).toList = a0.toList
                    · rw [if_pos c20] at H
                      have c20b0 : ((t297 ++ t295).toList == a0.toList) = true := beq_iff_eq.mpr c20
                      have c20b1 : ((t297 ++ t295).toList != a0.toList) = false := bne_eq_false_iff_eq.mpr c20
                      clear c20
                      have H' := Aside0.mk H
                      clear H
                      go_wp2_with (first | ((with_reducible refine gate_callee (f := 37) rfl ?_); refine goesL_ (some 63) rfl rfl Try.func37 (by kernel_rfl) rfl #[.string t294] rfl (by (try simp only [List.map_toArray, List.map_cons, List.map_nil]); first | done | rfl | (simp only [List.length_drop, List.length_take]; rfl)) ?_; (with_reducible refine (pack_Text.calls kj6 t294 t297 t298 _ A17.out).mono ?_); rintro e w21 ⟨rfl, hb⟩; refine ⟨_, rfl, ?_⟩; have n0_ := Aside0.mk (below_step (by repeat (first | (with_reducible first | exact HB.out | apply below_alloc | apply pw_below_drewN | apply below_drew1) | exact HB.out)) hb); clear HB; have HB := n0_; clear n0_; (try clear hb); (try clear hb2); (try clear hk); (try clear hi)))
                      go_meet
                      case rel => exact ⟨_, H', ⟨by have := HJ6.out; first | omega | exact Nat.le_refl _⟩, ⟨by repeat (first | (with_reducible first | exact HB.out | apply below_alloc | apply pw_below_drewN | apply below_drew1) | exact HB.out)⟩⟩
                    · rw [if_neg c20] at H
                      exact absurd H (by simp)
                  · rw [if_neg c19] at H
                    exact absurd H (by simp)
                · rw [if_neg c18] at H
                  exact absurd H (by simp)
              · rw [if_neg c16] at H
                have c16b0 : (t296 == 0) = false := beq_eq_false_iff_ne.mpr c16
                have c16b1 : (t296 != 0) = true := bne_iff_ne.mpr c16
                (first | rw [c16b0] | (simp only [i64_w, i32_w]; rw [c16b0]) | skip)
                have H' := Aside0.mk H
                clear H
                go_wp2
                go_meet
                case rel => exact ⟨_, H', ⟨by have := HJ6.out; first | omega | exact Nat.le_refl _⟩, ⟨by repeat (first | (with_reducible first | exact HB.out | apply below_alloc | apply pw_below_drewN | apply below_drew1) | exact HB.out)⟩⟩
            case rest =>
              clear HC14
              try clear c1
              try clear c2
              try clear p2
              try clear c3
              try clear c4
              try clear c5
              try clear c5b0
              try clear c5b1
              try clear c10
              try clear c10b0
              try clear c10b1
              try clear c11
              try clear c11b0
              try clear c11b1
              try clear c11b2
              try clear c12
              try clear c16
              try clear c16b0
              try clear c16b1
              try clear c18
              try clear c18b0
              try clear c18b1
              try clear c19
              try clear c19b0
              try clear c19b1
              try clear c19b2
              try clear c20
              try clear c20b0
              try clear c20b1
              try clear p2
              obtain ⟨kq, HA, HJ13, HB⟩ := hcut
              cases kq with
              | zero => exact absurd HA.out (by simp [duetlaw01_PackAgain.j1])
              | succ kj13 =>
                have H := HA.out
                clear HA
                simp only [duetlaw01_PackAgain.j1] at H
                replace H := Option.bind_eq_some_iff.mp H
                obtain ⟨⟨t299, t300, t301⟩, A220, H⟩ := H
                replace H : (if t301 = 0 then ((pack_List.f t299).bind fun bt304 => (if bt304.2 = 0 then (if bt304.1.size + t300.size ≤ 9223372036854775807 then (if (bt304.1 ++ t300).toList = a0.toList then ((duetlaw01_live.f kj13).bind fun t306 => (some t306)) else (none)) else (none)) else (none))) else (if (t299.length : Int) = 0 then ((duetlaw01_live.f kj13).bind fun t307 => (some t307)) else (none))) = some r := H
                have A22 := Aside0.mk A220
                clear A220
                by_cases c23 : t301 = 0
                · rw [if_pos c23] at H
                  have c23b0 : (t301 == 0) = true := beq_iff_eq.mpr c23
                  have c23b1 : (t301 != 0) = false := bne_eq_false_iff_eq.mpr c23
                  clear c23
                  replace H := Option.bind_eq_some_iff.mp H
                  obtain ⟨⟨t304, t305⟩, A240, H⟩ := H
                  replace H : (if t305 = 0 then (if t304.size + t300.size ≤ 9223372036854775807 then (if (t304 ++ t300).toList = a0.toList then ((duetlaw01_live.f kj13).bind fun t306 => (some t306)) else (none)) else (none)) else (none)) = some r := H
                  have A24 := Aside0.mk A240
                  clear A240
                  by_cases c25 : t305 = 0
                  · rw [if_pos c25] at H
                    have c25b0 : (t305 == 0) = true := beq_iff_eq.mpr c25
                    have c25b1 : (t305 != 0) = false := bne_eq_false_iff_eq.mpr c25
                    clear c25
                    by_cases c26 : t304.size + t300.size ≤ 9223372036854775807
                    · rw [if_pos c26] at H
                      have c26b0 := eq_true c26
                      have c26b1 : decide (t304.size + t300.size ≤ 9223372036854775807) = true := decide_eq_true c26
                      try have c26b2 : (9223372036854775807 < t304.size + t300.size) = False := eq_false (Nat.not_lt.2 c26)
                      by_cases c27 : (t304 ++ t300).toList = a0.toList
                      · rw [if_pos c27] at H
                        have c27b0 : ((t304 ++ t300).toList == a0.toList) = true := beq_iff_eq.mpr c27
                        have c27b1 : ((t304 ++ t300).toList != a0.toList) = false := bne_eq_false_iff_eq.mpr c27
                        clear c27
                        replace H := Option.bind_eq_some_iff.mp H
                        obtain ⟨t306, A280, H⟩ := H
                        replace H : (some t306) = some r := H
                        have A28 := Aside0.mk A280
                        clear A280
                        obtain rfl := Option.some.inj H
                        go_wp2_with (first | ((with_reducible refine gate_callee (f := 45) rfl ?_); refine goesL_ (some 77) rfl rfl Try.func45 (by kernel_rfl) rfl #[.string a0] rfl (by (try simp only [List.map_toArray, List.map_cons, List.map_nil]); first | done | rfl | (simp only [List.length_drop, List.length_take]; rfl)) ?_; (with_reducible refine (pack_Each.calls kj13 a0 t299 t300 t301 _ A22.out).mono ?_); rintro e w29 ⟨v302, rfl, ho0, hb⟩; refine ⟨_, rfl, ?_⟩; have n0_ := Aside0.mk (Kd.R_lower ho0 (below_size (by repeat (first | (with_reducible first | exact HB.out | apply below_alloc | apply pw_below_drewN | apply below_drew1) | exact HB.out)))); have n1_ := Aside0.mk (below_step (by repeat (first | (with_reducible first | exact HB.out | apply below_alloc | apply pw_below_drewN | apply below_drew1) | exact HB.out)) hb); clear HB; have HO303 := n0_; have HB := n1_; clear n0_ n1_; (try clear hb); (try clear hb2); (try clear hk); (try clear hi); (try clear ho0); obtain ⟨Ao30, co30, eo30⟩ := Kd.R_slice HO303.out; subst eo30) | ((with_reducible refine gate_callee (f := 39) rfl ?_); refine goesL_ (some 91) rfl rfl Try.func39 (by kernel_rfl) rfl #[.slice Ao30 t299.length co30] rfl (by (try simp only [List.map_toArray, List.map_cons, List.map_nil]); first | done | rfl | (simp only [List.length_drop, List.length_take]; rfl)) ?_; (with_reducible refine (pack_List.calls _ _ t299 t304 t305 _ ?side1 ?side2 A24.out).mono ?_); (case side1 => repeat (first | exact (Kd.R_reads' HO303.out).2.2 | (with_reducible refine Kd.C_alloc ?_ _) | (with_reducible refine Kd.C_drewN ?_ _) | (with_reducible refine Kd.C_drew ?_))); (case side2 => exact (Kd.R_reads' HO303.out).2.1); rintro e w31 ⟨rfl, hb⟩; refine ⟨_, rfl, ?_⟩; have n0_ := Aside0.mk (Kd.R_below (by (with_reducible repeat (first | apply Kd.R_alloc | apply Kd.R_drewN | apply Kd.R_drew)); exact HO303.out) hb); have n1_ := Aside0.mk (below_step (by repeat (first | (with_reducible first | exact HB.out | apply below_alloc | apply pw_below_drewN | apply below_drew1) | exact HB.out)) hb); clear HO303; clear HB; have HO303 := n0_; have HB := n1_; clear n0_ n1_; (try clear hb); (try clear hb2); (try clear hk); (try clear hi)) | (go_at_call 34; (with_reducible refine (duetlaw01_live.calls kj13  t306 _ A28.out).mono ?_); rintro e w32 ⟨rfl, hb⟩; have n0_ := Aside0.mk (Kd.R_below (by (with_reducible repeat (first | apply Kd.R_alloc | apply Kd.R_drewN | apply Kd.R_drew)); exact HO303.out) hb); have n1_ := Aside0.mk (below_step (by repeat (first | (with_reducible first | exact HB.out | apply below_alloc | apply pw_below_drewN | apply below_drew1) | exact HB.out)) hb); clear HO303; clear HB; have HO303 := n0_; have HB := n1_; clear n0_ n1_; (try clear hb); (try clear hb2); (try clear hk); (try clear hi)))
                        go_ret
                        exact ⟨by first | rfl | (simp [errW_none, errW_some] <;> rfl) | (simp [*, errW_none, errW_some] <;> rfl), by repeat (first | (with_reducible first | exact HB.out | apply below_alloc | apply pw_below_drewN | apply below_drew1) | exact HB.out)⟩
                      · rw [if_neg c27] at H
                        exact absurd H (by simp)
                    · rw [if_neg c26] at H
                      exact absurd H (by simp)
                  · rw [if_neg c25] at H
                    exact absurd H (by simp)
                · rw [if_neg c23] at H
                  have c23b0 : (t301 == 0) = false := beq_eq_false_iff_ne.mpr c23
                  have c23b1 : (t301 != 0) = true := bne_iff_ne.mpr c23
                  by_cases c33 : (t299.length : Int) = 0
                  · rw [if_pos c33] at H
                    have c33b0 : ((t299.length : Int) == 0) = true := beq_iff_eq.mpr c33
                    have c33b1 : ((t299.length : Int) != 0) = false := bne_eq_false_iff_eq.mpr c33
                    clear c33
                    replace H := Option.bind_eq_some_iff.mp H
                    obtain ⟨t307, A340, H⟩ := H
                    replace H : (some t307) = some r := H
                    have A34 := Aside0.mk A340
                    clear A340
                    obtain rfl := Option.some.inj H
                    go_wp2_with (first | ((with_reducible refine gate_callee (f := 45) rfl ?_); refine goesL_ (some 77) rfl rfl Try.func45 (by kernel_rfl) rfl #[.string a0] rfl (by (try simp only [List.map_toArray, List.map_cons, List.map_nil]); first | done | rfl | (simp only [List.length_drop, List.length_take]; rfl)) ?_; (with_reducible refine (pack_Each.calls kj13 a0 t299 t300 t301 _ A22.out).mono ?_); rintro e w35 ⟨v302, rfl, ho0, hb⟩; refine ⟨_, rfl, ?_⟩; have n0_ := Aside0.mk (Kd.R_lower ho0 (below_size (by repeat (first | (with_reducible first | exact HB.out | apply below_alloc | apply pw_below_drewN | apply below_drew1) | exact HB.out)))); have n1_ := Aside0.mk (below_step (by repeat (first | (with_reducible first | exact HB.out | apply below_alloc | apply pw_below_drewN | apply below_drew1) | exact HB.out)) hb); clear HB; have HO303 := n0_; have HB := n1_; clear n0_ n1_; (try clear hb); (try clear hb2); (try clear hk); (try clear hi); (try clear ho0); obtain ⟨Ao36, co36, eo36⟩ := Kd.R_slice HO303.out; subst eo36) | (go_at_call 34; (with_reducible refine (duetlaw01_live.calls kj13  t307 _ A34.out).mono ?_); rintro e w37 ⟨rfl, hb⟩; have n0_ := Aside0.mk (Kd.R_below (by (with_reducible repeat (first | apply Kd.R_alloc | apply Kd.R_drewN | apply Kd.R_drew)); exact HO303.out) hb); have n1_ := Aside0.mk (below_step (by repeat (first | (with_reducible first | exact HB.out | apply below_alloc | apply pw_below_drewN | apply below_drew1) | exact HB.out)) hb); clear HO303; clear HB; have HO303 := n0_; have HB := n1_; clear n0_ n1_; (try clear hb); (try clear hb2); (try clear hk); (try clear hi)))
                    go_ret
                    exact ⟨by first | rfl | (simp [errW_none, errW_some] <;> rfl) | (simp [*, errW_none, errW_some] <;> rfl), by repeat (first | (with_reducible first | exact HB.out | apply below_alloc | apply pw_below_drewN | apply below_drew1) | exact HB.out)⟩
                  · rw [if_neg c33] at H
                    exact absurd H (by simp)
    · rw [if_neg c5] at H
      have c5b0 : (t290 == 0) = false := beq_eq_false_iff_ne.mpr c5
      have c5b1 : (t290 != 0) = true := bne_iff_ne.mpr c5
      by_cases c38 : t288 = 0
      · rw [if_pos c38] at H
        have c38b0 : (t288 == 0) = true := beq_iff_eq.mpr c38
        have c38b1 : (t288 != 0) = false := bne_eq_false_iff_eq.mpr c38
        clear c38
        by_cases c39 : t289.toList = ([] : List UInt8)
        · rw [if_pos c39] at H
          have c39b0 : (t289.toList == ([] : List UInt8)) = true := beq_iff_eq.mpr c39
          have c39b1 : (t289.toList != ([] : List UInt8)) = false := bne_eq_false_iff_eq.mpr c39
          clear c39
          replace H := Option.bind_eq_some_iff.mp H
          obtain ⟨t291, A400, H⟩ := H
          replace H : (some t291) = some r := H
          have A40 := Aside0.mk A400
          clear A400
          obtain rfl := Option.some.inj H
          go_enter Try.func12, Try.ntmps12
          go_wp2_with (first | ((with_reducible refine gate_callee (f := 33) rfl ?_); refine goesL_ (some 19) rfl rfl Try.func33 (by kernel_rfl) rfl #[.string a0] rfl (by (try simp only [List.map_toArray, List.map_cons, List.map_nil]); first | done | rfl | (simp only [List.length_drop, List.length_take]; rfl)) ?_; (with_reducible refine (duetlaw01_short.calls a0 true _ A2.out).mono ?_); rintro e w' ⟨rfl, ⟨nd, rfl⟩⟩; refine ⟨_, rfl, ?_⟩) | ((with_reducible refine gate_callee (f := 41) rfl ?_); refine goesL_ (some 24) rfl rfl Try.func41 (by kernel_rfl) rfl #[.string a0] rfl (by (try simp only [List.map_toArray, List.map_cons, List.map_nil]); first | done | rfl | (simp only [List.length_drop, List.length_take]; rfl)) ?_; (with_reducible refine (pack_Take.calls a0 t288 t289 t290 _ A4.out).mono ?_); rintro e w41 ⟨rfl, hb⟩; refine ⟨_, rfl, ?_⟩; have n0_ := Aside0.mk (below_step (by repeat (first | (with_reducible first | exact HB.out | apply below_alloc | apply pw_below_drewN | apply below_drew1) | exact HB.out)) hb); clear HB; have HB := n0_; clear n0_; (try clear hb); (try clear hb2); (try clear hk); (try clear hi)) | (go_at_call 34; (with_reducible refine (duetlaw01_live.calls k  t291 _ A40.out).mono ?_); rintro e w42 ⟨rfl, hb⟩; have n0_ := Aside0.mk (below_step (by repeat (first | (with_reducible first | exact HB.out | apply below_alloc | apply pw_below_drewN | apply below_drew1) | exact HB.out)) hb); clear HB; have HB := n0_; clear n0_; (try clear hb); (try clear hb2); (try clear hk); (try clear hi)))
          go_ret
          exact ⟨by first | rfl | (simp [errW_none, errW_some] <;> rfl) | (simp [*, errW_none, errW_some] <;> rfl), by repeat (first | (with_reducible first | exact HB.out | apply below_alloc | apply pw_below_drewN | apply below_drew1) | exact HB.out)⟩
        · rw [if_neg c39] at H
          exact absurd H (by simp)
      · rw [if_neg c38] at H
        exact absurd H (by simp)
  · replace c3 := Bool.eq_false_iff.mpr c3
    subst c3
    have H1 : ((duetlaw01_live.f k).bind fun t287 => (some t287)) = some r := by rw [if_neg (show ¬ (false = true) by decide)] at H; exact H
    clear H
    have H := H1
    clear H1
    replace H := Option.bind_eq_some_iff.mp H
    obtain ⟨t287, A430, H⟩ := H
    replace H : (some t287) = some r := H
    have A43 := Aside0.mk A430
    clear A430
    obtain rfl := Option.some.inj H
    go_enter Try.func12, Try.ntmps12
    go_wp2_with (first | ((with_reducible refine gate_callee (f := 33) rfl ?_); refine goesL_ (some 19) rfl rfl Try.func33 (by kernel_rfl) rfl #[.string a0] rfl (by (try simp only [List.map_toArray, List.map_cons, List.map_nil]); first | done | rfl | (simp only [List.length_drop, List.length_take]; rfl)) ?_; (with_reducible refine (duetlaw01_short.calls a0 false _ A2.out).mono ?_); rintro e w' ⟨rfl, ⟨nd, rfl⟩⟩; refine ⟨_, rfl, ?_⟩) | ((with_reducible refine gate_callee (f := 34) rfl ?_); refine goesL_ (some 21) rfl rfl Try.func34 (by kernel_rfl) rfl #[] rfl (by (try simp only [List.map_toArray, List.map_cons, List.map_nil]); first | done | rfl | (simp only [List.length_drop, List.length_take]; rfl)) ?_; (with_reducible refine (duetlaw01_live.calls k  t287 _ A43.out).mono ?_); rintro e w44 ⟨rfl, hb⟩; refine ⟨_, rfl, ?_⟩; have n0_ := Aside0.mk (below_step (by repeat (first | (with_reducible first | exact HB.out | apply below_alloc | apply pw_below_drewN | apply below_drew1) | exact HB.out)) hb); clear HB; have HB := n0_; clear n0_; (try clear hb); (try clear hb2); (try clear hk); (try clear hi)))
    go_ret
    exact ⟨by first | rfl | (simp [errW_none, errW_some] <;> rfl) | (simp [*, errW_none, errW_some] <;> rfl), by repeat (first | (with_reducible first | exact HB.out | apply below_alloc | apply pw_below_drewN | apply below_drew1) | exact HB.out)⟩

/-- THE ONE PURE STATEMENT of duetlaw01_PackAgain: yours. -/
def duetlaw01_PackAgain.Pure : Prop := ∀ (a0 : ByteArray), a0.size ≤ 140737488351232 → ∃ k, duetlaw01_PackAgain.f k a0 = some true
theorem duetlaw01_PackAgain.walk (P : duetlaw01_PackAgain.Pure) (a0 : ByteArray) (w : World) (w0 : a0.size ≤ 140737488351232) :
    Calls Try.prog 12 #[.string a0] w fun e w' => e = .returned (.bool true) ∧ Below w.heap.size w w' := by
  obtain ⟨k, h⟩ := P a0 w0
  refine (duetlaw01_PackAgain.calls k a0 true w h).mono ?_
  rintro e w' ⟨rfl, hd⟩
  exact ⟨rfl, hd⟩

/-! ### duetlaw01_PackOrder: function 13 -/
mutual
def duetlaw01_PackOrder.j0 : Nat → Int → Int → Int → ByteArray → ByteArray → Bool → Option (Bool)
  | 0, _, _, _, _, _, _ => none
  | k + 1, x0, x1, x2, x7, x9, x29 => if x29 = true then ((duetlaw01_live.f k).bind fun t312 => (some t312)) else (if (x7.size : Int) = 0 then (duetlaw01_PackOrder.j1 k x2 x7 true) else (if (x7.size : Int) > 5 then (duetlaw01_PackOrder.j1 k x2 x7 true) else (duetlaw01_PackOrder.j1 k x2 x7 ((decide (x0 < x1)) != (Op.bytesLess x7.toList x9.toList)))))
def duetlaw01_PackOrder.j1 : Nat → Int → ByteArray → Bool → Option (Bool)
  | 0, _, _, _ => none
  | k + 1, x2, x7, x47 => if x47 = true then (none) else (if x2 < 0 then (duetlaw01_PackOrder.j2 k x2 x7 true) else (duetlaw01_PackOrder.j2 k x2 x7 (decide (x2 ≥ (x7.size : Int)))))
def duetlaw01_PackOrder.j2 : Nat → Int → ByteArray → Bool → Option (Bool)
  | 0, _, _, _ => none
  | k + 1, x2, x7, x55 => if x55 = true then ((duetlaw01_live.f k).bind fun t313 => (some t313)) else (if 0 ≤ x2 then (if x2 ≤ (x7.size : Int) then ((pack_Take.f (x7.extract 0 (x2 : Int).toNat)).bind fun bt314 => (if bt314.2.2 = 3 then ((duetlaw01_live.f k).bind fun t317 => (some t317)) else (none))) else (none)) else (none))
end
def duetlaw01_PackOrder.f (k : Nat) (a0 : Int) (a1 : Int) (a2 : Int) : Option (Bool) := (pack_Num.f k a0).bind fun bt308 => ((pack_Num.f k a1).bind fun bt310 => (if bt308.2 = 0 then (duetlaw01_PackOrder.j0 k a0 a1 a2 bt308.1 bt310.1 (bt310.2 != 0)) else (duetlaw01_PackOrder.j0 k a0 a1 a2 bt308.1 bt310.1 true)))
theorem duetlaw01_PackOrder.mono_l : ∀ k, (∀ y0 y1 y2 y3 y4 y5, LeO (duetlaw01_PackOrder.j0 k y0 y1 y2 y3 y4 y5) (duetlaw01_PackOrder.j0 (k + 1) y0 y1 y2 y3 y4 y5)) ∧ (∀ y0 y1 y2, LeO (duetlaw01_PackOrder.j1 k y0 y1 y2) (duetlaw01_PackOrder.j1 (k + 1) y0 y1 y2)) ∧ (∀ y0 y1 y2, LeO (duetlaw01_PackOrder.j2 k y0 y1 y2) (duetlaw01_PackOrder.j2 (k + 1) y0 y1 y2))
  | 0 => ⟨fun _ _ _ _ _ _ r h => by simp [duetlaw01_PackOrder.j0] at h, fun _ _ _ r h => by simp [duetlaw01_PackOrder.j1] at h, fun _ _ _ r h => by simp [duetlaw01_PackOrder.j2] at h⟩
  | k + 1 => by
    obtain ⟨ih0, ih1, ih2⟩ := duetlaw01_PackOrder.mono_l k
    refine ⟨?_, ?_, ?_⟩
    · intro y0 y1 y2 y3 y4 y5
      unfold duetlaw01_PackOrder.j0
      repeat' first
      | (with_reducible exact ih0 _ _ _ _ _ _)
      | (with_reducible exact ih1 _ _ _)
      | (with_reducible exact ih2 _ _ _)
      | (with_reducible exact duetlaw01_live.mono _)
      | (with_reducible exact pack_Num.mono _ _)
      | (with_reducible exact LeO.refl _)
      | (with_reducible exact LeO.none _)
      | (with_reducible refine LeO.ite ?_ ?_)
      | (with_reducible refine LeO.bind ?_ (fun _ => ?_))
      | exact ih0 _ _ _ _ _ _
      | exact ih1 _ _ _
      | exact ih2 _ _ _
      | exact duetlaw01_live.mono _
      | exact pack_Num.mono _ _
      | exact LeO.none _
      | refine LeO.ite ?_ ?_
      | refine LeO.bind ?_ (fun _ => ?_)
    · intro y0 y1 y2
      unfold duetlaw01_PackOrder.j1
      repeat' first
      | (with_reducible exact ih0 _ _ _ _ _ _)
      | (with_reducible exact ih1 _ _ _)
      | (with_reducible exact ih2 _ _ _)
      | (with_reducible exact duetlaw01_live.mono _)
      | (with_reducible exact pack_Num.mono _ _)
      | (with_reducible exact LeO.refl _)
      | (with_reducible exact LeO.none _)
      | (with_reducible refine LeO.ite ?_ ?_)
      | (with_reducible refine LeO.bind ?_ (fun _ => ?_))
      | exact ih0 _ _ _ _ _ _
      | exact ih1 _ _ _
      | exact ih2 _ _ _
      | exact duetlaw01_live.mono _
      | exact pack_Num.mono _ _
      | exact LeO.none _
      | refine LeO.ite ?_ ?_
      | refine LeO.bind ?_ (fun _ => ?_)
    · intro y0 y1 y2
      unfold duetlaw01_PackOrder.j2
      repeat' first
      | (with_reducible exact ih0 _ _ _ _ _ _)
      | (with_reducible exact ih1 _ _ _)
      | (with_reducible exact ih2 _ _ _)
      | (with_reducible exact duetlaw01_live.mono _)
      | (with_reducible exact pack_Num.mono _ _)
      | (with_reducible exact LeO.refl _)
      | (with_reducible exact LeO.none _)
      | (with_reducible refine LeO.ite ?_ ?_)
      | (with_reducible refine LeO.bind ?_ (fun _ => ?_))
      | exact ih0 _ _ _ _ _ _
      | exact ih1 _ _ _
      | exact ih2 _ _ _
      | exact duetlaw01_live.mono _
      | exact pack_Num.mono _ _
      | exact LeO.none _
      | refine LeO.ite ?_ ?_
      | refine LeO.bind ?_ (fun _ => ?_)
theorem duetlaw01_PackOrder.mono : ∀ a0 a1 a2 k, LeO (duetlaw01_PackOrder.f k a0 a1 a2) (duetlaw01_PackOrder.f (k + 1) a0 a1 a2) := by
  intro a0 a1 a2 k
  obtain ⟨ih0, ih1, ih2⟩ := duetlaw01_PackOrder.mono_l k
  unfold duetlaw01_PackOrder.f
  repeat' first
      | (with_reducible exact ih0 _ _ _ _ _ _)
      | (with_reducible exact ih1 _ _ _)
      | (with_reducible exact ih2 _ _ _)
      | (with_reducible exact duetlaw01_live.mono _)
      | (with_reducible exact pack_Num.mono _ _)
      | (with_reducible exact LeO.refl _)
      | (with_reducible exact LeO.none _)
      | (with_reducible refine LeO.ite ?_ ?_)
      | (with_reducible refine LeO.bind ?_ (fun _ => ?_))
      | exact ih0 _ _ _ _ _ _
      | exact ih1 _ _ _
      | exact ih2 _ _ _
      | exact duetlaw01_live.mono _
      | exact pack_Num.mono _ _
      | exact LeO.none _
      | refine LeO.ite ?_ ?_
      | refine LeO.bind ?_ (fun _ => ?_)
set_option maxHeartbeats 8000000 in
set_option maxRecDepth 100000 in
theorem duetlaw01_PackOrder.calls (k : Nat) (a0 : Int) (a1 : Int) (a2 : Int) (r : Bool) (w : World) (h : duetlaw01_PackOrder.f k a0 a1 a2 = some r) :
    Calls Try.prog 13 #[.int .i64 a0, .int .i64 a1, .int .i64 a2] w fun e w' => e = .returned (.bool r) ∧ Below w.heap.size w w' := by
  have HB := Aside0.mk (Below.refl w.heap.size w)
  have H : ((pack_Num.f k a0).bind fun bt308 => ((pack_Num.f k a1).bind fun bt310 => (if bt308.2 = 0 then (duetlaw01_PackOrder.j0 k a0 a1 a2 bt308.1 bt310.1 (bt310.2 != 0)) else (duetlaw01_PackOrder.j0 k a0 a1 a2 bt308.1 bt310.1 true)))) = some r := h
  clear h
  replace H := Option.bind_eq_some_iff.mp H
  obtain ⟨⟨t308, t309⟩, A40, H⟩ := H
  replace H : ((pack_Num.f k a1).bind fun bt310 => (if t309 = 0 then (duetlaw01_PackOrder.j0 k a0 a1 a2 t308 bt310.1 (bt310.2 != 0)) else (duetlaw01_PackOrder.j0 k a0 a1 a2 t308 bt310.1 true))) = some r := H
  have A4 := Aside0.mk A40
  clear A40
  replace H := Option.bind_eq_some_iff.mp H
  obtain ⟨⟨t310, t311⟩, A50, H⟩ := H
  replace H : (if t309 = 0 then (duetlaw01_PackOrder.j0 k a0 a1 a2 t308 t310 (t311 != 0)) else (duetlaw01_PackOrder.j0 k a0 a1 a2 t308 t310 true)) = some r := H
  have A5 := Aside0.mk A50
  clear A50
  have HC6 := Aside0.mk H
  clear H
  go_enter Try.func13, Try.ntmps13
  go_upto_region 3 with (first | ((with_reducible refine gate_callee (f := 35) rfl ?_); refine goesL_ (some 16) rfl rfl Try.func35 (by kernel_rfl) rfl #[.int .i64 a0] rfl (by (try simp only [List.map_toArray, List.map_cons, List.map_nil]); first | done | rfl | (simp only [List.length_drop, List.length_take]; rfl)) ?_; (with_reducible refine (pack_Num.calls k a0 t308 t309 _ A4.out).mono ?_); rintro e w7 ⟨rfl, hb⟩; refine ⟨_, rfl, ?_⟩; have n0_ := Aside0.mk (below_step (by repeat (first | (with_reducible first | exact HB.out | apply below_alloc | apply pw_below_drewN | apply below_drew1) | exact HB.out)) hb); clear HB; have HB := n0_; clear n0_; (try clear hb); (try clear hb2); (try clear hk); (try clear hi)) | ((with_reducible refine gate_callee (f := 35) rfl ?_); refine goesL_ (some 21) rfl rfl Try.func35 (by kernel_rfl) rfl #[.int .i64 a1] rfl (by (try simp only [List.map_toArray, List.map_cons, List.map_nil]); first | done | rfl | (simp only [List.length_drop, List.length_take]; rfl)) ?_; (with_reducible refine (pack_Num.calls k a1 t310 t311 _ A5.out).mono ?_); rintro e w8 ⟨rfl, hb⟩; refine ⟨_, rfl, ?_⟩; have n0_ := Aside0.mk (below_step (by repeat (first | (with_reducible first | exact HB.out | apply below_alloc | apply pw_below_drewN | apply below_drew1) | exact HB.out)) hb); clear HB; have HB := n0_; clear n0_; (try clear hb); (try clear hb2); (try clear hk); (try clear hi)))
  (try simp only [Act.put, List.setIfInBounds_toArray, List.set_cons_zero, List.set_cons_succ])
  go_cut [29] (fun v29 wc => ∃ (kq : Nat) (x29_5 : Bool), v29 = .bool x29_5 ∧ Aside0 (duetlaw01_PackOrder.j0 kq a0 a1 a2 t308 t310 x29_5 = some r) ∧ Aside0 (kq ≤ k) ∧ Aside0 (Below w.heap.size w wc))
  case first =>
    have H := HC6.out
    clear HC6
    by_cases c9 : t309 = 0
    · rw [if_pos c9] at H
      have c9b0 : (t309 == 0) = true := beq_iff_eq.mpr c9
      have c9b1 : (t309 != 0) = false := bne_eq_false_iff_eq.mpr c9
      clear c9
      (first | rw [c9b0] | (simp only [i64_w, i32_w]; rw [c9b0]) | skip)
      have H' := Aside0.mk H
      clear H
      go_wp2
      go_meet
      case rel => exact ⟨_, ((t311 != 0)), (by first | rfl | (simp; done) | (simp [*]; done)), H', ⟨by first | omega | exact Nat.le_refl _⟩, ⟨by repeat (first | (with_reducible first | exact HB.out | apply below_alloc | apply pw_below_drewN | apply below_drew1) | exact HB.out)⟩⟩
    · rw [if_neg c9] at H
      have c9b0 : (t309 == 0) = false := beq_eq_false_iff_ne.mpr c9
      have c9b1 : (t309 != 0) = true := bne_iff_ne.mpr c9
      (first | rw [c9b0] | (simp only [i64_w, i32_w]; rw [c9b0]) | skip)
      have H' := Aside0.mk H
      clear H
      go_wp2
      go_meet
      case rel => exact ⟨_, (true), (by first | rfl | (simp; done) | (simp [*]; done)), H', ⟨by first | omega | exact Nat.le_refl _⟩, ⟨by repeat (first | (with_reducible first | exact HB.out | apply below_alloc | apply pw_below_drewN | apply below_drew1) | exact HB.out)⟩⟩
  case rest =>
    clear HC6
    try clear c1
    try clear p2
    try clear c3
    try clear c9
    try clear c9b0
    try clear c9b1
    obtain ⟨kq, x29_5, rfl, HA, HJ5, HB⟩ := hcut
    cases kq with
    | zero => exact absurd HA.out (by simp [duetlaw01_PackOrder.j0])
    | succ kj5 =>
      have H := HA.out
      clear HA
      simp only [duetlaw01_PackOrder.j0] at H
      by_cases c10 : x29_5 = true
      · subst c10
        have H1 : ((duetlaw01_live.f kj5).bind fun t312 => (some t312)) = some r := by rw [if_pos rfl] at H; exact H
        clear H
        have H := H1
        clear H1
        replace H := Option.bind_eq_some_iff.mp H
        obtain ⟨t312, A110, H⟩ := H
        replace H : (some t312) = some r := H
        have A11 := Aside0.mk A110
        clear A110
        obtain rfl := Option.some.inj H
        go_wp2_with (first | ((with_reducible refine gate_callee (f := 34) rfl ?_); refine goesL_ (some 30) rfl rfl Try.func34 (by kernel_rfl) rfl #[] rfl (by (try simp only [List.map_toArray, List.map_cons, List.map_nil]); first | done | rfl | (simp only [List.length_drop, List.length_take]; rfl)) ?_; (with_reducible refine (duetlaw01_live.calls kj5  t312 _ A11.out).mono ?_); rintro e w12 ⟨rfl, hb⟩; refine ⟨_, rfl, ?_⟩; have n0_ := Aside0.mk (below_step (by repeat (first | (with_reducible first | exact HB.out | apply below_alloc | apply pw_below_drewN | apply below_drew1) | exact HB.out)) hb); clear HB; have HB := n0_; clear n0_; (try clear hb); (try clear hb2); (try clear hk); (try clear hi)))
        go_ret
        exact ⟨by first | rfl | (simp [errW_none, errW_some] <;> rfl) | (simp [*, errW_none, errW_some] <;> rfl), by repeat (first | (with_reducible first | exact HB.out | apply below_alloc | apply pw_below_drewN | apply below_drew1) | exact HB.out)⟩
      · replace c10 := Bool.eq_false_iff.mpr c10
        subst c10
        have H1 : (if (t308.size : Int) = 0 then (duetlaw01_PackOrder.j1 kj5 a2 t308 true) else (if (t308.size : Int) > 5 then (duetlaw01_PackOrder.j1 kj5 a2 t308 true) else (duetlaw01_PackOrder.j1 kj5 a2 t308 ((decide (a0 < a1)) != (Op.bytesLess t308.toList t310.toList))))) = some r := by rw [if_neg (show ¬ (false = true) by decide)] at H; exact H
        clear H
        have H := H1
        clear H1
        have HC13 := Aside0.mk H
        clear H
        go_upto_region 5 with (fail)
        go_cut [47] (fun v47 wc => ∃ (kq : Nat) (x47_12 : Bool), v47 = .bool x47_12 ∧ Aside0 (duetlaw01_PackOrder.j1 kq a2 t308 x47_12 = some r) ∧ Aside0 (kq ≤ kj5) ∧ Aside0 (Below w.heap.size w wc))
        case first =>
          have H := HC13.out
          clear HC13
          by_cases c14 : (t308.size : Int) = 0
          · rw [if_pos c14] at H
            have c14b0 : ((t308.size : Int) == 0) = true := beq_iff_eq.mpr c14
            have c14b1 : ((t308.size : Int) != 0) = false := bne_eq_false_iff_eq.mpr c14
            clear c14
            (first | rw [c14b0] | (simp only [i64_w, i32_w]; rw [c14b0]) | skip)
            have H' := Aside0.mk H
            clear H
            go_wp2
            go_meet
            case rel => exact ⟨_, (true), (by first | rfl | (simp; done) | (simp [*]; done)), H', ⟨by have := HJ5.out; first | omega | exact Nat.le_refl _⟩, ⟨by repeat (first | (with_reducible first | exact HB.out | apply below_alloc | apply pw_below_drewN | apply below_drew1) | exact HB.out)⟩⟩
          · rw [if_neg c14] at H
            have c14b0 : ((t308.size : Int) == 0) = false := beq_eq_false_iff_ne.mpr c14
            have c14b1 : ((t308.size : Int) != 0) = true := bne_iff_ne.mpr c14
            (first | rw [c14b0] | (simp only [i64_w, i32_w]; rw [c14b0]) | skip)
            by_cases c15 : (t308.size : Int) > 5
            · rw [if_pos c15] at H
              have c15b0 : decide (5 < (t308.size : Int)) = true := decide_eq_true c15
              have c15b1 : decide (5 < t308.size) = true := decide_eq_true (by omega)
              clear c15
              have H' := Aside0.mk H
              clear H
              go_wp2
              go_meet
              case rel => exact ⟨_, (true), (by first | rfl | (simp; done) | (simp [*]; done)), H', ⟨by have := HJ5.out; first | omega | exact Nat.le_refl _⟩, ⟨by repeat (first | (with_reducible first | exact HB.out | apply below_alloc | apply pw_below_drewN | apply below_drew1) | exact HB.out)⟩⟩
            · rw [if_neg c15] at H
              have c15b0 : decide (5 < (t308.size : Int)) = false := decide_eq_false c15
              have c15b1 : decide (5 < t308.size) = false := decide_eq_false (by omega)
              clear c15
              have H' := Aside0.mk H
              clear H
              go_wp2
              go_meet
              case rel => exact ⟨_, (((decide (a0 < a1)) != (Op.bytesLess t308.toList t310.toList))), (by first | rfl | (simp; done) | (simp [*]; done)), H', ⟨by have := HJ5.out; first | omega | exact Nat.le_refl _⟩, ⟨by repeat (first | (with_reducible first | exact HB.out | apply below_alloc | apply pw_below_drewN | apply below_drew1) | exact HB.out)⟩⟩
        case rest =>
          clear HC13
          try clear c1
          try clear p2
          try clear c3
          try clear c9
          try clear c9b0
          try clear c9b1
          try clear c10
          try clear c13
          try clear c14
          try clear c14b0
          try clear c14b1
          try clear c15
          try clear c15b0
          try clear c15b1
          try clear p2
          obtain ⟨kq, x47_12, rfl, HA, HJ12, HB⟩ := hcut
          cases kq with
          | zero => exact absurd HA.out (by simp [duetlaw01_PackOrder.j1])
          | succ kj12 =>
            have H := HA.out
            clear HA
            simp only [duetlaw01_PackOrder.j1] at H
            by_cases c16 : x47_12 = true
            · subst c16
              have H1 : (none) = some r := by rw [if_pos rfl] at H; exact H
              clear H
              have H := H1
              clear H1
              exact absurd H (by simp)
            · replace c16 := Bool.eq_false_iff.mpr c16
              subst c16
              have H1 : (if a2 < 0 then (duetlaw01_PackOrder.j2 kj12 a2 t308 true) else (duetlaw01_PackOrder.j2 kj12 a2 t308 (decide (a2 ≥ (t308.size : Int))))) = some r := by rw [if_neg (show ¬ (false = true) by decide)] at H; exact H
              clear H
              have H := H1
              clear H1
              have HC17 := Aside0.mk H
              clear H
              go_upto_region 7 with (fail)
              go_cut [55] (fun v55 wc => ∃ (kq : Nat) (x55_16 : Bool), v55 = .bool x55_16 ∧ Aside0 (duetlaw01_PackOrder.j2 kq a2 t308 x55_16 = some r) ∧ Aside0 (kq ≤ kj12) ∧ Aside0 (Below w.heap.size w wc))
              case first =>
                have H := HC17.out
                clear HC17
                by_cases c18 : a2 < 0
                · rw [if_pos c18] at H
                  have c18b0 : decide (a2 < 0) = true := decide_eq_true c18
                  clear c18
                  (first | rw [c18b0] | (simp only [i64_w, i32_w]; rw [c18b0]) | skip)
                  have H' := Aside0.mk H
                  clear H
                  go_wp2
                  go_meet
                  case rel => exact ⟨_, (true), (by first | rfl | (simp; done) | (simp [*]; done)), H', ⟨by have := HJ5.out; have := HJ12.out; first | omega | exact Nat.le_refl _⟩, ⟨by repeat (first | (with_reducible first | exact HB.out | apply below_alloc | apply pw_below_drewN | apply below_drew1) | exact HB.out)⟩⟩
                · rw [if_neg c18] at H
                  have c18b0 : decide (a2 < 0) = false := decide_eq_false c18
                  clear c18
                  (first | rw [c18b0] | (simp only [i64_w, i32_w]; rw [c18b0]) | skip)
                  have H' := Aside0.mk H
                  clear H
                  go_wp2
                  go_meet
                  case rel => exact ⟨_, (decide (a2 ≥ (t308.size : Int))), (by first | rfl | (simp; done) | (simp [*]; done)), H', ⟨by have := HJ5.out; have := HJ12.out; first | omega | exact Nat.le_refl _⟩, ⟨by repeat (first | (with_reducible first | exact HB.out | apply below_alloc | apply pw_below_drewN | apply below_drew1) | exact HB.out)⟩⟩
              case rest =>
                clear HC17
                try clear c1
                try clear p2
                try clear c3
                try clear c9
                try clear c9b0
                try clear c9b1
                try clear c10
                try clear c13
                try clear c14
                try clear c14b0
                try clear c14b1
                try clear c15
                try clear c15b0
                try clear c15b1
                try clear c16
                try clear c18
                try clear c18b0
                try clear p2
                obtain ⟨kq, x55_16, rfl, HA, HJ16, HB⟩ := hcut
                cases kq with
                | zero => exact absurd HA.out (by simp [duetlaw01_PackOrder.j2])
                | succ kj16 =>
                  have H := HA.out
                  clear HA
                  simp only [duetlaw01_PackOrder.j2] at H
                  by_cases c19 : x55_16 = true
                  · subst c19
                    have H1 : ((duetlaw01_live.f kj16).bind fun t313 => (some t313)) = some r := by rw [if_pos rfl] at H; exact H
                    clear H
                    have H := H1
                    clear H1
                    replace H := Option.bind_eq_some_iff.mp H
                    obtain ⟨t313, A200, H⟩ := H
                    replace H : (some t313) = some r := H
                    have A20 := Aside0.mk A200
                    clear A200
                    obtain rfl := Option.some.inj H
                    go_wp2_with (first | ((with_reducible refine gate_callee (f := 34) rfl ?_); refine goesL_ (some 56) rfl rfl Try.func34 (by kernel_rfl) rfl #[] rfl (by (try simp only [List.map_toArray, List.map_cons, List.map_nil]); first | done | rfl | (simp only [List.length_drop, List.length_take]; rfl)) ?_; (with_reducible refine (duetlaw01_live.calls kj16  t313 _ A20.out).mono ?_); rintro e w21 ⟨rfl, hb⟩; refine ⟨_, rfl, ?_⟩; have n0_ := Aside0.mk (below_step (by repeat (first | (with_reducible first | exact HB.out | apply below_alloc | apply pw_below_drewN | apply below_drew1) | exact HB.out)) hb); clear HB; have HB := n0_; clear n0_; (try clear hb); (try clear hb2); (try clear hk); (try clear hi)))
                    go_ret
                    exact ⟨by first | rfl | (simp [errW_none, errW_some] <;> rfl) | (simp [*, errW_none, errW_some] <;> rfl), by repeat (first | (with_reducible first | exact HB.out | apply below_alloc | apply pw_below_drewN | apply below_drew1) | exact HB.out)⟩
                  · replace c19 := Bool.eq_false_iff.mpr c19
                    subst c19
                    have H1 : (if 0 ≤ a2 then (if a2 ≤ (t308.size : Int) then ((pack_Take.f (t308.extract 0 (a2 : Int).toNat)).bind fun bt314 => (if bt314.2.2 = 3 then ((duetlaw01_live.f kj16).bind fun t317 => (some t317)) else (none))) else (none)) else (none)) = some r := by rw [if_neg (show ¬ (false = true) by decide)] at H; exact H
                    clear H
                    have H := H1
                    clear H1
                    by_cases c22 : 0 ≤ a2
                    · rw [if_pos c22] at H
                      have c22b0 := eq_true c22
                      have c22b1 : decide (0 ≤ a2) = true := decide_eq_true c22
                      clear c22
                      by_cases c23 : a2 ≤ (t308.size : Int)
                      · rw [if_pos c23] at H
                        have c23b0 := eq_true c23
                        have c23b1 : decide (a2 ≤ (t308.size : Int)) = true := decide_eq_true c23
                        clear c23
                        replace H := Option.bind_eq_some_iff.mp H
                        obtain ⟨⟨t314, t315, t316⟩, A240, H⟩ := H
                        replace H : (if t316 = 3 then ((duetlaw01_live.f kj16).bind fun t317 => (some t317)) else (none)) = some r := H
                        have A24 := Aside0.mk A240
                        clear A240
                        by_cases c25 : t316 = 3
                        · rw [if_pos c25] at H
                          have c25b0 : (t316 == 3) = true := beq_iff_eq.mpr c25
                          have c25b1 : (t316 != 3) = false := bne_eq_false_iff_eq.mpr c25
                          clear c25
                          replace H := Option.bind_eq_some_iff.mp H
                          obtain ⟨t317, A260, H⟩ := H
                          replace H : (some t317) = some r := H
                          have A26 := Aside0.mk A260
                          clear A260
                          obtain rfl := Option.some.inj H
                          go_wp2_with (first | ((with_reducible refine gate_callee (f := 41) rfl ?_); refine goesL_ (some 61) rfl rfl Try.func41 (by kernel_rfl) rfl #[.string (t308.extract 0 (a2 : Int).toNat)] rfl (by (try simp only [List.map_toArray, List.map_cons, List.map_nil]); first | done | rfl | (simp only [List.length_drop, List.length_take]; rfl)) ?_; (with_reducible refine (pack_Take.calls (t308.extract 0 (a2 : Int).toNat) t314 t315 t316 _ A24.out).mono ?_); rintro e w27 ⟨rfl, hb⟩; refine ⟨_, rfl, ?_⟩; have n0_ := Aside0.mk (below_step (by repeat (first | (with_reducible first | exact HB.out | apply below_alloc | apply pw_below_drewN | apply below_drew1) | exact HB.out)) hb); clear HB; have HB := n0_; clear n0_; (try clear hb); (try clear hb2); (try clear hk); (try clear hi)) | (go_at_call 34; (with_reducible refine (duetlaw01_live.calls kj16  t317 _ A26.out).mono ?_); rintro e w28 ⟨rfl, hb⟩; have n0_ := Aside0.mk (below_step (by repeat (first | (with_reducible first | exact HB.out | apply below_alloc | apply pw_below_drewN | apply below_drew1) | exact HB.out)) hb); clear HB; have HB := n0_; clear n0_; (try clear hb); (try clear hb2); (try clear hk); (try clear hi)))
                          go_ret
                          exact ⟨by first | rfl | (simp [errW_none, errW_some] <;> rfl) | (simp [*, errW_none, errW_some] <;> rfl), by repeat (first | (with_reducible first | exact HB.out | apply below_alloc | apply pw_below_drewN | apply below_drew1) | exact HB.out)⟩
                        · rw [if_neg c25] at H
                          exact absurd H (by simp)
                      · rw [if_neg c23] at H
                        exact absurd H (by simp)
                    · rw [if_neg c22] at H
                      exact absurd H (by simp)

/-- THE ONE PURE STATEMENT of duetlaw01_PackOrder: yours. -/
def duetlaw01_PackOrder.Pure : Prop := ∀ (a0 : Int) (a1 : Int) (a2 : Int), (Lit.int .i64 a0).wf = true → (Lit.int .i64 a1).wf = true → (Lit.int .i64 a2).wf = true → ∃ k, duetlaw01_PackOrder.f k a0 a1 a2 = some true
theorem duetlaw01_PackOrder.walk (P : duetlaw01_PackOrder.Pure) (a0 : Int) (a1 : Int) (a2 : Int) (w : World) (w0 : (Lit.int .i64 a0).wf = true) (w1 : (Lit.int .i64 a1).wf = true) (w2 : (Lit.int .i64 a2).wf = true) :
    Calls Try.prog 13 #[.int .i64 a0, .int .i64 a1, .int .i64 a2] w fun e w' => e = .returned (.bool true) ∧ Below w.heap.size w w' := by
  obtain ⟨k, h⟩ := P a0 a1 a2 w0 w1 w2
  refine (duetlaw01_PackOrder.calls k a0 a1 a2 true w h).mono ?_
  rintro e w' ⟨rfl, hd⟩
  exact ⟨rfl, hd⟩

end Go.Proofs.Ytpoigdkbblmpaaa.PPack
