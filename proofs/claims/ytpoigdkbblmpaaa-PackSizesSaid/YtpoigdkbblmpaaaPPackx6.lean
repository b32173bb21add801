/- Functions that the law reaches, each as a plain Lean function with the proof that the call does what it says. Conditions: none beyond those that each theorem states. Written by a program for this claim. -/
import Derived.Test.YtpoigdkbblmpaaaPPackx0
import Derived.Test.YtpoigdkbblmpaaaPPackx1
import Derived.Test.YtpoigdkbblmpaaaPPackx2
namespace Go.Proofs.Ytpoigdkbblmpaaa.PPack
open Go.RowKit Go.Proofs.YtpoigdkbblmpaaaW.PrintWords Go.Proofs.YtpoigdkbblmpaaaW.PrintLast Go.Proofs.YtpoigdkbblmpaaaW.PrintMore
attribute [local go_sem] max2_int min2_int max_two min_two max_three min_three max_four min_four   -- for this text's walks alone
set_option linter.unusedVariables false
set_option linter.unusedSimpArgs false

/-! ### duetlaw01_PackSizes: function 14 -/
mutual
def duetlaw01_PackSizes.j0 : Nat → ByteArray → List Int → Bool → Option (Bool)
  | 0, _, _, _ => none
  | k + 1, x0, x1, x24 => if x24 = true then ((duetlaw01_live.f k).bind fun t319 => (some t319)) else ((pack_Num.f k (x1.length : Int)).bind fun bt320 => (duetlaw01_PackSizes.l0 k x0 x1 (bt320.1.size : Int) 0))
def duetlaw01_PackSizes.l0 : Nat → ByteArray → List Int → Int → Int → Option (Bool)
  | 0, _, _, _, _ => none
  | k + 1, x0, x1, x7, x8 => if x8 < (x1.length : Int) then (if 0 ≤ x8 then ((pack_Num.f k (rd x1 x8)).bind fun bt323 => (if bt323.2 = 0 then (if (((bt323.1.size : Int) == 1) != (decide ((rd x1 x8) < 248))) = true then (none) else (if (rd x1 x8) ≥ 248 then (if (((bt323.1.size : Int) == 2) != (decide ((rd x1 x8) < 256))) = true then (none) else (if (((bt323.1.size : Int) == 5) != (decide ((rd x1 x8) ≥ 16777216))) = true then (none) else (duetlaw01_PackSizes.l0 k x0 x1 (wrap64 (x7 + (bt323.1.size : Int))) (wrap64 (x8 + 1))))) else (if (((bt323.1.size : Int) == 2) != false) = true then (none) else (if (((bt323.1.size : Int) == 5) != (decide ((rd x1 x8) ≥ 16777216))) = true then (none) else (duetlaw01_PackSizes.l0 k x0 x1 (wrap64 (x7 + (bt323.1.size : Int))) (wrap64 (x8 + 1))))))) else ((duetlaw01_live.f k).bind fun t330 => (some t330)))) else (none)) else ((pack_List.f x1).bind fun bt331 => ((pack_Text.f k x0).bind fun bt333 => ((pack_Num.f k (x0.size : Int)).bind fun bt335 => (if (bt331.1.size : Int) = x7 then (if bt333.2 = 0 then (if (bt333.1.size : Int) = (wrap64 ((bt335.1.size : Int) + (x0.size : Int))) then ((duetlaw01_live.f k).bind fun t337 => (some t337)) else (none)) else ((duetlaw01_live.f k).bind fun t338 => (some t338))) else (none)))))
end
def duetlaw01_PackSizes.f (k : Nat) (a0 : ByteArray) (l1 : List Int) : Option (Bool) := (duetlaw01_short.f a0).bind fun t318 => (if t318 = true then (duetlaw01_PackSizes.j0 k a0 l1 (decide ((l1.length : Int) > 1000))) else (duetlaw01_PackSizes.j0 k a0 l1 true))
theorem duetlaw01_PackSizes.mono_l : ∀ k, (∀ y0 y1 y2, LeO (duetlaw01_PackSizes.j0 k y0 y1 y2) (duetlaw01_PackSizes.j0 (k + 1) y0 y1 y2)) ∧ (∀ y0 y1 y2 y3, LeO (duetlaw01_PackSizes.l0 k y0 y1 y2 y3) (duetlaw01_PackSizes.l0 (k + 1) y0 y1 y2 y3))
  | 0 => ⟨fun _ _ _ r h => by simp [duetlaw01_PackSizes.j0] at h, fun _ _ _ _ r h => by simp [duetlaw01_PackSizes.l0] at h⟩
  | k + 1 => by
    obtain ⟨ih0, ih1⟩ := duetlaw01_PackSizes.mono_l k
    refine ⟨?_, ?_⟩
    · intro y0 y1 y2
      unfold duetlaw01_PackSizes.j0
      repeat' first
      | (with_reducible exact ih0 _ _ _)
      | (with_reducible exact ih1 _ _ _ _)
      | (with_reducible exact duetlaw01_live.mono _)
      | (with_reducible exact pack_Num.mono _ _)
      | (with_reducible exact pack_Text.mono _ _)
      | (with_reducible exact LeO.refl _)
      | (with_reducible exact LeO.none _)
      | (with_reducible refine LeO.ite ?_ ?_)
      | (with_reducible refine LeO.bind ?_ (fun _ => ?_))
      | exact ih0 _ _ _
      | exact ih1 _ _ _ _
      | exact duetlaw01_live.mono _
      | exact pack_Num.mono _ _
      | exact pack_Text.mono _ _
      | exact LeO.none _
      | refine LeO.ite ?_ ?_
      | refine LeO.bind ?_ (fun _ => ?_)
    · intro y0 y1 y2 y3
      unfold duetlaw01_PackSizes.l0
      repeat' first
      | (with_reducible exact ih0 _ _ _)
      | (with_reducible exact ih1 _ _ _ _)
      | (with_reducible exact duetlaw01_live.mono _)
      | (with_reducible exact pack_Num.mono _ _)
      | (with_reducible exact pack_Text.mono _ _)
      | (with_reducible exact LeO.refl _)
      | (with_reducible exact LeO.none _)
      | (with_reducible refine LeO.ite ?_ ?_)
      | (with_reducible refine LeO.bind ?_ (fun _ => ?_))
      | exact ih0 _ _ _
      | exact ih1 _ _ _ _
      | exact duetlaw01_live.mono _
      | exact pack_Num.mono _ _
      | exact pack_Text.mono _ _
      | exact LeO.none _
      | refine LeO.ite ?_ ?_
      | refine LeO.bind ?_ (fun _ => ?_)
theorem duetlaw01_PackSizes.mono : ∀ a0 a1 k, LeO (duetlaw01_PackSizes.f k a0 a1) (duetlaw01_PackSizes.f (k + 1) a0 a1) := by
  intro a0 a1 k
  obtain ⟨ih0, ih1⟩ := duetlaw01_PackSizes.mono_l k
  unfold duetlaw01_PackSizes.f
  repeat' first
      | (with_reducible exact ih0 _ _ _)
      | (with_reducible exact ih1 _ _ _ _)
      | (with_reducible exact duetlaw01_live.mono _)
      | (with_reducible exact pack_Num.mono _ _)
      | (with_reducible exact pack_Text.mono _ _)
      | (with_reducible exact LeO.refl _)
      | (with_reducible exact LeO.none _)
      | (with_reducible refine LeO.ite ?_ ?_)
      | (with_reducible refine LeO.bind ?_ (fun _ => ?_))
      | exact ih0 _ _ _
      | exact ih1 _ _ _ _
      | exact duetlaw01_live.mono _
      | exact pack_Num.mono _ _
      | exact pack_Text.mono _ _
      | exact LeO.none _
      | refine LeO.ite ?_ ?_
      | refine LeO.bind ?_ (fun _ => ?_)
set_option maxHeartbeats 8000000 in
set_option maxRecDepth 100000 in
theorem duetlaw01_PackSizes.calls (k : Nat) (a0 : ByteArray) (A1 : Option Addr) (c1 : Nat) (l1 : List Int) (r : Bool) (w : World) (hr1 : Kd.C (Kd.int .i64) w A1 l1.length l1) (hc1 : l1.length ≤ c1) (h : duetlaw01_PackSizes.f k a0 l1 = some r) :
    Calls Try.prog 14 #[.string a0, .slice A1 l1.length c1] w fun e w' => e = .returned (.bool r) ∧ Below w.heap.size w w' := by
  have HR1 := Aside0.mk hr1
  have HC1 := Aside0.mk hc1
  clear hr1 hc1
  have HB := Aside0.mk (Below.refl w.heap.size w)
  have H : ((duetlaw01_short.f a0).bind fun t318 => (if t318 = true then (duetlaw01_PackSizes.j0 k a0 l1 (decide ((l1.length : Int) > 1000))) else (duetlaw01_PackSizes.j0 k a0 l1 true))) = some r := h
  clear h
  have HC3 := Aside0.mk H
  clear H
  go_enter Try.func14, Try.ntmps14
  go_upto_region 1 with (fail)
  go_cut [24] (fun v24 wc => ∃ (kq : Nat) (x24_2 : Bool), v24 = .bool x24_2 ∧ Aside0 (duetlaw01_PackSizes.j0 kq a0 l1 x24_2 = some r) ∧ Aside0 (kq ≤ k) ∧ Aside0 (Below w.heap.size w wc))
  case first =>
    have H := HC3.out
    clear HC3
    replace H := Option.bind_eq_some_iff.mp H
    obtain ⟨t318, A40, H⟩ := H
    replace H : (if t318 = true then (duetlaw01_PackSizes.j0 k a0 l1 (decide ((l1.length : Int) > 1000))) else (duetlaw01_PackSizes.j0 k a0 l1 true)) = some r := H
    have A4 := Aside0.mk A40
    clear A40
    by_cases c5 : t318 = true
    · subst c5
      have H1 : (duetlaw01_PackSizes.j0 k a0 l1 (decide ((l1.length : Int) > 1000))) = some r := by rw [if_pos rfl] at H; exact H
      clear H
      have H := H1
      clear H1
      have H' := Aside0.mk H
      clear H
      go_wp2_with (first | ((with_reducible refine gate_callee (f := 33) rfl ?_); refine goesL_ (some 18) rfl rfl Try.func33 (by kernel_rfl) rfl #[.string a0] rfl (by (try simp only [List.map_toArray, List.map_cons, List.map_nil]); first | done | rfl | (simp only [List.length_drop, List.length_take]; rfl)) ?_; (with_reducible refine (duetlaw01_short.calls a0 true _ A4.out).mono ?_); rintro e w' ⟨rfl, ⟨nd, rfl⟩⟩; refine ⟨_, rfl, ?_⟩))
      go_meet
      case rel => exact ⟨_, (decide ((l1.length : Int) > 1000)), (by first | rfl | (simp; done) | (simp [*]; done)), H', ⟨by first | omega | exact Nat.le_refl _⟩, ⟨by repeat (first | (with_reducible first | exact HB.out | apply below_alloc | apply pw_below_drewN | apply below_drew1) | exact HB.out)⟩⟩
    · replace c5 := Bool.eq_false_iff.mpr c5
      subst c5
      have H1 : (duetlaw01_PackSizes.j0 k a0 l1 true) = some r := by rw [if_neg (show ¬ (false = true) by decide)] at H; exact H
      clear H
      have H := H1
      clear H1
      have H' := Aside0.mk H
      clear H
      go_wp2_with (first | ((with_reducible refine gate_callee (f := 33) rfl ?_); refine goesL_ (some 18) rfl rfl Try.func33 (by kernel_rfl) rfl #[.string a0] rfl (by (try simp only [List.map_toArray, List.map_cons, List.map_nil]); first | done | rfl | (simp only [List.length_drop, List.length_take]; rfl)) ?_; (with_reducible refine (duetlaw01_short.calls a0 false _ A4.out).mono ?_); rintro e w' ⟨rfl, ⟨nd, rfl⟩⟩; refine ⟨_, rfl, ?_⟩))
      go_meet
      case rel => exact ⟨_, (true), (by first | rfl | (simp; done) | (simp [*]; done)), H', ⟨by first | omega | exact Nat.le_refl _⟩, ⟨by repeat (first | (with_reducible first | exact HB.out | apply below_alloc | apply pw_below_drewN | apply below_drew1) | exact HB.out)⟩⟩
  case rest =>
    clear HC3
    try clear c1
    try clear p2
    try clear c3
    try clear c5
    obtain ⟨kq, x24_2, rfl, HA, HJ2, HB⟩ := hcut
    cases kq with
    | zero => exact absurd HA.out (by simp [duetlaw01_PackSizes.j0])
    | succ kj2 =>
      have H := HA.out
      clear HA
      simp only [duetlaw01_PackSizes.j0] at H
      by_cases c6 : x24_2 = true
      · subst c6
        have H1 : ((duetlaw01_live.f kj2).bind fun t319 => (some t319)) = some r := by rw [if_pos rfl] at H; exact H
        clear H
        have H := H1
        clear H1
        replace H := Option.bind_eq_some_iff.mp H
        obtain ⟨t319, A70, H⟩ := H
        replace H : (some t319) = some r := H
        have A7 := Aside0.mk A70
        clear A70
        obtain rfl := Option.some.inj H
        go_wp2_with (first | ((with_reducible refine gate_callee (f := 34) rfl ?_); refine goesL_ (some 25) rfl rfl Try.func34 (by kernel_rfl) rfl #[] rfl (by (try simp only [List.map_toArray, List.map_cons, List.map_nil]); first | done | rfl | (simp only [List.length_drop, List.length_take]; rfl)) ?_; (with_reducible refine (duetlaw01_live.calls kj2  t319 _ A7.out).mono ?_); rintro e w8 ⟨rfl, hb⟩; refine ⟨_, rfl, ?_⟩; have n0_ := Aside0.mk (below_step (by repeat (first | (with_reducible first | exact HB.out | apply below_alloc | apply pw_below_drewN | apply below_drew1) | exact HB.out)) hb); clear HB; have HB := n0_; clear n0_; (try clear hb); (try clear hb2); (try clear hk); (try clear hi)))
        go_ret
        exact ⟨by first | rfl | (simp [errW_none, errW_some] <;> rfl) | (simp [*, errW_none, errW_some] <;> rfl), by repeat (first | (with_reducible first | exact HB.out | apply below_alloc | apply pw_below_drewN | apply below_drew1) | exact HB.out)⟩
      · replace c6 := Bool.eq_false_iff.mpr c6
        subst c6
        have H1 : ((pack_Num.f kj2 (l1.length : Int)).bind fun bt320 => (duetlaw01_PackSizes.l0 kj2 a0 l1 (bt320.1.size : Int) 0)) = some r := by rw [if_neg (show ¬ (false = true) by decide)] at H; exact H
        clear H
        have H := H1
        clear H1
        replace H := Option.bind_eq_some_iff.mp H
        obtain ⟨⟨t320, t321⟩, A90, H⟩ := H
        replace H : (duetlaw01_PackSizes.l0 kj2 a0 l1 (t320.size : Int) 0) = some r := H
        have A9 := Aside0.mk A90
        clear A90
        have H' := Aside0.mk H
        clear H
        go_wp2_with (first | ((with_reducible refine gate_callee (f := 35) rfl ?_); refine goesL_ (some 29) rfl rfl Try.func35 (by kernel_rfl) rfl #[.int .i64 (l1.length : Int)] rfl (by (try simp only [List.map_toArray, List.map_cons, List.map_nil]); first | done | rfl | (simp only [List.length_drop, List.length_take]; rfl)) ?_; (with_reducible refine (pack_Num.calls kj2 (l1.length : Int) t320 t321 _ A9.out).mono ?_); rintro e w10 ⟨rfl, hb⟩; refine ⟨_, rfl, ?_⟩; have n0_ := Aside0.mk (below_step (by repeat (first | (with_reducible first | exact HB.out | apply below_alloc | apply pw_below_drewN | apply below_drew1) | exact HB.out)) hb); clear HB; have HB := n0_; clear n0_; (try clear hb); (try clear hb2); (try clear hk); (try clear hi)))
        go_loopg [7, 8] kj2 (fun kq v7 v8 w' => ∃ (x7_2 : Int) (x8_2 : Int), v7 = .int .i64 x7_2 ∧ v8 = .int .i64 x8_2 ∧ Aside0 (duetlaw01_PackSizes.l0 kq a0 l1 x7_2 x8_2 = some r) ∧ Aside0 (kq ≤ kj2) ∧ Aside0 (Below w.heap.size w w'))
        case atStart => exact ⟨((t320.size : Int)), (0), (by first | rfl | (simp; done) | (simp [*]; done)), (by first | rfl | (simp; done) | (simp [*]; done)), H', ⟨Nat.le_refl _⟩, ⟨by repeat (first | (with_reducible first | exact HB.out | apply below_alloc | apply pw_below_drewN | apply below_drew1) | exact HB.out)⟩⟩
        case round =>
          clear H'
          try clear c1
          try clear p2
          try clear c3
          try clear c5
          try clear c6
          try clear p2
          obtain ⟨x7_2, x8_2, rfl, rfl, HA, HK2, HB⟩ := hrel
          cases gk with
          | zero => exact absurd HA.out (by simp [duetlaw01_PackSizes.l0])
          | succ k2 =>
            have H := HA.out
            clear HA
            simp only [duetlaw01_PackSizes.l0] at H
            by_cases c11 : x8_2 < (l1.length : Int)
            · rw [if_pos c11] at H
              have c11b0 : decide (x8_2 < (l1.length : Int)) = true := decide_eq_true c11
              clear c11
              by_cases c12 : 0 ≤ x8_2
              · rw [if_pos c12] at H
                have c12b0 : decide (0 ≤ x8_2) = true := decide_eq_true c12
                clear c12
                replace H := Option.bind_eq_some_iff.mp H
                obtain ⟨⟨t323, t324⟩, A130, H⟩ := H
                replace H : (if t324 = 0 then (if (((t323.size : Int) == 1) != (decide ((rd l1 x8_2) < 248))) = true then (none) else (if (rd l1 x8_2) ≥ 248 then (if (((t323.size : Int) == 2) != (decide ((rd l1 x8_2) < 256))) = true then (none) else (if (((t323.size : Int) == 5) != (decide ((rd l1 x8_2) ≥ 16777216))) = true then (none) else (duetlaw01_PackSizes.l0 k2 a0 l1 (wrap64 (x7_2 + (t323.size : Int))) (wrap64 (x8_2 + 1))))) else (if (((t323.size : Int) == 2) != false) = true then (none) else (if (((t323.size : Int) == 5) != (decide ((rd l1 x8_2) ≥ 16777216))) = true then (none) else (duetlaw01_PackSizes.l0 k2 a0 l1 (wrap64 (x7_2 + (t323.size : Int))) (wrap64 (x8_2 + 1))))))) else ((duetlaw01_live.f k2).bind fun t330 => (some t330))) = some r := H
                have A13 := Aside0.mk A130
                clear A130
                by_cases c14 : t324 = 0
                · rw [if_pos c14] at H
                  have c14b0 : (t324 == 0) = true := beq_iff_eq.mpr c14
                  have c14b1 : (t324 != 0) = false := bne_eq_false_iff_eq.mpr c14
                  clear c14
                  by_cases c15 : (((t323.size : Int) == 1) != (decide ((rd l1 x8_2) < 248))) = true
                  · rw [if_pos c15] at H
                    exact absurd H (by simp)
                  · rw [if_neg c15] at H
                    have c15b0 : (((t323.size : Int) == 1) != (decide ((rd l1 x8_2) < 248))) = false := by simpa using c15
                    (try (have c15b1 : decide (((t323.size : Int) == 1) = (decide ((rd l1 x8_2) < 248))) = true := by simpa using c15))
                    (try (have c15b2 : (((t323.size : Int) == 1) == (decide ((rd l1 x8_2) < 248))) = true := by simpa using c15))
                    clear c15
                    by_cases c16 : (rd l1 x8_2) ≥ 248
                    · rw [if_pos c16] at H
                      have c16b0 : decide (248 ≤ (rd l1 x8_2)) = true := decide_eq_true c16
                      clear c16
                      by_cases c17 : (((t323.size : Int) == 2) != (decide ((rd l1 x8_2) < 256))) = true
                      · rw [if_pos c17] at H
                        exact absurd H (by simp)
                      · rw [if_neg c17] at H
                        have c17b0 : (((t323.size : Int) == 2) != (decide ((rd l1 x8_2) < 256))) = false := by simpa using c17
                        (try (have c17b1 : decide (((t323.size : Int) == 2) = (decide ((rd l1 x8_2) < 256))) = true := by simpa using c17))
                        (try (have c17b2 : (((t323.size : Int) == 2) == (decide ((rd l1 x8_2) < 256))) = true := by simpa using c17))
                        clear c17
                        by_cases c18 : (((t323.size : Int) == 5) != (decide ((rd l1 x8_2) ≥ 16777216))) = true
                        · rw [if_pos c18] at H
                          exact absurd H (by simp)
                        · rw [if_neg c18] at H
                          have c18b0 : (((t323.size : Int) == 5) != (decide ((rd l1 x8_2) ≥ 16777216))) = false := by simpa using c18
                          (try (have c18b1 : decide (((t323.size : Int) == 5) = (decide ((rd l1 x8_2) ≥ 16777216))) = true := by simpa using c18))
                          (try (have c18b2 : (((t323.size : Int) == 5) == (decide ((rd l1 x8_2) ≥ 16777216))) = true := by simpa using c18))
                          clear c18
                          have H' := Aside0.mk H
                          clear H
                          have p322 : 0 ≤ (x8_2 : Int) := of_decide_eq_true (by first | (with_reducible assumption) | assumption)
                          have q322 : x8_2 < (l1.length : Int) := of_decide_eq_true (by first | (with_reducible assumption) | assumption)
                          obtain ⟨ad322, e322, hx322_0⟩ := Kd.at_int HR1.out x8_2 p322 q322
                          cases e322
                          replace hx322_0 := (HB.out.cell (World.block_lt_of_cell? w _ hx322_0)).trans hx322_0
                          replace p322 := eq_true p322
                          replace q322 := eq_true q322
                          go_wp2_with (first | ((with_reducible refine gate_callee (f := 35) rfl ?_); refine goesL_ (some 45) rfl rfl Try.func35 (by kernel_rfl) rfl #[.int .i64 (rd l1 x8_2)] rfl (by (try simp only [List.map_toArray, List.map_cons, List.map_nil]); first | done | rfl | (simp only [List.length_drop, List.length_take]; rfl)) ?_; (with_reducible refine (pack_Num.calls k2 (rd l1 x8_2) t323 t324 _ A13.out).mono ?_); rintro e w19 ⟨rfl, hb⟩; refine ⟨_, rfl, ?_⟩; have n0_ := Aside0.mk (below_step (by repeat (first | (with_reducible first | exact HB.out | apply below_alloc | apply pw_below_drewN | apply below_drew1) | exact HB.out)) hb); clear HB; have HB := n0_; clear n0_; (try clear hb); (try clear hb2); (try clear hk); (try clear hi); have p325 : 0 ≤ (x8_2 : Int) := of_decide_eq_true (by first | (with_reducible assumption) | assumption); have q325 : x8_2 < (l1.length : Int) := of_decide_eq_true (by first | (with_reducible assumption) | assumption); obtain ⟨ad325, e325, hx325_0⟩ := Kd.at_int HR1.out x8_2 p325 q325; obtain rfl : ad322 = ad325 := (by injection e325); replace hx325_0 := (HB.out.cell (World.block_lt_of_cell? w _ hx325_0)).trans hx325_0; replace p325 := eq_true p325; replace q325 := eq_true q325; have p326 : 0 ≤ (x8_2 : Int) := of_decide_eq_true (by first | (with_reducible assumption) | assumption); have q326 : x8_2 < (l1.length : Int) := of_decide_eq_true (by first | (with_reducible assumption) | assumption); obtain ⟨ad326, e326, hx326_0⟩ := Kd.at_int HR1.out x8_2 p326 q326; obtain rfl : ad322 = ad326 := (by injection e326); replace hx326_0 := (HB.out.cell (World.block_lt_of_cell? w _ hx326_0)).trans hx326_0; replace p326 := eq_true p326; replace q326 := eq_true q326; have p327 : 0 ≤ (x8_2 : Int) := of_decide_eq_true (by first | (with_reducible assumption) | assumption); have q327 : x8_2 < (l1.length : Int) := of_decide_eq_true (by first | (with_reducible assumption) | assumption); obtain ⟨ad327, e327, hx327_0⟩ := Kd.at_int HR1.out x8_2 p327 q327; obtain rfl : ad322 = ad327 := (by injection e327); replace hx327_0 := (HB.out.cell (World.block_lt_of_cell? w _ hx327_0)).trans hx327_0; replace p327 := eq_true p327; replace q327 := eq_true q327; have p328 : 0 ≤ (x8_2 : Int) := of_decide_eq_true (by first | (with_reducible assumption) | assumption); have q328 : x8_2 < (l1.length : Int) := of_decide_eq_true (by first | (with_reducible assumption) | assumption); obtain ⟨ad328, e328, hx328_0⟩ := Kd.at_int HR1.out x8_2 p328 q328; obtain rfl : ad322 = ad328 := (by injection e328); replace hx328_0 := (HB.out.cell (World.block_lt_of_cell? w _ hx328_0)).trans hx328_0; replace p328 := eq_true p328; replace q328 := eq_true q328))
                          go_roundg k2
                          case measure => have := HJ2.out; have := HK2.out; omega
                          case rel => exact ⟨(wrap64 (x7_2 + (t323.size : Int))), (wrap64 (x8_2 + 1)), (by first | rfl | (simp; done) | (simp [*]; done)), (by first | rfl | (simp; done) | (simp [*]; done)), H', ⟨by have := HJ2.out; have := HK2.out; omega⟩, ⟨by repeat (first | (with_reducible first | exact HB.out | apply below_alloc | apply pw_below_drewN | apply below_drew1) | exact HB.out)⟩⟩
                    · rw [if_neg c16] at H
                      have c16b0 : decide (248 ≤ (rd l1 x8_2)) = false := decide_eq_false c16
                      clear c16
                      by_cases c20 : (((t323.size : Int) == 2) != false) = true
                      · rw [if_pos c20] at H
                        exact absurd H (by simp)
                      · rw [if_neg c20] at H
                        have c20b0 : (((t323.size : Int) == 2) != false) = false := by simpa using c20
                        (try (have c20b1 : decide (((t323.size : Int) == 2) = false) = true := by simpa using c20))
                        (try (have c20b2 : (((t323.size : Int) == 2) == false) = true := by simpa using c20))
                        clear c20
                        by_cases c21 : (((t323.size : Int) == 5) != (decide ((rd l1 x8_2) ≥ 16777216))) = true
                        · rw [if_pos c21] at H
                          exact absurd H (by simp)
                        · rw [if_neg c21] at H
                          have c21b0 : (((t323.size : Int) == 5) != (decide ((rd l1 x8_2) ≥ 16777216))) = false := by simpa using c21
                          (try (have c21b1 : decide (((t323.size : Int) == 5) = (decide ((rd l1 x8_2) ≥ 16777216))) = true := by simpa using c21))
                          (try (have c21b2 : (((t323.size : Int) == 5) == (decide ((rd l1 x8_2) ≥ 16777216))) = true := by simpa using c21))
                          clear c21
                          have H' := Aside0.mk H
                          clear H
                          have p322 : 0 ≤ (x8_2 : Int) := of_decide_eq_true (by first | (with_reducible assumption) | assumption)
                          have q322 : x8_2 < (l1.length : Int) := of_decide_eq_true (by first | (with_reducible assumption) | assumption)
                          obtain ⟨ad322, e322, hx322_0⟩ := Kd.at_int HR1.out x8_2 p322 q322
                          cases e322
                          replace hx322_0 := (HB.out.cell (World.block_lt_of_cell? w _ hx322_0)).trans hx322_0
                          replace p322 := eq_true p322
                          replace q322 := eq_true q322
                          go_wp2_with (first | ((with_reducible refine gate_callee (f := 35) rfl ?_); refine goesL_ (some 45) rfl rfl Try.func35 (by kernel_rfl) rfl #[.int .i64 (rd l1 x8_2)] rfl (by (try simp only [List.map_toArray, List.map_cons, List.map_nil]); first | done | rfl | (simp only [List.length_drop, List.length_take]; rfl)) ?_; (with_reducible refine (pack_Num.calls k2 (rd l1 x8_2) t323 t324 _ A13.out).mono ?_); rintro e w22 ⟨rfl, hb⟩; refine ⟨_, rfl, ?_⟩; have n0_ := Aside0.mk (below_step (by repeat (first | (with_reducible first | exact HB.out | apply below_alloc | apply pw_below_drewN | apply below_drew1) | exact HB.out)) hb); clear HB; have HB := n0_; clear n0_; (try clear hb); (try clear hb2); (try clear hk); (try clear hi); have p325 : 0 ≤ (x8_2 : Int) := of_decide_eq_true (by first | (with_reducible assumption) | assumption); have q325 : x8_2 < (l1.length : Int) := of_decide_eq_true (by first | (with_reducible assumption) | assumption); obtain ⟨ad325, e325, hx325_0⟩ := Kd.at_int HR1.out x8_2 p325 q325; obtain rfl : ad322 = ad325 := (by injection e325); replace hx325_0 := (HB.out.cell (World.block_lt_of_cell? w _ hx325_0)).trans hx325_0; replace p325 := eq_true p325; replace q325 := eq_true q325; have p326 : 0 ≤ (x8_2 : Int) := of_decide_eq_true (by first | (with_reducible assumption) | assumption); have q326 : x8_2 < (l1.length : Int) := of_decide_eq_true (by first | (with_reducible assumption) | assumption); obtain ⟨ad326, e326, hx326_0⟩ := Kd.at_int HR1.out x8_2 p326 q326; obtain rfl : ad322 = ad326 := (by injection e326); replace hx326_0 := (HB.out.cell (World.block_lt_of_cell? w _ hx326_0)).trans hx326_0; replace p326 := eq_true p326; replace q326 := eq_true q326; have p329 : 0 ≤ (x8_2 : Int) := of_decide_eq_true (by first | (with_reducible assumption) | assumption); have q329 : x8_2 < (l1.length : Int) := of_decide_eq_true (by first | (with_reducible assumption) | assumption); obtain ⟨ad329, e329, hx329_0⟩ := Kd.at_int HR1.out x8_2 p329 q329; obtain rfl : ad322 = ad329 := (by injection e329); replace hx329_0 := (HB.out.cell (World.block_lt_of_cell? w _ hx329_0)).trans hx329_0; replace p329 := eq_true p329; replace q329 := eq_true q329))
                          go_roundg k2
                          case measure => have := HJ2.out; have := HK2.out; omega
                          case rel => exact ⟨(wrap64 (x7_2 + (t323.size : Int))), (wrap64 (x8_2 + 1)), (by first | rfl | (simp; done) | (simp [*]; done)), (by first | rfl | (simp; done) | (simp [*]; done)), H', ⟨by have := HJ2.out; have := HK2.out; omega⟩, ⟨by repeat (first | (with_reducible first | exact HB.out | apply below_alloc | apply pw_below_drewN | apply below_drew1) | exact HB.out)⟩⟩
                · rw [if_neg c14] at H
                  have c14b0 : (t324 == 0) = false := beq_eq_false_iff_ne.mpr c14
                  have c14b1 : (t324 != 0) = true := bne_iff_ne.mpr c14
                  replace H := Option.bind_eq_some_iff.mp H
                  obtain ⟨t330, A230, H⟩ := H
                  replace H : (some t330) = some r := H
                  have A23 := Aside0.mk A230
                  clear A230
                  obtain rfl := Option.some.inj H
                  have p322 : 0 ≤ (x8_2 : Int) := of_decide_eq_true (by first | (with_reducible assumption) | assumption)
                  have q322 : x8_2 < (l1.length : Int) := of_decide_eq_true (by first | (with_reducible assumption) | assumption)
                  obtain ⟨ad322, e322, hx322_0⟩ := Kd.at_int HR1.out x8_2 p322 q322
                  cases e322
                  replace hx322_0 := (HB.out.cell (World.block_lt_of_cell? w _ hx322_0)).trans hx322_0
                  replace p322 := eq_true p322
                  replace q322 := eq_true q322
                  go_wp2_with (first | ((with_reducible refine gate_callee (f := 35) rfl ?_); refine goesL_ (some 45) rfl rfl Try.func35 (by kernel_rfl) rfl #[.int .i64 (rd l1 x8_2)] rfl (by (try simp only [List.map_toArray, List.map_cons, List.map_nil]); first | done | rfl | (simp only [List.length_drop, List.length_take]; rfl)) ?_; (with_reducible refine (pack_Num.calls k2 (rd l1 x8_2) t323 t324 _ A13.out).mono ?_); rintro e w24 ⟨rfl, hb⟩; refine ⟨_, rfl, ?_⟩; have n0_ := Aside0.mk (below_step (by repeat (first | (with_reducible first | exact HB.out | apply below_alloc | apply pw_below_drewN | apply below_drew1) | exact HB.out)) hb); clear HB; have HB := n0_; clear n0_; (try clear hb); (try clear hb2); (try clear hk); (try clear hi)) | ((with_reducible refine gate_callee (f := 34) rfl ?_); refine goesL_ (some 50) rfl rfl Try.func34 (by kernel_rfl) rfl #[] rfl (by (try simp only [List.map_toArray, List.map_cons, List.map_nil]); first | done | rfl | (simp only [List.length_drop, List.length_take]; rfl)) ?_; (with_reducible refine (duetlaw01_live.calls k2  t330 _ A23.out).mono ?_); rintro e w25 ⟨rfl, hb⟩; refine ⟨_, rfl, ?_⟩; have n0_ := Aside0.mk (below_step (by repeat (first | (with_reducible first | exact HB.out | apply below_alloc | apply pw_below_drewN | apply below_drew1) | exact HB.out)) hb); clear HB; have HB := n0_; clear n0_; (try clear hb); (try clear hb2); (try clear hk); (try clear hi)))
                  go_ret
                  exact ⟨by first | rfl | (simp [errW_none, errW_some] <;> rfl) | (simp [*, errW_none, errW_some] <;> rfl), by repeat (first | (with_reducible first | exact HB.out | apply below_alloc | apply pw_below_drewN | apply below_drew1) | exact HB.out)⟩
              · rw [if_neg c12] at H
                exact absurd H (by simp)
            · rw [if_neg c11] at H
              have c11b0 : decide (x8_2 < (l1.length : Int)) = false := decide_eq_false c11
              clear c11
              replace H := Option.bind_eq_some_iff.mp H
              obtain ⟨⟨t331, t332⟩, A260, H⟩ := H
              replace H : ((pack_Text.f k2 a0).bind fun bt333 => ((pack_Num.f k2 (a0.size : Int)).bind fun bt335 => (if (t331.size : Int) = x7_2 then (if bt333.2 = 0 then (if (bt333.1.size : Int) = (wrap64 ((bt335.1.size : Int) + (a0.size : Int))) then ((duetlaw01_live.f k2).bind fun t337 => (some t337)) else (none)) else ((duetlaw01_live.f k2).bind fun t338 => (some t338))) else (none)))) = some r := H
              have A26 := Aside0.mk A260
              clear A260
              replace H := Option.bind_eq_some_iff.mp H
              obtain ⟨⟨t333, t334⟩, A270, H⟩ := H
              replace H : ((pack_Num.f k2 (a0.size : Int)).bind fun bt335 => (if (t331.size : Int) = x7_2 then (if t334 = 0 then (if (t333.size : Int) = (wrap64 ((bt335.1.size : Int) + (a0.size : Int))) then ((duetlaw01_live.f k2).bind fun t337 => (some t337)) else (none)) else ((duetlaw01_live.f k2).bind fun t338 => (some t338))) else (none))) = some r := H
              have A27 := Aside0.mk A270
              clear A270
              replace H := Option.bind_eq_some_iff.mp H
              obtain ⟨⟨t335, t336⟩, A280, H⟩ := H
              replace H : (if (t331.size : Int) = x7_2 then (if t334 = 0 then (if (t333.size : Int) = (wrap64 ((t335.size : Int) + (a0.size : Int))) then ((duetlaw01_live.f k2).bind fun t337 => (some t337)) else (none)) else ((duetlaw01_live.f k2).bind fun t338 => (some t338))) else (none)) = some r := H
              have A28 := Aside0.mk A280
              clear A280
              by_cases c29 : (t331.size : Int) = x7_2
              · rw [if_pos c29] at H
                have c29b0 : ((t331.size : Int) == x7_2) = true := beq_iff_eq.mpr c29
                have c29b1 : ((t331.size : Int) != x7_2) = false := bne_eq_false_iff_eq.mpr c29
                clear c29
                by_cases c30 : t334 = 0
                · rw [if_pos c30] at H
                  have c30b0 : (t334 == 0) = true := beq_iff_eq.mpr c30
                  have c30b1 : (t334 != 0) = false := bne_eq_false_iff_eq.mpr c30
                  clear c30
                  by_cases c31 : (t333.size : Int) = (wrap64 ((t335.size : Int) + (a0.size : Int)))
                  · rw [if_pos c31] at H
                    have c31b0 : ((t333.size : Int) == (wrap64 ((t335.size : Int) + (a0.size : Int)))) = true := beq_iff_eq.mpr c31
                    have c31b1 : ((t333.size : Int) != (wrap64 ((t335.size : Int) + (a0.size : Int)))) = false := bne_eq_false_iff_eq.mpr c31
                    clear c31
                    replace H := Option.bind_eq_some_iff.mp H
                    obtain ⟨t337, A320, H⟩ := H
                    replace H : (some t337) = some r := H
                    have A32 := Aside0.mk A320
                    clear A320
                    obtain rfl := Option.some.inj H
                    go_wp2_with (first | ((with_reducible refine gate_callee (f := 39) rfl ?_); refine goesL_ (some 95) rfl rfl Try.func39 (by kernel_rfl) rfl #[.slice A1 l1.length c1] rfl (by (try simp only [List.map_toArray, List.map_cons, List.map_nil]); first | done | rfl | (simp only [List.length_drop, List.length_take]; rfl)) ?_; (with_reducible refine (pack_List.calls _ _ l1 t331 t332 _ ?side1 ?side2 A26.out).mono ?_); (case side1 => repeat (first | exact (Kd.C_below HR1.out HB.out) | (with_reducible refine Kd.C_alloc ?_ _) | (with_reducible refine Kd.C_drewN ?_ _) | (with_reducible refine Kd.C_drew ?_))); (case side2 => exact HC1.out); rintro e w33 ⟨rfl, hb⟩; refine ⟨_, rfl, ?_⟩; have n0_ := Aside0.mk (below_step (by repeat (first | (with_reducible first | exact HB.out | apply below_alloc | apply pw_below_drewN | apply below_drew1) | exact HB.out)) hb); clear HB; have HB := n0_; clear n0_; (try clear hb); (try clear hb2); (try clear hk); (try clear hi)) | ((with_reducible refine gate_callee (f := 37) rfl ?_); refine goesL_ (some 100) rfl rfl Try.func37 (by kernel_rfl) rfl #[.string a0] rfl (by (try simp only [List.map_toArray, List.map_cons, List.map_nil]); first | done | rfl | (simp only [List.length_drop, List.length_take]; rfl)) ?_; (with_reducible refine (pack_Text.calls k2 a0 t333 t334 _ A27.out).mono ?_); rintro e w34 ⟨rfl, hb⟩; refine ⟨_, rfl, ?_⟩; have n0_ := Aside0.mk (below_step (by repeat (first | (with_reducible first | exact HB.out | apply below_alloc | apply pw_below_drewN | apply below_drew1) | exact HB.out)) hb); clear HB; have HB := n0_; clear n0_; (try clear hb); (try clear hb2); (try clear hk); (try clear hi)) | ((with_reducible refine gate_callee (f := 35) rfl ?_); refine goesL_ (some 106) rfl rfl Try.func35 (by kernel_rfl) rfl #[.int .i64 (a0.size : Int)] rfl (by (try simp only [List.map_toArray, List.map_cons, List.map_nil]); first | done | rfl | (simp only [List.length_drop, List.length_take]; rfl)) ?_; (with_reducible refine (pack_Num.calls k2 (a0.size : Int) t335 t336 _ A28.out).mono ?_); rintro e w35 ⟨rfl, hb⟩; refine ⟨_, rfl, ?_⟩; have n0_ := Aside0.mk (below_step (by repeat (first | (with_reducible first | exact HB.out | apply below_alloc | apply pw_below_drewN | apply below_drew1) | exact HB.out)) hb); clear HB; have HB := n0_; clear n0_; (try clear hb); (try clear hb2); (try clear hk); (try clear hi)) | (go_at_call 34; (with_reducible refine (duetlaw01_live.calls k2  t337 _ A32.out).mono ?_); rintro e w36 ⟨rfl, hb⟩; have n0_ := Aside0.mk (below_step (by repeat (first | (with_reducible first | exact HB.out | apply below_alloc | apply pw_below_drewN | apply below_drew1) | exact HB.out)) hb); clear HB; have HB := n0_; clear n0_; (try clear hb); (try clear hb2); (try clear hk); (try clear hi)))
                    go_ret
                    exact ⟨by first | rfl | (simp [errW_none, errW_some] <;> rfl) | (simp [*, errW_none, errW_some] <;> rfl), by repeat (first | (with_reducible first | exact HB.out | apply below_alloc | apply pw_below_drewN | apply below_drew1) | exact HB.out)⟩
                  · rw [if_neg c31] at H
                    exact absurd H (by simp)
                · rw [if_neg c30] at H
                  have c30b0 : (t334 == 0) = false := beq_eq_false_iff_ne.mpr c30
                  have c30b1 : (t334 != 0) = true := bne_iff_ne.mpr c30
                  replace H := Option.bind_eq_some_iff.mp H
                  obtain ⟨t338, A370, H⟩ := H
                  replace H : (some t338) = some r := H
                  have A37 := Aside0.mk A370
                  clear A370
                  obtain rfl := Option.some.inj H
                  go_wp2_with (first | ((with_reducible refine gate_callee (f := 39) rfl ?_); refine goesL_ (some 95) rfl rfl Try.func39 (by kernel_rfl) rfl #[.slice A1 l1.length c1] rfl (by (try simp only [List.map_toArray, List.map_cons, List.map_nil]); first | done | rfl | (simp only [List.length_drop, List.length_take]; rfl)) ?_; (with_reducible refine (pack_List.calls _ _ l1 t331 t332 _ ?side1 ?side2 A26.out).mono ?_); (case side1 => repeat (first | exact (Kd.C_below HR1.out HB.out) | (with_reducible refine Kd.C_alloc ?_ _) | (with_reducible refine Kd.C_drewN ?_ _) | (with_reducible refine Kd.C_drew ?_))); (case side2 => exact HC1.out); rintro e w38 ⟨rfl, hb⟩; refine ⟨_, rfl, ?_⟩; have n0_ := Aside0.mk (below_step (by repeat (first | (with_reducible first | exact HB.out | apply below_alloc | apply pw_below_drewN | apply below_drew1) | exact HB.out)) hb); clear HB; have HB := n0_; clear n0_; (try clear hb); (try clear hb2); (try clear hk); (try clear hi)) | ((with_reducible refine gate_callee (f := 37) rfl ?_); refine goesL_ (some 100) rfl rfl Try.func37 (by kernel_rfl) rfl #[.string a0] rfl (by (try simp only [List.map_toArray, List.map_cons, List.map_nil]); first | done | rfl | (simp only [List.length_drop, List.length_take]; rfl)) ?_; (with_reducible refine (pack_Text.calls k2 a0 t333 t334 _ A27.out).mono ?_); rintro e w39 ⟨rfl, hb⟩; refine ⟨_, rfl, ?_⟩; have n0_ := Aside0.mk (below_step (by repeat (first | (with_reducible first | exact HB.out | apply below_alloc | apply pw_below_drewN | apply below_drew1) | exact HB.out)) hb); clear HB; have HB := n0_; clear n0_; (try clear hb); (try clear hb2); (try clear hk); (try clear hi)) | ((with_reducible refine gate_callee (f := 35) rfl ?_); refine goesL_ (some 106) rfl rfl Try.func35 (by kernel_rfl) rfl #[.int .i64 (a0.size : Int)] rfl (by (try simp only [List.map_toArray, List.map_cons, List.map_nil]); first | done | rfl | (simp only [List.length_drop, List.length_take]; rfl)) ?_; (with_reducible refine (pack_Num.calls k2 (a0.size : Int) t335 t336 _ A28.out).mono ?_); rintro e w40 ⟨rfl, hb⟩; refine ⟨_, rfl, ?_⟩; have n0_ := Aside0.mk (below_step (by repeat (first | (with_reducible first | exact HB.out | apply below_alloc | apply pw_below_drewN | apply below_drew1) | exact HB.out)) hb); clear HB; have HB := n0_; clear n0_; (try clear hb); (try clear hb2); (try clear hk); (try clear hi)) | (go_at_call 34; (with_reducible refine (duetlaw01_live.calls k2  t338 _ A37.out).mono ?_); rintro e w41 ⟨rfl, hb⟩; have n0_ := Aside0.mk (below_step (by repeat (first | (with_reducible first | exact HB.out | apply below_alloc | apply pw_below_drewN | apply below_drew1) | exact HB.out)) hb); clear HB; have HB := n0_; clear n0_; (try clear hb); (try clear hb2); (try clear hk); (try clear hi)))
                  go_ret
                  exact ⟨by first | rfl | (simp [errW_none, errW_some] <;> rfl) | (simp [*, errW_none, errW_some] <;> rfl), by repeat (first | (with_reducible first | exact HB.out | apply below_alloc | apply pw_below_drewN | apply below_drew1) | exact HB.out)⟩
              · rw [if_neg c29] at H
                exact absurd H (by simp)

/-- THE ONE PURE STATEMENT of duetlaw01_PackSizes: yours. -/
def duetlaw01_PackSizes.Pure : Prop := ∀ (a0 : ByteArray) (l1 : List Int), a0.size ≤ 140737488351232 → l1.length ≤ maxLen → l1.length * 8 ≤ 140737488351232 → (∀ x ∈ l1, (Lit.int .i64 x).wf = true) → ∃ k, duetlaw01_PackSizes.f k a0 l1 = some true
theorem duetlaw01_PackSizes.walk (P : duetlaw01_PackSizes.Pure) (a0 : ByteArray) (a1 : Option Addr) (len1 cap1 : Nat) (z1 : List Int) (w : World) (w0 : a0.size ≤ 140737488351232) (w1 : (a1 = none ∧ len1 = 0 ∧ cap1 = 0 ∧ z1 = []) ∨ ∃ x, a1 = some x ∧ len1 ≤ cap1 ∧ cap1 ≤ maxLen ∧ z1.length = cap1 ∧ (∀ i, i < z1.length → w.cell? (x.add i) = some (.int .i64 (z1.getD i 0))) ∧ ∀ n ∈ z1, (Lit.int .i64 n).wf = true) (y1 : len1 * 8 ≤ 140737488351232) :
    Calls Try.prog 14 #[.string a0, .slice a1 len1 cap1] w fun e w' => e = .returned (.bool true) ∧ Below w.heap.size w w' := by
  obtain ⟨l1, rfl, hr1, hm1, hw1, hc1⟩ := ReadsInt.ofRowC w1
  obtain ⟨k, h⟩ := P a0 l1 w0 hm1 y1 hw1
  refine (duetlaw01_PackSizes.calls k a0 _ _ l1 true w (Kd.C_of_reads (d := (0 : Int)) (h1 := fun _ => rfl) hr1) hc1 h).mono ?_
  rintro e w' ⟨rfl, hd⟩
  exact ⟨rfl, hd⟩

end Go.Proofs.Ytpoigdkbblmpaaa.PPack
