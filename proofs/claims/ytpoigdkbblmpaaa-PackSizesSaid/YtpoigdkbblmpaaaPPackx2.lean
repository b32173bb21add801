/- Functions that the law reaches, each as a plain Lean function with the proof that the call does what it says. Conditions: none beyond those that each theorem states. Written by a program for this claim. -/
import Derived.Test.YtpoigdkbblmpaaaPPackx0
import Derived.Test.YtpoigdkbblmpaaaPPackx1
namespace Go.Proofs.Ytpoigdkbblmpaaa.PPack
open Go.RowKit Go.Proofs.YtpoigdkbblmpaaaW.PrintWords Go.Proofs.YtpoigdkbblmpaaaW.PrintLast Go.Proofs.YtpoigdkbblmpaaaW.PrintMore
attribute [local go_sem] max2_int min2_int max_two min_two max_three min_three max_four min_four   -- for this text's walks alone
set_option linter.unusedVariables false
set_option linter.unusedSimpArgs false

/-! ### pack_Cut: function 43 -/
def pack_Cut.f (a0 : ByteArray) : Option (ByteArray × ByteArray × Int) := (pack_Take.f a0).bind fun bt142 => (if bt142.2.2 = 0 then (if bt142.1 > 65535 then (some ((⟨#[]⟩ : ByteArray), (⟨#[]⟩ : ByteArray), 2)) else (if bt142.1 > (bt142.2.1.size : Int) then (some ((⟨#[]⟩ : ByteArray), (⟨#[]⟩ : ByteArray), 3)) else (if 0 ≤ bt142.1 then (if bt142.1 ≤ (bt142.2.1.size : Int) then (some (bt142.2.1.extract 0 (bt142.1 : Int).toNat, bt142.2.1.extract (bt142.1 : Int).toNat bt142.2.1.size, 0)) else (none)) else (none)))) else (some ((⟨#[]⟩ : ByteArray), (⟨#[]⟩ : ByteArray), bt142.2.2)))
set_option maxHeartbeats 8000000 in
set_option maxRecDepth 100000 in
theorem pack_Cut.calls (a0 : ByteArray) (r1 : ByteArray) (r2 : ByteArray) (r3 : Int) (w : World) (h : pack_Cut.f a0 = some (r1, r2, r3)) :
    Calls Try.prog 43 #[.string a0] w fun e w' => e = .returned (.tuple #[.string r1, .string r2, .int .i64 r3]) ∧ Below w.heap.size w w' := by
  have HB := Aside0.mk (Below.refl w.heap.size w)
  have H : ((pack_Take.f a0).bind fun bt142 => (if bt142.2.2 = 0 then (if bt142.1 > 65535 then (some ((⟨#[]⟩ : ByteArray), (⟨#[]⟩ : ByteArray), 2)) else (if bt142.1 > (bt142.2.1.size : Int) then (some ((⟨#[]⟩ : ByteArray), (⟨#[]⟩ : ByteArray), 3)) else (if 0 ≤ bt142.1 then (if bt142.1 ≤ (bt142.2.1.size : Int) then (some (bt142.2.1.extract 0 (bt142.1 : Int).toNat, bt142.2.1.extract (bt142.1 : Int).toNat bt142.2.1.size, 0)) else (none)) else (none)))) else (some ((⟨#[]⟩ : ByteArray), (⟨#[]⟩ : ByteArray), bt142.2.2)))) = some (r1, r2, r3) := h
  clear h
  replace H := Option.bind_eq_some_iff.mp H
  obtain ⟨⟨t142, t143, t144⟩, A20, H⟩ := H
  replace H : (if t144 = 0 then (if t142 > 65535 then (some ((⟨#[]⟩ : ByteArray), (⟨#[]⟩ : ByteArray), 2)) else (if t142 > (t143.size : Int) then (some ((⟨#[]⟩ : ByteArray), (⟨#[]⟩ : ByteArray), 3)) else (if 0 ≤ t142 then (if t142 ≤ (t143.size : Int) then (some (t143.extract 0 (t142 : Int).toNat, t143.extract (t142 : Int).toNat t143.size, 0)) else (none)) else (none)))) else (some ((⟨#[]⟩ : ByteArray), (⟨#[]⟩ : ByteArray), t144))) = some (r1, r2, r3) := H
  have A2 := Aside0.mk A20
  clear A20
  by_cases c3 : t144 = 0
  · rw [if_pos c3] at H
    have c3b0 : (t144 == 0) = true := beq_iff_eq.mpr c3
    have c3b1 : (t144 != 0) = false := bne_eq_false_iff_eq.mpr c3
    clear c3
    by_cases c4 : t142 > 65535
    · rw [if_pos c4] at H
      have c4b0 : decide (65535 < t142) = true := decide_eq_true c4
      clear c4
      simp only [Option.some.injEq, Prod.mk.injEq] at H
      obtain ⟨rfl, rfl, rfl⟩ := H
      go_enter Try.func43, Try.ntmps43
      go_wp2_with (first | (go_at_call 41; (with_reducible refine (pack_Take.calls a0 t142 t143 t144 _ A2.out).mono ?_); rintro e w5 ⟨rfl, hb⟩; have n0_ := Aside0.mk (below_step (by repeat (first | (with_reducible first | exact HB.out | apply below_alloc | apply pw_below_drewN | apply below_drew1) | exact HB.out)) hb); clear HB; have HB := n0_; clear n0_; (try clear hb); (try clear hb2); (try clear hk); (try clear hi)))
      repeat (go_quiet (first | (go_at_call 41; (with_reducible refine (pack_Take.calls a0 t142 t143 t144 _ A2.out).mono ?_); rintro e w5 ⟨rfl, hb⟩; have n0_ := Aside0.mk (below_step (by repeat (first | (with_reducible first | exact HB.out | apply below_alloc | apply pw_below_drewN | apply below_drew1) | exact HB.out)) hb); clear HB; have HB := n0_; clear n0_; (try clear hb); (try clear hb2); (try clear hk); (try clear hi))); try go_wp2_with (first | (go_at_call 41; (with_reducible refine (pack_Take.calls a0 t142 t143 t144 _ A2.out).mono ?_); rintro e w5 ⟨rfl, hb⟩; have n0_ := Aside0.mk (below_step (by repeat (first | (with_reducible first | exact HB.out | apply below_alloc | apply pw_below_drewN | apply below_drew1) | exact HB.out)) hb); clear HB; have HB := n0_; clear n0_; (try clear hb); (try clear hb2); (try clear hk); (try clear hi))))
      go_ret3
      exact ⟨by first | rfl | (simp [errW_none, errW_some] <;> rfl) | (simp [*, errW_none, errW_some] <;> rfl), by repeat (first | (with_reducible first | exact HB.out | apply below_alloc | apply pw_below_drewN | apply below_drew1) | exact HB.out)⟩
    · rw [if_neg c4] at H
      have c4b0 : decide (65535 < t142) = false := decide_eq_false c4
      clear c4
      by_cases c6 : t142 > (t143.size : Int)
      · rw [if_pos c6] at H
        have c6b0 : decide ((t143.size : Int) < t142) = true := decide_eq_true c6
        clear c6
        simp only [Option.some.injEq, Prod.mk.injEq] at H
        obtain ⟨rfl, rfl, rfl⟩ := H
        go_enter Try.func43, Try.ntmps43
        go_wp2_with (first | (go_at_call 41; (with_reducible refine (pack_Take.calls a0 t142 t143 t144 _ A2.out).mono ?_); rintro e w7 ⟨rfl, hb⟩; have n0_ := Aside0.mk (below_step (by repeat (first | (with_reducible first | exact HB.out | apply below_alloc | apply pw_below_drewN | apply below_drew1) | exact HB.out)) hb); clear HB; have HB := n0_; clear n0_; (try clear hb); (try clear hb2); (try clear hk); (try clear hi)))
        repeat (go_quiet (first | (go_at_call 41; (with_reducible refine (pack_Take.calls a0 t142 t143 t144 _ A2.out).mono ?_); rintro e w7 ⟨rfl, hb⟩; have n0_ := Aside0.mk (below_step (by repeat (first | (with_reducible first | exact HB.out | apply below_alloc | apply pw_below_drewN | apply below_drew1) | exact HB.out)) hb); clear HB; have HB := n0_; clear n0_; (try clear hb); (try clear hb2); (try clear hk); (try clear hi))); try go_wp2_with (first | (go_at_call 41; (with_reducible refine (pack_Take.calls a0 t142 t143 t144 _ A2.out).mono ?_); rintro e w7 ⟨rfl, hb⟩; have n0_ := Aside0.mk (below_step (by repeat (first | (with_reducible first | exact HB.out | apply below_alloc | apply pw_below_drewN | apply below_drew1) | exact HB.out)) hb); clear HB; have HB := n0_; clear n0_; (try clear hb); (try clear hb2); (try clear hk); (try clear hi))))
        go_ret3
        exact ⟨by first | rfl | (simp [errW_none, errW_some] <;> rfl) | (simp [*, errW_none, errW_some] <;> rfl), by repeat (first | (with_reducible first | exact HB.out | apply below_alloc | apply pw_below_drewN | apply below_drew1) | exact HB.out)⟩
      · rw [if_neg c6] at H
        have c6b0 : decide ((t143.size : Int) < t142) = false := decide_eq_false c6
        clear c6
        by_cases c8 : 0 ≤ t142
        · rw [if_pos c8] at H
          have c8b0 := eq_true c8
          have c8b1 : decide (0 ≤ t142) = true := decide_eq_true c8
          clear c8
          by_cases c9 : t142 ≤ (t143.size : Int)
          · rw [if_pos c9] at H
            have c9b0 := eq_true c9
            have c9b1 : decide (t142 ≤ (t143.size : Int)) = true := decide_eq_true c9
            clear c9
            have c10b0 := eq_true (of_decide_eq_true (by first | (with_reducible assumption) | assumption) : 0 ≤ t142)
            have c11b0 := eq_true (of_decide_eq_true (by first | (with_reducible assumption) | assumption) : t142 ≤ (t143.size : Int))
            simp only [Option.some.injEq, Prod.mk.injEq] at H
            obtain ⟨rfl, rfl, rfl⟩ := H
            go_enter Try.func43, Try.ntmps43
            go_wp2_with (first | (go_at_call 41; (with_reducible refine (pack_Take.calls a0 t142 t143 t144 _ A2.out).mono ?_); rintro e w12 ⟨rfl, hb⟩; have n0_ := Aside0.mk (below_step (by repeat (first | (with_reducible first | exact HB.out | apply below_alloc | apply pw_below_drewN | apply below_drew1) | exact HB.out)) hb); clear HB; have HB := n0_; clear n0_; (try clear hb); (try clear hb2); (try clear hk); (try clear hi)))
            repeat (go_quiet (first | (go_at_call 41; (with_reducible refine (pack_Take.calls a0 t142 t143 t144 _ A2.out).mono ?_); rintro e w12 ⟨rfl, hb⟩; have n0_ := Aside0.mk (below_step (by repeat (first | (with_reducible first | exact HB.out | apply below_alloc | apply pw_below_drewN | apply below_drew1) | exact HB.out)) hb); clear HB; have HB := n0_; clear n0_; (try clear hb); (try clear hb2); (try clear hk); (try clear hi))); try go_wp2_with (first | (go_at_call 41; (with_reducible refine (pack_Take.calls a0 t142 t143 t144 _ A2.out).mono ?_); rintro e w12 ⟨rfl, hb⟩; have n0_ := Aside0.mk (below_step (by repeat (first | (with_reducible first | exact HB.out | apply below_alloc | apply pw_below_drewN | apply below_drew1) | exact HB.out)) hb); clear HB; have HB := n0_; clear n0_; (try clear hb); (try clear hb2); (try clear hk); (try clear hi))))
            go_ret3
            exact ⟨by first | rfl | (simp [errW_none, errW_some] <;> rfl) | (simp [*, errW_none, errW_some] <;> rfl), by repeat (first | (with_reducible first | exact HB.out | apply below_alloc | apply pw_below_drewN | apply below_drew1) | exact HB.out)⟩
          · rw [if_neg c9] at H
            exact absurd H (by simp)
        · rw [if_neg c8] at H
          exact absurd H (by simp)
  · rw [if_neg c3] at H
    have c3b0 : (t144 == 0) = false := beq_eq_false_iff_ne.mpr c3
    have c3b1 : (t144 != 0) = true := bne_iff_ne.mpr c3
    simp only [Option.some.injEq, Prod.mk.injEq] at H
    obtain ⟨rfl, rfl, rfl⟩ := H
    go_enter Try.func43, Try.ntmps43
    go_wp2_with (first | (go_at_call 41; (with_reducible refine (pack_Take.calls a0 t142 t143 t144 _ A2.out).mono ?_); rintro e w13 ⟨rfl, hb⟩; have n0_ := Aside0.mk (below_step (by repeat (first | (with_reducible first | exact HB.out | apply below_alloc | apply pw_below_drewN | apply below_drew1) | exact HB.out)) hb); clear HB; have HB := n0_; clear n0_; (try clear hb); (try clear hb2); (try clear hk); (try clear hi)))
    repeat (go_quiet (first | (go_at_call 41; (with_reducible refine (pack_Take.calls a0 t142 t143 t144 _ A2.out).mono ?_); rintro e w13 ⟨rfl, hb⟩; have n0_ := Aside0.mk (below_step (by repeat (first | (with_reducible first | exact HB.out | apply below_alloc | apply pw_below_drewN | apply below_drew1) | exact HB.out)) hb); clear HB; have HB := n0_; clear n0_; (try clear hb); (try clear hb2); (try clear hk); (try clear hi))); try go_wp2_with (first | (go_at_call 41; (with_reducible refine (pack_Take.calls a0 t142 t143 t144 _ A2.out).mono ?_); rintro e w13 ⟨rfl, hb⟩; have n0_ := Aside0.mk (below_step (by repeat (first | (with_reducible first | exact HB.out | apply below_alloc | apply pw_below_drewN | apply below_drew1) | exact HB.out)) hb); clear HB; have HB := n0_; clear n0_; (try clear hb); (try clear hb2); (try clear hk); (try clear hi))))
    go_ret3
    exact ⟨by first | rfl | (simp [errW_none, errW_some] <;> rfl) | (simp [*, errW_none, errW_some] <;> rfl), by repeat (first | (with_reducible first | exact HB.out | apply below_alloc | apply pw_below_drewN | apply below_drew1) | exact HB.out)⟩

/-! ### pack_Each: function 45 -/
mutual
def pack_Each.j0 : Nat → ByteArray → Int → Int → Bool → Option (List Int × ByteArray × Int)
  | 0, _, _, _, _ => none
  | k + 1, x0, x5, x6, x20 => if x20 = true then (pack_Each.j1 k x0 x5 2) else (pack_Each.j1 k x0 x5 x6)
def pack_Each.j1 : Nat → ByteArray → Int → Int → Option (List Int × ByteArray × Int)
  | 0, _, _, _ => none
  | k + 1, x0, x5, x6 => pack_Each.l0 k x0 x5 x6 ([] : List Int)
def pack_Each.l0 : Nat → ByteArray → Int → Int → List Int → Option (List Int × ByteArray × Int)
  | 0, _, _, _, _ => none
  | k + 1, x0, x5, x6, x7 => if x6 = 0 then (if (x7.length : Int) < x5 then ((pack_Take.f x0).bind fun bt148 => (if x7.length < 17592186044416 then (pack_Each.l0 k bt148.2.1 x5 bt148.2.2 (x7 ++ [bt148.1])) else (none))) else (some (x7, x0, 0))) else (some (([] : List Int), (⟨#[]⟩ : ByteArray), x6))
end
def pack_Each.f (k : Nat) (a0 : ByteArray) : Option (List Int × ByteArray × Int) := (pack_Take.f a0).bind fun bt145 => (if bt145.2.2 = 0 then (pack_Each.j0 k bt145.2.1 bt145.1 bt145.2.2 (decide (bt145.1 > 1000))) else (pack_Each.j0 k bt145.2.1 bt145.1 bt145.2.2 false))
theorem pack_Each.mono_l : ∀ k, (∀ y0 y1 y2 y3, LeO (pack_Each.j0 k y0 y1 y2 y3) (pack_Each.j0 (k + 1) y0 y1 y2 y3)) ∧ (∀ y0 y1 y2, LeO (pack_Each.j1 k y0 y1 y2) (pack_Each.j1 (k + 1) y0 y1 y2)) ∧ (∀ y0 y1 y2 y3, LeO (pack_Each.l0 k y0 y1 y2 y3) (pack_Each.l0 (k + 1) y0 y1 y2 y3))
  | 0 => ⟨fun _ _ _ _ r h => by simp [pack_Each.j0] at h, fun _ _ _ r h => by simp [pack_Each.j1] at h, fun _ _ _ _ r h => by simp [pack_Each.l0] at h⟩
  | k + 1 => by
    obtain ⟨ih0, ih1, ih2⟩ := pack_Each.mono_l k
    refine ⟨?_, ?_, ?_⟩
    · intro y0 y1 y2 y3
      unfold pack_Each.j0
      repeat' first
      | (with_reducible exact ih0 _ _ _ _)
      | (with_reducible exact ih1 _ _ _)
      | (with_reducible exact ih2 _ _ _ _)
      | (with_reducible exact LeO.refl _)
      | (with_reducible exact LeO.none _)
      | (with_reducible refine LeO.ite ?_ ?_)
      | (with_reducible refine LeO.bind ?_ (fun _ => ?_))
      | exact ih0 _ _ _ _
      | exact ih1 _ _ _
      | exact ih2 _ _ _ _
      | exact LeO.none _
      | refine LeO.ite ?_ ?_
      | refine LeO.bind ?_ (fun _ => ?_)
    · intro y0 y1 y2
      unfold pack_Each.j1
      repeat' first
      | (with_reducible exact ih0 _ _ _ _)
      | (with_reducible exact ih1 _ _ _)
      | (with_reducible exact ih2 _ _ _ _)
      | (with_reducible exact LeO.refl _)
      | (with_reducible exact LeO.none _)
      | (with_reducible refine LeO.ite ?_ ?_)
      | (with_reducible refine LeO.bind ?_ (fun _ => ?_))
      | exact ih0 _ _ _ _
      | exact ih1 _ _ _
      | exact ih2 _ _ _ _
      | exact LeO.none _
      | refine LeO.ite ?_ ?_
      | refine LeO.bind ?_ (fun _ => ?_)
    · intro y0 y1 y2 y3
      unfold pack_Each.l0
      repeat' first
      | (with_reducible exact ih0 _ _ _ _)
      | (with_reducible exact ih1 _ _ _)
      | (with_reducible exact ih2 _ _ _ _)
      | (with_reducible exact LeO.refl _)
      | (with_reducible exact LeO.none _)
      | (with_reducible refine LeO.ite ?_ ?_)
      | (with_reducible refine LeO.bind ?_ (fun _ => ?_))
      | exact ih0 _ _ _ _
      | exact ih1 _ _ _
      | exact ih2 _ _ _ _
      | exact LeO.none _
      | refine LeO.ite ?_ ?_
      | refine LeO.bind ?_ (fun _ => ?_)
theorem pack_Each.mono : ∀ a0 k, LeO (pack_Each.f k a0) (pack_Each.f (k + 1) a0) := by
  intro a0 k
  obtain ⟨ih0, ih1, ih2⟩ := pack_Each.mono_l k
  unfold pack_Each.f
  repeat' first
      | (with_reducible exact ih0 _ _ _ _)
      | (with_reducible exact ih1 _ _ _)
      | (with_reducible exact ih2 _ _ _ _)
      | (with_reducible exact LeO.refl _)
      | (with_reducible exact LeO.none _)
      | (with_reducible refine LeO.ite ?_ ?_)
      | (with_reducible refine LeO.bind ?_ (fun _ => ?_))
      | exact ih0 _ _ _ _
      | exact ih1 _ _ _
      | exact ih2 _ _ _ _
      | exact LeO.none _
      | refine LeO.ite ?_ ?_
      | refine LeO.bind ?_ (fun _ => ?_)
set_option maxHeartbeats 8000000 in
set_option maxRecDepth 100000 in
theorem pack_Each.calls (k : Nat) (a0 : ByteArray) (r1 : List Int) (r2 : ByteArray) (r3 : Int) (w : World) (h : pack_Each.f k a0 = some (r1, r2, r3)) :
    Calls Try.prog 45 #[.string a0] w fun e w' => ∃ v0_ : Value, e = .returned (.tuple #[v0_, .string r2, .int .i64 r3]) ∧ Kd.R (Kd.int .i64) 3 w' w.heap.size (fun _ => True) v0_ r1 ∧ Below w.heap.size w w' := by
  have HB := Aside0.mk (Below.refl w.heap.size w)
  have H : ((pack_Take.f a0).bind fun bt145 => (if bt145.2.2 = 0 then (pack_Each.j0 k bt145.2.1 bt145.1 bt145.2.2 (decide (bt145.1 > 1000))) else (pack_Each.j0 k bt145.2.1 bt145.1 bt145.2.2 false))) = some (r1, r2, r3) := h
  clear h
  replace H := Option.bind_eq_some_iff.mp H
  obtain ⟨⟨t145, t146, t147⟩, A20, H⟩ := H
  replace H : (if t147 = 0 then (pack_Each.j0 k t146 t145 t147 (decide (t145 > 1000))) else (pack_Each.j0 k t146 t145 t147 false)) = some (r1, r2, r3) := H
  have A2 := Aside0.mk A20
  clear A20
  have HC3 := Aside0.mk H
  clear H
  go_enter Try.func45, Try.ntmps45
  go_upto_region 2 with (first | ((with_reducible refine gate_callee (f := 41) rfl ?_); refine goesL_ (some 11) rfl rfl Try.func41 (by kernel_rfl) rfl #[.string a0] rfl (by (try simp only [List.map_toArray, List.map_cons, List.map_nil]); first | done | rfl | (simp only [List.length_drop, List.length_take]; rfl)) ?_; (with_reducible refine (pack_Take.calls a0 t145 t146 t147 _ A2.out).mono ?_); rintro e w4 ⟨rfl, hb⟩; refine ⟨_, rfl, ?_⟩; have n0_ := Aside0.mk (below_step (by repeat (first | (with_reducible first | exact HB.out | apply below_alloc | apply pw_below_drewN | apply below_drew1) | exact HB.out)) hb); clear HB; have HB := n0_; clear n0_; (try clear hb); (try clear hb2); (try clear hk); (try clear hi)))
  (try simp only [Act.put, List.setIfInBounds_toArray, List.set_cons_zero, List.set_cons_succ])
  go_cut [20] (fun v20 wc => ∃ (kq : Nat) (x20_2 : Bool), v20 = .bool x20_2 ∧ Aside0 (pack_Each.j0 kq t146 t145 t147 x20_2 = some (r1, r2, r3)) ∧ Aside0 (kq ≤ k) ∧ Aside0 (Below w.heap.size w wc))
  case first =>
    have H := HC3.out
    clear HC3
    by_cases c5 : t147 = 0
    · rw [if_pos c5] at H
      have c5b0 : (t147 == 0) = true := beq_iff_eq.mpr c5
      have c5b1 : (t147 != 0) = false := bne_eq_false_iff_eq.mpr c5
      clear c5
      (first | rw [c5b0] | (simp only [i64_w, i32_w]; rw [c5b0]) | skip)
      have H' := Aside0.mk H
      clear H
      go_wp2
      go_meet
      case rel => exact ⟨_, (decide (t145 > 1000)), (by first | rfl | (simp; done) | (simp [*]; done)), H', ⟨by first | omega | exact Nat.le_refl _⟩, ⟨by repeat (first | (with_reducible first | exact HB.out | apply below_alloc | apply pw_below_drewN | apply below_drew1) | exact HB.out)⟩⟩
    · rw [if_neg c5] at H
      have c5b0 : (t147 == 0) = false := beq_eq_false_iff_ne.mpr c5
      have c5b1 : (t147 != 0) = true := bne_iff_ne.mpr c5
      (first | rw [c5b0] | (simp only [i64_w, i32_w]; rw [c5b0]) | skip)
      have H' := Aside0.mk H
      clear H
      go_wp2
      go_meet
      case rel => exact ⟨_, (false), (by first | rfl | (simp; done) | (simp [*]; done)), H', ⟨by first | omega | exact Nat.le_refl _⟩, ⟨by repeat (first | (with_reducible first | exact HB.out | apply below_alloc | apply pw_below_drewN | apply below_drew1) | exact HB.out)⟩⟩
  case rest =>
    clear HC3
    try clear p2
    try clear c4
    try clear c5
    try clear c5b0
    try clear c5b1
    obtain ⟨kq, x20_2, rfl, HA, HJ2, HB⟩ := hcut
    cases kq with
    | zero => exact absurd HA.out (by simp [pack_Each.j0])
    | succ kj2 =>
      have H := HA.out
      clear HA
      simp only [pack_Each.j0] at H
      have HC6 := Aside0.mk H
      clear H
      go_upto_if 20 with (fail)
      go_cut [6] (fun v6 wc => ∃ (kq : Nat) (x6_5 : Int), v6 = .int .i64 x6_5 ∧ Aside0 (pack_Each.j1 kq t146 t145 x6_5 = some (r1, r2, r3)) ∧ Aside0 (kq ≤ kj2) ∧ Aside0 (Below w.heap.size w wc))
      case first =>
        have H := HC6.out
        clear HC6
        by_cases c7 : x20_2 = true
        · subst c7
          have H1 : (pack_Each.j1 kj2 t146 t145 2) = some (r1, r2, r3) := by rw [if_pos rfl] at H; exact H
          clear H
          have H := H1
          clear H1
          have H' := Aside0.mk H
          clear H
          go_wp2
          go_meet
          case rel => exact ⟨_, (2), (by first | rfl | (simp; done) | (simp [*]; done)), H', ⟨by have := HJ2.out; first | omega | exact Nat.le_refl _⟩, ⟨by repeat (first | (with_reducible first | exact HB.out | apply below_alloc | apply pw_below_drewN | apply below_drew1) | exact HB.out)⟩⟩
        · replace c7 := Bool.eq_false_iff.mpr c7
          subst c7
          have H1 : (pack_Each.j1 kj2 t146 t145 t147) = some (r1, r2, r3) := by rw [if_neg (show ¬ (false = true) by decide)] at H; exact H
          clear H
          have H := H1
          clear H1
          have H' := Aside0.mk H
          clear H
          go_wp2
          go_meet
          case rel => exact ⟨_, (t147), (by first | rfl | (simp; done) | (simp [*]; done)), H', ⟨by have := HJ2.out; first | omega | exact Nat.le_refl _⟩, ⟨by repeat (first | (with_reducible first | exact HB.out | apply below_alloc | apply pw_below_drewN | apply below_drew1) | exact HB.out)⟩⟩
      case rest =>
        clear HC6
        try clear p2
        try clear c4
        try clear c5
        try clear c5b0
        try clear c5b1
        try clear c7
        try clear p2
        obtain ⟨kq, x6_5, rfl, HA, HJ5, HB⟩ := hcut
        cases kq with
        | zero => exact absurd HA.out (by simp [pack_Each.j1])
        | succ kj5 =>
          have H := HA.out
          clear HA
          simp only [pack_Each.j1] at H
          have H' := Aside0.mk H
          clear H
          go_wp2
          go_loopg [0, 6, 7] kj5 (fun kq v0 v6 v7 w' => ∃ (x0_3 : ByteArray) (x6_3 : Int) (x7_3 : List Int), v0 = .string x0_3 ∧ v6 = .int .i64 x6_3 ∧ Aside0 (pack_Each.l0 kq x0_3 t145 x6_3 x7_3 = some (r1, r2, r3)) ∧ Aside0 (kq ≤ kj5) ∧ Aside0 (Kd.R (Kd.int .i64) 3 w' w.heap.size (fun _ => True) v7 x7_3) ∧ Aside0 (Below w.heap.size w w'))
          case atStart => exact ⟨(t146), (x6_5), (([] : List Int)), (by first | rfl | (simp; done) | (simp [*]; done)), (by first | rfl | (simp; done) | (simp [*]; done)), H', ⟨Nat.le_refl _⟩, ⟨by first | exact Kd.R_nil _ _ _ _ _ | exact Kd.N_nil _ _ _ _ _ | exact Kd.V_nil _ _ _ _ _ | exact Kd.Q_nil _ _ _ _ _ | exact Kd.S_nil _ _ _ _ _⟩, ⟨by repeat (first | (with_reducible first | exact HB.out | apply below_alloc | apply pw_below_drewN | apply below_drew1) | exact HB.out)⟩⟩
          case round =>
            clear H'
            try clear p2
            try clear c4
            try clear c5
            try clear c5b0
            try clear c5b1
            try clear c7
            try clear p2
            obtain ⟨x0_3, x6_3, x7_3, rfl, rfl, HA, HK3, HO_7, HB⟩ := hrel
            cases gk with
            | zero => exact absurd HA.out (by simp [pack_Each.l0])
            | succ k3 =>
              have H := HA.out
              clear HA
              simp only [pack_Each.l0] at H
              by_cases c8 : x6_3 = 0
              · rw [if_pos c8] at H
                have c8b0 : (x6_3 == 0) = true := beq_iff_eq.mpr c8
                have c8b1 : (x6_3 != 0) = false := bne_eq_false_iff_eq.mpr c8
                clear c8
                by_cases c9 : (x7_3.length : Int) < t145
                · rw [if_pos c9] at H
                  have c9b0 : decide ((x7_3.length : Int) < t145) = true := decide_eq_true c9
                  clear c9
                  replace H := Option.bind_eq_some_iff.mp H
                  obtain ⟨⟨t148, t149, t150⟩, A100, H⟩ := H
                  replace H : (if x7_3.length < 17592186044416 then (pack_Each.l0 k3 t149 t145 t150 (x7_3 ++ [t148])) else (none)) = some (r1, r2, r3) := H
                  have A10 := Aside0.mk A100
                  clear A100
                  by_cases c11 : x7_3.length < 17592186044416
                  · rw [if_pos c11] at H
                    have LMc11 := Aside0.mk c11
                    clear c11
                    obtain ⟨y151, hy151⟩ : ∃ y_ : List Int, y_ = (x7_3 ++ [t148]) := ⟨_, rfl⟩
                    replace H : (pack_Each.l0 k3 t149 t145 t150 y151) = some (r1, r2, r3) := by first | (rw [hy151]; with_reducible exact H) | (have H2_ := (Option.bind_some _ _).symm.trans H; rw [hy151]; with_reducible exact H2_) | (have H2_ := (Option.bind_some _ _).symm.trans H; with_reducible exact H2_) | with_reducible exact H | (rw [hy151]; exact H) | exact H
                    have Ny151 := Aside0.mk hy151
                    clear hy151
                    have H' := Aside0.mk H
                    clear H
                    obtain ⟨Ao12, co12, eo12⟩ := Kd.R_slice HO_7.out
                    subst eo12
                    go_wp2_with (first | ((with_reducible refine gate_callee (f := 41) rfl ?_); refine goesL_ (some 31) rfl rfl Try.func41 (by kernel_rfl) rfl #[.string x0_3] rfl (by (try simp only [List.map_toArray, List.map_cons, List.map_nil]); first | done | rfl | (simp only [List.length_drop, List.length_take]; rfl)) ?_; (with_reducible refine (pack_Take.calls x0_3 t148 t149 t150 _ A10.out).mono ?_); rintro e w13 ⟨rfl, hb⟩; refine ⟨_, rfl, ?_⟩; have n0_ := Aside0.mk (Kd.R_below (by (with_reducible repeat (first | apply Kd.R_alloc | apply Kd.R_drewN | apply Kd.R_drew)); exact HO_7.out) hb); have n1_ := Aside0.mk (below_step (by repeat (first | (with_reducible first | exact HB.out | apply below_alloc | apply pw_below_drewN | apply below_drew1) | exact HB.out)) hb); clear HO_7; clear HB; have HO_7 := n0_; have HB := n1_; clear n0_ n1_; (try clear hb); (try clear hb2); (try clear hk); (try clear hi)) | ((with_reducible refine gate_builtin (b := .append) (xs := #[.tmp 35, .tmp 37]) rfl ?_); (try (refine gate_guard (by rfl) ?_; dsimp only)); at_builtin; refine Kd.R_append (Kd.int .i64) (w0 := w) w.heap.size rfl (.tmp 35) (.tmp 37) 22 3 (.int .i64 0) 8 rfl Try.underlying22 info3 rfl (by decide) (by omega) (.slice Ao12 x7_3.length co12) x7_3 t148 [.int .i64 t148] (fun _ => True) (fun _ => False) rfl rfl ?aP (fun _ hk => hk.elim) ?aF ?aO ?aB ?aS ?aL ?_; (case aP => exact rfl); (case aB => exact (by repeat (first | (with_reducible first | exact HB.out | apply below_alloc | apply pw_below_drewN | apply below_drew1) | exact HB.out))); (case aF => exact (fun _ _ => trivial)); (case aO => exact (by (with_reducible repeat (first | apply Kd.R_alloc | apply Kd.R_drewN | apply Kd.R_drew)); exact HO_7.out)); (case aS => exact (below_size (by repeat (first | (with_reducible first | exact HB.out | apply below_alloc | apply pw_below_drewN | apply below_drew1) | exact HB.out)))); (case aL => have := LMc11.out; omega); intro v152 w14 ho hb hg hat; rw [← Ny151.out] at ho; have n0_ := Aside0.mk (hb); have n1_ := Aside0.mk (ho); clear HB; clear HO_7; have HB := n0_; have HO153 := n1_; clear n0_ n1_; clear ho hb hg hat))
                    go_roundg k3
                    case measure => have := HJ2.out; have := HJ5.out; have := HK3.out; omega
                    case rel => exact ⟨(t149), (t150), (y151), (by first | rfl | (simp; done) | (simp [*]; done)), (by first | rfl | (simp; done) | (simp [*]; done)), H', ⟨by have := HJ2.out; have := HJ5.out; have := HK3.out; omega⟩, ⟨by (with_reducible repeat (first | apply Kd.R_alloc | apply Kd.R_drewN | apply Kd.R_drew)); exact HO153.out⟩, ⟨by repeat (first | (with_reducible first | exact HB.out | apply below_alloc | apply pw_below_drewN | apply below_drew1) | exact HB.out)⟩⟩
                  · rw [if_neg c11] at H
                    exact absurd H (by simp)
                · rw [if_neg c9] at H
                  have c9b0 : decide ((x7_3.length : Int) < t145) = false := decide_eq_false c9
                  clear c9
                  simp only [Option.some.injEq, Prod.mk.injEq] at H
                  obtain ⟨rfl, rfl, rfl⟩ := H
                  obtain ⟨Ao15, co15, eo15⟩ := Kd.R_slice HO_7.out
                  subst eo15
                  go_wp2
                  go_ret3
                  exact ⟨_, by first | rfl | (simp [errW_none, errW_some] <;> rfl) | (simp [*, errW_none, errW_some] <;> rfl), by (with_reducible repeat (first | apply Kd.R_alloc | apply Kd.R_drewN | apply Kd.R_drew)); exact HO_7.out, by repeat (first | (with_reducible first | exact HB.out | apply below_alloc | apply pw_below_drewN | apply below_drew1) | exact HB.out)⟩
              · rw [if_neg c8] at H
                have c8b0 : (x6_3 == 0) = false := beq_eq_false_iff_ne.mpr c8
                have c8b1 : (x6_3 != 0) = true := bne_iff_ne.mpr c8
                simp only [Option.some.injEq, Prod.mk.injEq] at H
                obtain ⟨rfl, rfl, rfl⟩ := H
                go_wp2
                go_ret3
                exact ⟨_, by first | rfl | (simp [errW_none, errW_some] <;> rfl) | (simp [*, errW_none, errW_some] <;> rfl), by first | exact Kd.R_nil _ _ _ _ _ | exact Kd.N_nil _ _ _ _ _ | exact Kd.V_nil _ _ _ _ _ | exact Kd.Q_nil _ _ _ _ _ | exact Kd.S_nil _ _ _ _ _, by repeat (first | (with_reducible first | exact HB.out | apply below_alloc | apply pw_below_drewN | apply below_drew1) | exact HB.out)⟩

/-! ### duetlaw01_live: function 34 -/
def duetlaw01_live.f (k : Nat)  : Option (Bool) := (pack_Num.f k 300).bind fun bt154 => ((pack_Num.f k 247).bind fun bt156 => ((pack_Num.f k (-1)).bind fun bt158 => ((pack_Take.f (⟨#[249, 1, 44, 120]⟩ : ByteArray)).bind fun bt160 => ((pack_Take.f (⟨#[248, 5]⟩ : ByteArray)).bind fun bt163 => ((pack_Text.f k (⟨#[97, 98]⟩ : ByteArray)).bind fun bt166 => ((pack_Cut.f (⟨#[2, 97, 98, 99]⟩ : ByteArray)).bind fun bt168 => ((pack_List.f (([5, 300] : List Int))).bind fun bt174 => ((pack_Each.f k bt174.1).bind fun bt176 => (if bt154.1.toList = ([249, 1, 44] : List UInt8) then (if bt154.2 = 0 then (if bt156.1.toList = ([247] : List UInt8) then (if bt156.2 = 0 then (if bt158.2 = 1 then (if bt160.1 = 300 then (if bt160.2.1.toList = ([120] : List UInt8) then (if bt160.2.2 = 0 then (if bt163.2.2 = 2 then (if bt166.1.toList = ([2, 97, 98] : List UInt8) then (if bt166.2 = 0 then (if bt168.1.toList = ([97, 98] : List UInt8) then (if bt168.2.2 = 0 then (if bt174.1.toList = ([2, 5, 249, 1, 44] : List UInt8) then (if bt174.2 = 0 then ((duetref01_Same.f k bt176.1 (([5, 300] : List Int))).bind fun t184 => (if t184 = true then (some (bt176.2.2 == 0)) else (none))) else (none)) else (none)) else (none)) else (none)) else (none)) else (none)) else (none)) else (none)) else (none)) else (none)) else (none)) else (none)) else (none)) else (none)) else (none))))))))))
theorem duetlaw01_live.mono : ∀ k, LeO (duetlaw01_live.f k ) (duetlaw01_live.f (k + 1) ) := by
  intro  k
  unfold duetlaw01_live.f
  repeat' first
      | (with_reducible exact duetref01_Same.mono _ _ _)
      | (with_reducible exact pack_Each.mono _ _)
      | (with_reducible exact pack_Num.mono _ _)
      | (with_reducible exact pack_Text.mono _ _)
      | (with_reducible exact LeO.refl _)
      | (with_reducible exact LeO.none _)
      | (with_reducible refine LeO.ite ?_ ?_)
      | (with_reducible refine LeO.bind ?_ (fun _ => ?_))
      | exact duetref01_Same.mono _ _ _
      | exact pack_Each.mono _ _
      | exact pack_Num.mono _ _
      | exact pack_Text.mono _ _
      | exact LeO.none _
      | refine LeO.ite ?_ ?_
      | refine LeO.bind ?_ (fun _ => ?_)
set_option maxHeartbeats 8000000 in
set_option maxRecDepth 100000 in
theorem duetlaw01_live.calls (k : Nat)  (r : Bool) (w : World) (h : duetlaw01_live.f k  = some r) :
    Calls Try.prog 34 #[] w fun e w' => e = .returned (.bool r) ∧ Below w.heap.size w w' := by
  have HB := Aside0.mk (Below.refl w.heap.size w)
  have H : ((pack_Num.f k 300).bind fun bt154 => ((pack_Num.f k 247).bind fun bt156 => ((pack_Num.f k (-1)).bind fun bt158 => ((pack_Take.f (⟨#[249, 1, 44, 120]⟩ : ByteArray)).bind fun bt160 => ((pack_Take.f (⟨#[248, 5]⟩ : ByteArray)).bind fun bt163 => ((pack_Text.f k (⟨#[97, 98]⟩ : ByteArray)).bind fun bt166 => ((pack_Cut.f (⟨#[2, 97, 98, 99]⟩ : ByteArray)).bind fun bt168 => ((pack_List.f (([5, 300] : List Int))).bind fun bt174 => ((pack_Each.f k bt174.1).bind fun bt176 => (if bt154.1.toList = ([249, 1, 44] : List UInt8) then (if bt154.2 = 0 then (if bt156.1.toList = ([247] : List UInt8) then (if bt156.2 = 0 then (if bt158.2 = 1 then (if bt160.1 = 300 then (if bt160.2.1.toList = ([120] : List UInt8) then (if bt160.2.2 = 0 then (if bt163.2.2 = 2 then (if bt166.1.toList = ([2, 97, 98] : List UInt8) then (if bt166.2 = 0 then (if bt168.1.toList = ([97, 98] : List UInt8) then (if bt168.2.2 = 0 then (if bt174.1.toList = ([2, 5, 249, 1, 44] : List UInt8) then (if bt174.2 = 0 then ((duetref01_Same.f k bt176.1 (([5, 300] : List Int))).bind fun t184 => (if t184 = true then (some (bt176.2.2 == 0)) else (none))) else (none)) else (none)) else (none)) else (none)) else (none)) else (none)) else (none)) else (none)) else (none)) else (none)) else (none)) else (none)) else (none)) else (none)) else (none))))))))))) = some r := h
  clear h
  replace H := Option.bind_eq_some_iff.mp H
  obtain ⟨⟨t154, t155⟩, A10, H⟩ := H
  replace H : ((pack_Num.f k 247).bind fun bt156 => ((pack_Num.f k (-1)).bind fun bt158 => ((pack_Take.f (⟨#[249, 1, 44, 120]⟩ : ByteArray)).bind fun bt160 => ((pack_Take.f (⟨#[248, 5]⟩ : ByteArray)).bind fun bt163 => ((pack_Text.f k (⟨#[97, 98]⟩ : ByteArray)).bind fun bt166 => ((pack_Cut.f (⟨#[2, 97, 98, 99]⟩ : ByteArray)).bind fun bt168 => ((pack_List.f (([5, 300] : List Int))).bind fun bt174 => ((pack_Each.f k bt174.1).bind fun bt176 => (if t154.toList = ([249, 1, 44] : List UInt8) then (if t155 = 0 then (if bt156.1.toList = ([247] : List UInt8) then (if bt156.2 = 0 then (if bt158.2 = 1 then (if bt160.1 = 300 then (if bt160.2.1.toList = ([120] : List UInt8) then (if bt160.2.2 = 0 then (if bt163.2.2 = 2 then (if bt166.1.toList = ([2, 97, 98] : List UInt8) then (if bt166.2 = 0 then (if bt168.1.toList = ([97, 98] : List UInt8) then (if bt168.2.2 = 0 then (if bt174.1.toList = ([2, 5, 249, 1, 44] : List UInt8) then (if bt174.2 = 0 then ((duetref01_Same.f k bt176.1 (([5, 300] : List Int))).bind fun t184 => (if t184 = true then (some (bt176.2.2 == 0)) else (none))) else (none)) else (none)) else (none)) else (none)) else (none)) else (none)) else (none)) else (none)) else (none)) else (none)) else (none)) else (none)) else (none)) else (none)) else (none)))))))))) = some r := H
  have A1 := Aside0.mk A10
  clear A10
  replace H := Option.bind_eq_some_iff.mp H
  obtain ⟨⟨t156, t157⟩, A20, H⟩ := H
  replace H : ((pack_Num.f k (-1)).bind fun bt158 => ((pack_Take.f (⟨#[249, 1, 44, 120]⟩ : ByteArray)).bind fun bt160 => ((pack_Take.f (⟨#[248, 5]⟩ : ByteArray)).bind fun bt163 => ((pack_Text.f k (⟨#[97, 98]⟩ : ByteArray)).bind fun bt166 => ((pack_Cut.f (⟨#[2, 97, 98, 99]⟩ : ByteArray)).bind fun bt168 => ((pack_List.f (([5, 300] : List Int))).bind fun bt174 => ((pack_Each.f k bt174.1).bind fun bt176 => (if t154.toList = ([249, 1, 44] : List UInt8) then (if t155 = 0 then (if t156.toList = ([247] : List UInt8) then (if t157 = 0 then (if bt158.2 = 1 then (if bt160.1 = 300 then (if bt160.2.1.toList = ([120] : List UInt8) then (if bt160.2.2 = 0 then (if bt163.2.2 = 2 then (if bt166.1.toList = ([2, 97, 98] : List UInt8) then (if bt166.2 = 0 then (if bt168.1.toList = ([97, 98] : List UInt8) then (if bt168.2.2 = 0 then (if bt174.1.toList = ([2, 5, 249, 1, 44] : List UInt8) then (if bt174.2 = 0 then ((duetref01_Same.f k bt176.1 (([5, 300] : List Int))).bind fun t184 => (if t184 = true then (some (bt176.2.2 == 0)) else (none))) else (none)) else (none)) else (none)) else (none)) else (none)) else (none)) else (none)) else (none)) else (none)) else (none)) else (none)) else (none)) else (none)) else (none)) else (none))))))))) = some r := H
  have A2 := Aside0.mk A20
  clear A20
  replace H := Option.bind_eq_some_iff.mp H
  obtain ⟨⟨t158, t159⟩, A30, H⟩ := H
  replace H : ((pack_Take.f (⟨#[249, 1, 44, 120]⟩ : ByteArray)).bind fun bt160 => ((pack_Take.f (⟨#[248, 5]⟩ : ByteArray)).bind fun bt163 => ((pack_Text.f k (⟨#[97, 98]⟩ : ByteArray)).bind fun bt166 => ((pack_Cut.f (⟨#[2, 97, 98, 99]⟩ : ByteArray)).bind fun bt168 => ((pack_List.f (([5, 300] : List Int))).bind fun bt174 => ((pack_Each.f k bt174.1).bind fun bt176 => (if t154.toList = ([249, 1, 44] : List UInt8) then (if t155 = 0 then (if t156.toList = ([247] : List UInt8) then (if t157 = 0 then (if t159 = 1 then (if bt160.1 = 300 then (if bt160.2.1.toList = ([120] : List UInt8) then (if bt160.2.2 = 0 then (if bt163.2.2 = 2 then (if bt166.1.toList = ([2, 97, 98] : List UInt8) then (if bt166.2 = 0 then (if bt168.1.toList = ([97, 98] : List UInt8) then (if bt168.2.2 = 0 then (if bt174.1.toList = ([2, 5, 249, 1, 44] : List UInt8) then (if bt174.2 = 0 then ((duetref01_Same.f k bt176.1 (([5, 300] : List Int))).bind fun t184 => (if t184 = true then (some (bt176.2.2 == 0)) else (none))) else (none)) else (none)) else (none)) else (none)) else (none)) else (none)) else (none)) else (none)) else (none)) else (none)) else (none)) else (none)) else (none)) else (none)) else (none)))))))) = some r := H
  have A3 := Aside0.mk A30
  clear A30
  replace H := Option.bind_eq_some_iff.mp H
  obtain ⟨⟨t160, t161, t162⟩, A40, H⟩ := H
  replace H : ((pack_Take.f (⟨#[248, 5]⟩ : ByteArray)).bind fun bt163 => ((pack_Text.f k (⟨#[97, 98]⟩ : ByteArray)).bind fun bt166 => ((pack_Cut.f (⟨#[2, 97, 98, 99]⟩ : ByteArray)).bind fun bt168 => ((pack_List.f (([5, 300] : List Int))).bind fun bt174 => ((pack_Each.f k bt174.1).bind fun bt176 => (if t154.toList = ([249, 1, 44] : List UInt8) then (if t155 = 0 then (if t156.toList = ([247] : List UInt8) then (if t157 = 0 then (if t159 = 1 then (if t160 = 300 then (if t161.toList = ([120] : List UInt8) then (if t162 = 0 then (if bt163.2.2 = 2 then (if bt166.1.toList = ([2, 97, 98] : List UInt8) then (if bt166.2 = 0 then (if bt168.1.toList = ([97, 98] : List UInt8) then (if bt168.2.2 = 0 then (if bt174.1.toList = ([2, 5, 249, 1, 44] : List UInt8) then (if bt174.2 = 0 then ((duetref01_Same.f k bt176.1 (([5, 300] : List Int))).bind fun t184 => (if t184 = true then (some (bt176.2.2 == 0)) else (none))) else (none)) else (none)) else (none)) else (none)) else (none)) else (none)) else (none)) else (none)) else (none)) else (none)) else (none)) else (none)) else (none)) else (none)) else (none))))))) = some r := H
  have A4 := Aside0.mk A40
  clear A40
  replace H := Option.bind_eq_some_iff.mp H
  obtain ⟨⟨t163, t164, t165⟩, A50, H⟩ := H
  replace H : ((pack_Text.f k (⟨#[97, 98]⟩ : ByteArray)).bind fun bt166 => ((pack_Cut.f (⟨#[2, 97, 98, 99]⟩ : ByteArray)).bind fun bt168 => ((pack_List.f (([5, 300] : List Int))).bind fun bt174 => ((pack_Each.f k bt174.1).bind fun bt176 => (if t154.toList = ([249, 1, 44] : List UInt8) then (if t155 = 0 then (if t156.toList = ([247] : List UInt8) then (if t157 = 0 then (if t159 = 1 then (if t160 = 300 then (if t161.toList = ([120] : List UInt8) then (if t162 = 0 then (if t165 = 2 then (if bt166.1.toList = ([2, 97, 98] : List UInt8) then (if bt166.2 = 0 then (if bt168.1.toList = ([97, 98] : List UInt8) then (if bt168.2.2 = 0 then (if bt174.1.toList = ([2, 5, 249, 1, 44] : List UInt8) then (if bt174.2 = 0 then ((duetref01_Same.f k bt176.1 (([5, 300] : List Int))).bind fun t184 => (if t184 = true then (some (bt176.2.2 == 0)) else (none))) else (none)) else (none)) else (none)) else (none)) else (none)) else (none)) else (none)) else (none)) else (none)) else (none)) else (none)) else (none)) else (none)) else (none)) else (none)))))) = some r := H
  have A5 := Aside0.mk A50
  clear A50
  replace H := Option.bind_eq_some_iff.mp H
  obtain ⟨⟨t166, t167⟩, A60, H⟩ := H
  replace H : ((pack_Cut.f (⟨#[2, 97, 98, 99]⟩ : ByteArray)).bind fun bt168 => ((pack_List.f (([5, 300] : List Int))).bind fun bt174 => ((pack_Each.f k bt174.1).bind fun bt176 => (if t154.toList = ([249, 1, 44] : List UInt8) then (if t155 = 0 then (if t156.toList = ([247] : List UInt8) then (if t157 = 0 then (if t159 = 1 then (if t160 = 300 then (if t161.toList = ([120] : List UInt8) then (if t162 = 0 then (if t165 = 2 then (if t166.toList = ([2, 97, 98] : List UInt8) then (if t167 = 0 then (if bt168.1.toList = ([97, 98] : List UInt8) then (if bt168.2.2 = 0 then (if bt174.1.toList = ([2, 5, 249, 1, 44] : List UInt8) then (if bt174.2 = 0 then ((duetref01_Same.f k bt176.1 (([5, 300] : List Int))).bind fun t184 => (if t184 = true then (some (bt176.2.2 == 0)) else (none))) else (none)) else (none)) else (none)) else (none)) else (none)) else (none)) else (none)) else (none)) else (none)) else (none)) else (none)) else (none)) else (none)) else (none)) else (none))))) = some r := H
  have A6 := Aside0.mk A60
  clear A60
  replace H := Option.bind_eq_some_iff.mp H
  obtain ⟨⟨t168, t169, t170⟩, A70, H⟩ := H
  replace H : ((pack_List.f (([5, 300] : List Int))).bind fun bt174 => ((pack_Each.f k bt174.1).bind fun bt176 => (if t154.toList = ([249, 1, 44] : List UInt8) then (if t155 = 0 then (if t156.toList = ([247] : List UInt8) then (if t157 = 0 then (if t159 = 1 then (if t160 = 300 then (if t161.toList = ([120] : List UInt8) then (if t162 = 0 then (if t165 = 2 then (if t166.toList = ([2, 97, 98] : List UInt8) then (if t167 = 0 then (if t168.toList = ([97, 98] : List UInt8) then (if t170 = 0 then (if bt174.1.toList = ([2, 5, 249, 1, 44] : List UInt8) then (if bt174.2 = 0 then ((duetref01_Same.f k bt176.1 (([5, 300] : List Int))).bind fun t184 => (if t184 = true then (some (bt176.2.2 == 0)) else (none))) else (none)) else (none)) else (none)) else (none)) else (none)) else (none)) else (none)) else (none)) else (none)) else (none)) else (none)) else (none)) else (none)) else (none)) else (none)))) = some r := H
  have A7 := Aside0.mk A70
  clear A70
  obtain ⟨y171, hy171⟩ : ∃ y_ : List Int, y_ = (([5, 300] : List Int)) := ⟨_, rfl⟩
  replace H : ((pack_List.f y171).bind fun bt174 => ((pack_Each.f k bt174.1).bind fun bt176 => (if t154.toList = ([249, 1, 44] : List UInt8) then (if t155 = 0 then (if t156.toList = ([247] : List UInt8) then (if t157 = 0 then (if t159 = 1 then (if t160 = 300 then (if t161.toList = ([120] : List UInt8) then (if t162 = 0 then (if t165 = 2 then (if t166.toList = ([2, 97, 98] : List UInt8) then (if t167 = 0 then (if t168.toList = ([97, 98] : List UInt8) then (if t170 = 0 then (if bt174.1.toList = ([2, 5, 249, 1, 44] : List UInt8) then (if bt174.2 = 0 then ((duetref01_Same.f k bt176.1 (([5, 300] : List Int))).bind fun t184 => (if t184 = true then (some (bt176.2.2 == 0)) else (none))) else (none)) else (none)) else (none)) else (none)) else (none)) else (none)) else (none)) else (none)) else (none)) else (none)) else (none)) else (none)) else (none)) else (none)) else (none)))) = some r := by first | (rw [hy171]; with_reducible exact H) | (have H2_ := (Option.bind_some _ _).symm.trans H; rw [hy171]; with_reducible exact H2_) | (have H2_ := (Option.bind_some _ _).symm.trans H; with_reducible exact H2_) | with_reducible exact H | (rw [hy171]; exact H) | exact H
  have Ny171 := Aside0.mk hy171
  clear hy171
  replace H := Option.bind_eq_some_iff.mp H
  obtain ⟨⟨t174, t175⟩, A80, H⟩ := H
  replace H : ((pack_Each.f k t174).bind fun bt176 => (if t154.toList = ([249, 1, 44] : List UInt8) then (if t155 = 0 then (if t156.toList = ([247] : List UInt8) then (if t157 = 0 then (if t159 = 1 then (if t160 = 300 then (if t161.toList = ([120] : List UInt8) then (if t162 = 0 then (if t165 = 2 then (if t166.toList = ([2, 97, 98] : List UInt8) then (if t167 = 0 then (if t168.toList = ([97, 98] : List UInt8) then (if t170 = 0 then (if t174.toList = ([2, 5, 249, 1, 44] : List UInt8) then (if t175 = 0 then ((duetref01_Same.f k bt176.1 (([5, 300] : List Int))).bind fun t184 => (if t184 = true then (some (bt176.2.2 == 0)) else (none))) else (none)) else (none)) else (none)) else (none)) else (none)) else (none)) else (none)) else (none)) else (none)) else (none)) else (none)) else (none)) else (none)) else (none)) else (none))) = some r := H
  have A8 := Aside0.mk A80
  clear A80
  replace H := Option.bind_eq_some_iff.mp H
  obtain ⟨⟨t176, t177, t178⟩, A90, H⟩ := H
  replace H : (if t154.toList = ([249, 1, 44] : List UInt8) then (if t155 = 0 then (if t156.toList = ([247] : List UInt8) then (if t157 = 0 then (if t159 = 1 then (if t160 = 300 then (if t161.toList = ([120] : List UInt8) then (if t162 = 0 then (if t165 = 2 then (if t166.toList = ([2, 97, 98] : List UInt8) then (if t167 = 0 then (if t168.toList = ([97, 98] : List UInt8) then (if t170 = 0 then (if t174.toList = ([2, 5, 249, 1, 44] : List UInt8) then (if t175 = 0 then ((duetref01_Same.f k t176 (([5, 300] : List Int))).bind fun t184 => (if t184 = true then (some (t178 == 0)) else (none))) else (none)) else (none)) else (none)) else (none)) else (none)) else (none)) else (none)) else (none)) else (none)) else (none)) else (none)) else (none)) else (none)) else (none)) else (none)) = some r := H
  have A9 := Aside0.mk A90
  clear A90
  by_cases c10 : t154.toList = ([249, 1, 44] : List UInt8)
  · rw [if_pos c10] at H
    have c10b0 : (t154.toList == ([249, 1, 44] : List UInt8)) = true := beq_iff_eq.mpr c10
    have c10b1 : (t154.toList != ([249, 1, 44] : List UInt8)) = false := bne_eq_false_iff_eq.mpr c10
    clear c10
    by_cases c11 : t155 = 0
    · rw [if_pos c11] at H
      have c11b0 : (t155 == 0) = true := beq_iff_eq.mpr c11
      have c11b1 : (t155 != 0) = false := bne_eq_false_iff_eq.mpr c11
      clear c11
      by_cases c12 : t156.toList = ([247] : List UInt8)
      · rw [if_pos c12] at H
        have c12b0 : (t156.toList == ([247] : List UInt8)) = true := beq_iff_eq.mpr c12
        have c12b1 : (t156.toList != ([247] : List UInt8)) = false := bne_eq_false_iff_eq.mpr c12
        clear c12
        by_cases c13 : t157 = 0
        · rw [if_pos c13] at H
          have c13b0 : (t157 == 0) = true := beq_iff_eq.mpr c13
          have c13b1 : (t157 != 0) = false := bne_eq_false_iff_eq.mpr c13
          clear c13
          by_cases c14 : t159 = 1
          · rw [if_pos c14] at H
            have c14b0 : (t159 == 1) = true := beq_iff_eq.mpr c14
            have c14b1 : (t159 != 1) = false := bne_eq_false_iff_eq.mpr c14
            clear c14
            by_cases c15 : t160 = 300
            · rw [if_pos c15] at H
              have c15b0 : (t160 == 300) = true := beq_iff_eq.mpr c15
              have c15b1 : (t160 != 300) = false := bne_eq_false_iff_eq.mpr c15
              clear c15
              by_cases c16 : t161.toList = ([120] : List UInt8)
              · rw [if_pos c16] at H
                have c16b0 : (t161.toList == ([120] : List UInt8)) = true := beq_iff_eq.mpr c16
                have c16b1 : (t161.toList != ([120] : List UInt8)) = false := bne_eq_false_iff_eq.mpr c16
                clear c16
                by_cases c17 : t162 = 0
                · rw [if_pos c17] at H
                  have c17b0 : (t162 == 0) = true := beq_iff_eq.mpr c17
                  have c17b1 : (t162 != 0) = false := bne_eq_false_iff_eq.mpr c17
                  clear c17
                  by_cases c18 : t165 = 2
                  · rw [if_pos c18] at H
                    have c18b0 : (t165 == 2) = true := beq_iff_eq.mpr c18
                    have c18b1 : (t165 != 2) = false := bne_eq_false_iff_eq.mpr c18
                    clear c18
                    by_cases c19 : t166.toList = ([2, 97, 98] : List UInt8)
                    · rw [if_pos c19] at H
                      have c19b0 : (t166.toList == ([2, 97, 98] : List UInt8)) = true := beq_iff_eq.mpr c19
                      have c19b1 : (t166.toList != ([2, 97, 98] : List UInt8)) = false := bne_eq_false_iff_eq.mpr c19
                      clear c19
                      by_cases c20 : t167 = 0
                      · rw [if_pos c20] at H
                        have c20b0 : (t167 == 0) = true := beq_iff_eq.mpr c20
                        have c20b1 : (t167 != 0) = false := bne_eq_false_iff_eq.mpr c20
                        clear c20
                        by_cases c21 : t168.toList = ([97, 98] : List UInt8)
                        · rw [if_pos c21] at H
                          have c21b0 : (t168.toList == ([97, 98] : List UInt8)) = true := beq_iff_eq.mpr c21
                          have c21b1 : (t168.toList != ([97, 98] : List UInt8)) = false := bne_eq_false_iff_eq.mpr c21
                          clear c21
                          by_cases c22 : t170 = 0
                          · rw [if_pos c22] at H
                            have c22b0 : (t170 == 0) = true := beq_iff_eq.mpr c22
                            have c22b1 : (t170 != 0) = false := bne_eq_false_iff_eq.mpr c22
                            clear c22
                            by_cases c23 : t174.toList = ([2, 5, 249, 1, 44] : List UInt8)
                            · rw [if_pos c23] at H
                              have c23b0 : (t174.toList == ([2, 5, 249, 1, 44] : List UInt8)) = true := beq_iff_eq.mpr c23
                              have c23b1 : (t174.toList != ([2, 5, 249, 1, 44] : List UInt8)) = false := bne_eq_false_iff_eq.mpr c23
                              clear c23
                              by_cases c24 : t175 = 0
                              · rw [if_pos c24] at H
                                have c24b0 : (t175 == 0) = true := beq_iff_eq.mpr c24
                                have c24b1 : (t175 != 0) = false := bne_eq_false_iff_eq.mpr c24
                                clear c24
                                obtain ⟨y181, hy181⟩ : ∃ y_ : List Int, y_ = (([5, 300] : List Int)) := ⟨_, rfl⟩
                                replace H : ((duetref01_Same.f k t176 y181).bind fun t184 => (if t184 = true then (some (t178 == 0)) else (none))) = some r := by first | (rw [hy181]; with_reducible exact H) | (have H2_ := (Option.bind_some _ _).symm.trans H; rw [hy181]; with_reducible exact H2_) | (have H2_ := (Option.bind_some _ _).symm.trans H; with_reducible exact H2_) | with_reducible exact H | (rw [hy181]; exact H) | exact H
                                have Ny181 := Aside0.mk hy181
                                clear hy181
                                replace H := Option.bind_eq_some_iff.mp H
                                obtain ⟨t184, A250, H⟩ := H
                                replace H : (if t184 = true then (some (t178 == 0)) else (none)) = some r := H
                                have A25 := Aside0.mk A250
                                clear A250
                                by_cases c26 : t184 = true
                                · subst c26
                                  have H1 : (some (t178 == 0)) = some r := by rw [if_pos rfl] at H; exact H
                                  clear H
                                  have H := H1
                                  clear H1
                                  obtain rfl := Option.some.inj H
                                  go_enter Try.func34, Try.ntmps34
                                  go_wp2_with (first | ((with_reducible refine gate_callee (f := 35) rfl ?_); refine goesL_ (some 24) rfl rfl Try.func35 (by kernel_rfl) rfl #[.int .i64 300] rfl (by (try simp only [List.map_toArray, List.map_cons, List.map_nil]); first | done | rfl | (simp only [List.length_drop, List.length_take]; rfl)) ?_; (with_reducible refine (pack_Num.calls k 300 t154 t155 _ A1.out).mono ?_); rintro e w27 ⟨rfl, hb⟩; refine ⟨_, rfl, ?_⟩; have n0_ := Aside0.mk (below_step (by repeat (first | (with_reducible first | exact HB.out | apply below_alloc | apply pw_below_drewN | apply below_drew1) | exact HB.out)) hb); clear HB; have HB := n0_; clear n0_; (try clear hb); (try clear hb2); (try clear hk); (try clear hi)) | ((with_reducible refine gate_callee (f := 35) rfl ?_); refine goesL_ (some 28) rfl rfl Try.func35 (by kernel_rfl) rfl #[.int .i64 247] rfl (by (try simp only [List.map_toArray, List.map_cons, List.map_nil]); first | done | rfl | (simp only [List.length_drop, List.length_take]; rfl)) ?_; (with_reducible refine (pack_Num.calls k 247 t156 t157 _ A2.out).mono ?_); rintro e w28 ⟨rfl, hb⟩; refine ⟨_, rfl, ?_⟩; have n0_ := Aside0.mk (below_step (by repeat (first | (with_reducible first | exact HB.out | apply below_alloc | apply pw_below_drewN | apply below_drew1) | exact HB.out)) hb); clear HB; have HB := n0_; clear n0_; (try clear hb); (try clear hb2); (try clear hk); (try clear hi)) | ((with_reducible refine gate_callee (f := 35) rfl ?_); refine goesL_ (some 32) rfl rfl Try.func35 (by kernel_rfl) rfl #[.int .i64 (-1)] rfl (by (try simp only [List.map_toArray, List.map_cons, List.map_nil]); first | done | rfl | (simp only [List.length_drop, List.length_take]; rfl)) ?_; (with_reducible refine (pack_Num.calls k (-1) t158 t159 _ A3.out).mono ?_); rintro e w29 ⟨rfl, hb⟩; refine ⟨_, rfl, ?_⟩; have n0_ := Aside0.mk (below_step (by repeat (first | (with_reducible first | exact HB.out | apply below_alloc | apply pw_below_drewN | apply below_drew1) | exact HB.out)) hb); clear HB; have HB := n0_; clear n0_; (try clear hb); (try clear hb2); (try clear hk); (try clear hi)) | ((with_reducible refine gate_callee (f := 41) rfl ?_); refine goesL_ (some 36) rfl rfl Try.func41 (by kernel_rfl) rfl #[.string (⟨#[249, 1, 44, 120]⟩ : ByteArray)] rfl (by (try simp only [List.map_toArray, List.map_cons, List.map_nil]); first | done | rfl | (simp only [List.length_drop, List.length_take]; rfl)) ?_; (with_reducible refine (pack_Take.calls (⟨#[249, 1, 44, 120]⟩ : ByteArray) t160 t161 t162 _ A4.out).mono ?_); rintro e w30 ⟨rfl, hb⟩; refine ⟨_, rfl, ?_⟩; have n0_ := Aside0.mk (below_step (by repeat (first | (with_reducible first | exact HB.out | apply below_alloc | apply pw_below_drewN | apply below_drew1) | exact HB.out)) hb); clear HB; have HB := n0_; clear n0_; (try clear hb); (try clear hb2); (try clear hk); (try clear hi)) | ((with_reducible refine gate_callee (f := 41) rfl ?_); refine goesL_ (some 41) rfl rfl Try.func41 (by kernel_rfl) rfl #[.string (⟨#[248, 5]⟩ : ByteArray)] rfl (by (try simp only [List.map_toArray, List.map_cons, List.map_nil]); first | done | rfl | (simp only [List.length_drop, List.length_take]; rfl)) ?_; (with_reducible refine (pack_Take.calls (⟨#[248, 5]⟩ : ByteArray) t163 t164 t165 _ A5.out).mono ?_); rintro e w31 ⟨rfl, hb⟩; refine ⟨_, rfl, ?_⟩; have n0_ := Aside0.mk (below_step (by repeat (first | (with_reducible first | exact HB.out | apply below_alloc | apply pw_below_drewN | apply below_drew1) | exact HB.out)) hb); clear HB; have HB := n0_; clear n0_; (try clear hb); (try clear hb2); (try clear hk); (try clear hi)) | ((with_reducible refine gate_callee (f := 37) rfl ?_); refine goesL_ (some 46) rfl rfl Try.func37 (by kernel_rfl) rfl #[.string (⟨#[97, 98]⟩ : ByteArray)] rfl (by (try simp only [List.map_toArray, List.map_cons, List.map_nil]); first | done | rfl | (simp only [List.length_drop, List.length_take]; rfl)) ?_; (with_reducible refine (pack_Text.calls k (⟨#[97, 98]⟩ : ByteArray) t166 t167 _ A6.out).mono ?_); rintro e w32 ⟨rfl, hb⟩; refine ⟨_, rfl, ?_⟩; have n0_ := Aside0.mk (below_step (by repeat (first | (with_reducible first | exact HB.out | apply below_alloc | apply pw_below_drewN | apply below_drew1) | exact HB.out)) hb); clear HB; have HB := n0_; clear n0_; (try clear hb); (try clear hb2); (try clear hk); (try clear hi)) | ((with_reducible refine gate_callee (f := 43) rfl ?_); refine goesL_ (some 50) rfl rfl Try.func43 (by kernel_rfl) rfl #[.string (⟨#[2, 97, 98, 99]⟩ : ByteArray)] rfl (by (try simp only [List.map_toArray, List.map_cons, List.map_nil]); first | done | rfl | (simp only [List.length_drop, List.length_take]; rfl)) ?_; (with_reducible refine (pack_Cut.calls (⟨#[2, 97, 98, 99]⟩ : ByteArray) t168 t169 t170 _ A7.out).mono ?_); rintro e w33 ⟨rfl, hb⟩; refine ⟨_, rfl, ?_⟩; have n0_ := Aside0.mk (below_step (by repeat (first | (with_reducible first | exact HB.out | apply below_alloc | apply pw_below_drewN | apply below_drew1) | exact HB.out)) hb); clear HB; have HB := n0_; clear n0_; (try clear hb); (try clear hb2); (try clear hk); (try clear hi)) | ((with_reducible refine gate_dst (N := 55) rfl ?_); (try (refine gate_guard (by rfl) ?_; dsimp only)); refine Kd.R_lit (Kd.int .i64) _ 3 ?hg (N := 55) ?hd (xs := ([5, 300] : List Int)) (inner := [.int .i64 5, .int .i64 300]) (ok := fun _ => True) (okp := fun _ => True) ?hr ?hp (fun _ hk => hk) trivial (Below.refl _ _) (Nat.le_refl _) (by simp) ?_; (case hd => rfl); (case hg => rfl); (case hr => first | (go_simp; done) | (go_simp; rfl)); (case hp => exact (Reps.one (show Kd.M (Kd.int .i64) _ _ _ 5 [.int .i64 5] from rfl) (Reps.one (show Kd.M (Kd.int .i64) _ _ _ 300 [.int .i64 300] from rfl) (Reps.none _ _)))); intro v172 w34 ho35 hb hg_ hnew_; clear hg_ hnew_; (first | rw [← Ny171.out] at ho35 | (simp only [Int.reduceToNat] at ho35; rw [← Ny171.out] at ho35)); have n0_ := Aside0.mk (Kd.R_lower ho35 (below_size (by repeat (first | (with_reducible first | exact HB.out | apply below_alloc | apply pw_below_drewN | apply below_drew1) | exact HB.out)))); have n1_ := Aside0.mk (below_step (by repeat (first | (with_reducible first | exact HB.out | apply below_alloc | apply pw_below_drewN | apply below_drew1) | exact HB.out)) hb); clear HB; have HO173 := n0_; have HB := n1_; clear n0_ n1_; clear hb ho35; obtain ⟨Ao36, co36, eo36⟩ := Kd.R_slice HO173.out; subst eo36) | ((with_reducible refine gate_callee (f := 39) rfl ?_); refine goesL_ (some 56) rfl rfl Try.func39 (by kernel_rfl) rfl #[.slice Ao36 y171.length co36] rfl (by (try simp only [List.map_toArray, List.map_cons, List.map_nil]); first | done | rfl | (simp only [List.length_drop, List.length_take]; rfl)) ?_; (with_reducible refine (pack_List.calls _ _ y171 t174 t175 _ ?side1 ?side2 A8.out).mono ?_); (case side1 => repeat (first | exact (Kd.R_reads' HO173.out).2.2 | (with_reducible refine Kd.C_alloc ?_ _) | (with_reducible refine Kd.C_drewN ?_ _) | (with_reducible refine Kd.C_drew ?_))); (case side2 => exact (Kd.R_reads' HO173.out).2.1); rintro e w37 ⟨rfl, hb⟩; refine ⟨_, rfl, ?_⟩; have n0_ := Aside0.mk (Kd.R_below (by (with_reducible repeat (first | apply Kd.R_alloc | apply Kd.R_drewN | apply Kd.R_drew)); exact HO173.out) hb); have n1_ := Aside0.mk (below_step (by repeat (first | (with_reducible first | exact HB.out | apply below_alloc | apply pw_below_drewN | apply below_drew1) | exact HB.out)) hb); clear HO173; clear HB; have HO173 := n0_; have HB := n1_; clear n0_ n1_; (try clear hb); (try clear hb2); (try clear hk); (try clear hi)) | ((with_reducible refine gate_callee (f := 45) rfl ?_); refine goesL_ (some 61) rfl rfl Try.func45 (by kernel_rfl) rfl #[.string t174] rfl (by (try simp only [List.map_toArray, List.map_cons, List.map_nil]); first | done | rfl | (simp only [List.length_drop, List.length_take]; rfl)) ?_; (with_reducible refine (pack_Each.calls k t174 t176 t177 t178 _ A9.out).mono ?_); rintro e w38 ⟨v179, rfl, ho0, hb⟩; refine ⟨_, rfl, ?_⟩; have n0_ := Aside0.mk (Kd.R_elder' (by (with_reducible repeat (first | apply Kd.R_alloc | apply Kd.R_drewN | apply Kd.R_drew)); exact HO173.out) (Kd.R_base ho0) hb); have n1_ := Aside0.mk (Kd.R_lower (Kd.R_new' ho0 (Kd.R_lt (by (with_reducible repeat (first | apply Kd.R_alloc | apply Kd.R_drewN | apply Kd.R_drew)); exact HO173.out))) (below_size (by repeat (first | (with_reducible first | exact HB.out | apply below_alloc | apply pw_below_drewN | apply below_drew1) | exact HB.out)))); have n2_ := Aside0.mk (below_step (by repeat (first | (with_reducible first | exact HB.out | apply below_alloc | apply pw_below_drewN | apply below_drew1) | exact HB.out)) hb); clear HO173; clear HB; have HO173 := n0_; have HO180 := n1_; have HB := n2_; clear n0_ n1_ n2_; (try clear hb); (try clear hb2); (try clear hk); (try clear hi); (try clear ho0)) | ((with_reducible refine gate_dst (N := 125) rfl ?_); (try (refine gate_guard (by rfl) ?_; dsimp only)); refine Kd.R_lit (Kd.int .i64) _ 3 ?hg (N := 125) ?hd (xs := ([5, 300] : List Int)) (inner := [.int .i64 5, .int .i64 300]) (ok := fun _ => True) (okp := fun _ => True) ?hr ?hp (fun _ hk => hk) trivial (Below.refl _ _) (Nat.le_refl _) (by simp) ?_; (case hd => rfl); (case hg => rfl); (case hr => first | (go_simp; done) | (go_simp; rfl)); (case hp => exact (Reps.one (show Kd.M (Kd.int .i64) _ _ _ 5 [.int .i64 5] from rfl) (Reps.one (show Kd.M (Kd.int .i64) _ _ _ 300 [.int .i64 300] from rfl) (Reps.none _ _)))); intro v182 w39 ho40 hb hg_ hnew_; clear hg_ hnew_; (first | rw [← Ny181.out] at ho40 | (simp only [Int.reduceToNat] at ho40; rw [← Ny181.out] at ho40)); have n0_ := Aside0.mk (Kd.R_elder' (by (with_reducible repeat (first | apply Kd.R_alloc | apply Kd.R_drewN | apply Kd.R_drew)); exact HO173.out) (Kd.R_base ho40) hb); have n1_ := Aside0.mk (Kd.R_elder' (by (with_reducible repeat (first | apply Kd.R_alloc | apply Kd.R_drewN | apply Kd.R_drew)); exact HO180.out) (Kd.R_base ho40) hb); have n2_ := Aside0.mk (Kd.R_lower (Kd.R_new' (Kd.R_new' ho40 (Kd.R_lt (by (with_reducible repeat (first | apply Kd.R_alloc | apply Kd.R_drewN | apply Kd.R_drew)); exact HO173.out))) (Kd.R_lt (by (with_reducible repeat (first | apply Kd.R_alloc | apply Kd.R_drewN | apply Kd.R_drew)); exact HO180.out))) (below_size (by repeat (first | (with_reducible first | exact HB.out | apply below_alloc | apply pw_below_drewN | apply below_drew1) | exact HB.out)))); have n3_ := Aside0.mk (below_step (by repeat (first | (with_reducible first | exact HB.out | apply below_alloc | apply pw_below_drewN | apply below_drew1) | exact HB.out)) hb); clear HO173; clear HO180; clear HB; have HO173 := n0_; have HO180 := n1_; have HO183 := n2_; have HB := n3_; clear n0_ n1_ n2_ n3_; clear hb ho40; obtain ⟨Ao41, co41, eo41⟩ := Kd.R_slice HO180.out; subst eo41; obtain ⟨Ao42, co42, eo42⟩ := Kd.R_slice HO183.out; subst eo42) | (go_at_call 24; (with_reducible refine (duetref01_Same.calls k _ _ t176 _ _ y181 true _ ?side1 ?side2 ?side3 ?side4 A25.out).mono ?_); (case side1 => repeat (first | exact (Kd.R_reads' HO180.out).2.2 | (with_reducible refine Kd.C_alloc ?_ _) | (with_reducible refine Kd.C_drewN ?_ _) | (with_reducible refine Kd.C_drew ?_))); (case side2 => exact (Kd.R_reads' HO180.out).2.1); (case side3 => repeat (first | exact (Kd.R_reads' HO183.out).2.2 | (with_reducible refine Kd.C_alloc ?_ _) | (with_reducible refine Kd.C_drewN ?_ _) | (with_reducible refine Kd.C_drew ?_))); (case side4 => exact (Kd.R_reads' HO183.out).2.1); rintro e w' ⟨rfl, ⟨nd, rfl⟩⟩))
                                  go_ret
                                  exact ⟨by first | rfl | (simp [errW_none, errW_some] <;> rfl) | (simp [*, errW_none, errW_some] <;> rfl), by repeat (first | (with_reducible first | exact HB.out | apply below_alloc | apply pw_below_drewN | apply below_drew1) | exact HB.out)⟩
                                · replace c26 := Bool.eq_false_iff.mpr c26
                                  subst c26
                                  have H1 : (none) = some r := by rw [if_neg (show ¬ (false = true) by decide)] at H; exact H
                                  clear H
                                  have H := H1
                                  clear H1
                                  exact absurd H (by simp)
                              · rw [if_neg c24] at H
                                exact absurd H (by simp)
                            · rw [if_neg c23] at H
                              exact absurd H (by simp)
                          · rw [if_neg c22] at H
                            exact absurd H (by simp)
                        · rw [if_neg c21] at H
                          exact absurd H (by simp)
                      · rw [if_neg c20] at H
                        exact absurd H (by simp)
                    · rw [if_neg c19] at H
                      exact absurd H (by simp)
                  · rw [if_neg c18] at H
                    exact absurd H (by simp)
                · rw [if_neg c17] at H
                  exact absurd H (by simp)
              · rw [if_neg c16] at H
                exact absurd H (by simp)
            · rw [if_neg c15] at H
              exact absurd H (by simp)
          · rw [if_neg c14] at H
            exact absurd H (by simp)
        · rw [if_neg c13] at H
          exact absurd H (by simp)
      · rw [if_neg c12] at H
        exact absurd H (by simp)
    · rw [if_neg c11] at H
      exact absurd H (by simp)
  · rw [if_neg c10] at H
    exact absurd H (by simp)

/-! ### duetref01_Num: function 36 -/
mutual
def duetref01_Num.j0 : Nat → Int → Bool → Option (ByteArray × Int)
  | 0, _, _ => none
  | k + 1, x0, x10 => if x10 = true then (some ((⟨#[]⟩ : ByteArray), 1)) else (if x0 < 248 then (some (strOfNums (([(x0) % 256] : List Int)), 0)) else (duetref01_Num.l0 k (([(wrap64 (Int.tdiv x0 16777216)) % 256, (Int.tmod (wrap64 (Int.tdiv x0 65536)) 256) % 256, (Int.tmod (wrap64 (Int.tdiv x0 256)) 256) % 256, (Int.tmod x0 256) % 256] : List Int))))
def duetref01_Num.l0 : Nat → List Int → Option (ByteArray × Int)
  | 0, _ => none
  | k + 1, x4 => if 0 < (x4.length : Int) then (if (rd x4 0) = 0 then (if 1 ≤ (x4.length : Int) then (duetref01_Num.l0 k (x4.drop (1 : Int).toNat)) else (none)) else ((some (([(wrap64 (247 + (x4.length : Int))) % 256] : List Int) : List Int)).bind fun y195 => (if (strOfNums y195).size + (strOfNums x4).size ≤ 9223372036854775807 then (some ((strOfNums y195) ++ (strOfNums x4), 0)) else (none)))) else (none)
end
def duetref01_Num.f (k : Nat) (a0 : Int) : Option (ByteArray × Int) := if a0 < 0 then (duetref01_Num.j0 k a0 true) else (duetref01_Num.j0 k a0 (decide (a0 > 4294967295)))
theorem duetref01_Num.mono_l : ∀ k, (∀ y0 y1, LeO (duetref01_Num.j0 k y0 y1) (duetref01_Num.j0 (k + 1) y0 y1)) ∧ (∀ y0, LeO (duetref01_Num.l0 k y0) (duetref01_Num.l0 (k + 1) y0))
  | 0 => ⟨fun _ _ r h => by simp [duetref01_Num.j0] at h, fun _ r h => by simp [duetref01_Num.l0] at h⟩
  | k + 1 => by
    obtain ⟨ih0, ih1⟩ := duetref01_Num.mono_l k
    refine ⟨?_, ?_⟩
    · intro y0 y1
      unfold duetref01_Num.j0
      repeat' first
      | (with_reducible exact ih0 _ _)
      | (with_reducible exact ih1 _)
      | (with_reducible exact LeO.refl _)
      | (with_reducible exact LeO.none _)
      | (with_reducible refine LeO.ite ?_ ?_)
      | (with_reducible refine LeO.bind ?_ (fun _ => ?_))
      | exact ih0 _ _
      | exact ih1 _
      | exact LeO.none _
      | refine LeO.ite ?_ ?_
      | refine LeO.bind ?_ (fun _ => ?_)
    · intro y0
      unfold duetref01_Num.l0
      repeat' first
      | (with_reducible exact ih0 _ _)
      | (with_reducible exact ih1 _)
      | (with_reducible exact LeO.refl _)
      | (with_reducible exact LeO.none _)
      | (with_reducible refine LeO.ite ?_ ?_)
      | (with_reducible refine LeO.bind ?_ (fun _ => ?_))
      | exact ih0 _ _
      | exact ih1 _
      | exact LeO.none _
      | refine LeO.ite ?_ ?_
      | refine LeO.bind ?_ (fun _ => ?_)
theorem duetref01_Num.mono : ∀ a0 k, LeO (duetref01_Num.f k a0) (duetref01_Num.f (k + 1) a0) := by
  intro a0 k
  obtain ⟨ih0, ih1⟩ := duetref01_Num.mono_l k
  unfold duetref01_Num.f
  repeat' first
      | (with_reducible exact ih0 _ _)
      | (with_reducible exact ih1 _)
      | (with_reducible exact LeO.refl _)
      | (with_reducible exact LeO.none _)
      | (with_reducible refine LeO.ite ?_ ?_)
      | (with_reducible refine LeO.bind ?_ (fun _ => ?_))
      | exact ih0 _ _
      | exact ih1 _
      | exact LeO.none _
      | refine LeO.ite ?_ ?_
      | refine LeO.bind ?_ (fun _ => ?_)
set_option maxHeartbeats 8000000 in
set_option maxRecDepth 100000 in
theorem duetref01_Num.calls (k : Nat) (a0 : Int) (r1 : ByteArray) (r2 : Int) (w : World) (h : duetref01_Num.f k a0 = some (r1, r2)) :
    Calls Try.prog 36 #[.int .i64 a0] w fun e w' => e = .returned (.tuple #[.string r1, .int .i64 r2]) ∧ Below w.heap.size w w' := by
  have HB := Aside0.mk (Below.refl w.heap.size w)
  have H : (if a0 < 0 then (duetref01_Num.j0 k a0 true) else (duetref01_Num.j0 k a0 (decide (a0 > 4294967295)))) = some (r1, r2) := h
  clear h
  have HC2 := Aside0.mk H
  clear H
  go_enter Try.func36, Try.ntmps36
  go_upto_region 1 with (fail)
  go_cut [10] (fun v10 wc => ∃ (kq : Nat) (x10_1 : Bool), v10 = .bool x10_1 ∧ Aside0 (duetref01_Num.j0 kq a0 x10_1 = some (r1, r2)) ∧ Aside0 (kq ≤ k) ∧ Aside0 (Below w.heap.size w wc))
  case first =>
    have H := HC2.out
    clear HC2
    by_cases c3 : a0 < 0
    · rw [if_pos c3] at H
      have c3b0 : decide (a0 < 0) = true := decide_eq_true c3
      clear c3
      (first | rw [c3b0] | (simp only [i64_w, i32_w]; rw [c3b0]) | skip)
      have H' := Aside0.mk H
      clear H
      go_wp2
      go_meet
      case rel => exact ⟨_, (true), (by first | rfl | (simp; done) | (simp [*]; done)), H', ⟨by first | omega | exact Nat.le_refl _⟩, ⟨by repeat (first | (with_reducible first | exact HB.out | apply below_alloc | apply pw_below_drewN | apply below_drew1) | exact HB.out)⟩⟩
    · rw [if_neg c3] at H
      have c3b0 : decide (a0 < 0) = false := decide_eq_false c3
      clear c3
      (first | rw [c3b0] | (simp only [i64_w, i32_w]; rw [c3b0]) | skip)
      have H' := Aside0.mk H
      clear H
      go_wp2
      go_meet
      case rel => exact ⟨_, (decide (a0 > 4294967295)), (by first | rfl | (simp; done) | (simp [*]; done)), H', ⟨by first | omega | exact Nat.le_refl _⟩, ⟨by repeat (first | (with_reducible first | exact HB.out | apply below_alloc | apply pw_below_drewN | apply below_drew1) | exact HB.out)⟩⟩
  case rest =>
    clear HC2
    try clear p2
    try clear c3
    try clear c3b0
    obtain ⟨kq, x10_1, rfl, HA, HJ1, HB⟩ := hcut
    cases kq with
    | zero => exact absurd HA.out (by simp [duetref01_Num.j0])
    | succ kj1 =>
      have H := HA.out
      clear HA
      simp only [duetref01_Num.j0] at H
      by_cases c4 : x10_1 = true
      · subst c4
        have H1 : (some ((⟨#[]⟩ : ByteArray), 1)) = some (r1, r2) := by rw [if_pos rfl] at H; exact H
        clear H
        have H := H1
        clear H1
        simp only [Option.some.injEq, Prod.mk.injEq] at H
        obtain ⟨rfl, rfl⟩ := H
        go_wp2
        go_ret2
        exact ⟨by first | rfl | (simp [errW_none, errW_some] <;> rfl) | (simp [*, errW_none, errW_some] <;> rfl), by repeat (first | (with_reducible first | exact HB.out | apply below_alloc | apply pw_below_drewN | apply below_drew1) | exact HB.out)⟩
      · replace c4 := Bool.eq_false_iff.mpr c4
        subst c4
        have H1 : (if a0 < 248 then (some (strOfNums (([(a0) % 256] : List Int)), 0)) else (duetref01_Num.l0 kj1 (([(wrap64 (Int.tdiv a0 16777216)) % 256, (Int.tmod (wrap64 (Int.tdiv a0 65536)) 256) % 256, (Int.tmod (wrap64 (Int.tdiv a0 256)) 256) % 256, (Int.tmod a0 256) % 256] : List Int)))) = some (r1, r2) := by rw [if_neg (show ¬ (false = true) by decide)] at H; exact H
        clear H
        have H := H1
        clear H1
        by_cases c5 : a0 < 248
        · rw [if_pos c5] at H
          have c5b0 : decide (a0 < 248) = true := decide_eq_true c5
          clear c5
          obtain ⟨y185, hy185⟩ : ∃ y_ : List Int, y_ = (([(a0) % 256] : List Int)) := ⟨_, rfl⟩
          replace H : (some (strOfNums y185, 0)) = some (r1, r2) := by first | (rw [hy185]; with_reducible exact H) | (have H2_ := (Option.bind_some _ _).symm.trans H; rw [hy185]; with_reducible exact H2_) | (have H2_ := (Option.bind_some _ _).symm.trans H; with_reducible exact H2_) | with_reducible exact H | (rw [hy185]; exact H) | exact H
          have Ny185 := Aside0.mk hy185
          clear hy185
          simp only [Option.some.injEq, Prod.mk.injEq] at H
          obtain ⟨rfl, rfl⟩ := H
          go_wp2_with (first | ((with_reducible refine gate_dst (N := 15) rfl ?_); refine Kd.R_lit (Kd.int .u8) _ 5 ?hg (N := 15) ?hd (xs := ([(a0) % 256] : List Int)) (inner := [.int .u8 ((a0) % 256)]) (ok := fun _ => True) (okp := fun _ => True) ?hr ?hp (fun _ hk => hk) trivial (Below.refl _ _) (Nat.le_refl _) (by simp) ?_; (case hd => rfl); (case hg => rfl); (case hr => first | (go_simp; done) | (go_simp; rfl)); (case hp => exact (Reps.one (show Kd.M (Kd.int .u8) _ _ _ ((a0) % 256) [.int .u8 ((a0) % 256)] from rfl) (Reps.none _ _))); intro v186 w6 ho7 hb hg_ hnew_; clear hg_ hnew_; (first | rw [← Ny185.out] at ho7 | (simp only [Int.reduceToNat] at ho7; rw [← Ny185.out] at ho7)); have n0_ := Aside0.mk (Kd.R_lower ho7 (below_size (by repeat (first | (with_reducible first | exact HB.out | apply below_alloc | apply pw_below_drewN | apply below_drew1) | exact HB.out)))); have n1_ := Aside0.mk (below_step (by repeat (first | (with_reducible first | exact HB.out | apply below_alloc | apply pw_below_drewN | apply below_drew1) | exact HB.out)) hb); clear HB; have HO187 := n0_; have HB := n1_; clear n0_ n1_; clear hb ho7; have hcv8 := own_string (P := Try.prog) Try.underlying70 Try.underlying5 Try.underlying9 (Kd.own_of_R HO187.out)))
          go_ret2
          exact ⟨by first | rfl | (simp [errW_none, errW_some] <;> rfl) | (simp [*, errW_none, errW_some] <;> rfl), by repeat (first | (with_reducible first | exact HB.out | apply below_alloc | apply pw_below_drewN | apply below_drew1) | exact HB.out)⟩
        · rw [if_neg c5] at H
          have c5b0 : decide (a0 < 248) = false := decide_eq_false c5
          clear c5
          obtain ⟨y188, hy188⟩ : ∃ y_ : List Int, y_ = (([(wrap64 (Int.tdiv a0 16777216)) % 256, (Int.tmod (wrap64 (Int.tdiv a0 65536)) 256) % 256, (Int.tmod (wrap64 (Int.tdiv a0 256)) 256) % 256, (Int.tmod a0 256) % 256] : List Int)) := ⟨_, rfl⟩
          replace H : (duetref01_Num.l0 kj1 y188) = some (r1, r2) := by first | (rw [hy188]; with_reducible exact H) | (have H2_ := (Option.bind_some _ _).symm.trans H; rw [hy188]; with_reducible exact H2_) | (have H2_ := (Option.bind_some _ _).symm.trans H; with_reducible exact H2_) | with_reducible exact H | (rw [hy188]; exact H) | exact H
          have Ny188 := Aside0.mk hy188
          clear hy188
          have H' := Aside0.mk H
          clear H
          go_wp2_with (first | ((with_reducible refine gate_dst (N := 31) rfl ?_); refine Kd.R_lit (Kd.int .u8) _ 5 ?hg (N := 31) ?hd (xs := ([(wrap64 (Int.tdiv a0 16777216)) % 256, (Int.tmod (wrap64 (Int.tdiv a0 65536)) 256) % 256, (Int.tmod (wrap64 (Int.tdiv a0 256)) 256) % 256, (Int.tmod a0 256) % 256] : List Int)) (inner := [.int .u8 ((wrap64 (Int.tdiv a0 16777216)) % 256), .int .u8 ((Int.tmod (wrap64 (Int.tdiv a0 65536)) 256) % 256), .int .u8 ((Int.tmod (wrap64 (Int.tdiv a0 256)) 256) % 256), .int .u8 ((Int.tmod a0 256) % 256)]) (ok := fun _ => True) (okp := fun _ => True) ?hr ?hp (fun _ hk => hk) trivial (Below.refl _ _) (Nat.le_refl _) (by simp) ?_; (case hd => rfl); (case hg => rfl); (case hr => first | (go_simp; done) | (go_simp; rfl)); (case hp => exact (Reps.one (show Kd.M (Kd.int .u8) _ _ _ ((wrap64 (Int.tdiv a0 16777216)) % 256) [.int .u8 ((wrap64 (Int.tdiv a0 16777216)) % 256)] from rfl) (Reps.one (show Kd.M (Kd.int .u8) _ _ _ ((Int.tmod (wrap64 (Int.tdiv a0 65536)) 256) % 256) [.int .u8 ((Int.tmod (wrap64 (Int.tdiv a0 65536)) 256) % 256)] from rfl) (Reps.one (show Kd.M (Kd.int .u8) _ _ _ ((Int.tmod (wrap64 (Int.tdiv a0 256)) 256) % 256) [.int .u8 ((Int.tmod (wrap64 (Int.tdiv a0 256)) 256) % 256)] from rfl) (Reps.one (show Kd.M (Kd.int .u8) _ _ _ ((Int.tmod a0 256) % 256) [.int .u8 ((Int.tmod a0 256) % 256)] from rfl) (Reps.none _ _)))))); intro v189 w9 ho10 hb hg_ hnew_; clear hg_ hnew_; (first | rw [← Ny188.out] at ho10 | (simp only [Int.reduceToNat] at ho10; rw [← Ny188.out] at ho10)); have n0_ := Aside0.mk (Kd.R_lower ho10 (below_size (by repeat (first | (with_reducible first | exact HB.out | apply below_alloc | apply pw_below_drewN | apply below_drew1) | exact HB.out)))); have n1_ := Aside0.mk (below_step (by repeat (first | (with_reducible first | exact HB.out | apply below_alloc | apply pw_below_drewN | apply below_drew1) | exact HB.out)) hb); clear HB; have HO190 := n0_; have HB := n1_; clear n0_ n1_; clear hb ho10))
          go_loopg [4] kj1 (fun kq v4 w' => ∃ (x4_2 : List Int), Aside0 (duetref01_Num.l0 kq x4_2 = some (r1, r2)) ∧ Aside0 (kq ≤ kj1) ∧ Aside0 (Kd.Q (Kd.int .u8) 5 w' w.heap.size (fun _ => True) v4 x4_2) ∧ Aside0 (Below w.heap.size w w'))
          case atStart => exact ⟨(y188), H', ⟨Nat.le_refl _⟩, ⟨Kd.Q_of_R (by (with_reducible repeat (first | apply Kd.R_alloc | apply Kd.R_drewN | apply Kd.R_drew)); exact HO190.out)⟩, ⟨by repeat (first | (with_reducible first | exact HB.out | apply below_alloc | apply pw_below_drewN | apply below_drew1) | exact HB.out)⟩⟩
          case round =>
            clear H'
            try clear p2
            try clear c3
            try clear c3b0
            try clear c4
            try clear c5
            try clear c5b0
            try clear p6
            try clear hcv8
            try clear p2
            obtain ⟨x4_2, HA, HK2, HO_4, HB⟩ := hrel
            cases gk with
            | zero => exact absurd HA.out (by simp [duetref01_Num.l0])
            | succ k2 =>
              have H := HA.out
              clear HA
              simp only [duetref01_Num.l0] at H
              by_cases c11 : 0 < (x4_2.length : Int)
              · rw [if_pos c11] at H
                have c11b0 : decide (0 < (x4_2.length : Int)) = true := decide_eq_true c11
                have c11b1 : decide (0 < x4_2.length) = true := decide_eq_true (by omega)
                clear c11
                by_cases c12 : (rd x4_2 0) = 0
                · rw [if_pos c12] at H
                  have c12b0 : ((rd x4_2 0) == 0) = true := beq_iff_eq.mpr c12
                  have c12b1 : ((rd x4_2 0) != 0) = false := bne_eq_false_iff_eq.mpr c12
                  clear c12
                  by_cases c13 : 1 ≤ (x4_2.length : Int)
                  · rw [if_pos c13] at H
                    have c13b0 := eq_true c13
                    have c13b1 : decide (1 ≤ (x4_2.length : Int)) = true := decide_eq_true c13
                    clear c13
                    obtain ⟨y192, hy192⟩ : ∃ y_ : List Int, y_ = (x4_2.drop (1 : Int).toNat) := ⟨_, rfl⟩
                    replace H : (duetref01_Num.l0 k2 y192) = some (r1, r2) := by first | (rw [hy192]; with_reducible exact H) | (have H2_ := (Option.bind_some _ _).symm.trans H; rw [hy192]; with_reducible exact H2_) | (have H2_ := (Option.bind_some _ _).symm.trans H; with_reducible exact H2_) | with_reducible exact H | (rw [hy192]; exact H) | exact H
                    have Ny192 := Aside0.mk hy192
                    clear hy192
                    have H' := Aside0.mk H
                    clear H
                    obtain ⟨Ao14, co14, eo14, _⟩ := Kd.Q_slice HO_4.out
                    subst eo14
                    have p191 : 0 ≤ (0 : Int) := (by omega)
                    have q191 : 0 < (x4_2.length : Int) := of_decide_eq_true (by first | (with_reducible assumption) | assumption)
                    obtain ⟨ad191, e191, hx191_0⟩ := Kd.at_int (Kd.Q_reads' HO_4.out).2.2 0 p191 q191
                    cases e191
                    have qi191 : (0 < x4_2.length) = True := eq_true (by omega)
                    (try rw [show ((0 : Int)).toNat = 0 from rfl] at hx191_0)
                    (try rw [Addr.add_zero'] at hx191_0)
                    replace p191 := eq_true p191
                    replace q191 := eq_true q191
                    have q15 : (1 : Int) ≤ ((x4_2.length : Int) : Int) := of_decide_eq_true (by first | (with_reducible assumption) | assumption)
                    obtain ⟨i015, hi015, _, hsz15, _⟩ := info_parts info5
                    have hcut15 := cut_from (P := Try.prog) 70 5 .i64 Try.underlying70 hi015 1 hsz15 (some ad191) x4_2.length co14 1 (by omega) q15
                    have hr15 := Kd.Q_drop (k := (1 : Int).toNat) HO_4.out (by omega)
                    obtain ⟨A15, hA15⟩ : ∃ A1, A1 = (if co14 = (1 : Int).toNat then (some ad191) else ((some ad191) : Option Addr).map (·.add ((1 : Int).toNat * 1))) := ⟨_, rfl⟩
                    obtain ⟨c15, hc15⟩ : ∃ c1, c1 = co14 - (1 : Int).toNat := ⟨_, rfl⟩
                    have hy15 : y192.length = x4_2.length - (1 : Int).toNat := (by rw [Ny192.out, List.length_drop])
                    rw [← Ny192.out] at hr15
                    rw [← hy15, ← hA15, ← hc15] at hcut15
                    replace hr15 : Kd.Q (Kd.int .u8) 5 wr w.heap.size (fun _ => True) (.slice A15 y192.length c15) y192 := (by rw [hA15, hc15, hy15]; exact hr15)
                    have HE15 : Aside0 ((Value.slice A15 y192.length c15).ownBlock = (.slice (some ad191) x4_2.length co14 : Value).ownBlock) := ⟨by rw [hA15]; split <;> (cases ((some ad191) : Option Addr) <;> rfl)⟩
                    clear hy15 hi015 hsz15 HO_4 hA15 hc15
                    have HO194 := Aside0.mk hr15
                    clear hr15
                    replace q15 := eq_true q15
                    go_wp2
                    go_roundg k2
                    case measure => have := HJ1.out; have := HK2.out; omega
                    case rel => exact ⟨(y192), H', ⟨by have := HJ1.out; have := HK2.out; omega⟩, ⟨by (with_reducible repeat (first | apply Kd.Q_alloc | apply Kd.Q_drewN | apply Kd.Q_drew)); exact HO194.out⟩, ⟨by repeat (first | (with_reducible first | exact HB.out | apply below_alloc | apply pw_below_drewN | apply below_drew1) | exact HB.out)⟩⟩
                  · rw [if_neg c13] at H
                    exact absurd H (by simp)
                · rw [if_neg c12] at H
                  have c12b0 : ((rd x4_2 0) == 0) = false := beq_eq_false_iff_ne.mpr c12
                  have c12b1 : ((rd x4_2 0) != 0) = true := bne_iff_ne.mpr c12
                  obtain ⟨y195, hy195⟩ : ∃ y_ : List Int, y_ = (([(wrap64 (247 + (x4_2.length : Int))) % 256] : List Int)) := ⟨_, rfl⟩
                  replace H : (if (strOfNums y195).size + (strOfNums x4_2).size ≤ 9223372036854775807 then (some ((strOfNums y195) ++ (strOfNums x4_2), 0)) else (none)) = some (r1, r2) := by first | (rw [hy195]; with_reducible exact H) | (have H2_ := (Option.bind_some _ _).symm.trans H; rw [hy195]; with_reducible exact H2_) | (have H2_ := (Option.bind_some _ _).symm.trans H; with_reducible exact H2_) | with_reducible exact H | (rw [hy195]; exact H) | exact H
                  have Ny195 := Aside0.mk hy195
                  clear hy195
                  by_cases c16 : (strOfNums y195).size + (strOfNums x4_2).size ≤ 9223372036854775807
                  · rw [if_pos c16] at H
                    have c16b0 := eq_true c16
                    have c16b1 : decide ((strOfNums y195).size + (strOfNums x4_2).size ≤ 9223372036854775807) = true := decide_eq_true c16
                    try have c16b2 : (9223372036854775807 < (strOfNums y195).size + (strOfNums x4_2).size) = False := eq_false (Nat.not_lt.2 c16)
                    simp only [Option.some.injEq, Prod.mk.injEq] at H
                    obtain ⟨rfl, rfl⟩ := H
                    obtain ⟨Ao17, co17, eo17, _⟩ := Kd.Q_slice HO_4.out
                    subst eo17
                    have p191 : 0 ≤ (0 : Int) := (by omega)
                    have q191 : 0 < (x4_2.length : Int) := of_decide_eq_true (by first | (with_reducible assumption) | assumption)
                    obtain ⟨ad191, e191, hx191_0⟩ := Kd.at_int (Kd.Q_reads' HO_4.out).2.2 0 p191 q191
                    cases e191
                    have qi191 : (0 < x4_2.length) = True := eq_true (by omega)
                    (try rw [show ((0 : Int)).toNat = 0 from rfl] at hx191_0)
                    (try rw [Addr.add_zero'] at hx191_0)
                    replace p191 := eq_true p191
                    replace q191 := eq_true q191
                    go_wp2_with (first | ((with_reducible refine gate_dst (N := 42) rfl ?_); refine Kd.R_lit (Kd.int .u8) _ 5 ?hg (N := 42) ?hd (xs := ([(wrap64 (247 + (x4_2.length : Int))) % 256] : List Int)) (inner := [.int .u8 ((wrap64 (247 + (x4_2.length : Int))) % 256)]) (ok := fun _ => True) (okp := fun _ => True) ?hr ?hp (fun _ hk => hk) trivial (Below.refl _ _) (Nat.le_refl _) (by simp) ?_; (case hd => rfl); (case hg => rfl); (case hr => first | (go_simp; done) | (go_simp; rfl)); (case hp => exact (Reps.one (show Kd.M (Kd.int .u8) _ _ _ ((wrap64 (247 + (x4_2.length : Int))) % 256) [.int .u8 ((wrap64 (247 + (x4_2.length : Int))) % 256)] from rfl) (Reps.none _ _))); intro v196 w18 ho19 hb hg_ hnew_; clear hg_ hnew_; (first | rw [← Ny195.out] at ho19 | (simp only [Int.reduceToNat] at ho19; rw [← Ny195.out] at ho19)); have n0_ := Aside0.mk (Kd.Q_elder' (by (with_reducible repeat (first | apply Kd.Q_alloc | apply Kd.Q_drewN | apply Kd.Q_drew)); exact HO_4.out) (Kd.R_base ho19) hb); have n1_ := Aside0.mk (Kd.R_lower (Kd.R_new' ho19 (Kd.Q_lt (by (with_reducible repeat (first | apply Kd.Q_alloc | apply Kd.Q_drewN | apply Kd.Q_drew)); exact HO_4.out))) (below_size (by repeat (first | (with_reducible first | exact HB.out | apply below_alloc | apply pw_below_drewN | apply below_drew1) | exact HB.out)))); have n2_ := Aside0.mk (below_step (by repeat (first | (with_reducible first | exact HB.out | apply below_alloc | apply pw_below_drewN | apply below_drew1) | exact HB.out)) hb); clear HO_4; clear HB; have HO_4 := n0_; have HO197 := n1_; have HB := n2_; clear n0_ n1_ n2_; clear hb ho19; have hcv20 := own_string (P := Try.prog) Try.underlying70 Try.underlying5 Try.underlying9 (Kd.own_of_R HO197.out); have hcv21 := Go.Proofs.Ytpoigdkbblmpaaa.XW.q_string (P := Try.prog) Try.underlying70 Try.underlying5 Try.underlying9 HO_4.out))
                    go_ret2
                    exact ⟨by first | rfl | (simp [errW_none, errW_some] <;> rfl) | (simp [*, errW_none, errW_some] <;> rfl), by repeat (first | (with_reducible first | exact HB.out | apply below_alloc | apply pw_below_drewN | apply below_drew1) | exact HB.out)⟩
                  · rw [if_neg c16] at H
                    exact absurd H (by simp)
              · rw [if_neg c11] at H
                exact absurd H (by simp)

/-! ### duetref01_Text: function 38 -/
def duetref01_Text.f (k : Nat) (a0 : ByteArray) : Option (ByteArray × Int) := if (a0.size : Int) > 65535 then (some ((⟨#[]⟩ : ByteArray), 1)) else ((duetref01_Num.f k (a0.size : Int)).bind fun bt198 => (if bt198.1.size + a0.size ≤ 9223372036854775807 then (some (bt198.1 ++ a0, 0)) else (none)))
theorem duetref01_Text.mono : ∀ a0 k, LeO (duetref01_Text.f k a0) (duetref01_Text.f (k + 1) a0) := by
  intro a0 k
  unfold duetref01_Text.f
  repeat' first
      | (with_reducible exact duetref01_Num.mono _ _)
      | (with_reducible exact LeO.refl _)
      | (with_reducible exact LeO.none _)
      | (with_reducible refine LeO.ite ?_ ?_)
      | (with_reducible refine LeO.bind ?_ (fun _ => ?_))
      | exact duetref01_Num.mono _ _
      | exact LeO.none _
      | refine LeO.ite ?_ ?_
      | refine LeO.bind ?_ (fun _ => ?_)
set_option maxHeartbeats 8000000 in
set_option maxRecDepth 100000 in
theorem duetref01_Text.calls (k : Nat) (a0 : ByteArray) (r1 : ByteArray) (r2 : Int) (w : World) (h : duetref01_Text.f k a0 = some (r1, r2)) :
    Calls Try.prog 38 #[.string a0] w fun e w' => e = .returned (.tuple #[.string r1, .int .i64 r2]) ∧ Below w.heap.size w w' := by
  have HB := Aside0.mk (Below.refl w.heap.size w)
  have H : (if (a0.size : Int) > 65535 then (some ((⟨#[]⟩ : ByteArray), 1)) else ((duetref01_Num.f k (a0.size : Int)).bind fun bt198 => (if bt198.1.size + a0.size ≤ 9223372036854775807 then (some (bt198.1 ++ a0, 0)) else (none)))) = some (r1, r2) := h
  clear h
  by_cases c2 : (a0.size : Int) > 65535
  · rw [if_pos c2] at H
    have c2b0 : decide (65535 < (a0.size : Int)) = true := decide_eq_true c2
    have c2b1 : decide (65535 < a0.size) = true := decide_eq_true (by omega)
    clear c2
    simp only [Option.some.injEq, Prod.mk.injEq] at H
    obtain ⟨rfl, rfl⟩ := H
    go_enter Try.func38, Try.ntmps38
    go_wp2
    go_ret2
    exact ⟨by first | rfl | (simp [errW_none, errW_some] <;> rfl) | (simp [*, errW_none, errW_some] <;> rfl), by repeat (first | (with_reducible first | exact HB.out | apply below_alloc | apply pw_below_drewN | apply below_drew1) | exact HB.out)⟩
  · rw [if_neg c2] at H
    have c2b0 : decide (65535 < (a0.size : Int)) = false := decide_eq_false c2
    have c2b1 : decide (65535 < a0.size) = false := decide_eq_false (by omega)
    clear c2
    replace H := Option.bind_eq_some_iff.mp H
    obtain ⟨⟨t198, t199⟩, A30, H⟩ := H
    replace H : (if t198.size + a0.size ≤ 9223372036854775807 then (some (t198 ++ a0, 0)) else (none)) = some (r1, r2) := H
    have A3 := Aside0.mk A30
    clear A30
    by_cases c4 : t198.size + a0.size ≤ 9223372036854775807
    · rw [if_pos c4] at H
      have c4b0 := eq_true c4
      have c4b1 : decide (t198.size + a0.size ≤ 9223372036854775807) = true := decide_eq_true c4
      try have c4b2 : (9223372036854775807 < t198.size + a0.size) = False := eq_false (Nat.not_lt.2 c4)
      simp only [Option.some.injEq, Prod.mk.injEq] at H
      obtain ⟨rfl, rfl⟩ := H
      go_enter Try.func38, Try.ntmps38
      go_wp2_with (first | ((with_reducible refine gate_callee (f := 36) rfl ?_); refine goesL_ (some 12) rfl rfl Try.func36 (by kernel_rfl) rfl #[.int .i64 (a0.size : Int)] rfl (by (try simp only [List.map_toArray, List.map_cons, List.map_nil]); first | done | rfl | (simp only [List.length_drop, List.length_take]; rfl)) ?_; (with_reducible refine (duetref01_Num.calls k (a0.size : Int) t198 t199 _ A3.out).mono ?_); rintro e w5 ⟨rfl, hb⟩; refine ⟨_, rfl, ?_⟩; have n0_ := Aside0.mk (below_step (by repeat (first | (with_reducible first | exact HB.out | apply below_alloc | apply pw_below_drewN | apply below_drew1) | exact HB.out)) hb); clear HB; have HB := n0_; clear n0_; (try clear hb); (try clear hb2); (try clear hk); (try clear hi)))
      go_ret2
      exact ⟨by first | rfl | (simp [errW_none, errW_some] <;> rfl) | (simp [*, errW_none, errW_some] <;> rfl), by repeat (first | (with_reducible first | exact HB.out | apply below_alloc | apply pw_below_drewN | apply below_drew1) | exact HB.out)⟩
    · rw [if_neg c4] at H
      exact absurd H (by simp)

end Go.Proofs.Ytpoigdkbblmpaaa.PPack
