/- Functions that the law reaches, each as a plain Lean function with the proof that the call does what it says. Conditions: none beyond those that each theorem states. Written by a program for this claim. -/
import Derived.Test.YtiplkmmppihilaaPPastx0
import Derived.Test.YtiplkmmppihilaaPPastx2
import Derived.Test.YtiplkmmppihilaaPPastx3
namespace Go.Proofs.Ytiplkmmppihilaa.PPast
open Go.RowKit Go.Proofs.YtiplkmmppihilaaW.PrintWords Go.Proofs.YtiplkmmppihilaaW.PrintLast Go.Proofs.YtiplkmmppihilaaW.PrintMore
attribute [local go_sem] max2_int min2_int max_two min_two max_three min_three max_four min_four   -- for this text's walks alone
set_option linter.unusedVariables false
set_option linter.unusedSimpArgs false

/-! ### duetref04_Rune: function 84 -/
def duetref04_Rune.f (a0 : Int) : Option (Bool) := if a0 ≥ 32 then (if a0 ≤ 1114111 then (if a0 ≥ 127 then (if a0 ≤ 159 then (some false) else (if a0 ≥ 55296 then (some (!(decide (a0 ≤ 57343)))) else (some (!false)))) else (if a0 ≥ 55296 then (some (!(decide (a0 ≤ 57343)))) else (some (!false)))) else (some false)) else (some false)
set_option maxHeartbeats 8000000 in
set_option maxRecDepth 100000 in
theorem duetref04_Rune.calls (a0 : Int) (r : Bool) (w : World) (h : duetref04_Rune.f a0 = some r) :
    Calls Try.prog 84 #[.int .i64 a0] w fun e w' => e = .returned (.bool r) ∧ Drawn0 w w' := by
  have H : (if a0 ≥ 32 then (if a0 ≤ 1114111 then (if a0 ≥ 127 then (if a0 ≤ 159 then (some false) else (if a0 ≥ 55296 then (some (!(decide (a0 ≤ 57343)))) else (some (!false)))) else (if a0 ≥ 55296 then (some (!(decide (a0 ≤ 57343)))) else (some (!false)))) else (some false)) else (some false)) = some r := h
  clear h
  by_cases c2 : a0 ≥ 32
  · rw [if_pos c2] at H
    have c2b0 : decide (32 ≤ a0) = true := decide_eq_true c2
    clear c2
    by_cases c3 : a0 ≤ 1114111
    · rw [if_pos c3] at H
      have c3b0 : decide (a0 ≤ 1114111) = true := decide_eq_true c3
      clear c3
      by_cases c4 : a0 ≥ 127
      · rw [if_pos c4] at H
        have c4b0 : decide (127 ≤ a0) = true := decide_eq_true c4
        clear c4
        by_cases c5 : a0 ≤ 159
        · rw [if_pos c5] at H
          have c5b0 : decide (a0 ≤ 159) = true := decide_eq_true c5
          clear c5
          obtain rfl := Option.some.inj H
          go_enter Try.func84, Try.ntmps84
          go_wp2
          go_ret
          exact ⟨by first | rfl | (simp; done) | (simp [*]; done), by repeat (first | exact Drawn0.refl _ | apply Drawn0.step)⟩
        · rw [if_neg c5] at H
          have c5b0 : decide (a0 ≤ 159) = false := decide_eq_false c5
          clear c5
          by_cases c6 : a0 ≥ 55296
          · rw [if_pos c6] at H
            have c6b0 : decide (55296 ≤ a0) = true := decide_eq_true c6
            clear c6
            obtain rfl := Option.some.inj H
            go_enter Try.func84, Try.ntmps84
            go_wp2
            go_ret
            exact ⟨by first | rfl | (simp; done) | (simp [*]; done), by repeat (first | exact Drawn0.refl _ | apply Drawn0.step)⟩
          · rw [if_neg c6] at H
            have c6b0 : decide (55296 ≤ a0) = false := decide_eq_false c6
            clear c6
            obtain rfl := Option.some.inj H
            go_enter Try.func84, Try.ntmps84
            go_wp2
            go_ret
            exact ⟨by first | rfl | (simp; done) | (simp [*]; done), by repeat (first | exact Drawn0.refl _ | apply Drawn0.step)⟩
      · rw [if_neg c4] at H
        have c4b0 : decide (127 ≤ a0) = false := decide_eq_false c4
        clear c4
        by_cases c7 : a0 ≥ 55296
        · rw [if_pos c7] at H
          have c7b0 : decide (55296 ≤ a0) = true := decide_eq_true c7
          clear c7
          obtain rfl := Option.some.inj H
          go_enter Try.func84, Try.ntmps84
          go_wp2
          go_ret
          exact ⟨by first | rfl | (simp; done) | (simp [*]; done), by repeat (first | exact Drawn0.refl _ | apply Drawn0.step)⟩
        · rw [if_neg c7] at H
          have c7b0 : decide (55296 ≤ a0) = false := decide_eq_false c7
          clear c7
          obtain rfl := Option.some.inj H
          go_enter Try.func84, Try.ntmps84
          go_wp2
          go_ret
          exact ⟨by first | rfl | (simp; done) | (simp [*]; done), by repeat (first | exact Drawn0.refl _ | apply Drawn0.step)⟩
    · rw [if_neg c3] at H
      have c3b0 : decide (a0 ≤ 1114111) = false := decide_eq_false c3
      clear c3
      obtain rfl := Option.some.inj H
      go_enter Try.func84, Try.ntmps84
      go_wp2
      go_ret
      exact ⟨by first | rfl | (simp; done) | (simp [*]; done), by repeat (first | exact Drawn0.refl _ | apply Drawn0.step)⟩
  · rw [if_neg c2] at H
    have c2b0 : decide (32 ≤ a0) = false := decide_eq_false c2
    clear c2
    obtain rfl := Option.some.inj H
    go_enter Try.func84, Try.ntmps84
    go_wp2
    go_ret
    exact ⟨by first | rfl | (simp; done) | (simp [*]; done), by repeat (first | exact Drawn0.refl _ | apply Drawn0.step)⟩

/-! ### duetref04_op: function 74 -/
theorem duetref04_op.clk_is (x : Int) : duetref04_clock.f x = some (mesg_Check.clk x) := by
  unfold duetref04_clock.f mesg_Check.clk
  by_cases h : x ≥ 0
  · rw [if_pos h, decide_eq_true (show 0 ≤ x from h), Bool.true_and]
  · rw [if_neg h, decide_eq_false (show ¬ 0 ≤ x from h), Bool.false_and]
theorem duetref04_op.may_is (t s n : Int) : duetref04_May.f t s n = some (mesg_Check.mayb t s n) := by
  unfold duetref04_May.f mesg_Check.mayb
  by_cases h : t ≥ 1
  · rw [if_pos h, duetref04_op.clk_is, Option.bind_some]
    unfold mesg_Check.clk
    by_cases h1 : t ≤ 4294967295
    · rw [if_pos (by simp [h1]; omega)]
      by_cases h2 : s ≥ 0
      · rw [if_pos h2, decide_eq_true (show 0 < t by omega), decide_eq_true h1, decide_eq_true (show 0 ≤ s from h2), Bool.true_and, Bool.true_and, Bool.true_and]
      · rw [if_neg h2, decide_eq_false (show ¬ 0 ≤ s from h2), Bool.false_and, Bool.and_false, Bool.and_false]
    · rw [if_neg (by simp [h1]), decide_eq_false h1, Bool.false_and, Bool.and_false]
  · rw [if_neg h, decide_eq_false (show ¬ 0 < t by omega), Bool.false_and]
theorem duetref04_op.rune_is (x : Int) : duetref04_Rune.f x = some (mesg_Check.runeb x) := by
  unfold duetref04_Rune.f mesg_Check.runeb
  by_cases h1 : 32 ≤ x <;> by_cases h2 : x ≤ 1114111 <;> by_cases h3 : 127 ≤ x <;> by_cases h4 : x ≤ 159 <;> by_cases h5 : 55296 ≤ x <;> by_cases h6 : x ≤ 57343 <;> simp [h1, h2, h3, h4, h5, h6]
def duetref04_op.opb (a0_0 a0_1 a0_2 a0_3 a0_4 a0_5 a0_6 a1 a2 : Int) : Bool :=
  mesg_Check.clk a0_1 && (if a0_0 = 1 then mesg_Check.mayb a0_2 a0_3 a2 && ((a0_3 == a1) && (((a0_4 == 0 && a0_5 == 0) || (mesg_Check.mayb a0_4 a0_5 a2 && decide (a0_4 < a0_2))) && mesg_Check.runeb a0_6))
    else if a0_0 = 2 ∨ a0_0 = 3 ∨ a0_0 = 4 ∨ a0_0 = 7 ∨ a0_0 = 8 then mesg_Check.mayb a0_4 a0_5 a2 && ((a0_2 == 0 && a0_3 == 0) && a0_6 == 0)
    else if a0_0 = 5 then ((a0_4 == 0 && a0_5 == 0) || mesg_Check.mayb a0_4 a0_5 a2) && ((a0_2 == 0 && a0_3 == 0) && a0_6 == 0)
    else if a0_0 = 6 then mesg_Check.mayb a0_2 a0_3 a2 && ((a0_3 == a1) && ((a0_4 == 0 && a0_5 == 0) && a0_6 == 0)) else false)
def duetref04_op.f (k : Nat) (a0_0 a0_1 a0_2 a0_3 a0_4 a0_5 a0_6 a1 a2 : Int) : Option Bool := some (duetref04_op.opb a0_0 a0_1 a0_2 a0_3 a0_4 a0_5 a0_6 a1 a2)
theorem duetref04_op.mono : ∀ a0 a1 a2 a3 a4 a5 a6 a7 a8 k, LeO (duetref04_op.f k a0 a1 a2 a3 a4 a5 a6 a7 a8) (duetref04_op.f (k + 1) a0 a1 a2 a3 a4 a5 a6 a7 a8) := fun _ _ _ _ _ _ _ _ _ _ => LeO.refl _
theorem duetref04_op.mayb0 (s n : Int) : mesg_Check.mayb 0 s n = false := rfl
theorem duetref04_op.may0 (s n : Int) : duetref04_May.f 0 s n = some false := by rw [duetref04_op.may_is]; rfl
set_option maxHeartbeats 4000000 in
set_option maxRecDepth 100000 in
theorem duetref04_op.calls (k : Nat) (a0_0 : Int) (a0_1 : Int) (a0_2 : Int) (a0_3 : Int) (a0_4 : Int) (a0_5 : Int) (a0_6 : Int) (a1 : Int) (a2 : Int) (r : Bool) (w : World) (h : duetref04_op.f k a0_0 a0_1 a0_2 a0_3 a0_4 a0_5 a0_6 a1 a2 = some r) :
    Calls Try.prog 74 #[.agg #[.int .i64 a0_0, .int .i64 a0_1, .int .i64 a0_2, .int .i64 a0_3, .int .i64 a0_4, .int .i64 a0_5, .int .i64 a0_6], .int .i64 a1, .int .i64 a2] w fun e w' => e = .returned (.bool r) ∧ Below w.heap.size w w' := by
  have hu24 := Try.underlying52
  have hu26 := Try.underlying54
  have B_w := Aside0.mk (Below.refl w.heap.size w)
  obtain rfl := Option.some.inj h
  clear h
  go_enter Try.func74, Try.ntmps74
  go_upto_region 2 with (first | ((with_reducible refine gate_dst (N := 3) rfl ?_); (try (refine gate_guard (by rfl) ?_; dsimp only)); refine box_event ?hg (N := 3) ?hd (cs := #[.int .i64 a0_0, .int .i64 a0_1, .int .i64 a0_2, .int .i64 a0_3, .int .i64 a0_4, .int .i64 a0_5, .int .i64 a0_6]) (t := 54) ?hr ?_; (case hd => rfl); (case hg => rfl); (case hr => first | (go_simp; done) | (go_simp; rfl)); intro go hg_go w1 hbox hb; have B_w1 := Aside0.mk (below_step B_w.out hb); have GE_go : Aside0 (w.heap.size ≤ go) := ⟨by rw [hg_go]; exact B_w.out.size⟩; have X_go_w1 : Aside0 (w1.heap[go]? = some (.cells #[.int .i64 a0_0, .int .i64 a0_1, .int .i64 a0_2, .int .i64 a0_3, .int .i64 a0_4, .int .i64 a0_5, .int .i64 a0_6] 54 (0, 0))) := ⟨hbox⟩; obtain ⟨c_go_0_w1, c_go_1_w1, c_go_2_w1, c_go_3_w1, c_go_4_w1, c_go_5_w1, c_go_6_w1⟩ := Go.Proofs.Ytiplkmmppihilaa.XW.cells7 (X_go_w1.out); obtain ⟨z_go_0_w1, z_go_1_w1, z_go_2_w1, z_go_3_w1, z_go_4_w1, z_go_5_w1, z_go_6_w1⟩ := Go.Proofs.Ytiplkmmppihilaa.XW.froz7 (X_go_w1.out); clear hb hbox hg_go) | ((with_reducible refine gate_dst (N := 7) rfl ?_); (try (refine gate_guard (by rfl) ?_; dsimp only)); refine box_event ?hg (N := 7) ?hd (cs := #[.int .i64 0, .int .i64 0]) (t := 52) ?hr ?_; (case hd => rfl); (case hg => rfl); (case hr => first | (go_simp; done) | (go_simp; rfl)); intro gz hg_gz w2 hbox hb; have B_w2 := Aside0.mk (below_step B_w1.out hb); have X_go_w2 := Aside0.mk (blk_below X_go_w1.out hb); obtain ⟨c_go_0_w2, c_go_1_w2, c_go_2_w2, c_go_3_w2, c_go_4_w2, c_go_5_w2, c_go_6_w2⟩ := Go.Proofs.Ytiplkmmppihilaa.XW.cells7 (X_go_w2.out); obtain ⟨z_go_0_w2, z_go_1_w2, z_go_2_w2, z_go_3_w2, z_go_4_w2, z_go_5_w2, z_go_6_w2⟩ := Go.Proofs.Ytiplkmmppihilaa.XW.froz7 (X_go_w2.out); have NE_go_gz : Aside0 (go ≠ gz) := ⟨by rw [hg_gz]; exact Nat.ne_of_lt (blk_lt X_go_w1.out)⟩; have GE_gz : Aside0 (w.heap.size ≤ gz) := ⟨by rw [hg_gz]; exact B_w1.out.size⟩; have X_gz_w2 : Aside0 (w2.heap[gz]? = some (.cells #[.int .i64 0, .int .i64 0] 52 (0, 0))) := ⟨hbox⟩; obtain ⟨c_gz_0_w2, c_gz_1_w2⟩ := Go.Proofs.Ytiplkmmppihilaa.XW.cells2 (X_gz_w2.out); obtain ⟨z_gz_0_w2, z_gz_1_w2⟩ := Go.Proofs.Ytiplkmmppihilaa.XW.froz2 (X_gz_w2.out); clear hb hbox hg_gz) | ((with_reducible refine gate_store (t := 52) (p := 7) rfl ?_); go_must (refine store_event (t := 52) (p := 7) (v := ?vo_1) (w1 := ((w2.setCell ⟨gz, 0, none⟩ (.int .i64 0)).setCell ⟨gz, 1, none⟩ (.int .i64 0))) ?hg ?ho ?hn ?hr ?_; (case ho => rfl); (case hg => rfl); (case hn => rfl); (case hr => first | (go_simp; done) | (go_simp; rfl)); intro w3 hw; have HW : ∀ i, i ≠ gz → w3.heap[i]? = w2.heap[i]? := (fun i hi => (by rw [hw]; exact (Below.heap_setCell _ ⟨gz, 1, none⟩ _ i hi).trans ((Below.heap_setCell _ ⟨gz, 0, none⟩ _ i hi)))); have B_w3 : Aside0 (Below w.heap.size w w3) := ⟨by rw [hw]; exact below_set (j := 1) (below_set (j := 0) (B_w2.out) GE_gz.out) GE_gz.out⟩; have X_go_w3 := Aside0.mk (Go.Proofs.Ytiplkmmppihilaa.XW.blk_eq hw (blk_far (blk_far (X_go_w2.out) (p := ⟨gz, 0, none⟩) NE_go_gz.out (.int .i64 0)) (p := ⟨gz, 1, none⟩) NE_go_gz.out (.int .i64 0))); obtain ⟨c_go_0_w3, c_go_1_w3, c_go_2_w3, c_go_3_w3, c_go_4_w3, c_go_5_w3, c_go_6_w3⟩ := Go.Proofs.Ytiplkmmppihilaa.XW.cells7 (X_go_w3.out); obtain ⟨z_go_0_w3, z_go_1_w3, z_go_2_w3, z_go_3_w3, z_go_4_w3, z_go_5_w3, z_go_6_w3⟩ := Go.Proofs.Ytiplkmmppihilaa.XW.froz7 (X_go_w3.out); have X_gz_w3 := Aside0.mk (Go.Proofs.Ytiplkmmppihilaa.XW.blk_eq hw (blk_put (cs' := #[.int .i64 0, .int .i64 0]) (blk_put (cs' := #[.int .i64 0, .int .i64 0]) (X_gz_w2.out) 0 (.int .i64 0) rfl) 1 (.int .i64 0) rfl)); obtain ⟨c_gz_0_w3, c_gz_1_w3⟩ := Go.Proofs.Ytiplkmmppihilaa.XW.cells2 (X_gz_w3.out); obtain ⟨z_gz_0_w3, z_gz_1_w3⟩ := Go.Proofs.Ytiplkmmppihilaa.XW.froz2 (X_gz_w3.out); clear hw HW)))
  try clear c_go_0_w1 c_go_1_w1 c_go_2_w1 c_go_3_w1 c_go_4_w1 c_go_5_w1 c_go_6_w1
  try clear c_gz_0_w1 c_gz_1_w1
  try clear z_go_0_w1 z_go_1_w1 z_go_2_w1 z_go_3_w1 z_go_4_w1 z_go_5_w1 z_go_6_w1
  try clear z_gz_0_w1 z_gz_1_w1
  try clear c_go_0_w2 c_go_1_w2 c_go_2_w2 c_go_3_w2 c_go_4_w2 c_go_5_w2 c_go_6_w2
  try clear c_gz_0_w2 c_gz_1_w2
  try clear z_go_0_w2 z_go_1_w2 z_go_2_w2 z_go_3_w2 z_go_4_w2 z_go_5_w2 z_go_6_w2
  try clear z_gz_0_w2 z_gz_1_w2
  cases hc : mesg_Check.clk a0_1 with
  | false =>
    have HC : Aside0 (duetref04_clock.f a0_1 = some false) := ⟨by rw [duetref04_op.clk_is, hc]⟩
    have HQ := Aside0.mk hc
    clear hc
    go_wp2_with ((go_at_call 73; (with_reducible refine (duetref04_clock.calls a0_1 false _ HC.out).mono ?_); rintro e w4 ⟨rfl, nd, hq⟩; have hb : Below w3.heap.size w3 w4 := (by first | (rw [hq]; exact pw_below_drewN (Below.refl _ _) nd) | (rw [← hq]; exact pw_below_drewN (Below.refl _ _) nd)); clear hq; have B_w4 := Aside0.mk (below_step B_w3.out hb); have X_go_w4 := Aside0.mk (blk_below X_go_w3.out hb); obtain ⟨c_go_0_w4, c_go_1_w4, c_go_2_w4, c_go_3_w4, c_go_4_w4, c_go_5_w4, c_go_6_w4⟩ := Go.Proofs.Ytiplkmmppihilaa.XW.cells7 (X_go_w4.out); obtain ⟨z_go_0_w4, z_go_1_w4, z_go_2_w4, z_go_3_w4, z_go_4_w4, z_go_5_w4, z_go_6_w4⟩ := Go.Proofs.Ytiplkmmppihilaa.XW.froz7 (X_go_w4.out); have X_gz_w4 := Aside0.mk (blk_below X_gz_w3.out hb); obtain ⟨c_gz_0_w4, c_gz_1_w4⟩ := Go.Proofs.Ytiplkmmppihilaa.XW.cells2 (X_gz_w4.out); obtain ⟨z_gz_0_w4, z_gz_1_w4⟩ := Go.Proofs.Ytiplkmmppihilaa.XW.froz2 (X_gz_w4.out); clear hb))
    go_ret
    exact ⟨congrArg (fun b => Ending.returned (.bool b)) (by simp [duetref04_op.opb, HQ.out]), B_w4.out⟩
  | true =>
    have HC : Aside0 (duetref04_clock.f a0_1 = some true) := ⟨by rw [duetref04_op.clk_is, hc]⟩
    have HQ := Aside0.mk hc
    clear hc
    go_upto_region 4 with ((go_at_call 73; (with_reducible refine (duetref04_clock.calls a0_1 true _ HC.out).mono ?_); rintro e w4 ⟨rfl, nd, hq⟩; have hb : Below w3.heap.size w3 w4 := (by first | (rw [hq]; exact pw_below_drewN (Below.refl _ _) nd) | (rw [← hq]; exact pw_below_drewN (Below.refl _ _) nd)); clear hq; have B_w4 := Aside0.mk (below_step B_w3.out hb); have X_go_w4 := Aside0.mk (blk_below X_go_w3.out hb); obtain ⟨c_go_0_w4, c_go_1_w4, c_go_2_w4, c_go_3_w4, c_go_4_w4, c_go_5_w4, c_go_6_w4⟩ := Go.Proofs.Ytiplkmmppihilaa.XW.cells7 (X_go_w4.out); obtain ⟨z_go_0_w4, z_go_1_w4, z_go_2_w4, z_go_3_w4, z_go_4_w4, z_go_5_w4, z_go_6_w4⟩ := Go.Proofs.Ytiplkmmppihilaa.XW.froz7 (X_go_w4.out); have X_gz_w4 := Aside0.mk (blk_below X_gz_w3.out hb); obtain ⟨c_gz_0_w4, c_gz_1_w4⟩ := Go.Proofs.Ytiplkmmppihilaa.XW.cells2 (X_gz_w4.out); obtain ⟨z_gz_0_w4, z_gz_1_w4⟩ := Go.Proofs.Ytiplkmmppihilaa.XW.froz2 (X_gz_w4.out); clear hb))
    try clear c_go_0_w3 c_go_1_w3 c_go_2_w3 c_go_3_w3 c_go_4_w3 c_go_5_w3 c_go_6_w3
    try clear c_gz_0_w3 c_gz_1_w3
    try clear z_go_0_w3 z_go_1_w3 z_go_2_w3 z_go_3_w3 z_go_4_w3 z_go_5_w3 z_go_6_w3
    try clear z_gz_0_w3 z_gz_1_w3
    by_cases k1 : a0_0 = 1
    · subst k1
      as_aux_lemma =>
        cases hi : mesg_Check.mayb a0_2 a0_3 a2 with
        | false =>
          have Hhi := Aside0.mk hi
          have Ehi : Aside0 (duetref04_May.f a0_2 a0_3 a2 = some false) := ⟨(duetref04_op.may_is _ _ _).trans (congrArg some hi)⟩
          clear hi
          cases hr : mesg_Check.mayb a0_4 a0_5 a2 with
          | false =>
            have Hhr := Aside0.mk hr
            have Ehr : Aside0 (duetref04_May.f a0_4 a0_5 a2 = some false) := ⟨(duetref04_op.may_is _ _ _).trans (congrArg some hr)⟩
            clear hr
            cases hn : mesg_Check.runeb a0_6 with
            | false =>
              have Hhn := Aside0.mk hn
              have Ehn : Aside0 (duetref04_Rune.f a0_6 = some false) := ⟨(duetref04_op.rune_is _).trans (congrArg some hn)⟩
              clear hn
              go_wp2_with (first | (go_at_call 83; (with_reducible refine (duetref04_May.calls a0_2 a0_3 a2 false _ Ehi.out).mono ?_); rintro e w5 ⟨rfl, hb⟩; have B_w5 := Aside0.mk (below_step B_w4.out hb); have X_go_w5 := Aside0.mk (blk_below X_go_w4.out hb); obtain ⟨c_go_0_w5, c_go_1_w5, c_go_2_w5, c_go_3_w5, c_go_4_w5, c_go_5_w5, c_go_6_w5⟩ := Go.Proofs.Ytiplkmmppihilaa.XW.cells7 (X_go_w5.out); obtain ⟨z_go_0_w5, z_go_1_w5, z_go_2_w5, z_go_3_w5, z_go_4_w5, z_go_5_w5, z_go_6_w5⟩ := Go.Proofs.Ytiplkmmppihilaa.XW.froz7 (X_go_w5.out); have X_gz_w5 := Aside0.mk (blk_below X_gz_w4.out hb); obtain ⟨c_gz_0_w5, c_gz_1_w5⟩ := Go.Proofs.Ytiplkmmppihilaa.XW.cells2 (X_gz_w5.out); obtain ⟨z_gz_0_w5, z_gz_1_w5⟩ := Go.Proofs.Ytiplkmmppihilaa.XW.froz2 (X_gz_w5.out); clear hb) | (go_at_call 83; (with_reducible refine (duetref04_May.calls a0_4 a0_5 a2 false _ Ehr.out).mono ?_); rintro e w6 ⟨rfl, hb⟩; have B_w6 := Aside0.mk (below_step B_w5.out hb); have X_go_w6 := Aside0.mk (blk_below X_go_w5.out hb); obtain ⟨c_go_0_w6, c_go_1_w6, c_go_2_w6, c_go_3_w6, c_go_4_w6, c_go_5_w6, c_go_6_w6⟩ := Go.Proofs.Ytiplkmmppihilaa.XW.cells7 (X_go_w6.out); obtain ⟨z_go_0_w6, z_go_1_w6, z_go_2_w6, z_go_3_w6, z_go_4_w6, z_go_5_w6, z_go_6_w6⟩ := Go.Proofs.Ytiplkmmppihilaa.XW.froz7 (X_go_w6.out); have X_gz_w6 := Aside0.mk (blk_below X_gz_w5.out hb); obtain ⟨c_gz_0_w6, c_gz_1_w6⟩ := Go.Proofs.Ytiplkmmppihilaa.XW.cells2 (X_gz_w6.out); obtain ⟨z_gz_0_w6, z_gz_1_w6⟩ := Go.Proofs.Ytiplkmmppihilaa.XW.froz2 (X_gz_w6.out); clear hb) | (go_at_call 83; (with_reducible refine (duetref04_May.calls 0 a0_5 a2 false _ (duetref04_op.may0 _ _)).mono ?_); rintro e w6 ⟨rfl, hb⟩; have B_w6 := Aside0.mk (below_step B_w5.out hb); have X_go_w6 := Aside0.mk (blk_below X_go_w5.out hb); obtain ⟨c_go_0_w6, c_go_1_w6, c_go_2_w6, c_go_3_w6, c_go_4_w6, c_go_5_w6, c_go_6_w6⟩ := Go.Proofs.Ytiplkmmppihilaa.XW.cells7 (X_go_w6.out); obtain ⟨z_go_0_w6, z_go_1_w6, z_go_2_w6, z_go_3_w6, z_go_4_w6, z_go_5_w6, z_go_6_w6⟩ := Go.Proofs.Ytiplkmmppihilaa.XW.froz7 (X_go_w6.out); have X_gz_w6 := Aside0.mk (blk_below X_gz_w5.out hb); obtain ⟨c_gz_0_w6, c_gz_1_w6⟩ := Go.Proofs.Ytiplkmmppihilaa.XW.cells2 (X_gz_w6.out); obtain ⟨z_gz_0_w6, z_gz_1_w6⟩ := Go.Proofs.Ytiplkmmppihilaa.XW.froz2 (X_gz_w6.out); clear hb) | (go_at_call 84; (with_reducible refine (duetref04_Rune.calls a0_6 false _ Ehn.out).mono ?_); rintro e w' ⟨rfl, nd, rfl⟩))
              all_goals first | (go_ret; exact ⟨congrArg (fun b => Ending.returned (.bool b)) (by simp [duetref04_op.opb, duetref04_op.mayb0, HQ.out, Hhi.out, Hhr.out, Hhn.out, *]), (by first | exact B_w6.out | exact pw_below_drewN B_w6.out _ | exact B_w5.out | exact pw_below_drewN B_w5.out _ | exact B_w4.out | exact pw_below_drewN B_w4.out _)⟩)
            | true =>
              have Hhn := Aside0.mk hn
              have Ehn : Aside0 (duetref04_Rune.f a0_6 = some true) := ⟨(duetref04_op.rune_is _).trans (congrArg some hn)⟩
              clear hn
              go_wp2_with (first | (go_at_call 83; (with_reducible refine (duetref04_May.calls a0_2 a0_3 a2 false _ Ehi.out).mono ?_); rintro e w5 ⟨rfl, hb⟩; have B_w5 := Aside0.mk (below_step B_w4.out hb); have X_go_w5 := Aside0.mk (blk_below X_go_w4.out hb); obtain ⟨c_go_0_w5, c_go_1_w5, c_go_2_w5, c_go_3_w5, c_go_4_w5, c_go_5_w5, c_go_6_w5⟩ := Go.Proofs.Ytiplkmmppihilaa.XW.cells7 (X_go_w5.out); obtain ⟨z_go_0_w5, z_go_1_w5, z_go_2_w5, z_go_3_w5, z_go_4_w5, z_go_5_w5, z_go_6_w5⟩ := Go.Proofs.Ytiplkmmppihilaa.XW.froz7 (X_go_w5.out); have X_gz_w5 := Aside0.mk (blk_below X_gz_w4.out hb); obtain ⟨c_gz_0_w5, c_gz_1_w5⟩ := Go.Proofs.Ytiplkmmppihilaa.XW.cells2 (X_gz_w5.out); obtain ⟨z_gz_0_w5, z_gz_1_w5⟩ := Go.Proofs.Ytiplkmmppihilaa.XW.froz2 (X_gz_w5.out); clear hb) | (go_at_call 83; (with_reducible refine (duetref04_May.calls a0_4 a0_5 a2 false _ Ehr.out).mono ?_); rintro e w6 ⟨rfl, hb⟩; have B_w6 := Aside0.mk (below_step B_w5.out hb); have X_go_w6 := Aside0.mk (blk_below X_go_w5.out hb); obtain ⟨c_go_0_w6, c_go_1_w6, c_go_2_w6, c_go_3_w6, c_go_4_w6, c_go_5_w6, c_go_6_w6⟩ := Go.Proofs.Ytiplkmmppihilaa.XW.cells7 (X_go_w6.out); obtain ⟨z_go_0_w6, z_go_1_w6, z_go_2_w6, z_go_3_w6, z_go_4_w6, z_go_5_w6, z_go_6_w6⟩ := Go.Proofs.Ytiplkmmppihilaa.XW.froz7 (X_go_w6.out); have X_gz_w6 := Aside0.mk (blk_below X_gz_w5.out hb); obtain ⟨c_gz_0_w6, c_gz_1_w6⟩ := Go.Proofs.Ytiplkmmppihilaa.XW.cells2 (X_gz_w6.out); obtain ⟨z_gz_0_w6, z_gz_1_w6⟩ := Go.Proofs.Ytiplkmmppihilaa.XW.froz2 (X_gz_w6.out); clear hb) | (go_at_call 83; (with_reducible refine (duetref04_May.calls 0 a0_5 a2 false _ (duetref04_op.may0 _ _)).mono ?_); rintro e w6 ⟨rfl, hb⟩; have B_w6 := Aside0.mk (below_step B_w5.out hb); have X_go_w6 := Aside0.mk (blk_below X_go_w5.out hb); obtain ⟨c_go_0_w6, c_go_1_w6, c_go_2_w6, c_go_3_w6, c_go_4_w6, c_go_5_w6, c_go_6_w6⟩ := Go.Proofs.Ytiplkmmppihilaa.XW.cells7 (X_go_w6.out); obtain ⟨z_go_0_w6, z_go_1_w6, z_go_2_w6, z_go_3_w6, z_go_4_w6, z_go_5_w6, z_go_6_w6⟩ := Go.Proofs.Ytiplkmmppihilaa.XW.froz7 (X_go_w6.out); have X_gz_w6 := Aside0.mk (blk_below X_gz_w5.out hb); obtain ⟨c_gz_0_w6, c_gz_1_w6⟩ := Go.Proofs.Ytiplkmmppihilaa.XW.cells2 (X_gz_w6.out); obtain ⟨z_gz_0_w6, z_gz_1_w6⟩ := Go.Proofs.Ytiplkmmppihilaa.XW.froz2 (X_gz_w6.out); clear hb) | (go_at_call 84; (with_reducible refine (duetref04_Rune.calls a0_6 true _ Ehn.out).mono ?_); rintro e w' ⟨rfl, nd, rfl⟩))
              all_goals first | (go_ret; exact ⟨congrArg (fun b => Ending.returned (.bool b)) (by simp [duetref04_op.opb, duetref04_op.mayb0, HQ.out, Hhi.out, Hhr.out, Hhn.out, *]), (by first | exact B_w6.out | exact pw_below_drewN B_w6.out _ | exact B_w5.out | exact pw_below_drewN B_w5.out _ | exact B_w4.out | exact pw_below_drewN B_w4.out _)⟩)
          | true =>
            have Hhr := Aside0.mk hr
            have Ehr : Aside0 (duetref04_May.f a0_4 a0_5 a2 = some true) := ⟨(duetref04_op.may_is _ _ _).trans (congrArg some hr)⟩
            clear hr
            cases hn : mesg_Check.runeb a0_6 with
            | false =>
              have Hhn := Aside0.mk hn
              have Ehn : Aside0 (duetref04_Rune.f a0_6 = some false) := ⟨(duetref04_op.rune_is _).trans (congrArg some hn)⟩
              clear hn
              go_wp2_with (first | (go_at_call 83; (with_reducible refine (duetref04_May.calls a0_2 a0_3 a2 false _ Ehi.out).mono ?_); rintro e w5 ⟨rfl, hb⟩; have B_w5 := Aside0.mk (below_step B_w4.out hb); have X_go_w5 := Aside0.mk (blk_below X_go_w4.out hb); obtain ⟨c_go_0_w5, c_go_1_w5, c_go_2_w5, c_go_3_w5, c_go_4_w5, c_go_5_w5, c_go_6_w5⟩ := Go.Proofs.Ytiplkmmppihilaa.XW.cells7 (X_go_w5.out); obtain ⟨z_go_0_w5, z_go_1_w5, z_go_2_w5, z_go_3_w5, z_go_4_w5, z_go_5_w5, z_go_6_w5⟩ := Go.Proofs.Ytiplkmmppihilaa.XW.froz7 (X_go_w5.out); have X_gz_w5 := Aside0.mk (blk_below X_gz_w4.out hb); obtain ⟨c_gz_0_w5, c_gz_1_w5⟩ := Go.Proofs.Ytiplkmmppihilaa.XW.cells2 (X_gz_w5.out); obtain ⟨z_gz_0_w5, z_gz_1_w5⟩ := Go.Proofs.Ytiplkmmppihilaa.XW.froz2 (X_gz_w5.out); clear hb) | (go_at_call 83; (with_reducible refine (duetref04_May.calls a0_4 a0_5 a2 true _ Ehr.out).mono ?_); rintro e w6 ⟨rfl, hb⟩; have B_w6 := Aside0.mk (below_step B_w5.out hb); have X_go_w6 := Aside0.mk (blk_below X_go_w5.out hb); obtain ⟨c_go_0_w6, c_go_1_w6, c_go_2_w6, c_go_3_w6, c_go_4_w6, c_go_5_w6, c_go_6_w6⟩ := Go.Proofs.Ytiplkmmppihilaa.XW.cells7 (X_go_w6.out); obtain ⟨z_go_0_w6, z_go_1_w6, z_go_2_w6, z_go_3_w6, z_go_4_w6, z_go_5_w6, z_go_6_w6⟩ := Go.Proofs.Ytiplkmmppihilaa.XW.froz7 (X_go_w6.out); have X_gz_w6 := Aside0.mk (blk_below X_gz_w5.out hb); obtain ⟨c_gz_0_w6, c_gz_1_w6⟩ := Go.Proofs.Ytiplkmmppihilaa.XW.cells2 (X_gz_w6.out); obtain ⟨z_gz_0_w6, z_gz_1_w6⟩ := Go.Proofs.Ytiplkmmppihilaa.XW.froz2 (X_gz_w6.out); clear hb) | (go_at_call 83; (with_reducible refine (duetref04_May.calls 0 a0_5 a2 false _ (duetref04_op.may0 _ _)).mono ?_); rintro e w6 ⟨rfl, hb⟩; have B_w6 := Aside0.mk (below_step B_w5.out hb); have X_go_w6 := Aside0.mk (blk_below X_go_w5.out hb); obtain ⟨c_go_0_w6, c_go_1_w6, c_go_2_w6, c_go_3_w6, c_go_4_w6, c_go_5_w6, c_go_6_w6⟩ := Go.Proofs.Ytiplkmmppihilaa.XW.cells7 (X_go_w6.out); obtain ⟨z_go_0_w6, z_go_1_w6, z_go_2_w6, z_go_3_w6, z_go_4_w6, z_go_5_w6, z_go_6_w6⟩ := Go.Proofs.Ytiplkmmppihilaa.XW.froz7 (X_go_w6.out); have X_gz_w6 := Aside0.mk (blk_below X_gz_w5.out hb); obtain ⟨c_gz_0_w6, c_gz_1_w6⟩ := Go.Proofs.Ytiplkmmppihilaa.XW.cells2 (X_gz_w6.out); obtain ⟨z_gz_0_w6, z_gz_1_w6⟩ := Go.Proofs.Ytiplkmmppihilaa.XW.froz2 (X_gz_w6.out); clear hb) | (go_at_call 84; (with_reducible refine (duetref04_Rune.calls a0_6 false _ Ehn.out).mono ?_); rintro e w' ⟨rfl, nd, rfl⟩))
              all_goals first | (go_ret; exact ⟨congrArg (fun b => Ending.returned (.bool b)) (by simp [duetref04_op.opb, duetref04_op.mayb0, HQ.out, Hhi.out, Hhr.out, Hhn.out, *]), (by first | exact B_w6.out | exact pw_below_drewN B_w6.out _ | exact B_w5.out | exact pw_below_drewN B_w5.out _ | exact B_w4.out | exact pw_below_drewN B_w4.out _)⟩) | (exfalso; have e4 : a0_4 = 0 := (by assumption); have := Hhr.out; rw [e4] at this; exact absurd this (by decide))
            | true =>
              have Hhn := Aside0.mk hn
              have Ehn : Aside0 (duetref04_Rune.f a0_6 = some true) := ⟨(duetref04_op.rune_is _).trans (congrArg some hn)⟩
              clear hn
              go_wp2_with (first | (go_at_call 83; (with_reducible refine (duetref04_May.calls a0_2 a0_3 a2 false _ Ehi.out).mono ?_); rintro e w5 ⟨rfl, hb⟩; have B_w5 := Aside0.mk (below_step B_w4.out hb); have X_go_w5 := Aside0.mk (blk_below X_go_w4.out hb); obtain ⟨c_go_0_w5, c_go_1_w5, c_go_2_w5, c_go_3_w5, c_go_4_w5, c_go_5_w5, c_go_6_w5⟩ := Go.Proofs.Ytiplkmmppihilaa.XW.cells7 (X_go_w5.out); obtain ⟨z_go_0_w5, z_go_1_w5, z_go_2_w5, z_go_3_w5, z_go_4_w5, z_go_5_w5, z_go_6_w5⟩ := Go.Proofs.Ytiplkmmppihilaa.XW.froz7 (X_go_w5.out); have X_gz_w5 := Aside0.mk (blk_below X_gz_w4.out hb); obtain ⟨c_gz_0_w5, c_gz_1_w5⟩ := Go.Proofs.Ytiplkmmppihilaa.XW.cells2 (X_gz_w5.out); obtain ⟨z_gz_0_w5, z_gz_1_w5⟩ := Go.Proofs.Ytiplkmmppihilaa.XW.froz2 (X_gz_w5.out); clear hb) | (go_at_call 83; (with_reducible refine (duetref04_May.calls a0_4 a0_5 a2 true _ Ehr.out).mono ?_); rintro e w6 ⟨rfl, hb⟩; have B_w6 := Aside0.mk (below_step B_w5.out hb); have X_go_w6 := Aside0.mk (blk_below X_go_w5.out hb); obtain ⟨c_go_0_w6, c_go_1_w6, c_go_2_w6, c_go_3_w6, c_go_4_w6, c_go_5_w6, c_go_6_w6⟩ := Go.Proofs.Ytiplkmmppihilaa.XW.cells7 (X_go_w6.out); obtain ⟨z_go_0_w6, z_go_1_w6, z_go_2_w6, z_go_3_w6, z_go_4_w6, z_go_5_w6, z_go_6_w6⟩ := Go.Proofs.Ytiplkmmppihilaa.XW.froz7 (X_go_w6.out); have X_gz_w6 := Aside0.mk (blk_below X_gz_w5.out hb); obtain ⟨c_gz_0_w6, c_gz_1_w6⟩ := Go.Proofs.Ytiplkmmppihilaa.XW.cells2 (X_gz_w6.out); obtain ⟨z_gz_0_w6, z_gz_1_w6⟩ := Go.Proofs.Ytiplkmmppihilaa.XW.froz2 (X_gz_w6.out); clear hb) | (go_at_call 83; (with_reducible refine (duetref04_May.calls 0 a0_5 a2 false _ (duetref04_op.may0 _ _)).mono ?_); rintro e w6 ⟨rfl, hb⟩; have B_w6 := Aside0.mk (below_step B_w5.out hb); have X_go_w6 := Aside0.mk (blk_below X_go_w5.out hb); obtain ⟨c_go_0_w6, c_go_1_w6, c_go_2_w6, c_go_3_w6, c_go_4_w6, c_go_5_w6, c_go_6_w6⟩ := Go.Proofs.Ytiplkmmppihilaa.XW.cells7 (X_go_w6.out); obtain ⟨z_go_0_w6, z_go_1_w6, z_go_2_w6, z_go_3_w6, z_go_4_w6, z_go_5_w6, z_go_6_w6⟩ := Go.Proofs.Ytiplkmmppihilaa.XW.froz7 (X_go_w6.out); have X_gz_w6 := Aside0.mk (blk_below X_gz_w5.out hb); obtain ⟨c_gz_0_w6, c_gz_1_w6⟩ := Go.Proofs.Ytiplkmmppihilaa.XW.cells2 (X_gz_w6.out); obtain ⟨z_gz_0_w6, z_gz_1_w6⟩ := Go.Proofs.Ytiplkmmppihilaa.XW.froz2 (X_gz_w6.out); clear hb) | (go_at_call 84; (with_reducible refine (duetref04_Rune.calls a0_6 true _ Ehn.out).mono ?_); rintro e w' ⟨rfl, nd, rfl⟩))
              all_goals first | (go_ret; exact ⟨congrArg (fun b => Ending.returned (.bool b)) (by simp [duetref04_op.opb, duetref04_op.mayb0, HQ.out, Hhi.out, Hhr.out, Hhn.out, *]), (by first | exact B_w6.out | exact pw_below_drewN B_w6.out _ | exact B_w5.out | exact pw_below_drewN B_w5.out _ | exact B_w4.out | exact pw_below_drewN B_w4.out _)⟩) | (exfalso; have e4 : a0_4 = 0 := (by assumption); have := Hhr.out; rw [e4] at this; exact absurd this (by decide))
        | true =>
          have Hhi := Aside0.mk hi
          have Ehi : Aside0 (duetref04_May.f a0_2 a0_3 a2 = some true) := ⟨(duetref04_op.may_is _ _ _).trans (congrArg some hi)⟩
          clear hi
          cases hr : mesg_Check.mayb a0_4 a0_5 a2 with
          | false =>
            have Hhr := Aside0.mk hr
            have Ehr : Aside0 (duetref04_May.f a0_4 a0_5 a2 = some false) := ⟨(duetref04_op.may_is _ _ _).trans (congrArg some hr)⟩
            clear hr
            cases hn : mesg_Check.runeb a0_6 with
            | false =>
              have Hhn := Aside0.mk hn
              have Ehn : Aside0 (duetref04_Rune.f a0_6 = some false) := ⟨(duetref04_op.rune_is _).trans (congrArg some hn)⟩
              clear hn
              go_wp2_with (first | (go_at_call 83; (with_reducible refine (duetref04_May.calls a0_2 a0_3 a2 true _ Ehi.out).mono ?_); rintro e w5 ⟨rfl, hb⟩; have B_w5 := Aside0.mk (below_step B_w4.out hb); have X_go_w5 := Aside0.mk (blk_below X_go_w4.out hb); obtain ⟨c_go_0_w5, c_go_1_w5, c_go_2_w5, c_go_3_w5, c_go_4_w5, c_go_5_w5, c_go_6_w5⟩ := Go.Proofs.Ytiplkmmppihilaa.XW.cells7 (X_go_w5.out); obtain ⟨z_go_0_w5, z_go_1_w5, z_go_2_w5, z_go_3_w5, z_go_4_w5, z_go_5_w5, z_go_6_w5⟩ := Go.Proofs.Ytiplkmmppihilaa.XW.froz7 (X_go_w5.out); have X_gz_w5 := Aside0.mk (blk_below X_gz_w4.out hb); obtain ⟨c_gz_0_w5, c_gz_1_w5⟩ := Go.Proofs.Ytiplkmmppihilaa.XW.cells2 (X_gz_w5.out); obtain ⟨z_gz_0_w5, z_gz_1_w5⟩ := Go.Proofs.Ytiplkmmppihilaa.XW.froz2 (X_gz_w5.out); clear hb) | (go_at_call 83; (with_reducible refine (duetref04_May.calls a0_4 a0_5 a2 false _ Ehr.out).mono ?_); rintro e w6 ⟨rfl, hb⟩; have B_w6 := Aside0.mk (below_step B_w5.out hb); have X_go_w6 := Aside0.mk (blk_below X_go_w5.out hb); obtain ⟨c_go_0_w6, c_go_1_w6, c_go_2_w6, c_go_3_w6, c_go_4_w6, c_go_5_w6, c_go_6_w6⟩ := Go.Proofs.Ytiplkmmppihilaa.XW.cells7 (X_go_w6.out); obtain ⟨z_go_0_w6, z_go_1_w6, z_go_2_w6, z_go_3_w6, z_go_4_w6, z_go_5_w6, z_go_6_w6⟩ := Go.Proofs.Ytiplkmmppihilaa.XW.froz7 (X_go_w6.out); have X_gz_w6 := Aside0.mk (blk_below X_gz_w5.out hb); obtain ⟨c_gz_0_w6, c_gz_1_w6⟩ := Go.Proofs.Ytiplkmmppihilaa.XW.cells2 (X_gz_w6.out); obtain ⟨z_gz_0_w6, z_gz_1_w6⟩ := Go.Proofs.Ytiplkmmppihilaa.XW.froz2 (X_gz_w6.out); clear hb) | (go_at_call 83; (with_reducible refine (duetref04_May.calls 0 a0_5 a2 false _ (duetref04_op.may0 _ _)).mono ?_); rintro e w6 ⟨rfl, hb⟩; have B_w6 := Aside0.mk (below_step B_w5.out hb); have X_go_w6 := Aside0.mk (blk_below X_go_w5.out hb); obtain ⟨c_go_0_w6, c_go_1_w6, c_go_2_w6, c_go_3_w6, c_go_4_w6, c_go_5_w6, c_go_6_w6⟩ := Go.Proofs.Ytiplkmmppihilaa.XW.cells7 (X_go_w6.out); obtain ⟨z_go_0_w6, z_go_1_w6, z_go_2_w6, z_go_3_w6, z_go_4_w6, z_go_5_w6, z_go_6_w6⟩ := Go.Proofs.Ytiplkmmppihilaa.XW.froz7 (X_go_w6.out); have X_gz_w6 := Aside0.mk (blk_below X_gz_w5.out hb); obtain ⟨c_gz_0_w6, c_gz_1_w6⟩ := Go.Proofs.Ytiplkmmppihilaa.XW.cells2 (X_gz_w6.out); obtain ⟨z_gz_0_w6, z_gz_1_w6⟩ := Go.Proofs.Ytiplkmmppihilaa.XW.froz2 (X_gz_w6.out); clear hb) | (go_at_call 84; (with_reducible refine (duetref04_Rune.calls a0_6 false _ Ehn.out).mono ?_); rintro e w' ⟨rfl, nd, rfl⟩))
              all_goals first | (go_ret; exact ⟨congrArg (fun b => Ending.returned (.bool b)) (by first | (simp [duetref04_op.opb, duetref04_op.mayb0, HQ.out, Hhi.out, Hhr.out, Hhn.out, *]; done) | (have e3 : a0_3 = a1 := (by assumption); have h2 := Hhi.out; rw [e3] at h2; simp [duetref04_op.opb, duetref04_op.mayb0, HQ.out, Hhi.out, Hhr.out, Hhn.out, h2, *])), (by first | exact B_w6.out | exact pw_below_drewN B_w6.out _ | exact B_w5.out | exact pw_below_drewN B_w5.out _ | exact B_w4.out | exact pw_below_drewN B_w4.out _)⟩)
            | true =>
              have Hhn := Aside0.mk hn
              have Ehn : Aside0 (duetref04_Rune.f a0_6 = some true) := ⟨(duetref04_op.rune_is _).trans (congrArg some hn)⟩
              clear hn
              go_wp2_with (first | (go_at_call 83; (with_reducible refine (duetref04_May.calls a0_2 a0_3 a2 true _ Ehi.out).mono ?_); rintro e w5 ⟨rfl, hb⟩; have B_w5 := Aside0.mk (below_step B_w4.out hb); have X_go_w5 := Aside0.mk (blk_below X_go_w4.out hb); obtain ⟨c_go_0_w5, c_go_1_w5, c_go_2_w5, c_go_3_w5, c_go_4_w5, c_go_5_w5, c_go_6_w5⟩ := Go.Proofs.Ytiplkmmppihilaa.XW.cells7 (X_go_w5.out); obtain ⟨z_go_0_w5, z_go_1_w5, z_go_2_w5, z_go_3_w5, z_go_4_w5, z_go_5_w5, z_go_6_w5⟩ := Go.Proofs.Ytiplkmmppihilaa.XW.froz7 (X_go_w5.out); have X_gz_w5 := Aside0.mk (blk_below X_gz_w4.out hb); obtain ⟨c_gz_0_w5, c_gz_1_w5⟩ := Go.Proofs.Ytiplkmmppihilaa.XW.cells2 (X_gz_w5.out); obtain ⟨z_gz_0_w5, z_gz_1_w5⟩ := Go.Proofs.Ytiplkmmppihilaa.XW.froz2 (X_gz_w5.out); clear hb) | (go_at_call 83; (with_reducible refine (duetref04_May.calls a0_4 a0_5 a2 false _ Ehr.out).mono ?_); rintro e w6 ⟨rfl, hb⟩; have B_w6 := Aside0.mk (below_step B_w5.out hb); have X_go_w6 := Aside0.mk (blk_below X_go_w5.out hb); obtain ⟨c_go_0_w6, c_go_1_w6, c_go_2_w6, c_go_3_w6, c_go_4_w6, c_go_5_w6, c_go_6_w6⟩ := Go.Proofs.Ytiplkmmppihilaa.XW.cells7 (X_go_w6.out); obtain ⟨z_go_0_w6, z_go_1_w6, z_go_2_w6, z_go_3_w6, z_go_4_w6, z_go_5_w6, z_go_6_w6⟩ := Go.Proofs.Ytiplkmmppihilaa.XW.froz7 (X_go_w6.out); have X_gz_w6 := Aside0.mk (blk_below X_gz_w5.out hb); obtain ⟨c_gz_0_w6, c_gz_1_w6⟩ := Go.Proofs.Ytiplkmmppihilaa.XW.cells2 (X_gz_w6.out); obtain ⟨z_gz_0_w6, z_gz_1_w6⟩ := Go.Proofs.Ytiplkmmppihilaa.XW.froz2 (X_gz_w6.out); clear hb) | (go_at_call 83; (with_reducible refine (duetref04_May.calls 0 a0_5 a2 false _ (duetref04_op.may0 _ _)).mono ?_); rintro e w6 ⟨rfl, hb⟩; have B_w6 := Aside0.mk (below_step B_w5.out hb); have X_go_w6 := Aside0.mk (blk_below X_go_w5.out hb); obtain ⟨c_go_0_w6, c_go_1_w6, c_go_2_w6, c_go_3_w6, c_go_4_w6, c_go_5_w6, c_go_6_w6⟩ := Go.Proofs.Ytiplkmmppihilaa.XW.cells7 (X_go_w6.out); obtain ⟨z_go_0_w6, z_go_1_w6, z_go_2_w6, z_go_3_w6, z_go_4_w6, z_go_5_w6, z_go_6_w6⟩ := Go.Proofs.Ytiplkmmppihilaa.XW.froz7 (X_go_w6.out); have X_gz_w6 := Aside0.mk (blk_below X_gz_w5.out hb); obtain ⟨c_gz_0_w6, c_gz_1_w6⟩ := Go.Proofs.Ytiplkmmppihilaa.XW.cells2 (X_gz_w6.out); obtain ⟨z_gz_0_w6, z_gz_1_w6⟩ := Go.Proofs.Ytiplkmmppihilaa.XW.froz2 (X_gz_w6.out); clear hb) | (go_at_call 84; (with_reducible refine (duetref04_Rune.calls a0_6 true _ Ehn.out).mono ?_); rintro e w' ⟨rfl, nd, rfl⟩))
              all_goals first | (go_ret; exact ⟨congrArg (fun b => Ending.returned (.bool b)) (by first | (simp [duetref04_op.opb, duetref04_op.mayb0, HQ.out, Hhi.out, Hhr.out, Hhn.out, *]; done) | (have e3 : a0_3 = a1 := (by assumption); have h2 := Hhi.out; rw [e3] at h2; simp [duetref04_op.opb, duetref04_op.mayb0, HQ.out, Hhi.out, Hhr.out, Hhn.out, h2, *])), (by first | exact B_w6.out | exact pw_below_drewN B_w6.out _ | exact B_w5.out | exact pw_below_drewN B_w5.out _ | exact B_w4.out | exact pw_below_drewN B_w4.out _)⟩)
          | true =>
            have Hhr := Aside0.mk hr
            have Ehr : Aside0 (duetref04_May.f a0_4 a0_5 a2 = some true) := ⟨(duetref04_op.may_is _ _ _).trans (congrArg some hr)⟩
            clear hr
            cases hn : mesg_Check.runeb a0_6 with
            | false =>
              have Hhn := Aside0.mk hn
              have Ehn : Aside0 (duetref04_Rune.f a0_6 = some false) := ⟨(duetref04_op.rune_is _).trans (congrArg some hn)⟩
              clear hn
              go_wp2_with (first | (go_at_call 83; (with_reducible refine (duetref04_May.calls a0_2 a0_3 a2 true _ Ehi.out).mono ?_); rintro e w5 ⟨rfl, hb⟩; have B_w5 := Aside0.mk (below_step B_w4.out hb); have X_go_w5 := Aside0.mk (blk_below X_go_w4.out hb); obtain ⟨c_go_0_w5, c_go_1_w5, c_go_2_w5, c_go_3_w5, c_go_4_w5, c_go_5_w5, c_go_6_w5⟩ := Go.Proofs.Ytiplkmmppihilaa.XW.cells7 (X_go_w5.out); obtain ⟨z_go_0_w5, z_go_1_w5, z_go_2_w5, z_go_3_w5, z_go_4_w5, z_go_5_w5, z_go_6_w5⟩ := Go.Proofs.Ytiplkmmppihilaa.XW.froz7 (X_go_w5.out); have X_gz_w5 := Aside0.mk (blk_below X_gz_w4.out hb); obtain ⟨c_gz_0_w5, c_gz_1_w5⟩ := Go.Proofs.Ytiplkmmppihilaa.XW.cells2 (X_gz_w5.out); obtain ⟨z_gz_0_w5, z_gz_1_w5⟩ := Go.Proofs.Ytiplkmmppihilaa.XW.froz2 (X_gz_w5.out); clear hb) | (go_at_call 83; (with_reducible refine (duetref04_May.calls a0_4 a0_5 a2 true _ Ehr.out).mono ?_); rintro e w6 ⟨rfl, hb⟩; have B_w6 := Aside0.mk (below_step B_w5.out hb); have X_go_w6 := Aside0.mk (blk_below X_go_w5.out hb); obtain ⟨c_go_0_w6, c_go_1_w6, c_go_2_w6, c_go_3_w6, c_go_4_w6, c_go_5_w6, c_go_6_w6⟩ := Go.Proofs.Ytiplkmmppihilaa.XW.cells7 (X_go_w6.out); obtain ⟨z_go_0_w6, z_go_1_w6, z_go_2_w6, z_go_3_w6, z_go_4_w6, z_go_5_w6, z_go_6_w6⟩ := Go.Proofs.Ytiplkmmppihilaa.XW.froz7 (X_go_w6.out); have X_gz_w6 := Aside0.mk (blk_below X_gz_w5.out hb); obtain ⟨c_gz_0_w6, c_gz_1_w6⟩ := Go.Proofs.Ytiplkmmppihilaa.XW.cells2 (X_gz_w6.out); obtain ⟨z_gz_0_w6, z_gz_1_w6⟩ := Go.Proofs.Ytiplkmmppihilaa.XW.froz2 (X_gz_w6.out); clear hb) | (go_at_call 83; (with_reducible refine (duetref04_May.calls 0 a0_5 a2 false _ (duetref04_op.may0 _ _)).mono ?_); rintro e w6 ⟨rfl, hb⟩; have B_w6 := Aside0.mk (below_step B_w5.out hb); have X_go_w6 := Aside0.mk (blk_below X_go_w5.out hb); obtain ⟨c_go_0_w6, c_go_1_w6, c_go_2_w6, c_go_3_w6, c_go_4_w6, c_go_5_w6, c_go_6_w6⟩ := Go.Proofs.Ytiplkmmppihilaa.XW.cells7 (X_go_w6.out); obtain ⟨z_go_0_w6, z_go_1_w6, z_go_2_w6, z_go_3_w6, z_go_4_w6, z_go_5_w6, z_go_6_w6⟩ := Go.Proofs.Ytiplkmmppihilaa.XW.froz7 (X_go_w6.out); have X_gz_w6 := Aside0.mk (blk_below X_gz_w5.out hb); obtain ⟨c_gz_0_w6, c_gz_1_w6⟩ := Go.Proofs.Ytiplkmmppihilaa.XW.cells2 (X_gz_w6.out); obtain ⟨z_gz_0_w6, z_gz_1_w6⟩ := Go.Proofs.Ytiplkmmppihilaa.XW.froz2 (X_gz_w6.out); clear hb) | (go_at_call 84; (with_reducible refine (duetref04_Rune.calls a0_6 false _ Ehn.out).mono ?_); rintro e w' ⟨rfl, nd, rfl⟩))
              all_goals first | (go_ret; exact ⟨congrArg (fun b => Ending.returned (.bool b)) (by first | (simp [duetref04_op.opb, duetref04_op.mayb0, HQ.out, Hhi.out, Hhr.out, Hhn.out, *]; done) | (have e3 : a0_3 = a1 := (by assumption); have h2 := Hhi.out; rw [e3] at h2; simp [duetref04_op.opb, duetref04_op.mayb0, HQ.out, Hhi.out, Hhr.out, Hhn.out, h2, *])), (by first | exact B_w6.out | exact pw_below_drewN B_w6.out _ | exact B_w5.out | exact pw_below_drewN B_w5.out _ | exact B_w4.out | exact pw_below_drewN B_w4.out _)⟩) | (exfalso; have e4 : a0_4 = 0 := (by assumption); have := Hhr.out; rw [e4] at this; exact absurd this (by decide))
            | true =>
              have Hhn := Aside0.mk hn
              have Ehn : Aside0 (duetref04_Rune.f a0_6 = some true) := ⟨(duetref04_op.rune_is _).trans (congrArg some hn)⟩
              clear hn
              go_wp2_with (first | (go_at_call 83; (with_reducible refine (duetref04_May.calls a0_2 a0_3 a2 true _ Ehi.out).mono ?_); rintro e w5 ⟨rfl, hb⟩; have B_w5 := Aside0.mk (below_step B_w4.out hb); have X_go_w5 := Aside0.mk (blk_below X_go_w4.out hb); obtain ⟨c_go_0_w5, c_go_1_w5, c_go_2_w5, c_go_3_w5, c_go_4_w5, c_go_5_w5, c_go_6_w5⟩ := Go.Proofs.Ytiplkmmppihilaa.XW.cells7 (X_go_w5.out); obtain ⟨z_go_0_w5, z_go_1_w5, z_go_2_w5, z_go_3_w5, z_go_4_w5, z_go_5_w5, z_go_6_w5⟩ := Go.Proofs.Ytiplkmmppihilaa.XW.froz7 (X_go_w5.out); have X_gz_w5 := Aside0.mk (blk_below X_gz_w4.out hb); obtain ⟨c_gz_0_w5, c_gz_1_w5⟩ := Go.Proofs.Ytiplkmmppihilaa.XW.cells2 (X_gz_w5.out); obtain ⟨z_gz_0_w5, z_gz_1_w5⟩ := Go.Proofs.Ytiplkmmppihilaa.XW.froz2 (X_gz_w5.out); clear hb) | (go_at_call 83; (with_reducible refine (duetref04_May.calls a0_4 a0_5 a2 true _ Ehr.out).mono ?_); rintro e w6 ⟨rfl, hb⟩; have B_w6 := Aside0.mk (below_step B_w5.out hb); have X_go_w6 := Aside0.mk (blk_below X_go_w5.out hb); obtain ⟨c_go_0_w6, c_go_1_w6, c_go_2_w6, c_go_3_w6, c_go_4_w6, c_go_5_w6, c_go_6_w6⟩ := Go.Proofs.Ytiplkmmppihilaa.XW.cells7 (X_go_w6.out); obtain ⟨z_go_0_w6, z_go_1_w6, z_go_2_w6, z_go_3_w6, z_go_4_w6, z_go_5_w6, z_go_6_w6⟩ := Go.Proofs.Ytiplkmmppihilaa.XW.froz7 (X_go_w6.out); have X_gz_w6 := Aside0.mk (blk_below X_gz_w5.out hb); obtain ⟨c_gz_0_w6, c_gz_1_w6⟩ := Go.Proofs.Ytiplkmmppihilaa.XW.cells2 (X_gz_w6.out); obtain ⟨z_gz_0_w6, z_gz_1_w6⟩ := Go.Proofs.Ytiplkmmppihilaa.XW.froz2 (X_gz_w6.out); clear hb) | (go_at_call 83; (with_reducible refine (duetref04_May.calls 0 a0_5 a2 false _ (duetref04_op.may0 _ _)).mono ?_); rintro e w6 ⟨rfl, hb⟩; have B_w6 := Aside0.mk (below_step B_w5.out hb); have X_go_w6 := Aside0.mk (blk_below X_go_w5.out hb); obtain ⟨c_go_0_w6, c_go_1_w6, c_go_2_w6, c_go_3_w6, c_go_4_w6, c_go_5_w6, c_go_6_w6⟩ := Go.Proofs.Ytiplkmmppihilaa.XW.cells7 (X_go_w6.out); obtain ⟨z_go_0_w6, z_go_1_w6, z_go_2_w6, z_go_3_w6, z_go_4_w6, z_go_5_w6, z_go_6_w6⟩ := Go.Proofs.Ytiplkmmppihilaa.XW.froz7 (X_go_w6.out); have X_gz_w6 := Aside0.mk (blk_below X_gz_w5.out hb); obtain ⟨c_gz_0_w6, c_gz_1_w6⟩ := Go.Proofs.Ytiplkmmppihilaa.XW.cells2 (X_gz_w6.out); obtain ⟨z_gz_0_w6, z_gz_1_w6⟩ := Go.Proofs.Ytiplkmmppihilaa.XW.froz2 (X_gz_w6.out); clear hb) | (go_at_call 84; (with_reducible refine (duetref04_Rune.calls a0_6 true _ Ehn.out).mono ?_); rintro e w' ⟨rfl, nd, rfl⟩))
              all_goals first | (go_ret; exact ⟨congrArg (fun b => Ending.returned (.bool b)) (by first | (simp [duetref04_op.opb, duetref04_op.mayb0, HQ.out, Hhi.out, Hhr.out, Hhn.out, *]; done) | (have e3 : a0_3 = a1 := (by assumption); have h2 := Hhi.out; rw [e3] at h2; simp [duetref04_op.opb, duetref04_op.mayb0, HQ.out, Hhi.out, Hhr.out, Hhn.out, h2, *])), (by first | exact B_w6.out | exact pw_below_drewN B_w6.out _ | exact B_w5.out | exact pw_below_drewN B_w5.out _ | exact B_w4.out | exact pw_below_drewN B_w4.out _)⟩) | (exfalso; have e4 : a0_4 = 0 := (by assumption); have := Hhr.out; rw [e4] at this; exact absurd this (by decide))
    by_cases k2 : a0_0 = 2 ∨ a0_0 = 3 ∨ a0_0 = 4 ∨ a0_0 = 7 ∨ a0_0 = 8
    · rcases k2 with rfl | rfl | rfl | rfl | rfl
      all_goals
        as_aux_lemma =>
          cases hr : mesg_Check.mayb a0_4 a0_5 a2 with
          | false =>
            have Hhr := Aside0.mk hr
            have Ehr : Aside0 (duetref04_May.f a0_4 a0_5 a2 = some false) := ⟨(duetref04_op.may_is _ _ _).trans (congrArg some hr)⟩
            clear hr
            go_wp2_with (first | (go_at_call 83; (with_reducible refine (duetref04_May.calls a0_4 a0_5 a2 false _ Ehr.out).mono ?_); rintro e w5 ⟨rfl, hb⟩; have B_w5 := Aside0.mk (below_step B_w4.out hb); have X_go_w5 := Aside0.mk (blk_below X_go_w4.out hb); obtain ⟨c_go_0_w5, c_go_1_w5, c_go_2_w5, c_go_3_w5, c_go_4_w5, c_go_5_w5, c_go_6_w5⟩ := Go.Proofs.Ytiplkmmppihilaa.XW.cells7 (X_go_w5.out); obtain ⟨z_go_0_w5, z_go_1_w5, z_go_2_w5, z_go_3_w5, z_go_4_w5, z_go_5_w5, z_go_6_w5⟩ := Go.Proofs.Ytiplkmmppihilaa.XW.froz7 (X_go_w5.out); have X_gz_w5 := Aside0.mk (blk_below X_gz_w4.out hb); obtain ⟨c_gz_0_w5, c_gz_1_w5⟩ := Go.Proofs.Ytiplkmmppihilaa.XW.cells2 (X_gz_w5.out); obtain ⟨z_gz_0_w5, z_gz_1_w5⟩ := Go.Proofs.Ytiplkmmppihilaa.XW.froz2 (X_gz_w5.out); clear hb) | (go_at_call 83; (with_reducible refine (duetref04_May.calls 0 a0_5 a2 false _ (duetref04_op.may0 _ _)).mono ?_); rintro e w5 ⟨rfl, hb⟩; have B_w5 := Aside0.mk (below_step B_w4.out hb); have X_go_w5 := Aside0.mk (blk_below X_go_w4.out hb); obtain ⟨c_go_0_w5, c_go_1_w5, c_go_2_w5, c_go_3_w5, c_go_4_w5, c_go_5_w5, c_go_6_w5⟩ := Go.Proofs.Ytiplkmmppihilaa.XW.cells7 (X_go_w5.out); obtain ⟨z_go_0_w5, z_go_1_w5, z_go_2_w5, z_go_3_w5, z_go_4_w5, z_go_5_w5, z_go_6_w5⟩ := Go.Proofs.Ytiplkmmppihilaa.XW.froz7 (X_go_w5.out); have X_gz_w5 := Aside0.mk (blk_below X_gz_w4.out hb); obtain ⟨c_gz_0_w5, c_gz_1_w5⟩ := Go.Proofs.Ytiplkmmppihilaa.XW.cells2 (X_gz_w5.out); obtain ⟨z_gz_0_w5, z_gz_1_w5⟩ := Go.Proofs.Ytiplkmmppihilaa.XW.froz2 (X_gz_w5.out); clear hb))
            all_goals first | (go_ret; exact ⟨congrArg (fun b => Ending.returned (.bool b)) (by simp [duetref04_op.opb, duetref04_op.mayb0, HQ.out, Hhr.out, *]), (by first | exact B_w5.out | exact pw_below_drewN B_w5.out _ | exact B_w4.out | exact pw_below_drewN B_w4.out _)⟩)
          | true =>
            have Hhr := Aside0.mk hr
            have Ehr : Aside0 (duetref04_May.f a0_4 a0_5 a2 = some true) := ⟨(duetref04_op.may_is _ _ _).trans (congrArg some hr)⟩
            clear hr
            go_wp2_with (first | (go_at_call 83; (with_reducible refine (duetref04_May.calls a0_4 a0_5 a2 true _ Ehr.out).mono ?_); rintro e w5 ⟨rfl, hb⟩; have B_w5 := Aside0.mk (below_step B_w4.out hb); have X_go_w5 := Aside0.mk (blk_below X_go_w4.out hb); obtain ⟨c_go_0_w5, c_go_1_w5, c_go_2_w5, c_go_3_w5, c_go_4_w5, c_go_5_w5, c_go_6_w5⟩ := Go.Proofs.Ytiplkmmppihilaa.XW.cells7 (X_go_w5.out); obtain ⟨z_go_0_w5, z_go_1_w5, z_go_2_w5, z_go_3_w5, z_go_4_w5, z_go_5_w5, z_go_6_w5⟩ := Go.Proofs.Ytiplkmmppihilaa.XW.froz7 (X_go_w5.out); have X_gz_w5 := Aside0.mk (blk_below X_gz_w4.out hb); obtain ⟨c_gz_0_w5, c_gz_1_w5⟩ := Go.Proofs.Ytiplkmmppihilaa.XW.cells2 (X_gz_w5.out); obtain ⟨z_gz_0_w5, z_gz_1_w5⟩ := Go.Proofs.Ytiplkmmppihilaa.XW.froz2 (X_gz_w5.out); clear hb) | (go_at_call 83; (with_reducible refine (duetref04_May.calls 0 a0_5 a2 false _ (duetref04_op.may0 _ _)).mono ?_); rintro e w5 ⟨rfl, hb⟩; have B_w5 := Aside0.mk (below_step B_w4.out hb); have X_go_w5 := Aside0.mk (blk_below X_go_w4.out hb); obtain ⟨c_go_0_w5, c_go_1_w5, c_go_2_w5, c_go_3_w5, c_go_4_w5, c_go_5_w5, c_go_6_w5⟩ := Go.Proofs.Ytiplkmmppihilaa.XW.cells7 (X_go_w5.out); obtain ⟨z_go_0_w5, z_go_1_w5, z_go_2_w5, z_go_3_w5, z_go_4_w5, z_go_5_w5, z_go_6_w5⟩ := Go.Proofs.Ytiplkmmppihilaa.XW.froz7 (X_go_w5.out); have X_gz_w5 := Aside0.mk (blk_below X_gz_w4.out hb); obtain ⟨c_gz_0_w5, c_gz_1_w5⟩ := Go.Proofs.Ytiplkmmppihilaa.XW.cells2 (X_gz_w5.out); obtain ⟨z_gz_0_w5, z_gz_1_w5⟩ := Go.Proofs.Ytiplkmmppihilaa.XW.froz2 (X_gz_w5.out); clear hb))
            all_goals first | (go_ret; exact ⟨congrArg (fun b => Ending.returned (.bool b)) (by simp [duetref04_op.opb, duetref04_op.mayb0, HQ.out, Hhr.out, *]), (by first | exact B_w5.out | exact pw_below_drewN B_w5.out _ | exact B_w4.out | exact pw_below_drewN B_w4.out _)⟩) | (exfalso; have e4 : a0_4 = 0 := (by assumption); have := Hhr.out; rw [e4] at this; exact absurd this (by decide))
    by_cases k5 : a0_0 = 5
    · subst k5
      as_aux_lemma =>
        cases hr : mesg_Check.mayb a0_4 a0_5 a2 with
        | false =>
          have Hhr := Aside0.mk hr
          have Ehr : Aside0 (duetref04_May.f a0_4 a0_5 a2 = some false) := ⟨(duetref04_op.may_is _ _ _).trans (congrArg some hr)⟩
          clear hr
          go_wp2_with (first | (go_at_call 83; (with_reducible refine (duetref04_May.calls a0_4 a0_5 a2 false _ Ehr.out).mono ?_); rintro e w5 ⟨rfl, hb⟩; have B_w5 := Aside0.mk (below_step B_w4.out hb); have X_go_w5 := Aside0.mk (blk_below X_go_w4.out hb); obtain ⟨c_go_0_w5, c_go_1_w5, c_go_2_w5, c_go_3_w5, c_go_4_w5, c_go_5_w5, c_go_6_w5⟩ := Go.Proofs.Ytiplkmmppihilaa.XW.cells7 (X_go_w5.out); obtain ⟨z_go_0_w5, z_go_1_w5, z_go_2_w5, z_go_3_w5, z_go_4_w5, z_go_5_w5, z_go_6_w5⟩ := Go.Proofs.Ytiplkmmppihilaa.XW.froz7 (X_go_w5.out); have X_gz_w5 := Aside0.mk (blk_below X_gz_w4.out hb); obtain ⟨c_gz_0_w5, c_gz_1_w5⟩ := Go.Proofs.Ytiplkmmppihilaa.XW.cells2 (X_gz_w5.out); obtain ⟨z_gz_0_w5, z_gz_1_w5⟩ := Go.Proofs.Ytiplkmmppihilaa.XW.froz2 (X_gz_w5.out); clear hb) | (go_at_call 83; (with_reducible refine (duetref04_May.calls 0 a0_5 a2 false _ (duetref04_op.may0 _ _)).mono ?_); rintro e w5 ⟨rfl, hb⟩; have B_w5 := Aside0.mk (below_step B_w4.out hb); have X_go_w5 := Aside0.mk (blk_below X_go_w4.out hb); obtain ⟨c_go_0_w5, c_go_1_w5, c_go_2_w5, c_go_3_w5, c_go_4_w5, c_go_5_w5, c_go_6_w5⟩ := Go.Proofs.Ytiplkmmppihilaa.XW.cells7 (X_go_w5.out); obtain ⟨z_go_0_w5, z_go_1_w5, z_go_2_w5, z_go_3_w5, z_go_4_w5, z_go_5_w5, z_go_6_w5⟩ := Go.Proofs.Ytiplkmmppihilaa.XW.froz7 (X_go_w5.out); have X_gz_w5 := Aside0.mk (blk_below X_gz_w4.out hb); obtain ⟨c_gz_0_w5, c_gz_1_w5⟩ := Go.Proofs.Ytiplkmmppihilaa.XW.cells2 (X_gz_w5.out); obtain ⟨z_gz_0_w5, z_gz_1_w5⟩ := Go.Proofs.Ytiplkmmppihilaa.XW.froz2 (X_gz_w5.out); clear hb))
          all_goals first | (go_ret; exact ⟨congrArg (fun b => Ending.returned (.bool b)) (by simp [duetref04_op.opb, duetref04_op.mayb0, HQ.out, Hhr.out, *]), (by first | exact B_w5.out | exact pw_below_drewN B_w5.out _ | exact B_w4.out | exact pw_below_drewN B_w4.out _)⟩)
        | true =>
          have Hhr := Aside0.mk hr
          have Ehr : Aside0 (duetref04_May.f a0_4 a0_5 a2 = some true) := ⟨(duetref04_op.may_is _ _ _).trans (congrArg some hr)⟩
          clear hr
          go_wp2_with (first | (go_at_call 83; (with_reducible refine (duetref04_May.calls a0_4 a0_5 a2 true _ Ehr.out).mono ?_); rintro e w5 ⟨rfl, hb⟩; have B_w5 := Aside0.mk (below_step B_w4.out hb); have X_go_w5 := Aside0.mk (blk_below X_go_w4.out hb); obtain ⟨c_go_0_w5, c_go_1_w5, c_go_2_w5, c_go_3_w5, c_go_4_w5, c_go_5_w5, c_go_6_w5⟩ := Go.Proofs.Ytiplkmmppihilaa.XW.cells7 (X_go_w5.out); obtain ⟨z_go_0_w5, z_go_1_w5, z_go_2_w5, z_go_3_w5, z_go_4_w5, z_go_5_w5, z_go_6_w5⟩ := Go.Proofs.Ytiplkmmppihilaa.XW.froz7 (X_go_w5.out); have X_gz_w5 := Aside0.mk (blk_below X_gz_w4.out hb); obtain ⟨c_gz_0_w5, c_gz_1_w5⟩ := Go.Proofs.Ytiplkmmppihilaa.XW.cells2 (X_gz_w5.out); obtain ⟨z_gz_0_w5, z_gz_1_w5⟩ := Go.Proofs.Ytiplkmmppihilaa.XW.froz2 (X_gz_w5.out); clear hb) | (go_at_call 83; (with_reducible refine (duetref04_May.calls 0 a0_5 a2 false _ (duetref04_op.may0 _ _)).mono ?_); rintro e w5 ⟨rfl, hb⟩; have B_w5 := Aside0.mk (below_step B_w4.out hb); have X_go_w5 := Aside0.mk (blk_below X_go_w4.out hb); obtain ⟨c_go_0_w5, c_go_1_w5, c_go_2_w5, c_go_3_w5, c_go_4_w5, c_go_5_w5, c_go_6_w5⟩ := Go.Proofs.Ytiplkmmppihilaa.XW.cells7 (X_go_w5.out); obtain ⟨z_go_0_w5, z_go_1_w5, z_go_2_w5, z_go_3_w5, z_go_4_w5, z_go_5_w5, z_go_6_w5⟩ := Go.Proofs.Ytiplkmmppihilaa.XW.froz7 (X_go_w5.out); have X_gz_w5 := Aside0.mk (blk_below X_gz_w4.out hb); obtain ⟨c_gz_0_w5, c_gz_1_w5⟩ := Go.Proofs.Ytiplkmmppihilaa.XW.cells2 (X_gz_w5.out); obtain ⟨z_gz_0_w5, z_gz_1_w5⟩ := Go.Proofs.Ytiplkmmppihilaa.XW.froz2 (X_gz_w5.out); clear hb))
          all_goals first | (go_ret; exact ⟨congrArg (fun b => Ending.returned (.bool b)) (by simp [duetref04_op.opb, duetref04_op.mayb0, HQ.out, Hhr.out, *]), (by first | exact B_w5.out | exact pw_below_drewN B_w5.out _ | exact B_w4.out | exact pw_below_drewN B_w4.out _)⟩) | (exfalso; have e4 : a0_4 = 0 := (by assumption); have := Hhr.out; rw [e4] at this; exact absurd this (by decide))
    by_cases k6 : a0_0 = 6
    · subst k6
      as_aux_lemma =>
        cases hi : mesg_Check.mayb a0_2 a0_3 a2 with
        | false =>
          have Hhi := Aside0.mk hi
          have Ehi : Aside0 (duetref04_May.f a0_2 a0_3 a2 = some false) := ⟨(duetref04_op.may_is _ _ _).trans (congrArg some hi)⟩
          clear hi
          go_wp2_with (first | (go_at_call 83; (with_reducible refine (duetref04_May.calls a0_2 a0_3 a2 false _ Ehi.out).mono ?_); rintro e w5 ⟨rfl, hb⟩; have B_w5 := Aside0.mk (below_step B_w4.out hb); have X_go_w5 := Aside0.mk (blk_below X_go_w4.out hb); obtain ⟨c_go_0_w5, c_go_1_w5, c_go_2_w5, c_go_3_w5, c_go_4_w5, c_go_5_w5, c_go_6_w5⟩ := Go.Proofs.Ytiplkmmppihilaa.XW.cells7 (X_go_w5.out); obtain ⟨z_go_0_w5, z_go_1_w5, z_go_2_w5, z_go_3_w5, z_go_4_w5, z_go_5_w5, z_go_6_w5⟩ := Go.Proofs.Ytiplkmmppihilaa.XW.froz7 (X_go_w5.out); have X_gz_w5 := Aside0.mk (blk_below X_gz_w4.out hb); obtain ⟨c_gz_0_w5, c_gz_1_w5⟩ := Go.Proofs.Ytiplkmmppihilaa.XW.cells2 (X_gz_w5.out); obtain ⟨z_gz_0_w5, z_gz_1_w5⟩ := Go.Proofs.Ytiplkmmppihilaa.XW.froz2 (X_gz_w5.out); clear hb))
          all_goals first | (go_ret; exact ⟨congrArg (fun b => Ending.returned (.bool b)) (by simp [duetref04_op.opb, duetref04_op.mayb0, HQ.out, Hhi.out, *]), (by first | exact B_w5.out | exact pw_below_drewN B_w5.out _ | exact B_w4.out | exact pw_below_drewN B_w4.out _)⟩)
        | true =>
          have Hhi := Aside0.mk hi
          have Ehi : Aside0 (duetref04_May.f a0_2 a0_3 a2 = some true) := ⟨(duetref04_op.may_is _ _ _).trans (congrArg some hi)⟩
          clear hi
          go_wp2_with (first | (go_at_call 83; (with_reducible refine (duetref04_May.calls a0_2 a0_3 a2 true _ Ehi.out).mono ?_); rintro e w5 ⟨rfl, hb⟩; have B_w5 := Aside0.mk (below_step B_w4.out hb); have X_go_w5 := Aside0.mk (blk_below X_go_w4.out hb); obtain ⟨c_go_0_w5, c_go_1_w5, c_go_2_w5, c_go_3_w5, c_go_4_w5, c_go_5_w5, c_go_6_w5⟩ := Go.Proofs.Ytiplkmmppihilaa.XW.cells7 (X_go_w5.out); obtain ⟨z_go_0_w5, z_go_1_w5, z_go_2_w5, z_go_3_w5, z_go_4_w5, z_go_5_w5, z_go_6_w5⟩ := Go.Proofs.Ytiplkmmppihilaa.XW.froz7 (X_go_w5.out); have X_gz_w5 := Aside0.mk (blk_below X_gz_w4.out hb); obtain ⟨c_gz_0_w5, c_gz_1_w5⟩ := Go.Proofs.Ytiplkmmppihilaa.XW.cells2 (X_gz_w5.out); obtain ⟨z_gz_0_w5, z_gz_1_w5⟩ := Go.Proofs.Ytiplkmmppihilaa.XW.froz2 (X_gz_w5.out); clear hb))
          all_goals first | (go_ret; exact ⟨congrArg (fun b => Ending.returned (.bool b)) (by first | (simp [duetref04_op.opb, duetref04_op.mayb0, HQ.out, Hhi.out, *]; done) | (have e3 : a0_3 = a1 := (by assumption); have h2 := Hhi.out; rw [e3] at h2; simp [duetref04_op.opb, duetref04_op.mayb0, HQ.out, Hhi.out, h2, *])), (by first | exact B_w5.out | exact pw_below_drewN B_w5.out _ | exact B_w4.out | exact pw_below_drewN B_w4.out _)⟩)
    have HK := Aside0.mk (And.intro k1 (And.intro k2 (And.intro k5 k6)))
    have q1 : (a0_0 == 1) = false := beq_eq_false_iff_ne.mpr (by omega)
    have q2 : (a0_0 == 2) = false := beq_eq_false_iff_ne.mpr (by omega)
    have q3 : (a0_0 == 3) = false := beq_eq_false_iff_ne.mpr (by omega)
    have q4 : (a0_0 == 4) = false := beq_eq_false_iff_ne.mpr (by omega)
    have q5 : (a0_0 == 5) = false := beq_eq_false_iff_ne.mpr (by omega)
    have q6 : (a0_0 == 6) = false := beq_eq_false_iff_ne.mpr (by omega)
    have q7 : (a0_0 == 7) = false := beq_eq_false_iff_ne.mpr (by omega)
    have q8 : (a0_0 == 8) = false := beq_eq_false_iff_ne.mpr (by omega)
    clear k1 k2 k5 k6
    go_wp2
    go_ret
    exact ⟨congrArg (fun b => Ending.returned (.bool b)) (by simp [duetref04_op.opb, HK.out.1, HK.out.2.1, HK.out.2.2.1, HK.out.2.2.2]), B_w4.out⟩


-- NOT PRINTED: function 54 (duetref04_Check)

-- NOT PRINTED: function 29 (duetref16_Where_Move)

/-- A state of type 96 at block g of W; what its slices lead to came in by w0. -/
def IsS96 (w0 W : World) (g : Nat) (f0 : List (S98)) : Prop := ∃ A0 c0, W.heap[g]? = some (.cells #[.slice A0 f0.length c0] 96 (0, 0)) ∧ w0.heap.size ≤ g ∧ Kd.C k98 w0 A0 f0.length f0
theorem IsS96.grown {w0 W : World} {g : Nat} {f0 : List (S98)} {W1 : World} {row : Option Nat} (h : IsS96 w0 W g f0) (hw : W.grownBy W1 row) (hne : some g ≠ row) : IsS96 w0 W1 g f0 := by
  obtain ⟨A0, c0, hb, hg, hr0⟩ := h
  exact ⟨A0, c0, blk_grown hb hw hne, hg, hr0⟩
theorem IsS96.own_neN {w0 W : World} {g : Nat} {f0 : List (S98)} {α : Type} {d : Kd α} {e : Nat} {base : Nat} {ok : Nat → Prop} {v : Value} {xs : List α} (h : IsS96 w0 W g f0) (ho : Kd.N d e W base ok v xs) (ht : e ≠ 96) : some g ≠ v.ownBlock := by
  obtain ⟨A0, c0, hb, hg, hr0⟩ := h
  exact Kd.N_ne ho hb ht
theorem IsS96.fresh {w0 W : World} {g : Nat} {f0 : List (S98)} (h : IsS96 w0 W g f0) : ∀ k, W.heap.size ≤ k → k ≠ g := by
  obtain ⟨A0, c0, hb, hg, hr0⟩ := h
  exact Kd.freshB hb
theorem IsS96.kept {w0 W : World} {g : Nat} {f0 : List (S98)} {W1 : World} {S : Nat → Prop} (h : IsS96 w0 W g f0) (hk : Kept W W1 S) (hne : ¬ S g) : IsS96 w0 W1 g f0 := by
  obtain ⟨A0, c0, hb, hg, hr0⟩ := h
  exact ⟨A0, c0, blk_kept hb hk hne, hg, hr0⟩
theorem IsS96.below {w0 W : World} {g : Nat} {f0 : List (S98)} {W1 : World} (h : IsS96 w0 W g f0) (hw : Below W.heap.size W W1) : IsS96 w0 W1 g f0 := h.grown (grown_of_below hw none) (by simp)
theorem IsS96.alloc {w0 W : World} {g : Nat} {f0 : List (S98)} (h : IsS96 w0 W g f0) (o : Obj) : IsS96 w0 (W.alloc o) g f0 := h.below (below_alloc (Below.refl _ _) o)
theorem IsS96.drewN {w0 W : World} {g : Nat} {f0 : List (S98)} (h : IsS96 w0 W g f0) (m : Nat) : IsS96 w0 (W.drewN m) g f0 := h
theorem IsS96.drew {w0 W : World} {g : Nat} {f0 : List (S98)} (h : IsS96 w0 W g f0) : IsS96 w0 W.drew g f0 := h
theorem IsS96.at_ {w0 W : World} {g : Nat} {f0 : List (S98)} {w' : World} {m : Nat} (hq : W.drewN m = w') (h : IsS96 w0 W g f0) : IsS96 w0 w' g f0 := by subst hq; exact IsS96.drewN h m
theorem IsS96.apart {w0 W : World} {g : Nat} {f0 : List (S98)} {α : Type} {d : Kd α} {e : Nat} {base : Nat} {ok : Nat → Prop} {v : Value} {xs : List α} (h : IsS96 w0 W g f0) (ho : d.R e W base ok v xs) (ht : ∀ q, q ∈ e :: d.E → q ≠ 96) : d.R e W base (fun k => ok k ∧ k ≠ g) v xs := by
  obtain ⟨A0, c0, hb, hg, hr0⟩ := h
  exact Kd.R_types ho hb ht
theorem IsS96.own_ne {w0 W : World} {g : Nat} {f0 : List (S98)} {α : Type} {d : Kd α} {e : Nat} {base : Nat} {ok : Nat → Prop} {v : Value} {xs : List α} (h : IsS96 w0 W g f0) (ho : d.R e W base ok v xs) (ht : e ≠ 96) : some g ≠ v.ownBlock := by
  obtain ⟨A0, c0, hb, hg, hr0⟩ := h
  exact Kd.R_ne ho hb ht
theorem IsS96.apartQ {w0 W : World} {g : Nat} {f0 : List (S98)} {α : Type} {d : Kd α} {e : Nat} {base : Nat} {ok : Nat → Prop} {v : Value} {xs : List α} (h : IsS96 w0 W g f0) (ho : d.Q e W base ok v xs) (ht : ∀ q, q ∈ e :: d.E → q ≠ 96) : d.Q e W base (fun k => ok k ∧ k ≠ g) v xs := by
  obtain ⟨A0, c0, hb, hg, hr0⟩ := h
  exact Kd.Q_types ho hb ht
theorem IsS96.own_neQ {w0 W : World} {g : Nat} {f0 : List (S98)} {α : Type} {d : Kd α} {e : Nat} {base : Nat} {ok : Nat → Prop} {v : Value} {xs : List α} (h : IsS96 w0 W g f0) (ho : d.Q e W base ok v xs) (ht : e ≠ 96) : some g ≠ v.ownBlock := by
  obtain ⟨A0, c0, hb, hg, hr0⟩ := h
  exact Kd.Q_ne ho hb ht
theorem IsS96.apartS {w0 W : World} {g : Nat} {f0 : List (S98)} {α : Type} {d : Kd α} {e : Nat} {base : Nat} {ok : Nat → Prop} {v : Value} {xs : List α} (h : IsS96 w0 W g f0) (ho : d.S e W base ok v xs) (ht : ∀ q, q ∈ e :: d.E → q ≠ 96) : d.S e W base (fun k => ok k ∧ k ≠ g) v xs := by
  obtain ⟨A0, c0, hb, hg, hr0⟩ := h
  exact Kd.S_types ho hb ht
theorem IsS96.own_neS {w0 W : World} {g : Nat} {f0 : List (S98)} {α : Type} {d : Kd α} {e : Nat} {base : Nat} {ok : Nat → Prop} {v : Value} {xs : List α} (h : IsS96 w0 W g f0) (ho : d.S e W base ok v xs) (ht : e ≠ 96) : some g ≠ v.ownBlock := by
  obtain ⟨A0, c0, hb, hg, hr0⟩ := h
  exact Kd.S_ne ho hb ht
theorem IsS96.lt {w0 W : World} {g : Nat} {f0 : List (S98)} (h : IsS96 w0 W g f0) : g < W.heap.size := by
  obtain ⟨A0, c0, hb, hg, hr0⟩ := h
  exact blk_lt hb
theorem IsS96.ge {w0 W : World} {g : Nat} {f0 : List (S98)} (h : IsS96 w0 W g f0) : w0.heap.size ≤ g := by
  obtain ⟨A0, c0, hb, hg, hr0⟩ := h
  exact hg
theorem IsS96.ne_blk {w0 W : World} {g : Nat} {f0 : List (S98)} {a : Nat} {cs : Array Value} {t : TypeId} {fr : Nat × Nat} (h : IsS96 w0 W g f0) (hb2 : W.heap[a]? = some (.cells cs t fr)) (ht : t ≠ 96) : g ≠ a := by
  obtain ⟨A0, c0, hb, hg, hr0⟩ := h
  rintro rfl
  rw [hb] at hb2
  injection hb2 with hb2
  injection hb2 with _ ht2
  exact ht ht2.symm
theorem IsS96.far {w0 W : World} {g : Nat} {f0 : List (S98)} {p : Addr} (h : IsS96 w0 W g f0) (hne : g ≠ p.block) (u : Value) : IsS96 w0 (W.setCell p u) g f0 := by
  obtain ⟨A0, c0, hb, hg, hr0⟩ := h
  exact ⟨A0, c0, blk_far hb hne u, hg, hr0⟩
theorem cellS96_0 {W : World} {g : Nat} {A0 : Option Addr} {c0 : Nat} {f0 : List (S98)} (h : W.heap[g]? = some (.cells #[.slice A0 f0.length c0] 96 (0, 0))) : W.cell? ⟨g, 0, none⟩ = some (.slice A0 f0.length c0) := (blk_cell h 0).trans rfl
theorem IsS96.new (w0 W : World) (A0 : Option Addr) (c0 : Nat) (f0 : List (S98)) (hB : Below w0.heap.size w0 W) (hr0 : Kd.C k98 w0 A0 f0.length f0) : IsS96 w0 (W.alloc (.cells #[.slice A0 f0.length c0] 96)) W.heap.size f0 := ⟨A0, c0, by simpa using heap_alloc_new W _, hB.size, hr0⟩

/-! ### duetref16_Where_At: function 31 -/
def duetref16_Where_At.f (s0_0 : List (S98)) (a1 : Int) (a2 : Int) : Option (Int × Int × Bool) := if a1 < 0 then (some (0, 0, false)) else (if a1 ≥ (s0_0.length : Int) then (some (0, 0, false)) else (if 0 ≤ a1 then (if a1 < (s0_0.length : Int) then (if ((rd_T98 s0_0 a1).f0) = 0 then (some (0, 0, false)) else (if ((rd_T98 s0_0 a1).f1) = a2 then (some ((rd_T98 s0_0 a1).f2.f0, (rd_T98 s0_0 a1).f2.f1, true)) else (some (0, 0, false)))) else (none)) else (none)))
set_option maxHeartbeats 8000000 in
set_option maxRecDepth 100000 in
theorem duetref16_Where_At.calls (g : Nat) (s0_0 : List (S98)) (a1 : Int) (a2 : Int) (r1 : Int) (r2 : Int) (r3 : Bool) (w0 w : World) (hI : IsS96 w0 w g s0_0) (hB : Below w0.heap.size w0 w) (h : duetref16_Where_At.f s0_0 a1 a2 = some (r1, r2, r3)) :
    Calls Try.prog 31 #[.pointer (some ⟨g, 0, none⟩), .int .i64 a1, .int .i64 a2] w fun e w' => e = .returned (.tuple #[.agg #[.int .i64 r1, .int .i64 r2], .bool r3]) ∧ IsS96 w0 w' g s0_0 ∧ Below w0.heap.size w0 w' ∧ KeepBut w w' g none := by
  have hu52 := Try.underlying52
  have HI0 := Aside0.mk hI
  have HK := Aside0.mk (KeepBut.refl w g none)
  have HL := Aside0.mk hB.size
  clear hI
  have HW0 := Aside0.mk hB.size
  have HB := Aside0.mk hB
  clear hB
  have H : (if a1 < 0 then (some (0, 0, false)) else (if a1 ≥ (s0_0.length : Int) then (some (0, 0, false)) else (if 0 ≤ a1 then (if a1 < (s0_0.length : Int) then (if ((rd_T98 s0_0 a1).f0) = 0 then (some (0, 0, false)) else (if ((rd_T98 s0_0 a1).f1) = a2 then (some ((rd_T98 s0_0 a1).f2.f0, (rd_T98 s0_0 a1).f2.f1, true)) else (some (0, 0, false)))) else (none)) else (none)))) = some (r1, r2, r3) := h
  clear h
  by_cases c4 : a1 < 0
  · rw [if_pos c4] at H
    have c4b0 : decide (a1 < 0) = true := decide_eq_true c4
    clear c4
    simp only [Option.some.injEq, Prod.mk.injEq] at H
    obtain ⟨rfl, rfl, rfl⟩ := H
    go_enter Try.func31, Try.ntmps31
    go_wp2_with (first | ((with_reducible refine gate_dst (N := 6) rfl ?_); (try (refine gate_guard (by rfl) ?_; dsimp only)); refine box_event ?hg (N := 6) ?hd (cs := #[.int .i64 0, .int .i64 0]) (t := 52) ?hr ?_; (case hd => rfl); (case hg => rfl); (case hr => first | (go_simp; done) | (go_simp; rfl)); intro gb126 hg w5 hbox hb; have n0_ := Aside0.mk (IsS96.below (by repeat (first | (with_reducible first | exact HI0.out | apply IsS96.alloc | apply IsS96.drewN | apply IsS96.drew) | exact HI0.out)) hb); have n1_ := Aside0.mk (KeepBut.trans (by repeat (first | (with_reducible first | exact HK.out | apply KeepBut.set_ | apply keep_drewN | apply keep_drew | apply keep_alloc) | exact HK.out)) (KeepBut.of_below hb g none) (.inl rfl)); have n2_ := Aside0.mk (below_step (by repeat (first | (with_reducible first | exact HB.out | apply below_alloc | apply pw_below_drewN | apply below_drew1 | refine below_set ?_ (IsS96.ge HI0.out)) | exact HB.out)) hb); have n3_ := Aside0.mk (hbox); have n4_ := Aside0.mk ((by rw [hg]; exact (keep_size (w := w) (g := g) (row := none) (by repeat (first | (with_reducible first | exact HK.out | apply KeepBut.set_ | apply keep_drewN | apply keep_drew | apply keep_alloc) | exact HK.out))) : w.heap.size ≤ gb126)); have n5_ := Aside0.mk ((Nat.le_trans HW0.out (by rw [hg]; exact (keep_size (w := w) (g := g) (row := none) (by repeat (first | (with_reducible first | exact HK.out | apply KeepBut.set_ | apply keep_drewN | apply keep_drew | apply keep_alloc) | exact HK.out))) : w.heap.size ≤ gb126) : w0.heap.size ≤ gb126)); have n6_ := Aside0.mk ((by rw [hg]; exact Nat.ne_of_lt (IsS96.lt (show IsS96 w0 _ g s0_0 from by repeat (first | (with_reducible first | exact HI0.out | apply IsS96.alloc | apply IsS96.drewN | apply IsS96.drew) | exact HI0.out))) : g ≠ gb126)); have n7_ := Aside0.mk ((by rw [hg]; exact Nat.ne_of_gt (IsS96.lt (show IsS96 w0 _ g s0_0 from by repeat (first | (with_reducible first | exact HI0.out | apply IsS96.alloc | apply IsS96.drewN | apply IsS96.drew) | exact HI0.out))) : gb126 ≠ g)); clear HI0; clear HK; clear HB; have HI0 := n0_; have HK := n1_; have HB := n2_; have BK126 := n3_; have GW126 := n4_; have GE126 := n5_; have NB0_126 := n6_; have NB126_0 := n7_; clear n0_ n1_ n2_ n3_ n4_ n5_ n6_ n7_; clear hb hbox hg; have hnb6 := NB126_0.out; have hnc6 := NB0_126.out; have hcz7_0 : w5.cell? ⟨gb126, 0, none⟩ = some (.int .i64 0) := (blk_cell BK126.out 0).trans rfl; have hcz7_1 : w5.cell? ⟨gb126, 1, none⟩ = some (.int .i64 0) := (blk_cell BK126.out 1).trans rfl; have hfz7_0 := blk_frozen BK126.out 0; have hfz7_1 := blk_frozen BK126.out 1))
    refine bodyPost_ret (results_ct rfl _ _ gb126 52 #[.int .i64 0, .int .i64 0] (0, 0) _ rfl (by (with_reducible repeat (first | refine blk_drewN ?_ _ | refine blk_drew ?_ | refine blk_alloc ?_ _)); refine blk_put (cs := #[.int .i64 0, .int .i64 0]) ?_ 1 _ rfl; (with_reducible repeat (first | refine blk_drewN ?_ _ | refine blk_drew ?_ | refine blk_alloc ?_ _)); refine blk_put (cs := #[.int .i64 0, .int .i64 0]) ?_ 0 _ rfl; (with_reducible repeat (first | refine blk_drewN ?_ _ | refine blk_drew ?_ | refine blk_alloc ?_ _)); exact BK126.out) Try.underlying52 rfl (by kernel_rfl)) rfl ?_
    exact ⟨by first | rfl | (simp [errW_none, errW_some] <;> rfl) | (simp [*, errW_none, errW_some] <;> rfl), by repeat (first | (with_reducible first | exact HI0.out | apply IsS96.alloc | apply IsS96.drewN | apply IsS96.drew | refine IsS96.far ?_ NB0_126.out _) | exact HI0.out), by repeat (first | (with_reducible first | exact HB.out | apply below_alloc | apply pw_below_drewN | apply below_drew1 | refine below_set ?_ (IsS96.ge HI0.out) | refine below_set ?_ GE126.out) | exact HB.out), by repeat (first | (with_reducible first | exact HK.out | apply KeepBut.set_ | apply keep_drewN | apply keep_drew | apply keep_alloc | refine keep_far ?_ GW126.out _) | exact HK.out)⟩
  · rw [if_neg c4] at H
    have c4b0 : decide (a1 < 0) = false := decide_eq_false c4
    clear c4
    by_cases c8 : a1 ≥ (s0_0.length : Int)
    · rw [if_pos c8] at H
      have c8b0 : decide ((s0_0.length : Int) ≤ a1) = true := decide_eq_true c8
      clear c8
      simp only [Option.some.injEq, Prod.mk.injEq] at H
      obtain ⟨rfl, rfl, rfl⟩ := H
      go_enter Try.func31, Try.ntmps31
      go_wp2_with (first | ((with_reducible refine gate_dst (N := 6) rfl ?_); (try (refine gate_guard (by rfl) ?_; dsimp only)); refine box_event ?hg (N := 6) ?hd (cs := #[.int .i64 0, .int .i64 0]) (t := 52) ?hr ?_; (case hd => rfl); (case hg => rfl); (case hr => first | (go_simp; done) | (go_simp; rfl)); intro gb126 hg w9 hbox hb; have n0_ := Aside0.mk (IsS96.below (by repeat (first | (with_reducible first | exact HI0.out | apply IsS96.alloc | apply IsS96.drewN | apply IsS96.drew) | exact HI0.out)) hb); have n1_ := Aside0.mk (KeepBut.trans (by repeat (first | (with_reducible first | exact HK.out | apply KeepBut.set_ | apply keep_drewN | apply keep_drew | apply keep_alloc) | exact HK.out)) (KeepBut.of_below hb g none) (.inl rfl)); have n2_ := Aside0.mk (below_step (by repeat (first | (with_reducible first | exact HB.out | apply below_alloc | apply pw_below_drewN | apply below_drew1 | refine below_set ?_ (IsS96.ge HI0.out)) | exact HB.out)) hb); have n3_ := Aside0.mk (hbox); have n4_ := Aside0.mk ((by rw [hg]; exact (keep_size (w := w) (g := g) (row := none) (by repeat (first | (with_reducible first | exact HK.out | apply KeepBut.set_ | apply keep_drewN | apply keep_drew | apply keep_alloc) | exact HK.out))) : w.heap.size ≤ gb126)); have n5_ := Aside0.mk ((Nat.le_trans HW0.out (by rw [hg]; exact (keep_size (w := w) (g := g) (row := none) (by repeat (first | (with_reducible first | exact HK.out | apply KeepBut.set_ | apply keep_drewN | apply keep_drew | apply keep_alloc) | exact HK.out))) : w.heap.size ≤ gb126) : w0.heap.size ≤ gb126)); have n6_ := Aside0.mk ((by rw [hg]; exact Nat.ne_of_lt (IsS96.lt (show IsS96 w0 _ g s0_0 from by repeat (first | (with_reducible first | exact HI0.out | apply IsS96.alloc | apply IsS96.drewN | apply IsS96.drew) | exact HI0.out))) : g ≠ gb126)); have n7_ := Aside0.mk ((by rw [hg]; exact Nat.ne_of_gt (IsS96.lt (show IsS96 w0 _ g s0_0 from by repeat (first | (with_reducible first | exact HI0.out | apply IsS96.alloc | apply IsS96.drewN | apply IsS96.drew) | exact HI0.out))) : gb126 ≠ g)); clear HI0; clear HK; clear HB; have HI0 := n0_; have HK := n1_; have HB := n2_; have BK126 := n3_; have GW126 := n4_; have GE126 := n5_; have NB0_126 := n6_; have NB126_0 := n7_; clear n0_ n1_ n2_ n3_ n4_ n5_ n6_ n7_; clear hb hbox hg; obtain ⟨ASz10_0, cSz10_0, HGz10, hgz10, HSz10_0⟩ := HI0.out; have hcz10_0 := cellS96_0 HGz10; clear HGz10 hgz10; have hnb11 := NB126_0.out; have hnc11 := NB0_126.out; have hcz12_0 : w9.cell? ⟨gb126, 0, none⟩ = some (.int .i64 0) := (blk_cell BK126.out 0).trans rfl; have hcz12_1 : w9.cell? ⟨gb126, 1, none⟩ = some (.int .i64 0) := (blk_cell BK126.out 1).trans rfl; have hfz12_0 := blk_frozen BK126.out 0; have hfz12_1 := blk_frozen BK126.out 1))
      refine bodyPost_ret (results_ct rfl _ _ gb126 52 #[.int .i64 0, .int .i64 0] (0, 0) _ rfl (by (with_reducible repeat (first | refine blk_drewN ?_ _ | refine blk_drew ?_ | refine blk_alloc ?_ _)); refine blk_put (cs := #[.int .i64 0, .int .i64 0]) ?_ 1 _ rfl; (with_reducible repeat (first | refine blk_drewN ?_ _ | refine blk_drew ?_ | refine blk_alloc ?_ _)); refine blk_put (cs := #[.int .i64 0, .int .i64 0]) ?_ 0 _ rfl; (with_reducible repeat (first | refine blk_drewN ?_ _ | refine blk_drew ?_ | refine blk_alloc ?_ _)); exact BK126.out) Try.underlying52 rfl (by kernel_rfl)) rfl ?_
      exact ⟨by first | rfl | (simp [errW_none, errW_some] <;> rfl) | (simp [*, errW_none, errW_some] <;> rfl), by repeat (first | (with_reducible first | exact HI0.out | apply IsS96.alloc | apply IsS96.drewN | apply IsS96.drew | refine IsS96.far ?_ NB0_126.out _) | exact HI0.out), by repeat (first | (with_reducible first | exact HB.out | apply below_alloc | apply pw_below_drewN | apply below_drew1 | refine below_set ?_ (IsS96.ge HI0.out) | refine below_set ?_ GE126.out) | exact HB.out), by repeat (first | (with_reducible first | exact HK.out | apply KeepBut.set_ | apply keep_drewN | apply keep_drew | apply keep_alloc | refine keep_far ?_ GW126.out _) | exact HK.out)⟩
    · rw [if_neg c8] at H
      have c8b0 : decide ((s0_0.length : Int) ≤ a1) = false := decide_eq_false c8
      clear c8
      by_cases c13 : 0 ≤ a1
      · rw [if_pos c13] at H
        have c13b0 : decide (0 ≤ a1) = true := decide_eq_true c13
        clear c13
        by_cases c14 : a1 < (s0_0.length : Int)
        · rw [if_pos c14] at H
          have c14b0 : decide (a1 < (s0_0.length : Int)) = true := decide_eq_true c14
          clear c14
          by_cases c15 : ((rd_T98 s0_0 a1).f0) = 0
          · rw [if_pos c15] at H
            have c15b0 : (((rd_T98 s0_0 a1).f0) == 0) = true := beq_iff_eq.mpr c15
            have c15b1 : (((rd_T98 s0_0 a1).f0) != 0) = false := bne_eq_false_iff_eq.mpr c15
            clear c15
            simp only [Option.some.injEq, Prod.mk.injEq] at H
            obtain ⟨rfl, rfl, rfl⟩ := H
            go_enter Try.func31, Try.ntmps31
            go_wp2_with (first | ((with_reducible refine gate_dst (N := 6) rfl ?_); (try (refine gate_guard (by rfl) ?_; dsimp only)); refine box_event ?hg (N := 6) ?hd (cs := #[.int .i64 0, .int .i64 0]) (t := 52) ?hr ?_; (case hd => rfl); (case hg => rfl); (case hr => first | (go_simp; done) | (go_simp; rfl)); intro gb126 hg w16 hbox hb; have n0_ := Aside0.mk (IsS96.below (by repeat (first | (with_reducible first | exact HI0.out | apply IsS96.alloc | apply IsS96.drewN | apply IsS96.drew) | exact HI0.out)) hb); have n1_ := Aside0.mk (KeepBut.trans (by repeat (first | (with_reducible first | exact HK.out | apply KeepBut.set_ | apply keep_drewN | apply keep_drew | apply keep_alloc) | exact HK.out)) (KeepBut.of_below hb g none) (.inl rfl)); have n2_ := Aside0.mk (below_step (by repeat (first | (with_reducible first | exact HB.out | apply below_alloc | apply pw_below_drewN | apply below_drew1 | refine below_set ?_ (IsS96.ge HI0.out)) | exact HB.out)) hb); have n3_ := Aside0.mk (hbox); have n4_ := Aside0.mk ((by rw [hg]; exact (keep_size (w := w) (g := g) (row := none) (by repeat (first | (with_reducible first | exact HK.out | apply KeepBut.set_ | apply keep_drewN | apply keep_drew | apply keep_alloc) | exact HK.out))) : w.heap.size ≤ gb126)); have n5_ := Aside0.mk ((Nat.le_trans HW0.out (by rw [hg]; exact (keep_size (w := w) (g := g) (row := none) (by repeat (first | (with_reducible first | exact HK.out | apply KeepBut.set_ | apply keep_drewN | apply keep_drew | apply keep_alloc) | exact HK.out))) : w.heap.size ≤ gb126) : w0.heap.size ≤ gb126)); have n6_ := Aside0.mk ((by rw [hg]; exact Nat.ne_of_lt (IsS96.lt (show IsS96 w0 _ g s0_0 from by repeat (first | (with_reducible first | exact HI0.out | apply IsS96.alloc | apply IsS96.drewN | apply IsS96.drew) | exact HI0.out))) : g ≠ gb126)); have n7_ := Aside0.mk ((by rw [hg]; exact Nat.ne_of_gt (IsS96.lt (show IsS96 w0 _ g s0_0 from by repeat (first | (with_reducible first | exact HI0.out | apply IsS96.alloc | apply IsS96.drewN | apply IsS96.drew) | exact HI0.out))) : gb126 ≠ g)); clear HI0; clear HK; clear HB; have HI0 := n0_; have HK := n1_; have HB := n2_; have BK126 := n3_; have GW126 := n4_; have GE126 := n5_; have NB0_126 := n6_; have NB126_0 := n7_; clear n0_ n1_ n2_ n3_ n4_ n5_ n6_ n7_; clear hb hbox hg; obtain ⟨ASz17_0, cSz17_0, HGz17, hgz17, HSz17_0⟩ := HI0.out; have hcz17_0 := cellS96_0 HGz17; clear HGz17 hgz17; have p127 : 0 ≤ (a1 : Int) := of_decide_eq_true (by first | (with_reducible assumption) | assumption); have q127 : a1 < (s0_0.length : Int) := of_decide_eq_true (by first | (with_reducible assumption) | assumption); obtain ⟨ad127, e127, hx127_0, hx127_1, hx127_2, hx127_3⟩ := at_T98 HSz17_0 a1 p127 q127; cases e127; replace hx127_0 := pw_cell_below HB.out hx127_0; replace hx127_1 := pw_cell_below HB.out hx127_1; replace hx127_2 := pw_cell_below HB.out hx127_2; replace hx127_3 := pw_cell_below HB.out hx127_3; replace p127 := eq_true p127; replace q127 := eq_true q127; have hnb18 := NB126_0.out; have hnc18 := NB0_126.out; have hcz19_0 : w16.cell? ⟨gb126, 0, none⟩ = some (.int .i64 0) := (blk_cell BK126.out 0).trans rfl; have hcz19_1 : w16.cell? ⟨gb126, 1, none⟩ = some (.int .i64 0) := (blk_cell BK126.out 1).trans rfl; have hfz19_0 := blk_frozen BK126.out 0; have hfz19_1 := blk_frozen BK126.out 1))
            refine bodyPost_ret (results_ct rfl _ _ gb126 52 #[.int .i64 0, .int .i64 0] (0, 0) _ rfl (by (with_reducible repeat (first | refine blk_drewN ?_ _ | refine blk_drew ?_ | refine blk_alloc ?_ _)); refine blk_put (cs := #[.int .i64 0, .int .i64 0]) ?_ 1 _ rfl; (with_reducible repeat (first | refine blk_drewN ?_ _ | refine blk_drew ?_ | refine blk_alloc ?_ _)); refine blk_put (cs := #[.int .i64 0, .int .i64 0]) ?_ 0 _ rfl; (with_reducible repeat (first | refine blk_drewN ?_ _ | refine blk_drew ?_ | refine blk_alloc ?_ _)); exact BK126.out) Try.underlying52 rfl (by kernel_rfl)) rfl ?_
            exact ⟨by first | rfl | (simp [errW_none, errW_some] <;> rfl) | (simp [*, errW_none, errW_some] <;> rfl), by repeat (first | (with_reducible first | exact HI0.out | apply IsS96.alloc | apply IsS96.drewN | apply IsS96.drew | refine IsS96.far ?_ NB0_126.out _) | exact HI0.out), by repeat (first | (with_reducible first | exact HB.out | apply below_alloc | apply pw_below_drewN | apply below_drew1 | refine below_set ?_ (IsS96.ge HI0.out) | refine below_set ?_ GE126.out) | exact HB.out), by repeat (first | (with_reducible first | exact HK.out | apply KeepBut.set_ | apply keep_drewN | apply keep_drew | apply keep_alloc | refine keep_far ?_ GW126.out _) | exact HK.out)⟩
          · rw [if_neg c15] at H
            have c15b0 : (((rd_T98 s0_0 a1).f0) == 0) = false := beq_eq_false_iff_ne.mpr c15
            have c15b1 : (((rd_T98 s0_0 a1).f0) != 0) = true := bne_iff_ne.mpr c15
            by_cases c20 : ((rd_T98 s0_0 a1).f1) = a2
            · rw [if_pos c20] at H
              have c20b0 : (((rd_T98 s0_0 a1).f1) == a2) = true := beq_iff_eq.mpr c20
              have c20b1 : (((rd_T98 s0_0 a1).f1) != a2) = false := bne_eq_false_iff_eq.mpr c20
              clear c20
              simp only [Option.some.injEq, Prod.mk.injEq] at H
              obtain ⟨rfl, rfl, rfl⟩ := H
              go_enter Try.func31, Try.ntmps31
              go_wp2_with (first | ((with_reducible refine gate_dst (N := 6) rfl ?_); (try (refine gate_guard (by rfl) ?_; dsimp only)); refine box_event ?hg (N := 6) ?hd (cs := #[.int .i64 0, .int .i64 0]) (t := 52) ?hr ?_; (case hd => rfl); (case hg => rfl); (case hr => first | (go_simp; done) | (go_simp; rfl)); intro gb126 hg w21 hbox hb; have n0_ := Aside0.mk (IsS96.below (by repeat (first | (with_reducible first | exact HI0.out | apply IsS96.alloc | apply IsS96.drewN | apply IsS96.drew) | exact HI0.out)) hb); have n1_ := Aside0.mk (KeepBut.trans (by repeat (first | (with_reducible first | exact HK.out | apply KeepBut.set_ | apply keep_drewN | apply keep_drew | apply keep_alloc) | exact HK.out)) (KeepBut.of_below hb g none) (.inl rfl)); have n2_ := Aside0.mk (below_step (by repeat (first | (with_reducible first | exact HB.out | apply below_alloc | apply pw_below_drewN | apply below_drew1 | refine below_set ?_ (IsS96.ge HI0.out)) | exact HB.out)) hb); have n3_ := Aside0.mk (hbox); have n4_ := Aside0.mk ((by rw [hg]; exact (keep_size (w := w) (g := g) (row := none) (by repeat (first | (with_reducible first | exact HK.out | apply KeepBut.set_ | apply keep_drewN | apply keep_drew | apply keep_alloc) | exact HK.out))) : w.heap.size ≤ gb126)); have n5_ := Aside0.mk ((Nat.le_trans HW0.out (by rw [hg]; exact (keep_size (w := w) (g := g) (row := none) (by repeat (first | (with_reducible first | exact HK.out | apply KeepBut.set_ | apply keep_drewN | apply keep_drew | apply keep_alloc) | exact HK.out))) : w.heap.size ≤ gb126) : w0.heap.size ≤ gb126)); have n6_ := Aside0.mk ((by rw [hg]; exact Nat.ne_of_lt (IsS96.lt (show IsS96 w0 _ g s0_0 from by repeat (first | (with_reducible first | exact HI0.out | apply IsS96.alloc | apply IsS96.drewN | apply IsS96.drew) | exact HI0.out))) : g ≠ gb126)); have n7_ := Aside0.mk ((by rw [hg]; exact Nat.ne_of_gt (IsS96.lt (show IsS96 w0 _ g s0_0 from by repeat (first | (with_reducible first | exact HI0.out | apply IsS96.alloc | apply IsS96.drewN | apply IsS96.drew) | exact HI0.out))) : gb126 ≠ g)); clear HI0; clear HK; clear HB; have HI0 := n0_; have HK := n1_; have HB := n2_; have BK126 := n3_; have GW126 := n4_; have GE126 := n5_; have NB0_126 := n6_; have NB126_0 := n7_; clear n0_ n1_ n2_ n3_ n4_ n5_ n6_ n7_; clear hb hbox hg; obtain ⟨ASz22_0, cSz22_0, HGz22, hgz22, HSz22_0⟩ := HI0.out; have hcz22_0 := cellS96_0 HGz22; clear HGz22 hgz22; have p127 : 0 ≤ (a1 : Int) := of_decide_eq_true (by first | (with_reducible assumption) | assumption); have q127 : a1 < (s0_0.length : Int) := of_decide_eq_true (by first | (with_reducible assumption) | assumption); obtain ⟨ad127, e127, hx127_0, hx127_1, hx127_2, hx127_3⟩ := at_T98 HSz22_0 a1 p127 q127; cases e127; replace hx127_0 := pw_cell_below HB.out hx127_0; replace hx127_1 := pw_cell_below HB.out hx127_1; replace hx127_2 := pw_cell_below HB.out hx127_2; replace hx127_3 := pw_cell_below HB.out hx127_3; replace p127 := eq_true p127; replace q127 := eq_true q127; have p128 : 0 ≤ (a1 : Int) := of_decide_eq_true (by first | (with_reducible assumption) | assumption); have q128 : a1 < (s0_0.length : Int) := of_decide_eq_true (by first | (with_reducible assumption) | assumption); obtain ⟨ad128, e128, hx128_0, hx128_1, hx128_2, hx128_3⟩ := at_T98 HSz22_0 a1 p128 q128; obtain rfl : ad127 = ad128 := (by injection e128); replace hx128_0 := pw_cell_below HB.out hx128_0; replace hx128_1 := pw_cell_below HB.out hx128_1; replace hx128_2 := pw_cell_below HB.out hx128_2; replace hx128_3 := pw_cell_below HB.out hx128_3; replace p128 := eq_true p128; replace q128 := eq_true q128; have p129 : 0 ≤ (a1 : Int) := of_decide_eq_true (by first | (with_reducible assumption) | assumption); have q129 : a1 < (s0_0.length : Int) := of_decide_eq_true (by first | (with_reducible assumption) | assumption); obtain ⟨ad129, e129, hx129_0, hx129_1, hx129_2, hx129_3⟩ := at_T98 HSz22_0 a1 p129 q129; obtain rfl : ad127 = ad129 := (by injection e129); replace hx129_0 := pw_cell_below HB.out hx129_0; replace hx129_1 := pw_cell_below HB.out hx129_1; replace hx129_2 := pw_cell_below HB.out hx129_2; replace hx129_3 := pw_cell_below HB.out hx129_3; replace p129 := eq_true p129; replace q129 := eq_true q129; have hnb23 := NB126_0.out; have hnc23 := NB0_126.out; have hcz24_0 : w21.cell? ⟨gb126, 0, none⟩ = some (.int .i64 0) := (blk_cell BK126.out 0).trans rfl; have hcz24_1 : w21.cell? ⟨gb126, 1, none⟩ = some (.int .i64 0) := (blk_cell BK126.out 1).trans rfl; have hfz24_0 := blk_frozen BK126.out 0; have hfz24_1 := blk_frozen BK126.out 1))
              refine bodyPost_ret (results_ct rfl _ _ gb126 52 #[.int .i64 ((rd_T98 s0_0 a1).f2.f0), .int .i64 ((rd_T98 s0_0 a1).f2.f1)] (0, 0) _ rfl (by (with_reducible repeat (first | refine blk_drewN ?_ _ | refine blk_drew ?_ | refine blk_alloc ?_ _)); refine blk_put (cs := #[.int .i64 ((rd_T98 s0_0 a1).f2.f0), .int .i64 0]) ?_ 1 _ rfl; (with_reducible repeat (first | refine blk_drewN ?_ _ | refine blk_drew ?_ | refine blk_alloc ?_ _)); refine blk_put (cs := #[.int .i64 0, .int .i64 0]) ?_ 0 _ rfl; (with_reducible repeat (first | refine blk_drewN ?_ _ | refine blk_drew ?_ | refine blk_alloc ?_ _)); exact BK126.out) Try.underlying52 rfl (by kernel_rfl)) rfl ?_
              exact ⟨by first | rfl | (simp [errW_none, errW_some] <;> rfl) | (simp [*, errW_none, errW_some] <;> rfl), by repeat (first | (with_reducible first | exact HI0.out | apply IsS96.alloc | apply IsS96.drewN | apply IsS96.drew | refine IsS96.far ?_ NB0_126.out _) | exact HI0.out), by repeat (first | (with_reducible first | exact HB.out | apply below_alloc | apply pw_below_drewN | apply below_drew1 | refine below_set ?_ (IsS96.ge HI0.out) | refine below_set ?_ GE126.out) | exact HB.out), by repeat (first | (with_reducible first | exact HK.out | apply KeepBut.set_ | apply keep_drewN | apply keep_drew | apply keep_alloc | refine keep_far ?_ GW126.out _) | exact HK.out)⟩
            · rw [if_neg c20] at H
              have c20b0 : (((rd_T98 s0_0 a1).f1) == a2) = false := beq_eq_false_iff_ne.mpr c20
              have c20b1 : (((rd_T98 s0_0 a1).f1) != a2) = true := bne_iff_ne.mpr c20
              simp only [Option.some.injEq, Prod.mk.injEq] at H
              obtain ⟨rfl, rfl, rfl⟩ := H
              go_enter Try.func31, Try.ntmps31
              go_wp2_with (first | ((with_reducible refine gate_dst (N := 6) rfl ?_); (try (refine gate_guard (by rfl) ?_; dsimp only)); refine box_event ?hg (N := 6) ?hd (cs := #[.int .i64 0, .int .i64 0]) (t := 52) ?hr ?_; (case hd => rfl); (case hg => rfl); (case hr => first | (go_simp; done) | (go_simp; rfl)); intro gb126 hg w25 hbox hb; have n0_ := Aside0.mk (IsS96.below (by repeat (first | (with_reducible first | exact HI0.out | apply IsS96.alloc | apply IsS96.drewN | apply IsS96.drew) | exact HI0.out)) hb); have n1_ := Aside0.mk (KeepBut.trans (by repeat (first | (with_reducible first | exact HK.out | apply KeepBut.set_ | apply keep_drewN | apply keep_drew | apply keep_alloc) | exact HK.out)) (KeepBut.of_below hb g none) (.inl rfl)); have n2_ := Aside0.mk (below_step (by repeat (first | (with_reducible first | exact HB.out | apply below_alloc | apply pw_below_drewN | apply below_drew1 | refine below_set ?_ (IsS96.ge HI0.out)) | exact HB.out)) hb); have n3_ := Aside0.mk (hbox); have n4_ := Aside0.mk ((by rw [hg]; exact (keep_size (w := w) (g := g) (row := none) (by repeat (first | (with_reducible first | exact HK.out | apply KeepBut.set_ | apply keep_drewN | apply keep_drew | apply keep_alloc) | exact HK.out))) : w.heap.size ≤ gb126)); have n5_ := Aside0.mk ((Nat.le_trans HW0.out (by rw [hg]; exact (keep_size (w := w) (g := g) (row := none) (by repeat (first | (with_reducible first | exact HK.out | apply KeepBut.set_ | apply keep_drewN | apply keep_drew | apply keep_alloc) | exact HK.out))) : w.heap.size ≤ gb126) : w0.heap.size ≤ gb126)); have n6_ := Aside0.mk ((by rw [hg]; exact Nat.ne_of_lt (IsS96.lt (show IsS96 w0 _ g s0_0 from by repeat (first | (with_reducible first | exact HI0.out | apply IsS96.alloc | apply IsS96.drewN | apply IsS96.drew) | exact HI0.out))) : g ≠ gb126)); have n7_ := Aside0.mk ((by rw [hg]; exact Nat.ne_of_gt (IsS96.lt (show IsS96 w0 _ g s0_0 from by repeat (first | (with_reducible first | exact HI0.out | apply IsS96.alloc | apply IsS96.drewN | apply IsS96.drew) | exact HI0.out))) : gb126 ≠ g)); clear HI0; clear HK; clear HB; have HI0 := n0_; have HK := n1_; have HB := n2_; have BK126 := n3_; have GW126 := n4_; have GE126 := n5_; have NB0_126 := n6_; have NB126_0 := n7_; clear n0_ n1_ n2_ n3_ n4_ n5_ n6_ n7_; clear hb hbox hg; obtain ⟨ASz26_0, cSz26_0, HGz26, hgz26, HSz26_0⟩ := HI0.out; have hcz26_0 := cellS96_0 HGz26; clear HGz26 hgz26; have p127 : 0 ≤ (a1 : Int) := of_decide_eq_true (by first | (with_reducible assumption) | assumption); have q127 : a1 < (s0_0.length : Int) := of_decide_eq_true (by first | (with_reducible assumption) | assumption); obtain ⟨ad127, e127, hx127_0, hx127_1, hx127_2, hx127_3⟩ := at_T98 HSz26_0 a1 p127 q127; cases e127; replace hx127_0 := pw_cell_below HB.out hx127_0; replace hx127_1 := pw_cell_below HB.out hx127_1; replace hx127_2 := pw_cell_below HB.out hx127_2; replace hx127_3 := pw_cell_below HB.out hx127_3; replace p127 := eq_true p127; replace q127 := eq_true q127; have p128 : 0 ≤ (a1 : Int) := of_decide_eq_true (by first | (with_reducible assumption) | assumption); have q128 : a1 < (s0_0.length : Int) := of_decide_eq_true (by first | (with_reducible assumption) | assumption); obtain ⟨ad128, e128, hx128_0, hx128_1, hx128_2, hx128_3⟩ := at_T98 HSz26_0 a1 p128 q128; obtain rfl : ad127 = ad128 := (by injection e128); replace hx128_0 := pw_cell_below HB.out hx128_0; replace hx128_1 := pw_cell_below HB.out hx128_1; replace hx128_2 := pw_cell_below HB.out hx128_2; replace hx128_3 := pw_cell_below HB.out hx128_3; replace p128 := eq_true p128; replace q128 := eq_true q128; have hnb27 := NB126_0.out; have hnc27 := NB0_126.out; have hcz28_0 : w25.cell? ⟨gb126, 0, none⟩ = some (.int .i64 0) := (blk_cell BK126.out 0).trans rfl; have hcz28_1 : w25.cell? ⟨gb126, 1, none⟩ = some (.int .i64 0) := (blk_cell BK126.out 1).trans rfl; have hfz28_0 := blk_frozen BK126.out 0; have hfz28_1 := blk_frozen BK126.out 1))
              refine bodyPost_ret (results_ct rfl _ _ gb126 52 #[.int .i64 0, .int .i64 0] (0, 0) _ rfl (by (with_reducible repeat (first | refine blk_drewN ?_ _ | refine blk_drew ?_ | refine blk_alloc ?_ _)); refine blk_put (cs := #[.int .i64 0, .int .i64 0]) ?_ 1 _ rfl; (with_reducible repeat (first | refine blk_drewN ?_ _ | refine blk_drew ?_ | refine blk_alloc ?_ _)); refine blk_put (cs := #[.int .i64 0, .int .i64 0]) ?_ 0 _ rfl; (with_reducible repeat (first | refine blk_drewN ?_ _ | refine blk_drew ?_ | refine blk_alloc ?_ _)); exact BK126.out) Try.underlying52 rfl (by kernel_rfl)) rfl ?_
              exact ⟨by first | rfl | (simp [errW_none, errW_some] <;> rfl) | (simp [*, errW_none, errW_some] <;> rfl), by repeat (first | (with_reducible first | exact HI0.out | apply IsS96.alloc | apply IsS96.drewN | apply IsS96.drew | refine IsS96.far ?_ NB0_126.out _) | exact HI0.out), by repeat (first | (with_reducible first | exact HB.out | apply below_alloc | apply pw_below_drewN | apply below_drew1 | refine below_set ?_ (IsS96.ge HI0.out) | refine below_set ?_ GE126.out) | exact HB.out), by repeat (first | (with_reducible first | exact HK.out | apply KeepBut.set_ | apply keep_drewN | apply keep_drew | apply keep_alloc | refine keep_far ?_ GW126.out _) | exact HK.out)⟩
        · rw [if_neg c14] at H
          exact absurd H (by simp)
      · rw [if_neg c13] at H
        exact absurd H (by simp)

-- NOT PRINTED: function 34 (duetref16_Where_Sites)

-- NOT PRINTED: function 5 (duetlaw16_PastWhere)

-- NOT PRINTED: function 6 (duetlaw16_PastNil)

-- NOT PRINTED: function 7 (duetlaw16_PastGrows)

-- NOT PRINTED: function 8 (duetlaw16_PastTurned)

-- NOT PRINTED: function 9 (duetlaw16_PastOne)

end Go.Proofs.Ytiplkmmppihilaa.PPast
