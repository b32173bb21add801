/- Functions that the law reaches, each as a plain Lean function with the proof that the call does what it says. Conditions: none beyond those that each theorem states. Written by a program for this claim. -/
import Derived.Test.YthofobcbbddeeaaPMesrx0
import Derived.Test.YthofobcbbddeeaaPMesrx1
import Derived.Test.YthofobcbbddeeaaPMesrx4
namespace Go.Proofs.Ythofobcbbddeeaa.PMesr
open Go.RowKit Go.Proofs.YthofobcbbddeeaaW.PrintWords Go.Proofs.YthofobcbbddeeaaW.PrintLast Go.Proofs.YthofobcbbddeeaaW.PrintMore
attribute [local go_sem] max2_int min2_int max_two min_two max_three min_three max_four min_four   -- for this text's walks alone
set_option linter.unusedVariables false
set_option linter.unusedSimpArgs false

attribute [local go_sem high] eqA26
/-! ### duetref01_Same: function 60 -/
def duetref01_Same.l0 : Nat → List Int → List Int → Int → Option (Bool)
  | 0, _, _, _ => none
  | k + 1, x0, x1, x5 => if x5 < (x0.length : Int) then (if 0 ≤ x5 then (if x5 < (x1.length : Int) then (if (rd x0 x5) = (rd x1 x5) then (duetref01_Same.l0 k x0 x1 (wrap64 (x5 + 1))) else (some false)) else (none)) else (none)) else (some true)
def duetref01_Same.f (k : Nat) (l0 : List Int) (l1 : List Int) : Option (Bool) := if (l0.length : Int) = (l1.length : Int) then (duetref01_Same.l0 k l0 l1 0) else (some false)
theorem duetref01_Same.mono_l : ∀ k, (∀ y0 y1 y2, LeO (duetref01_Same.l0 k y0 y1 y2) (duetref01_Same.l0 (k + 1) y0 y1 y2))
  | 0 => fun _ _ _ r h => by simp [duetref01_Same.l0] at h
  | k + 1 => by
    have ih0 := duetref01_Same.mono_l k
    · intro y0 y1 y2
      unfold duetref01_Same.l0
      repeat' first
      | (with_reducible exact ih0 _ _ _)
      | (with_reducible exact LeO.refl _)
      | (with_reducible exact LeO.none _)
      | (with_reducible refine LeO.ite ?_ ?_)
      | (with_reducible refine LeO.bind ?_ (fun _ => ?_))
      | exact ih0 _ _ _
      | exact LeO.none _
      | refine LeO.ite ?_ ?_
      | refine LeO.bind ?_ (fun _ => ?_)
theorem duetref01_Same.mono : ∀ a0 a1 k, LeO (duetref01_Same.f k a0 a1) (duetref01_Same.f (k + 1) a0 a1) := by
  intro a0 a1 k
  have ih0 := duetref01_Same.mono_l k
  unfold duetref01_Same.f
  repeat' first
      | (with_reducible exact ih0 _ _ _)
      | (with_reducible exact LeO.refl _)
      | (with_reducible exact LeO.none _)
      | (with_reducible refine LeO.ite ?_ ?_)
      | (with_reducible refine LeO.bind ?_ (fun _ => ?_))
      | exact ih0 _ _ _
      | exact LeO.none _
      | refine LeO.ite ?_ ?_
      | refine LeO.bind ?_ (fun _ => ?_)
set_option maxHeartbeats 8000000 in
set_option maxRecDepth 100000 in
theorem duetref01_Same.calls (k : Nat) (A0 : Option Addr) (c0 : Nat) (l0 : List Int) (A1 : Option Addr) (c1 : Nat) (l1 : List Int) (r : Bool) (w : World) (hr0 : Kd.C (Kd.int .i64) w A0 l0.length l0) (hc0 : l0.length ≤ c0) (hr1 : Kd.C (Kd.int .i64) w A1 l1.length l1) (hc1 : l1.length ≤ c1) (h : duetref01_Same.f k l0 l1 = some r) :
    Calls Try.prog 60 #[.slice A0 l0.length c0, .slice A1 l1.length c1] w fun e w' => e = .returned (.bool r) ∧ Drawn0 w w' := by
  have HR0 := Aside0.mk hr0
  have HC0 := Aside0.mk hc0
  clear hr0 hc0
  have HR1 := Aside0.mk hr1
  have HC1 := Aside0.mk hc1
  clear hr1 hc1
  have H : (if (l0.length : Int) = (l1.length : Int) then (duetref01_Same.l0 k l0 l1 0) else (some false)) = some r := h
  clear h
  by_cases c3 : (l0.length : Int) = (l1.length : Int)
  · rw [if_pos c3] at H
    have c3b0 : ((l0.length : Int) == (l1.length : Int)) = true := beq_iff_eq.mpr c3
    have c3b1 : ((l0.length : Int) != (l1.length : Int)) = false := bne_eq_false_iff_eq.mpr c3
    have c3b2 : (l0.length == l1.length) = true := by first | simpa using c3 | (simp at c3 ⊢; omega)
    clear c3
    have H' := Aside0.mk H
    clear H
    go_enter Try.func60, Try.ntmps60
    go_wp2
    repeat (go_quiet (fail); try go_wp2)
    go_loopg [5] k (fun kq v5 w' => ∃ (x5_1 : Int), v5 = .int .i64 x5_1 ∧ Aside0 (duetref01_Same.l0 kq l0 l1 x5_1 = some r) ∧ Aside0 (kq ≤ k) ∧ Drawn0 w w')
    case atStart => exact ⟨(0), (by first | rfl | (simp; done) | (simp [*]; done)), H', ⟨Nat.le_refl _⟩, by repeat (first | exact Drawn0.refl _ | apply Drawn0.step)⟩
    case round =>
      clear H'
      try clear c1
      try clear p2
      try clear c3
      try clear c3b0
      try clear c3b1
      try clear c3b2
      obtain ⟨x5_1, rfl, HA, HK1, ⟨m1, rfl⟩⟩ := hrel
      cases gk with
      | zero => exact absurd HA.out (by simp [duetref01_Same.l0])
      | succ k1 =>
        have H := HA.out
        clear HA
        simp only [duetref01_Same.l0] at H
        by_cases c4 : x5_1 < (l0.length : Int)
        · rw [if_pos c4] at H
          have c4b0 : decide (x5_1 < (l0.length : Int)) = true := decide_eq_true c4
          clear c4
          by_cases c5 : 0 ≤ x5_1
          · rw [if_pos c5] at H
            have c5b0 : decide (0 ≤ x5_1) = true := decide_eq_true c5
            clear c5
            by_cases c6 : x5_1 < (l1.length : Int)
            · rw [if_pos c6] at H
              have c6b0 : decide (x5_1 < (l1.length : Int)) = true := decide_eq_true c6
              clear c6
              by_cases c7 : (rd l0 x5_1) = (rd l1 x5_1)
              · rw [if_pos c7] at H
                have c7b0 : ((rd l0 x5_1) == (rd l1 x5_1)) = true := beq_iff_eq.mpr c7
                have c7b1 : ((rd l0 x5_1) != (rd l1 x5_1)) = false := bne_eq_false_iff_eq.mpr c7
                clear c7
                have H' := Aside0.mk H
                clear H
                have p172 : 0 ≤ (x5_1 : Int) := of_decide_eq_true (by first | (with_reducible assumption) | assumption)
                have q172 : x5_1 < (l0.length : Int) := of_decide_eq_true (by first | (with_reducible assumption) | assumption)
                obtain ⟨ad172, e172, hx172_0⟩ := Kd.at_int HR0.out x5_1 p172 q172
                cases e172
                replace p172 := eq_true p172
                replace q172 := eq_true q172
                have p173 : 0 ≤ (x5_1 : Int) := of_decide_eq_true (by first | (with_reducible assumption) | assumption)
                have q173 : x5_1 < (l1.length : Int) := of_decide_eq_true (by first | (with_reducible assumption) | assumption)
                obtain ⟨ad173, e173, hx173_0⟩ := Kd.at_int HR1.out x5_1 p173 q173
                cases e173
                replace p173 := eq_true p173
                replace q173 := eq_true q173
                go_wp2
                repeat (go_quiet (fail); try go_wp2)
                go_roundg k1
                case measure => have := HK1.out; omega
                case rel => exact ⟨(wrap64 (x5_1 + 1)), (by first | rfl | (simp; done) | (simp [*]; done)), H', ⟨by have := HK1.out; omega⟩, by repeat (first | exact Drawn0.refl _ | apply Drawn0.step)⟩
              · rw [if_neg c7] at H
                have c7b0 : ((rd l0 x5_1) == (rd l1 x5_1)) = false := beq_eq_false_iff_ne.mpr c7
                have c7b1 : ((rd l0 x5_1) != (rd l1 x5_1)) = true := bne_iff_ne.mpr c7
                obtain rfl := Option.some.inj H
                have p172 : 0 ≤ (x5_1 : Int) := of_decide_eq_true (by first | (with_reducible assumption) | assumption)
                have q172 : x5_1 < (l0.length : Int) := of_decide_eq_true (by first | (with_reducible assumption) | assumption)
                obtain ⟨ad172, e172, hx172_0⟩ := Kd.at_int HR0.out x5_1 p172 q172
                cases e172
                replace p172 := eq_true p172
                replace q172 := eq_true q172
                have p173 : 0 ≤ (x5_1 : Int) := of_decide_eq_true (by first | (with_reducible assumption) | assumption)
                have q173 : x5_1 < (l1.length : Int) := of_decide_eq_true (by first | (with_reducible assumption) | assumption)
                obtain ⟨ad173, e173, hx173_0⟩ := Kd.at_int HR1.out x5_1 p173 q173
                cases e173
                replace p173 := eq_true p173
                replace q173 := eq_true q173
                go_wp2
                repeat (go_quiet (fail); try go_wp2)
                go_ret
                exact ⟨by first | rfl | (simp; done) | (simp [*]; done), by repeat (first | exact Drawn0.refl _ | apply Drawn0.step)⟩
            · rw [if_neg c6] at H
              exact absurd H (by simp)
          · rw [if_neg c5] at H
            exact absurd H (by simp)
        · rw [if_neg c4] at H
          have c4b0 : decide (x5_1 < (l0.length : Int)) = false := decide_eq_false c4
          clear c4
          obtain rfl := Option.some.inj H
          go_wp2
          repeat (go_quiet (fail); try go_wp2)
          go_ret
          exact ⟨by first | rfl | (simp; done) | (simp [*]; done), by repeat (first | exact Drawn0.refl _ | apply Drawn0.step)⟩
  · rw [if_neg c3] at H
    have c3b0 : ((l0.length : Int) == (l1.length : Int)) = false := beq_eq_false_iff_ne.mpr c3
    have c3b1 : ((l0.length : Int) != (l1.length : Int)) = true := bne_iff_ne.mpr c3
    have c3b2 : (l0.length == l1.length) = false := by first | simpa using c3 | (simp at c3 ⊢; omega)
    obtain rfl := Option.some.inj H
    go_enter Try.func60, Try.ntmps60
    go_wp2
    repeat (go_quiet (fail); try go_wp2)
    go_ret
    exact ⟨by first | rfl | (simp; done) | (simp [*]; done), by repeat (first | exact Drawn0.refl _ | apply Drawn0.step)⟩
theorem duetref01_Same.at (k : Nat) (A0 : Option Addr) (c0 : Nat) (n0 : Nat) (l0 : List Int) (A1 : Option Addr) (c1 : Nat) (n1 : Nat) (l1 : List Int) (r : Bool) (w : World) (hr0 : Kd.C (Kd.int .i64) w A0 n0 l0) (hc0 : n0 ≤ c0) (hr1 : Kd.C (Kd.int .i64) w A1 n1 l1) (hc1 : n1 ≤ c1) (h : duetref01_Same.f k l0 l1 = some r) :
    Calls Try.prog 60 #[.slice A0 n0 c0, .slice A1 n1 c1] w fun e w' => e = .returned (.bool r) ∧ Drawn0 w w' := by
  obtain rfl : l0.length = n0 := Kd.C_len hr0
  obtain rfl : l1.length = n1 := Kd.C_len hr1
  exact duetref01_Same.calls k A0 c0 l0 A1 c1 l1 r w hr0 hc0 hr1 hc1 h

/-! ### duetref04_Same: function 22 -/
def duetref04_Same.f (k : Nat) (a0_0 : Int) (a0_1 : Int) (l0_2 : List Int) (a0_3 : Int) (a0_4 : Int) (a0_5 : Int) (a0_6 : Int) (a0_7 : Int) (a0_8 : Int) (a0_9 : Int) (a1_0 : Int) (a1_1 : Int) (l1_2 : List Int) (a1_3 : Int) (a1_4 : Int) (a1_5 : Int) (a1_6 : Int) (a1_7 : Int) (a1_8 : Int) (a1_9 : Int) : Option (Bool) := if a0_0 = a1_0 then (if a0_1 = a1_1 then (if (a0_3 == a1_3 && (a0_4 == a1_4 && ((a0_5 == a1_5 && (a0_6 == a1_6)) && ((a0_7 == a1_7 && (a0_8 == a1_8)) && (a0_9 == a1_9))))) = true then ((duetref01_Same.f k l0_2 l1_2).bind fun t176 => (some t176)) else (some false)) else (some false)) else (some false)
theorem duetref04_Same.mono : ∀ a0 a1 a2 a3 a4 a5 a6 a7 a8 a9 a10 a11 a12 a13 a14 a15 a16 a17 a18 a19 k, LeO (duetref04_Same.f k a0 a1 a2 a3 a4 a5 a6 a7 a8 a9 a10 a11 a12 a13 a14 a15 a16 a17 a18 a19) (duetref04_Same.f (k + 1) a0 a1 a2 a3 a4 a5 a6 a7 a8 a9 a10 a11 a12 a13 a14 a15 a16 a17 a18 a19) := by
  intro a0 a1 a2 a3 a4 a5 a6 a7 a8 a9 a10 a11 a12 a13 a14 a15 a16 a17 a18 a19 k
  unfold duetref04_Same.f
  repeat' first
      | (with_reducible exact duetref01_Same.mono _ _ _)
      | (with_reducible exact LeO.refl _)
      | (with_reducible exact LeO.none _)
      | (with_reducible refine LeO.ite ?_ ?_)
      | (with_reducible refine LeO.bind ?_ (fun _ => ?_))
      | exact duetref01_Same.mono _ _ _
      | exact LeO.none _
      | refine LeO.ite ?_ ?_
      | refine LeO.bind ?_ (fun _ => ?_)
set_option maxHeartbeats 8000000 in
set_option maxRecDepth 100000 in
theorem duetref04_Same.calls (k : Nat) (a0_0 : Int) (a0_1 : Int) (A0_2 : Option Addr) (c0_2 : Nat) (l0_2 : List Int) (a0_3 : Int) (a0_4 : Int) (a0_5 : Int) (a0_6 : Int) (a0_7 : Int) (a0_8 : Int) (a0_9 : Int) (a1_0 : Int) (a1_1 : Int) (A1_2 : Option Addr) (c1_2 : Nat) (l1_2 : List Int) (a1_3 : Int) (a1_4 : Int) (a1_5 : Int) (a1_6 : Int) (a1_7 : Int) (a1_8 : Int) (a1_9 : Int) (r : Bool) (w : World) (hr0_2 : Kd.C (Kd.int .i64) w A0_2 l0_2.length l0_2) (hc0_2 : l0_2.length ≤ c0_2) (hr1_2 : Kd.C (Kd.int .i64) w A1_2 l1_2.length l1_2) (hc1_2 : l1_2.length ≤ c1_2) (h : duetref04_Same.f k a0_0 a0_1 l0_2 a0_3 a0_4 a0_5 a0_6 a0_7 a0_8 a0_9 a1_0 a1_1 l1_2 a1_3 a1_4 a1_5 a1_6 a1_7 a1_8 a1_9 = some r) :
    Calls Try.prog 22 #[.agg #[.int .i64 a0_0, .int .i64 a0_1, .slice A0_2 l0_2.length c0_2, .int .i64 a0_3, .int .i64 a0_4, .int .i64 a0_5, .int .i64 a0_6, .int .i64 a0_7, .int .i64 a0_8, .int .i64 a0_9], .agg #[.int .i64 a1_0, .int .i64 a1_1, .slice A1_2 l1_2.length c1_2, .int .i64 a1_3, .int .i64 a1_4, .int .i64 a1_5, .int .i64 a1_6, .int .i64 a1_7, .int .i64 a1_8, .int .i64 a1_9]] w fun e w' => e = .returned (.bool r) ∧ Below w.heap.size w w' := by
  have hu28 := Try.underlying28
  have hu26 := Try.underlying26
  have HR0_2 := Aside0.mk hr0_2
  have HC0_2 := Aside0.mk hc0_2
  clear hr0_2 hc0_2
  have HR1_2 := Aside0.mk hr1_2
  have HC1_2 := Aside0.mk hc1_2
  clear hr1_2 hc1_2
  have HB := Aside0.mk (Below.refl w.heap.size w)
  have H : (if a0_0 = a1_0 then (if a0_1 = a1_1 then (if (a0_3 == a1_3 && (a0_4 == a1_4 && ((a0_5 == a1_5 && (a0_6 == a1_6)) && ((a0_7 == a1_7 && (a0_8 == a1_8)) && (a0_9 == a1_9))))) = true then ((duetref01_Same.f k l0_2 l1_2).bind fun t176 => (some t176)) else (some false)) else (some false)) else (some false)) = some r := h
  clear h
  by_cases c3 : a0_0 = a1_0
  · rw [if_pos c3] at H
    have c3b0 : (a0_0 == a1_0) = true := beq_iff_eq.mpr c3
    have c3b1 : (a0_0 != a1_0) = false := bne_eq_false_iff_eq.mpr c3
    clear c3
    by_cases c4 : a0_1 = a1_1
    · rw [if_pos c4] at H
      have c4b0 : (a0_1 == a1_1) = true := beq_iff_eq.mpr c4
      have c4b1 : (a0_1 != a1_1) = false := bne_eq_false_iff_eq.mpr c4
      clear c4
      by_cases c5 : (a0_3 == a1_3 && (a0_4 == a1_4 && ((a0_5 == a1_5 && (a0_6 == a1_6)) && ((a0_7 == a1_7 && (a0_8 == a1_8)) && (a0_9 == a1_9))))) = true
      · rw [if_pos c5] at H
        have c5b0 : (a0_3 == a1_3 && (a0_4 == a1_4 && ((a0_5 == a1_5 && (a0_6 == a1_6)) && ((a0_7 == a1_7 && (a0_8 == a1_8)) && (a0_9 == a1_9))))) = true := c5
        (try (have c5b1 : decide (a0_3 = a1_3 && (a0_4 == a1_4 && ((a0_5 == a1_5 && (a0_6 == a1_6)) && ((a0_7 == a1_7 && (a0_8 == a1_8)) && (a0_9 == a1_9))))) = true := by simpa using c5))
        (try (have c5b2 : (a0_3 == a1_3 && (a0_4 == a1_4 && ((a0_5 == a1_5 && (a0_6 == a1_6)) && ((a0_7 == a1_7 && (a0_8 == a1_8)) && (a0_9 == a1_9))))) = true := by simpa using c5))
        clear c5
        replace H := Option.bind_eq_some_iff.mp H
        obtain ⟨t176, A60, H⟩ := H
        replace H : (some t176) = some r := H
        have A6 := Aside0.mk A60
        clear A60
        obtain rfl := Option.some.inj H
        go_enter Try.func22, Try.ntmps22
        go_wp2_with (first | ((with_reducible refine gate_dst (N := 2) rfl ?_); refine box_event ?hg (N := 2) ?hd (cs := #[.int .i64 a0_0, .int .i64 a0_1, .slice A0_2 l0_2.length c0_2, .int .i64 a0_3, .int .i64 a0_4, .int .i64 a0_5, .int .i64 a0_6, .int .i64 a0_7, .int .i64 a0_8, .int .i64 a0_9]) (t := 28) ?hr ?_; (case hd => rfl); (case hg => rfl); (case hr => first | (go_simp; done) | (go_simp; rfl)); intro gb174 hg w7 hbox hb; have n0_ := Aside0.mk (below_step (by repeat (first | (with_reducible first | exact HB.out | apply below_alloc | apply pw_below_drewN | apply below_drew1) | exact HB.out)) hb); have n1_ := Aside0.mk (hbox); have n2_ := Aside0.mk ((by rw [hg]; exact (below_size (by repeat (first | (with_reducible first | exact HB.out | apply below_alloc | apply pw_below_drewN | apply below_drew1) | exact HB.out))) : w.heap.size ≤ gb174)); have n3_ := Aside0.mk ((by rw [hg]; exact (below_size (by repeat (first | (with_reducible first | exact HB.out | apply below_alloc | apply pw_below_drewN | apply below_drew1) | exact HB.out))) : w.heap.size ≤ gb174)); clear HB; have HB := n0_; have BK174 := n1_; have GW174 := n2_; have GE174 := n3_; clear n0_ n1_ n2_ n3_; clear hb hbox hg) | ((with_reducible refine gate_dst (N := 3) rfl ?_); refine box_event ?hg (N := 3) ?hd (cs := #[.int .i64 a1_0, .int .i64 a1_1, .slice A1_2 l1_2.length c1_2, .int .i64 a1_3, .int .i64 a1_4, .int .i64 a1_5, .int .i64 a1_6, .int .i64 a1_7, .int .i64 a1_8, .int .i64 a1_9]) (t := 28) ?hr ?_; (case hd => rfl); (case hg => rfl); (case hr => first | (go_simp; done) | (go_simp; rfl)); intro gb175 hg w8 hbox hb; have n0_ := Aside0.mk (blk_below (g := gb174) (o := .cells #[.int .i64 a0_0, .int .i64 a0_1, .slice A0_2 l0_2.length c0_2, .int .i64 a0_3, .int .i64 a0_4, .int .i64 a0_5, .int .i64 a0_6, .int .i64 a0_7, .int .i64 a0_8, .int .i64 a0_9] 28 (0, 0)) (by (with_reducible repeat (first | refine blk_drewN ?_ _ | refine blk_drew ?_ | refine blk_alloc ?_ _)); exact BK174.out) hb); have n1_ := Aside0.mk (below_step (by repeat (first | (with_reducible first | exact HB.out | apply below_alloc | apply pw_below_drewN | apply below_drew1 | refine below_set ?_ GE174.out) | exact HB.out)) hb); have n2_ := Aside0.mk (hbox); have n3_ := Aside0.mk ((by rw [hg]; exact (below_size (by repeat (first | (with_reducible first | exact HB.out | apply below_alloc | apply pw_below_drewN | apply below_drew1 | refine below_set ?_ GE174.out) | exact HB.out))) : w.heap.size ≤ gb175)); have n4_ := Aside0.mk ((by rw [hg]; exact (below_size (by repeat (first | (with_reducible first | exact HB.out | apply below_alloc | apply pw_below_drewN | apply below_drew1 | refine below_set ?_ GE174.out) | exact HB.out))) : w.heap.size ≤ gb175)); have n5_ := Aside0.mk ((by rw [hg]; exact Nat.ne_of_lt (blk_lt (g := gb174) (o := .cells #[.int .i64 a0_0, .int .i64 a0_1, .slice A0_2 l0_2.length c0_2, .int .i64 a0_3, .int .i64 a0_4, .int .i64 a0_5, .int .i64 a0_6, .int .i64 a0_7, .int .i64 a0_8, .int .i64 a0_9] 28 (0, 0)) (by (with_reducible repeat (first | refine blk_drewN ?_ _ | refine blk_drew ?_ | refine blk_alloc ?_ _)); exact BK174.out)) : gb174 ≠ gb175)); have n6_ := Aside0.mk ((by rw [hg]; exact Nat.ne_of_gt (blk_lt (g := gb174) (o := .cells #[.int .i64 a0_0, .int .i64 a0_1, .slice A0_2 l0_2.length c0_2, .int .i64 a0_3, .int .i64 a0_4, .int .i64 a0_5, .int .i64 a0_6, .int .i64 a0_7, .int .i64 a0_8, .int .i64 a0_9] 28 (0, 0)) (by (with_reducible repeat (first | refine blk_drewN ?_ _ | refine blk_drew ?_ | refine blk_alloc ?_ _)); exact BK174.out)) : gb175 ≠ gb174)); clear BK174; clear HB; have BK174 := n0_; have HB := n1_; have BK175 := n2_; have GW175 := n3_; have GE175 := n4_; have NB174_175 := n5_; have NB175_174 := n6_; clear n0_ n1_ n2_ n3_ n4_ n5_ n6_; clear hb hbox hg; have hnb9 := NB174_175.out; have hnc9 := NB175_174.out; have hcz10_0 : w8.cell? ⟨gb174, 0, none⟩ = some (.int .i64 a0_0) := (blk_cell BK174.out 0).trans rfl; have hcz10_1 : w8.cell? ⟨gb174, 1, none⟩ = some (.int .i64 a0_1) := (blk_cell BK174.out 1).trans rfl; have hcz10_2 : w8.cell? ⟨gb174, 2, none⟩ = some (.slice A0_2 l0_2.length c0_2) := (blk_cell BK174.out 2).trans rfl; have hcz10_3 : w8.cell? ⟨gb174, 3, none⟩ = some (.int .i64 a0_3) := (blk_cell BK174.out 3).trans rfl; have hcz10_4 : w8.cell? ⟨gb174, 4, none⟩ = some (.int .i64 a0_4) := (blk_cell BK174.out 4).trans rfl; have hcz10_5 : w8.cell? ⟨gb174, 5, none⟩ = some (.int .i64 a0_5) := (blk_cell BK174.out 5).trans rfl; have hcz10_6 : w8.cell? ⟨gb174, 6, none⟩ = some (.int .i64 a0_6) := (blk_cell BK174.out 6).trans rfl; have hcz10_7 : w8.cell? ⟨gb174, 7, none⟩ = some (.int .i64 a0_7) := (blk_cell BK174.out 7).trans rfl; have hcz10_8 : w8.cell? ⟨gb174, 8, none⟩ = some (.int .i64 a0_8) := (blk_cell BK174.out 8).trans rfl; have hcz10_9 : w8.cell? ⟨gb174, 9, none⟩ = some (.int .i64 a0_9) := (blk_cell BK174.out 9).trans rfl; have hfz10_0 := blk_frozen BK174.out 0; have hfz10_1 := blk_frozen BK174.out 1; have hfz10_2 := blk_frozen BK174.out 2; have hfz10_3 := blk_frozen BK174.out 3; have hfz10_4 := blk_frozen BK174.out 4; have hfz10_5 := blk_frozen BK174.out 5; have hfz10_6 := blk_frozen BK174.out 6; have hfz10_7 := blk_frozen BK174.out 7; have hfz10_8 := blk_frozen BK174.out 8; have hfz10_9 := blk_frozen BK174.out 9; have hcz11_0 : w8.cell? ⟨gb175, 0, none⟩ = some (.int .i64 a1_0) := (blk_cell BK175.out 0).trans rfl; have hcz11_1 : w8.cell? ⟨gb175, 1, none⟩ = some (.int .i64 a1_1) := (blk_cell BK175.out 1).trans rfl; have hcz11_2 : w8.cell? ⟨gb175, 2, none⟩ = some (.slice A1_2 l1_2.length c1_2) := (blk_cell BK175.out 2).trans rfl; have hcz11_3 : w8.cell? ⟨gb175, 3, none⟩ = some (.int .i64 a1_3) := (blk_cell BK175.out 3).trans rfl; have hcz11_4 : w8.cell? ⟨gb175, 4, none⟩ = some (.int .i64 a1_4) := (blk_cell BK175.out 4).trans rfl; have hcz11_5 : w8.cell? ⟨gb175, 5, none⟩ = some (.int .i64 a1_5) := (blk_cell BK175.out 5).trans rfl; have hcz11_6 : w8.cell? ⟨gb175, 6, none⟩ = some (.int .i64 a1_6) := (blk_cell BK175.out 6).trans rfl; have hcz11_7 : w8.cell? ⟨gb175, 7, none⟩ = some (.int .i64 a1_7) := (blk_cell BK175.out 7).trans rfl; have hcz11_8 : w8.cell? ⟨gb175, 8, none⟩ = some (.int .i64 a1_8) := (blk_cell BK175.out 8).trans rfl; have hcz11_9 : w8.cell? ⟨gb175, 9, none⟩ = some (.int .i64 a1_9) := (blk_cell BK175.out 9).trans rfl; have hfz11_0 := blk_frozen BK175.out 0; have hfz11_1 := blk_frozen BK175.out 1; have hfz11_2 := blk_frozen BK175.out 2; have hfz11_3 := blk_frozen BK175.out 3; have hfz11_4 := blk_frozen BK175.out 4; have hfz11_5 := blk_frozen BK175.out 5; have hfz11_6 := blk_frozen BK175.out 6; have hfz11_7 := blk_frozen BK175.out 7; have hfz11_8 := blk_frozen BK175.out 8; have hfz11_9 := blk_frozen BK175.out 9) | (go_at_call 60; (with_reducible refine (duetref01_Same.calls k _ _ l0_2 _ _ l1_2 t176 _ ?side1 ?side2 ?side3 ?side4 A6.out).mono ?_); (case side1 => repeat (first | exact (Kd.C_below HR0_2.out HB.out) | (with_reducible refine Kd.C_alloc ?_ _) | (with_reducible refine Kd.C_drewN ?_ _) | (with_reducible refine Kd.C_drew ?_))); (case side2 => exact HC0_2.out); (case side3 => repeat (first | exact (Kd.C_below HR1_2.out HB.out) | (with_reducible refine Kd.C_alloc ?_ _) | (with_reducible refine Kd.C_drewN ?_ _) | (with_reducible refine Kd.C_drew ?_))); (case side4 => exact HC1_2.out); rintro e w' ⟨rfl, ⟨nd, rfl⟩⟩))
        go_ret
        exact ⟨by first | rfl | (simp [errW_none, errW_some] <;> rfl) | (simp [*, errW_none, errW_some] <;> rfl), by repeat (first | (with_reducible first | exact HB.out | apply below_alloc | apply pw_below_drewN | apply below_drew1 | refine below_set ?_ GE174.out | refine below_set ?_ GE175.out) | exact HB.out)⟩
      · rw [if_neg c5] at H
        have c5b0 : (a0_3 == a1_3 && (a0_4 == a1_4 && ((a0_5 == a1_5 && (a0_6 == a1_6)) && ((a0_7 == a1_7 && (a0_8 == a1_8)) && (a0_9 == a1_9))))) = false := by simpa using c5
        (try (have c5b1 : decide (a0_3 = a1_3 && (a0_4 == a1_4 && ((a0_5 == a1_5 && (a0_6 == a1_6)) && ((a0_7 == a1_7 && (a0_8 == a1_8)) && (a0_9 == a1_9))))) = false := by simpa using c5))
        (try (have c5b2 : (a0_3 == a1_3 && (a0_4 == a1_4 && ((a0_5 == a1_5 && (a0_6 == a1_6)) && ((a0_7 == a1_7 && (a0_8 == a1_8)) && (a0_9 == a1_9))))) = false := by simpa using c5))
        (try (have c5b3 : ¬ (a0_3 = a1_3 && (a0_4 == a1_4 && ((a0_5 == a1_5 && (a0_6 == a1_6)) && ((a0_7 == a1_7 && (a0_8 == a1_8)) && (a0_9 == a1_9))))) := by simpa using c5))
        clear c5
        obtain rfl := Option.some.inj H
        go_enter Try.func22, Try.ntmps22
        go_wp2_with (first | ((with_reducible refine gate_dst (N := 2) rfl ?_); refine box_event ?hg (N := 2) ?hd (cs := #[.int .i64 a0_0, .int .i64 a0_1, .slice A0_2 l0_2.length c0_2, .int .i64 a0_3, .int .i64 a0_4, .int .i64 a0_5, .int .i64 a0_6, .int .i64 a0_7, .int .i64 a0_8, .int .i64 a0_9]) (t := 28) ?hr ?_; (case hd => rfl); (case hg => rfl); (case hr => first | (go_simp; done) | (go_simp; rfl)); intro gb174 hg w12 hbox hb; have n0_ := Aside0.mk (below_step (by repeat (first | (with_reducible first | exact HB.out | apply below_alloc | apply pw_below_drewN | apply below_drew1) | exact HB.out)) hb); have n1_ := Aside0.mk (hbox); have n2_ := Aside0.mk ((by rw [hg]; exact (below_size (by repeat (first | (with_reducible first | exact HB.out | apply below_alloc | apply pw_below_drewN | apply below_drew1) | exact HB.out))) : w.heap.size ≤ gb174)); have n3_ := Aside0.mk ((by rw [hg]; exact (below_size (by repeat (first | (with_reducible first | exact HB.out | apply below_alloc | apply pw_below_drewN | apply below_drew1) | exact HB.out))) : w.heap.size ≤ gb174)); clear HB; have HB := n0_; have BK174 := n1_; have GW174 := n2_; have GE174 := n3_; clear n0_ n1_ n2_ n3_; clear hb hbox hg) | ((with_reducible refine gate_dst (N := 3) rfl ?_); refine box_event ?hg (N := 3) ?hd (cs := #[.int .i64 a1_0, .int .i64 a1_1, .slice A1_2 l1_2.length c1_2, .int .i64 a1_3, .int .i64 a1_4, .int .i64 a1_5, .int .i64 a1_6, .int .i64 a1_7, .int .i64 a1_8, .int .i64 a1_9]) (t := 28) ?hr ?_; (case hd => rfl); (case hg => rfl); (case hr => first | (go_simp; done) | (go_simp; rfl)); intro gb175 hg w13 hbox hb; have n0_ := Aside0.mk (blk_below (g := gb174) (o := .cells #[.int .i64 a0_0, .int .i64 a0_1, .slice A0_2 l0_2.length c0_2, .int .i64 a0_3, .int .i64 a0_4, .int .i64 a0_5, .int .i64 a0_6, .int .i64 a0_7, .int .i64 a0_8, .int .i64 a0_9] 28 (0, 0)) (by (with_reducible repeat (first | refine blk_drewN ?_ _ | refine blk_drew ?_ | refine blk_alloc ?_ _)); exact BK174.out) hb); have n1_ := Aside0.mk (below_step (by repeat (first | (with_reducible first | exact HB.out | apply below_alloc | apply pw_below_drewN | apply below_drew1 | refine below_set ?_ GE174.out) | exact HB.out)) hb); have n2_ := Aside0.mk (hbox); have n3_ := Aside0.mk ((by rw [hg]; exact (below_size (by repeat (first | (with_reducible first | exact HB.out | apply below_alloc | apply pw_below_drewN | apply below_drew1 | refine below_set ?_ GE174.out) | exact HB.out))) : w.heap.size ≤ gb175)); have n4_ := Aside0.mk ((by rw [hg]; exact (below_size (by repeat (first | (with_reducible first | exact HB.out | apply below_alloc | apply pw_below_drewN | apply below_drew1 | refine below_set ?_ GE174.out) | exact HB.out))) : w.heap.size ≤ gb175)); have n5_ := Aside0.mk ((by rw [hg]; exact Nat.ne_of_lt (blk_lt (g := gb174) (o := .cells #[.int .i64 a0_0, .int .i64 a0_1, .slice A0_2 l0_2.length c0_2, .int .i64 a0_3, .int .i64 a0_4, .int .i64 a0_5, .int .i64 a0_6, .int .i64 a0_7, .int .i64 a0_8, .int .i64 a0_9] 28 (0, 0)) (by (with_reducible repeat (first | refine blk_drewN ?_ _ | refine blk_drew ?_ | refine blk_alloc ?_ _)); exact BK174.out)) : gb174 ≠ gb175)); have n6_ := Aside0.mk ((by rw [hg]; exact Nat.ne_of_gt (blk_lt (g := gb174) (o := .cells #[.int .i64 a0_0, .int .i64 a0_1, .slice A0_2 l0_2.length c0_2, .int .i64 a0_3, .int .i64 a0_4, .int .i64 a0_5, .int .i64 a0_6, .int .i64 a0_7, .int .i64 a0_8, .int .i64 a0_9] 28 (0, 0)) (by (with_reducible repeat (first | refine blk_drewN ?_ _ | refine blk_drew ?_ | refine blk_alloc ?_ _)); exact BK174.out)) : gb175 ≠ gb174)); clear BK174; clear HB; have BK174 := n0_; have HB := n1_; have BK175 := n2_; have GW175 := n3_; have GE175 := n4_; have NB174_175 := n5_; have NB175_174 := n6_; clear n0_ n1_ n2_ n3_ n4_ n5_ n6_; clear hb hbox hg; have hnb14 := NB174_175.out; have hnc14 := NB175_174.out; have hcz15_0 : w13.cell? ⟨gb174, 0, none⟩ = some (.int .i64 a0_0) := (blk_cell BK174.out 0).trans rfl; have hcz15_1 : w13.cell? ⟨gb174, 1, none⟩ = some (.int .i64 a0_1) := (blk_cell BK174.out 1).trans rfl; have hcz15_2 : w13.cell? ⟨gb174, 2, none⟩ = some (.slice A0_2 l0_2.length c0_2) := (blk_cell BK174.out 2).trans rfl; have hcz15_3 : w13.cell? ⟨gb174, 3, none⟩ = some (.int .i64 a0_3) := (blk_cell BK174.out 3).trans rfl; have hcz15_4 : w13.cell? ⟨gb174, 4, none⟩ = some (.int .i64 a0_4) := (blk_cell BK174.out 4).trans rfl; have hcz15_5 : w13.cell? ⟨gb174, 5, none⟩ = some (.int .i64 a0_5) := (blk_cell BK174.out 5).trans rfl; have hcz15_6 : w13.cell? ⟨gb174, 6, none⟩ = some (.int .i64 a0_6) := (blk_cell BK174.out 6).trans rfl; have hcz15_7 : w13.cell? ⟨gb174, 7, none⟩ = some (.int .i64 a0_7) := (blk_cell BK174.out 7).trans rfl; have hcz15_8 : w13.cell? ⟨gb174, 8, none⟩ = some (.int .i64 a0_8) := (blk_cell BK174.out 8).trans rfl; have hcz15_9 : w13.cell? ⟨gb174, 9, none⟩ = some (.int .i64 a0_9) := (blk_cell BK174.out 9).trans rfl; have hfz15_0 := blk_frozen BK174.out 0; have hfz15_1 := blk_frozen BK174.out 1; have hfz15_2 := blk_frozen BK174.out 2; have hfz15_3 := blk_frozen BK174.out 3; have hfz15_4 := blk_frozen BK174.out 4; have hfz15_5 := blk_frozen BK174.out 5; have hfz15_6 := blk_frozen BK174.out 6; have hfz15_7 := blk_frozen BK174.out 7; have hfz15_8 := blk_frozen BK174.out 8; have hfz15_9 := blk_frozen BK174.out 9; have hcz16_0 : w13.cell? ⟨gb175, 0, none⟩ = some (.int .i64 a1_0) := (blk_cell BK175.out 0).trans rfl; have hcz16_1 : w13.cell? ⟨gb175, 1, none⟩ = some (.int .i64 a1_1) := (blk_cell BK175.out 1).trans rfl; have hcz16_2 : w13.cell? ⟨gb175, 2, none⟩ = some (.slice A1_2 l1_2.length c1_2) := (blk_cell BK175.out 2).trans rfl; have hcz16_3 : w13.cell? ⟨gb175, 3, none⟩ = some (.int .i64 a1_3) := (blk_cell BK175.out 3).trans rfl; have hcz16_4 : w13.cell? ⟨gb175, 4, none⟩ = some (.int .i64 a1_4) := (blk_cell BK175.out 4).trans rfl; have hcz16_5 : w13.cell? ⟨gb175, 5, none⟩ = some (.int .i64 a1_5) := (blk_cell BK175.out 5).trans rfl; have hcz16_6 : w13.cell? ⟨gb175, 6, none⟩ = some (.int .i64 a1_6) := (blk_cell BK175.out 6).trans rfl; have hcz16_7 : w13.cell? ⟨gb175, 7, none⟩ = some (.int .i64 a1_7) := (blk_cell BK175.out 7).trans rfl; have hcz16_8 : w13.cell? ⟨gb175, 8, none⟩ = some (.int .i64 a1_8) := (blk_cell BK175.out 8).trans rfl; have hcz16_9 : w13.cell? ⟨gb175, 9, none⟩ = some (.int .i64 a1_9) := (blk_cell BK175.out 9).trans rfl; have hfz16_0 := blk_frozen BK175.out 0; have hfz16_1 := blk_frozen BK175.out 1; have hfz16_2 := blk_frozen BK175.out 2; have hfz16_3 := blk_frozen BK175.out 3; have hfz16_4 := blk_frozen BK175.out 4; have hfz16_5 := blk_frozen BK175.out 5; have hfz16_6 := blk_frozen BK175.out 6; have hfz16_7 := blk_frozen BK175.out 7; have hfz16_8 := blk_frozen BK175.out 8; have hfz16_9 := blk_frozen BK175.out 9))
        go_ret
        exact ⟨by first | rfl | (simp [errW_none, errW_some] <;> rfl) | (simp [*, errW_none, errW_some] <;> rfl), by repeat (first | (with_reducible first | exact HB.out | apply below_alloc | apply pw_below_drewN | apply below_drew1 | refine below_set ?_ GE174.out | refine below_set ?_ GE175.out) | exact HB.out)⟩
    · rw [if_neg c4] at H
      have c4b0 : (a0_1 == a1_1) = false := beq_eq_false_iff_ne.mpr c4
      have c4b1 : (a0_1 != a1_1) = true := bne_iff_ne.mpr c4
      obtain rfl := Option.some.inj H
      go_enter Try.func22, Try.ntmps22
      go_wp2_with (first | ((with_reducible refine gate_dst (N := 2) rfl ?_); refine box_event ?hg (N := 2) ?hd (cs := #[.int .i64 a0_0, .int .i64 a0_1, .slice A0_2 l0_2.length c0_2, .int .i64 a0_3, .int .i64 a0_4, .int .i64 a0_5, .int .i64 a0_6, .int .i64 a0_7, .int .i64 a0_8, .int .i64 a0_9]) (t := 28) ?hr ?_; (case hd => rfl); (case hg => rfl); (case hr => first | (go_simp; done) | (go_simp; rfl)); intro gb174 hg w17 hbox hb; have n0_ := Aside0.mk (below_step (by repeat (first | (with_reducible first | exact HB.out | apply below_alloc | apply pw_below_drewN | apply below_drew1) | exact HB.out)) hb); have n1_ := Aside0.mk (hbox); have n2_ := Aside0.mk ((by rw [hg]; exact (below_size (by repeat (first | (with_reducible first | exact HB.out | apply below_alloc | apply pw_below_drewN | apply below_drew1) | exact HB.out))) : w.heap.size ≤ gb174)); have n3_ := Aside0.mk ((by rw [hg]; exact (below_size (by repeat (first | (with_reducible first | exact HB.out | apply below_alloc | apply pw_below_drewN | apply below_drew1) | exact HB.out))) : w.heap.size ≤ gb174)); clear HB; have HB := n0_; have BK174 := n1_; have GW174 := n2_; have GE174 := n3_; clear n0_ n1_ n2_ n3_; clear hb hbox hg) | ((with_reducible refine gate_dst (N := 3) rfl ?_); refine box_event ?hg (N := 3) ?hd (cs := #[.int .i64 a1_0, .int .i64 a1_1, .slice A1_2 l1_2.length c1_2, .int .i64 a1_3, .int .i64 a1_4, .int .i64 a1_5, .int .i64 a1_6, .int .i64 a1_7, .int .i64 a1_8, .int .i64 a1_9]) (t := 28) ?hr ?_; (case hd => rfl); (case hg => rfl); (case hr => first | (go_simp; done) | (go_simp; rfl)); intro gb175 hg w18 hbox hb; have n0_ := Aside0.mk (blk_below (g := gb174) (o := .cells #[.int .i64 a0_0, .int .i64 a0_1, .slice A0_2 l0_2.length c0_2, .int .i64 a0_3, .int .i64 a0_4, .int .i64 a0_5, .int .i64 a0_6, .int .i64 a0_7, .int .i64 a0_8, .int .i64 a0_9] 28 (0, 0)) (by (with_reducible repeat (first | refine blk_drewN ?_ _ | refine blk_drew ?_ | refine blk_alloc ?_ _)); exact BK174.out) hb); have n1_ := Aside0.mk (below_step (by repeat (first | (with_reducible first | exact HB.out | apply below_alloc | apply pw_below_drewN | apply below_drew1 | refine below_set ?_ GE174.out) | exact HB.out)) hb); have n2_ := Aside0.mk (hbox); have n3_ := Aside0.mk ((by rw [hg]; exact (below_size (by repeat (first | (with_reducible first | exact HB.out | apply below_alloc | apply pw_below_drewN | apply below_drew1 | refine below_set ?_ GE174.out) | exact HB.out))) : w.heap.size ≤ gb175)); have n4_ := Aside0.mk ((by rw [hg]; exact (below_size (by repeat (first | (with_reducible first | exact HB.out | apply below_alloc | apply pw_below_drewN | apply below_drew1 | refine below_set ?_ GE174.out) | exact HB.out))) : w.heap.size ≤ gb175)); have n5_ := Aside0.mk ((by rw [hg]; exact Nat.ne_of_lt (blk_lt (g := gb174) (o := .cells #[.int .i64 a0_0, .int .i64 a0_1, .slice A0_2 l0_2.length c0_2, .int .i64 a0_3, .int .i64 a0_4, .int .i64 a0_5, .int .i64 a0_6, .int .i64 a0_7, .int .i64 a0_8, .int .i64 a0_9] 28 (0, 0)) (by (with_reducible repeat (first | refine blk_drewN ?_ _ | refine blk_drew ?_ | refine blk_alloc ?_ _)); exact BK174.out)) : gb174 ≠ gb175)); have n6_ := Aside0.mk ((by rw [hg]; exact Nat.ne_of_gt (blk_lt (g := gb174) (o := .cells #[.int .i64 a0_0, .int .i64 a0_1, .slice A0_2 l0_2.length c0_2, .int .i64 a0_3, .int .i64 a0_4, .int .i64 a0_5, .int .i64 a0_6, .int .i64 a0_7, .int .i64 a0_8, .int .i64 a0_9] 28 (0, 0)) (by (with_reducible repeat (first | refine blk_drewN ?_ _ | refine blk_drew ?_ | refine blk_alloc ?_ _)); exact BK174.out)) : gb175 ≠ gb174)); clear BK174; clear HB; have BK174 := n0_; have HB := n1_; have BK175 := n2_; have GW175 := n3_; have GE175 := n4_; have NB174_175 := n5_; have NB175_174 := n6_; clear n0_ n1_ n2_ n3_ n4_ n5_ n6_; clear hb hbox hg; have hnb19 := NB174_175.out; have hnc19 := NB175_174.out; have hcz20_0 : w18.cell? ⟨gb174, 0, none⟩ = some (.int .i64 a0_0) := (blk_cell BK174.out 0).trans rfl; have hcz20_1 : w18.cell? ⟨gb174, 1, none⟩ = some (.int .i64 a0_1) := (blk_cell BK174.out 1).trans rfl; have hcz20_2 : w18.cell? ⟨gb174, 2, none⟩ = some (.slice A0_2 l0_2.length c0_2) := (blk_cell BK174.out 2).trans rfl; have hcz20_3 : w18.cell? ⟨gb174, 3, none⟩ = some (.int .i64 a0_3) := (blk_cell BK174.out 3).trans rfl; have hcz20_4 : w18.cell? ⟨gb174, 4, none⟩ = some (.int .i64 a0_4) := (blk_cell BK174.out 4).trans rfl; have hcz20_5 : w18.cell? ⟨gb174, 5, none⟩ = some (.int .i64 a0_5) := (blk_cell BK174.out 5).trans rfl; have hcz20_6 : w18.cell? ⟨gb174, 6, none⟩ = some (.int .i64 a0_6) := (blk_cell BK174.out 6).trans rfl; have hcz20_7 : w18.cell? ⟨gb174, 7, none⟩ = some (.int .i64 a0_7) := (blk_cell BK174.out 7).trans rfl; have hcz20_8 : w18.cell? ⟨gb174, 8, none⟩ = some (.int .i64 a0_8) := (blk_cell BK174.out 8).trans rfl; have hcz20_9 : w18.cell? ⟨gb174, 9, none⟩ = some (.int .i64 a0_9) := (blk_cell BK174.out 9).trans rfl; have hfz20_0 := blk_frozen BK174.out 0; have hfz20_1 := blk_frozen BK174.out 1; have hfz20_2 := blk_frozen BK174.out 2; have hfz20_3 := blk_frozen BK174.out 3; have hfz20_4 := blk_frozen BK174.out 4; have hfz20_5 := blk_frozen BK174.out 5; have hfz20_6 := blk_frozen BK174.out 6; have hfz20_7 := blk_frozen BK174.out 7; have hfz20_8 := blk_frozen BK174.out 8; have hfz20_9 := blk_frozen BK174.out 9; have hcz21_0 : w18.cell? ⟨gb175, 0, none⟩ = some (.int .i64 a1_0) := (blk_cell BK175.out 0).trans rfl; have hcz21_1 : w18.cell? ⟨gb175, 1, none⟩ = some (.int .i64 a1_1) := (blk_cell BK175.out 1).trans rfl; have hcz21_2 : w18.cell? ⟨gb175, 2, none⟩ = some (.slice A1_2 l1_2.length c1_2) := (blk_cell BK175.out 2).trans rfl; have hcz21_3 : w18.cell? ⟨gb175, 3, none⟩ = some (.int .i64 a1_3) := (blk_cell BK175.out 3).trans rfl; have hcz21_4 : w18.cell? ⟨gb175, 4, none⟩ = some (.int .i64 a1_4) := (blk_cell BK175.out 4).trans rfl; have hcz21_5 : w18.cell? ⟨gb175, 5, none⟩ = some (.int .i64 a1_5) := (blk_cell BK175.out 5).trans rfl; have hcz21_6 : w18.cell? ⟨gb175, 6, none⟩ = some (.int .i64 a1_6) := (blk_cell BK175.out 6).trans rfl; have hcz21_7 : w18.cell? ⟨gb175, 7, none⟩ = some (.int .i64 a1_7) := (blk_cell BK175.out 7).trans rfl; have hcz21_8 : w18.cell? ⟨gb175, 8, none⟩ = some (.int .i64 a1_8) := (blk_cell BK175.out 8).trans rfl; have hcz21_9 : w18.cell? ⟨gb175, 9, none⟩ = some (.int .i64 a1_9) := (blk_cell BK175.out 9).trans rfl; have hfz21_0 := blk_frozen BK175.out 0; have hfz21_1 := blk_frozen BK175.out 1; have hfz21_2 := blk_frozen BK175.out 2; have hfz21_3 := blk_frozen BK175.out 3; have hfz21_4 := blk_frozen BK175.out 4; have hfz21_5 := blk_frozen BK175.out 5; have hfz21_6 := blk_frozen BK175.out 6; have hfz21_7 := blk_frozen BK175.out 7; have hfz21_8 := blk_frozen BK175.out 8; have hfz21_9 := blk_frozen BK175.out 9))
      go_ret
      exact ⟨by first | rfl | (simp [errW_none, errW_some] <;> rfl) | (simp [*, errW_none, errW_some] <;> rfl), by repeat (first | (with_reducible first | exact HB.out | apply below_alloc | apply pw_below_drewN | apply below_drew1 | refine below_set ?_ GE174.out | refine below_set ?_ GE175.out) | exact HB.out)⟩
  · rw [if_neg c3] at H
    have c3b0 : (a0_0 == a1_0) = false := beq_eq_false_iff_ne.mpr c3
    have c3b1 : (a0_0 != a1_0) = true := bne_iff_ne.mpr c3
    obtain rfl := Option.some.inj H
    go_enter Try.func22, Try.ntmps22
    go_wp2_with (first | ((with_reducible refine gate_dst (N := 2) rfl ?_); refine box_event ?hg (N := 2) ?hd (cs := #[.int .i64 a0_0, .int .i64 a0_1, .slice A0_2 l0_2.length c0_2, .int .i64 a0_3, .int .i64 a0_4, .int .i64 a0_5, .int .i64 a0_6, .int .i64 a0_7, .int .i64 a0_8, .int .i64 a0_9]) (t := 28) ?hr ?_; (case hd => rfl); (case hg => rfl); (case hr => first | (go_simp; done) | (go_simp; rfl)); intro gb174 hg w22 hbox hb; have n0_ := Aside0.mk (below_step (by repeat (first | (with_reducible first | exact HB.out | apply below_alloc | apply pw_below_drewN | apply below_drew1) | exact HB.out)) hb); have n1_ := Aside0.mk (hbox); have n2_ := Aside0.mk ((by rw [hg]; exact (below_size (by repeat (first | (with_reducible first | exact HB.out | apply below_alloc | apply pw_below_drewN | apply below_drew1) | exact HB.out))) : w.heap.size ≤ gb174)); have n3_ := Aside0.mk ((by rw [hg]; exact (below_size (by repeat (first | (with_reducible first | exact HB.out | apply below_alloc | apply pw_below_drewN | apply below_drew1) | exact HB.out))) : w.heap.size ≤ gb174)); clear HB; have HB := n0_; have BK174 := n1_; have GW174 := n2_; have GE174 := n3_; clear n0_ n1_ n2_ n3_; clear hb hbox hg) | ((with_reducible refine gate_dst (N := 3) rfl ?_); refine box_event ?hg (N := 3) ?hd (cs := #[.int .i64 a1_0, .int .i64 a1_1, .slice A1_2 l1_2.length c1_2, .int .i64 a1_3, .int .i64 a1_4, .int .i64 a1_5, .int .i64 a1_6, .int .i64 a1_7, .int .i64 a1_8, .int .i64 a1_9]) (t := 28) ?hr ?_; (case hd => rfl); (case hg => rfl); (case hr => first | (go_simp; done) | (go_simp; rfl)); intro gb175 hg w23 hbox hb; have n0_ := Aside0.mk (blk_below (g := gb174) (o := .cells #[.int .i64 a0_0, .int .i64 a0_1, .slice A0_2 l0_2.length c0_2, .int .i64 a0_3, .int .i64 a0_4, .int .i64 a0_5, .int .i64 a0_6, .int .i64 a0_7, .int .i64 a0_8, .int .i64 a0_9] 28 (0, 0)) (by (with_reducible repeat (first | refine blk_drewN ?_ _ | refine blk_drew ?_ | refine blk_alloc ?_ _)); exact BK174.out) hb); have n1_ := Aside0.mk (below_step (by repeat (first | (with_reducible first | exact HB.out | apply below_alloc | apply pw_below_drewN | apply below_drew1 | refine below_set ?_ GE174.out) | exact HB.out)) hb); have n2_ := Aside0.mk (hbox); have n3_ := Aside0.mk ((by rw [hg]; exact (below_size (by repeat (first | (with_reducible first | exact HB.out | apply below_alloc | apply pw_below_drewN | apply below_drew1 | refine below_set ?_ GE174.out) | exact HB.out))) : w.heap.size ≤ gb175)); have n4_ := Aside0.mk ((by rw [hg]; exact (below_size (by repeat (first | (with_reducible first | exact HB.out | apply below_alloc | apply pw_below_drewN | apply below_drew1 | refine below_set ?_ GE174.out) | exact HB.out))) : w.heap.size ≤ gb175)); have n5_ := Aside0.mk ((by rw [hg]; exact Nat.ne_of_lt (blk_lt (g := gb174) (o := .cells #[.int .i64 a0_0, .int .i64 a0_1, .slice A0_2 l0_2.length c0_2, .int .i64 a0_3, .int .i64 a0_4, .int .i64 a0_5, .int .i64 a0_6, .int .i64 a0_7, .int .i64 a0_8, .int .i64 a0_9] 28 (0, 0)) (by (with_reducible repeat (first | refine blk_drewN ?_ _ | refine blk_drew ?_ | refine blk_alloc ?_ _)); exact BK174.out)) : gb174 ≠ gb175)); have n6_ := Aside0.mk ((by rw [hg]; exact Nat.ne_of_gt (blk_lt (g := gb174) (o := .cells #[.int .i64 a0_0, .int .i64 a0_1, .slice A0_2 l0_2.length c0_2, .int .i64 a0_3, .int .i64 a0_4, .int .i64 a0_5, .int .i64 a0_6, .int .i64 a0_7, .int .i64 a0_8, .int .i64 a0_9] 28 (0, 0)) (by (with_reducible repeat (first | refine blk_drewN ?_ _ | refine blk_drew ?_ | refine blk_alloc ?_ _)); exact BK174.out)) : gb175 ≠ gb174)); clear BK174; clear HB; have BK174 := n0_; have HB := n1_; have BK175 := n2_; have GW175 := n3_; have GE175 := n4_; have NB174_175 := n5_; have NB175_174 := n6_; clear n0_ n1_ n2_ n3_ n4_ n5_ n6_; clear hb hbox hg; have hnb24 := NB174_175.out; have hnc24 := NB175_174.out; have hcz25_0 : w23.cell? ⟨gb174, 0, none⟩ = some (.int .i64 a0_0) := (blk_cell BK174.out 0).trans rfl; have hcz25_1 : w23.cell? ⟨gb174, 1, none⟩ = some (.int .i64 a0_1) := (blk_cell BK174.out 1).trans rfl; have hcz25_2 : w23.cell? ⟨gb174, 2, none⟩ = some (.slice A0_2 l0_2.length c0_2) := (blk_cell BK174.out 2).trans rfl; have hcz25_3 : w23.cell? ⟨gb174, 3, none⟩ = some (.int .i64 a0_3) := (blk_cell BK174.out 3).trans rfl; have hcz25_4 : w23.cell? ⟨gb174, 4, none⟩ = some (.int .i64 a0_4) := (blk_cell BK174.out 4).trans rfl; have hcz25_5 : w23.cell? ⟨gb174, 5, none⟩ = some (.int .i64 a0_5) := (blk_cell BK174.out 5).trans rfl; have hcz25_6 : w23.cell? ⟨gb174, 6, none⟩ = some (.int .i64 a0_6) := (blk_cell BK174.out 6).trans rfl; have hcz25_7 : w23.cell? ⟨gb174, 7, none⟩ = some (.int .i64 a0_7) := (blk_cell BK174.out 7).trans rfl; have hcz25_8 : w23.cell? ⟨gb174, 8, none⟩ = some (.int .i64 a0_8) := (blk_cell BK174.out 8).trans rfl; have hcz25_9 : w23.cell? ⟨gb174, 9, none⟩ = some (.int .i64 a0_9) := (blk_cell BK174.out 9).trans rfl; have hfz25_0 := blk_frozen BK174.out 0; have hfz25_1 := blk_frozen BK174.out 1; have hfz25_2 := blk_frozen BK174.out 2; have hfz25_3 := blk_frozen BK174.out 3; have hfz25_4 := blk_frozen BK174.out 4; have hfz25_5 := blk_frozen BK174.out 5; have hfz25_6 := blk_frozen BK174.out 6; have hfz25_7 := blk_frozen BK174.out 7; have hfz25_8 := blk_frozen BK174.out 8; have hfz25_9 := blk_frozen BK174.out 9; have hcz26_0 : w23.cell? ⟨gb175, 0, none⟩ = some (.int .i64 a1_0) := (blk_cell BK175.out 0).trans rfl; have hcz26_1 : w23.cell? ⟨gb175, 1, none⟩ = some (.int .i64 a1_1) := (blk_cell BK175.out 1).trans rfl; have hcz26_2 : w23.cell? ⟨gb175, 2, none⟩ = some (.slice A1_2 l1_2.length c1_2) := (blk_cell BK175.out 2).trans rfl; have hcz26_3 : w23.cell? ⟨gb175, 3, none⟩ = some (.int .i64 a1_3) := (blk_cell BK175.out 3).trans rfl; have hcz26_4 : w23.cell? ⟨gb175, 4, none⟩ = some (.int .i64 a1_4) := (blk_cell BK175.out 4).trans rfl; have hcz26_5 : w23.cell? ⟨gb175, 5, none⟩ = some (.int .i64 a1_5) := (blk_cell BK175.out 5).trans rfl; have hcz26_6 : w23.cell? ⟨gb175, 6, none⟩ = some (.int .i64 a1_6) := (blk_cell BK175.out 6).trans rfl; have hcz26_7 : w23.cell? ⟨gb175, 7, none⟩ = some (.int .i64 a1_7) := (blk_cell BK175.out 7).trans rfl; have hcz26_8 : w23.cell? ⟨gb175, 8, none⟩ = some (.int .i64 a1_8) := (blk_cell BK175.out 8).trans rfl; have hcz26_9 : w23.cell? ⟨gb175, 9, none⟩ = some (.int .i64 a1_9) := (blk_cell BK175.out 9).trans rfl; have hfz26_0 := blk_frozen BK175.out 0; have hfz26_1 := blk_frozen BK175.out 1; have hfz26_2 := blk_frozen BK175.out 2; have hfz26_3 := blk_frozen BK175.out 3; have hfz26_4 := blk_frozen BK175.out 4; have hfz26_5 := blk_frozen BK175.out 5; have hfz26_6 := blk_frozen BK175.out 6; have hfz26_7 := blk_frozen BK175.out 7; have hfz26_8 := blk_frozen BK175.out 8; have hfz26_9 := blk_frozen BK175.out 9))
    go_ret
    exact ⟨by first | rfl | (simp [errW_none, errW_some] <;> rfl) | (simp [*, errW_none, errW_some] <;> rfl), by repeat (first | (with_reducible first | exact HB.out | apply below_alloc | apply pw_below_drewN | apply below_drew1 | refine below_set ?_ GE174.out | refine below_set ?_ GE175.out) | exact HB.out)⟩
theorem duetref04_Same.at (k : Nat) (a0_0 : Int) (a0_1 : Int) (A0_2 : Option Addr) (c0_2 : Nat) (n0_2 : Nat) (l0_2 : List Int) (a0_3 : Int) (a0_4 : Int) (a0_5 : Int) (a0_6 : Int) (a0_7 : Int) (a0_8 : Int) (a0_9 : Int) (a1_0 : Int) (a1_1 : Int) (A1_2 : Option Addr) (c1_2 : Nat) (n1_2 : Nat) (l1_2 : List Int) (a1_3 : Int) (a1_4 : Int) (a1_5 : Int) (a1_6 : Int) (a1_7 : Int) (a1_8 : Int) (a1_9 : Int) (r : Bool) (w : World) (hr0_2 : Kd.C (Kd.int .i64) w A0_2 n0_2 l0_2) (hc0_2 : n0_2 ≤ c0_2) (hr1_2 : Kd.C (Kd.int .i64) w A1_2 n1_2 l1_2) (hc1_2 : n1_2 ≤ c1_2) (h : duetref04_Same.f k a0_0 a0_1 l0_2 a0_3 a0_4 a0_5 a0_6 a0_7 a0_8 a0_9 a1_0 a1_1 l1_2 a1_3 a1_4 a1_5 a1_6 a1_7 a1_8 a1_9 = some r) :
    Calls Try.prog 22 #[.agg #[.int .i64 a0_0, .int .i64 a0_1, .slice A0_2 n0_2 c0_2, .int .i64 a0_3, .int .i64 a0_4, .int .i64 a0_5, .int .i64 a0_6, .int .i64 a0_7, .int .i64 a0_8, .int .i64 a0_9], .agg #[.int .i64 a1_0, .int .i64 a1_1, .slice A1_2 n1_2 c1_2, .int .i64 a1_3, .int .i64 a1_4, .int .i64 a1_5, .int .i64 a1_6, .int .i64 a1_7, .int .i64 a1_8, .int .i64 a1_9]] w fun e w' => e = .returned (.bool r) ∧ Below w.heap.size w w' := by
  obtain rfl : l0_2.length = n0_2 := Kd.C_len hr0_2
  obtain rfl : l1_2.length = n1_2 := Kd.C_len hr1_2
  exact duetref04_Same.calls k a0_0 a0_1 A0_2 c0_2 l0_2 a0_3 a0_4 a0_5 a0_6 a0_7 a0_8 a0_9 a1_0 a1_1 A1_2 c1_2 l1_2 a1_3 a1_4 a1_5 a1_6 a1_7 a1_8 a1_9 r w hr0_2 hc0_2 hr1_2 hc1_2 h

-- NOT PRINTED: function 82 (mesg_reader_must)

/-! ### pack_Take: function 89 -/
def pack_Take.num (s : ByteArray) : Nat → Int
  | 0 => 0
  | k + 1 => 256 * pack_Take.num s k + bt s ((k : Int) + 1)
def pack_Take.f (a0 : ByteArray) : Option (Int × ByteArray × Int) :=
  if a0.toList = ([] : List UInt8) then some (0, ⟨#[]⟩, 3)
  else if bt a0 0 ≤ 247 then some (bt a0 0, a0.extract 1 a0.size, 0)
  else if bt a0 0 > 251 then some (0, ⟨#[]⟩, 2)
  else if (a0.size : Int) - 1 < bt a0 0 - 247 then some (0, ⟨#[]⟩, 3)
  else if pack_Take.num a0 (bt a0 0 - 247).toNat < 248 then some (0, ⟨#[]⟩, 2)
  else (pack_width.f (pack_Take.num a0 (bt a0 0 - 247).toNat)).bind fun t => if t = bt a0 0 - 247 then some (pack_Take.num a0 (bt a0 0 - 247).toNat, (a0.extract 1 a0.size).extract (bt a0 0 - 247).toNat (a0.extract 1 a0.size).size, 0)
  else some (0, ⟨#[]⟩, 2)
theorem pack_Take.num_range (s : ByteArray) : ∀ k : Nat, 0 ≤ pack_Take.num s k ∧ pack_Take.num s k < 256 ^ k
  | 0 => ⟨Int.le_refl 0, by show (0 : Int) < 1; decide⟩
  | k + 1 => by
    have ih := pack_Take.num_range s k
    have hb := bt_range s ((k : Int) + 1)
    simp only [pack_Take.num]
    rw [Int.pow_succ]
    omega
set_option maxHeartbeats 2000000 in
set_option maxRecDepth 100000 in
theorem pack_Take.calls (a0 : ByteArray) (r1 : Int) (r2 : ByteArray) (r3 : Int) (w : World) (h : pack_Take.f a0 = some (r1, r2, r3)) :
    Calls Try.prog 89 #[.string a0] w fun e w' => e = .returned (.tuple #[.int .i64 r1, .string r2, .int .i64 r3]) ∧ Below w.heap.size w w' := by
  have HB := Aside0.mk (Below.refl w.heap.size w)
  unfold pack_Take.f at h
  by_cases c1 : a0.toList = ([] : List UInt8)
  · rw [if_pos c1] at h
    have c2b0 : (a0.toList == ([] : List UInt8)) = true := beq_iff_eq.mpr c1
    have c2b1 : (a0.toList != ([] : List UInt8)) = false := bne_eq_false_iff_eq.mpr c1
    clear c1
    simp only [Option.some.injEq, Prod.mk.injEq] at h
    obtain ⟨rfl, rfl, rfl⟩ := h
    go_enter Try.func89, Try.ntmps89
    go_wp2
    go_ret3
    exact ⟨rfl, HB.out⟩
  rw [if_neg c1] at h
  have hpos : 0 < a0.size := Go.Proofs.Ythofobcbbddeeaa.XW.pos_of_toList c1
  have c2b0 : (a0.toList == ([] : List UInt8)) = false := beq_eq_false_iff_ne.mpr c1
  have c2b1 : (a0.toList != ([] : List UInt8)) = true := bne_iff_ne.mpr c1
  clear c1
  have hx : ∀ h : 0 < a0.size, ((a0[0]'h).toNat : Int) = bt a0 0 := bt_at a0 0
  have hb := bt_range a0 0
  obtain ⟨hb0, hb1⟩ := hb
  have hw : wrap64 (bt a0 0) = bt a0 0 := by unfold wrap64; omega
  have hs1 : ((1 : Int) ≤ (a0.size : Int)) = True := eq_true (by omega)
  have hs0 : (0 < a0.size) = True := eq_true hpos
  by_cases c3 : bt a0 0 ≤ 247
  · rw [if_pos c3] at h
    simp only [Option.some.injEq, Prod.mk.injEq] at h
    obtain ⟨rfl, rfl, rfl⟩ := h
    have t1 : decide (bt a0 0 - 248 + 1 ≤ 0) = true := decide_eq_true (by omega)
    go_enter Try.func89, Try.ntmps89
    go_wp2
    go_quiet (fail)
    go_wp2
    go_ret3
    exact ⟨rfl, pw_below_drewN HB.out _⟩
  rw [if_neg c3] at h
  have t1 : decide (bt a0 0 - 248 + 1 ≤ 0) = false := decide_eq_false (by omega)
  by_cases c4 : bt a0 0 > 251
  · rw [if_pos c4] at h
    simp only [Option.some.injEq, Prod.mk.injEq] at h
    obtain ⟨rfl, rfl, rfl⟩ := h
    have t2 : decide (4 < bt a0 0 - 248 + 1) = true := decide_eq_true (by omega)
    go_enter Try.func89, Try.ntmps89
    go_wp2
    go_quiet (fail)
    go_wp2
    go_ret3
    exact ⟨rfl, pw_below_drewN HB.out _⟩
  rw [if_neg c4] at h
  have t2 : decide (4 < bt a0 0 - 248 + 1) = false := decide_eq_false (by omega)
  by_cases c5 : (a0.size : Int) - 1 < bt a0 0 - 247
  · rw [if_pos c5] at h
    simp only [Option.some.injEq, Prod.mk.injEq] at h
    obtain ⟨rfl, rfl, rfl⟩ := h
    go_enter Try.func89, Try.ntmps89
    go_wp2
    go_quiet (fail)
    go_wp2
    go_ret3
    exact ⟨rfl, pw_below_drewN HB.out _⟩
  rw [if_neg c5] at h
  have kb := fun W s => print_bytes (P := Try.prog) 9 106 5 Try.underlying9 Try.underlying106 Try.underlying5 s W
  obtain ⟨kk, hkk⟩ : ∃ kk : Nat, bt a0 0 - 248 + 1 = (kk : Int) := ⟨(bt a0 0 - 247).toNat, by omega⟩
  have hk1 : 1 ≤ kk := by omega
  have hk4 : kk ≤ 4 := by omega
  have hks : kk + 1 ≤ a0.size := by omega
  have e247 : bt a0 0 - 247 = (kk : Int) := by omega
  rw [e247, Int.toNat_natCast] at h
  have hks2 : kk ≤ a0.size - 1 := by omega
  have hmin : min kk (a0.size - 1) = kk := by omega
  have HH := Aside0.mk h
  clear h e247 c3 c4 c5
  go_enter Try.func89, Try.ntmps89
  go_wp2
  go_quiet (fail)
  go_wp2
  generalize hu : (a0.extract 1 a0.size).extract 0 kk = u
  have hus : u.size = kk := by
    rw [← hu, ByteArray.size_extract, ByteArray.size_extract]; omega
  have hub : ∀ j : Int, 0 ≤ j → j < kk → bt u j = bt a0 (j + 1) := by
    intro j h0 h1
    rw [← hu, Go.Proofs.Ythofobcbbddeeaa.XW.bt_extract _ 0 kk j h0 (by rw [ByteArray.size_extract]; omega) (by omega), Go.Proofs.Ythofobcbbddeeaa.XW.bt_extract _ 1 _ _ (by omega) (by omega) (by omega)]
    rw [show j + ((0 : Nat) : Int) + ((1 : Nat) : Int) = j + 1 by omega]
  have hrd := bytes_reads (w.drewN nq) 5 u (by omega)
  have hbl := bytes_below (pw_below_drewN HB.out nq) (Nat.le_refl _) 5 u
  have HR := Aside0.mk (show Kd.C (Kd.int .u8) (Lib.bytesWorld (w.drewN nq) 5 u) (some ⟨w.heap.size, 0, none⟩) kk (bytesOf u) from by
    have := Kd.C_of_reads (d := (0 : Int)) (h1 := fun _ => rfl) hrd
    rw [hus] at this
    exact this)
  have HBL := Aside0.mk hbl
  have HUB := Aside0.mk hub
  clear hrd hbl hub hu hus
  generalize Lib.bytesWorld (w.drewN nq) 5 u = W2 at *
  generalize grownCap (w.drewN nq) kk 0 5 = cp
  go_loop [7, 9, 38] (fun n _ i => ∃ j : Int, 0 ≤ j ∧ j ≤ (kk : Int) ∧ n = .int .i64 (pack_Take.num a0 j.toNat) ∧ i = .int .i64 j) (fun _ _ i => kk - (intOf i).toNat)
  case atStart => exact ⟨0, by omega, by omega, rfl, rfl⟩
  case round =>
    obtain ⟨j, hj0, hj1, rfl, rfl⟩ := hrel
    by_cases hlt : j < (kk : Int)
    · obtain ⟨adx, eadx, hcell⟩ := Kd.at_int HR.out j hj0 hlt
      cases eadx
      simp only [add_plain] at hcell
      rw [rd_bytesOf, HUB.out j hj0 hlt] at hcell
      have t3 : decide (j < (kk : Int)) = true := decide_eq_true hlt
      have t4 : (0 ≤ j) = True := eq_true hj0
      have t5 : (j < (kk : Int)) = True := eq_true hlt
      have t6 : j + 1 ≤ (kk : Int) := by omega
      have hby := bt_range a0 (j + 1)
      obtain ⟨hby0, hby1⟩ := hby
      have hnr := pack_Take.num_range a0 j.toNat
      obtain ⟨hnr0, hnr1⟩ := hnr
      have hp : (256 : Int) ^ j.toNat ≤ 256 ^ 3 := by
        have : (256 : Nat) ^ j.toNat ≤ 256 ^ 3 := Nat.pow_le_pow_right (by decide) (by omega)
        exact_mod_cast this
      have hn3 : pack_Take.num a0 j.toNat < 16777216 := by omega
      have HE : Aside0 (bits .or .i64 (wrap64 (pack_Take.num a0 j.toNat * 256)) (bt a0 (j + 1)) = pack_Take.num a0 (j + 1).toNat) := ⟨by
        rw [show wrap64 (pack_Take.num a0 j.toNat * 256) = pack_Take.num a0 j.toNat * 256 by unfold wrap64; omega, Go.Proofs.Ythofobcbbddeeaa.XW.or_byte _ _ hnr0 (by omega) hby0 hby1, show (j + 1).toNat = j.toNat + 1 by omega]
        simp only [pack_Take.num]
        rw [show ((j.toNat : Nat) : Int) = j by omega]
        omega⟩
      clear hlt hn3 hp hnr0 hnr1
      go_wp2
      exact ⟨⟨j + 1, by omega, t6, congrArg (Value.int .i64) HE.out, rfl⟩, by simp only [intOf]; omega⟩
    · obtain rfl : j = (kk : Int) := by omega
      have hz := HH.out
      clear hlt HUB
      by_cases c6 : pack_Take.num a0 kk < 248
      · rw [if_pos c6] at hz
        simp only [Option.some.injEq, Prod.mk.injEq] at hz
        obtain ⟨rfl, rfl, rfl⟩ := hz
        have t7 : decide (pack_Take.num a0 kk < 248) = true := decide_eq_true c6
        clear HH c6
        go_wp2
        go_ret3
        exact ⟨rfl, HBL.out⟩
      · rw [if_neg c6] at hz
        have t7 : decide (pack_Take.num a0 kk < 248) = false := decide_eq_false c6
        obtain ⟨t, ht, hz⟩ := Option.bind_eq_some_iff.mp hz
        have HT := Aside0.mk ht
        clear HH c6 ht
        by_cases c7 : t = (kk : Int)
        · subst c7
          rw [if_pos rfl] at hz
          simp only [Option.some.injEq, Prod.mk.injEq] at hz
          obtain ⟨rfl, rfl, rfl⟩ := hz
          go_wp2_with (go_at_call 88; (with_reducible refine (pack_width.calls _ _ _ HT.out).mono ?_); rintro e w' ⟨rfl, ⟨nd, rfl⟩⟩)
          go_quiet (fail)
          go_wp2
          go_ret3
          exact ⟨by simp, pw_below_drewN (pw_below_drewN HBL.out _) _⟩
        · rw [if_neg c7] at hz
          simp only [Option.some.injEq, Prod.mk.injEq] at hz
          obtain ⟨rfl, rfl, rfl⟩ := hz
          have t8 : (t != (kk : Int)) = true := bne_iff_ne.mpr c7
          have t9 : (t == (kk : Int)) = false := beq_eq_false_iff_ne.mpr c7
          go_wp2_with (go_at_call 88; (with_reducible refine (pack_width.calls _ _ _ HT.out).mono ?_); rintro e w' ⟨rfl, ⟨nd, rfl⟩⟩)
          go_ret3
          exact ⟨rfl, pw_below_drewN HBL.out _⟩


-- NOT PRINTED: function 80 (mesg_reader_num)

/-! ### pack_Each: function 81 -/
mutual
def pack_Each.j0 : Nat → ByteArray → Int → Int → Bool → Option (List Int × ByteArray × Int)
  | 0, _, _, _, _ => none
  | k + 1, x0, x5, x6, x20 => if x20 = true then (pack_Each.j1 k x0 x5 2) else (pack_Each.j1 k x0 x5 x6)
def pack_Each.j1 : Nat → ByteArray → Int → Int → Option (List Int × ByteArray × Int)
  | 0, _, _, _ => none
  | k + 1, x0, x5, x6 => pack_Each.l0 k x0 x5 x6 ([] : List Int)
def pack_Each.l0 : Nat → ByteArray → Int → Int → List Int → Option (List Int × ByteArray × Int)
  | 0, _, _, _, _ => none
  | k + 1, x0, x5, x6, x7 => if x6 = 0 then (if (x7.length : Int) < x5 then ((pack_Take.f x0).bind fun bt183 => (if x7.length < 17592186044416 then (pack_Each.l0 k bt183.2.1 x5 bt183.2.2 (x7 ++ [bt183.1])) else (none))) else (some (x7, x0, 0))) else (some (([] : List Int), (⟨#[]⟩ : ByteArray), x6))
end
def pack_Each.f (k : Nat) (a0 : ByteArray) : Option (List Int × ByteArray × Int) := (pack_Take.f a0).bind fun bt180 => (if bt180.2.2 = 0 then (pack_Each.j0 k bt180.2.1 bt180.1 bt180.2.2 (decide (bt180.1 > 1000))) else (pack_Each.j0 k bt180.2.1 bt180.1 bt180.2.2 false))
theorem pack_Each.mono_l : ∀ k, (∀ y0 y1 y2 y3, LeO (pack_Each.j0 k y0 y1 y2 y3) (pack_Each.j0 (k + 1) y0 y1 y2 y3)) ∧ (∀ y0 y1 y2, LeO (pack_Each.j1 k y0 y1 y2) (pack_Each.j1 (k + 1) y0 y1 y2)) ∧ (∀ y0 y1 y2 y3, LeO (pack_Each.l0 k y0 y1 y2 y3) (pack_Each.l0 (k + 1) y0 y1 y2 y3))
  | 0 => ⟨fun _ _ _ _ r h => by simp [pack_Each.j0] at h, fun _ _ _ r h => by simp [pack_Each.j1] at h, fun _ _ _ _ r h => by simp [pack_Each.l0] at h⟩
  | k + 1 => by
    obtain ⟨ih0, ih1, ih2⟩ := pack_Each.mono_l k
    refine ⟨?_, ?_, ?_⟩
    · intro y0 y1 y2 y3
      unfold pack_Each.j0
      repeat' first
      | (with_reducible exact ih0 _ _ _ _)
      | (with_reducible exact ih1 _ _ _)
      | (with_reducible exact ih2 _ _ _ _)
      | (with_reducible exact LeO.refl _)
      | (with_reducible exact LeO.none _)
      | (with_reducible refine LeO.ite ?_ ?_)
      | (with_reducible refine LeO.bind ?_ (fun _ => ?_))
      | exact ih0 _ _ _ _
      | exact ih1 _ _ _
      | exact ih2 _ _ _ _
      | exact LeO.none _
      | refine LeO.ite ?_ ?_
      | refine LeO.bind ?_ (fun _ => ?_)
    · intro y0 y1 y2
      unfold pack_Each.j1
      repeat' first
      | (with_reducible exact ih0 _ _ _ _)
      | (with_reducible exact ih1 _ _ _)
      | (with_reducible exact ih2 _ _ _ _)
      | (with_reducible exact LeO.refl _)
      | (with_reducible exact LeO.none _)
      | (with_reducible refine LeO.ite ?_ ?_)
      | (with_reducible refine LeO.bind ?_ (fun _ => ?_))
      | exact ih0 _ _ _ _
      | exact ih1 _ _ _
      | exact ih2 _ _ _ _
      | exact LeO.none _
      | refine LeO.ite ?_ ?_
      | refine LeO.bind ?_ (fun _ => ?_)
    · intro y0 y1 y2 y3
      unfold pack_Each.l0
      repeat' first
      | (with_reducible exact ih0 _ _ _ _)
      | (with_reducible exact ih1 _ _ _)
      | (with_reducible exact ih2 _ _ _ _)
      | (with_reducible exact LeO.refl _)
      | (with_reducible exact LeO.none _)
      | (with_reducible refine LeO.ite ?_ ?_)
      | (with_reducible refine LeO.bind ?_ (fun _ => ?_))
      | exact ih0 _ _ _ _
      | exact ih1 _ _ _
      | exact ih2 _ _ _ _
      | exact LeO.none _
      | refine LeO.ite ?_ ?_
      | refine LeO.bind ?_ (fun _ => ?_)
theorem pack_Each.mono : ∀ a0 k, LeO (pack_Each.f k a0) (pack_Each.f (k + 1) a0) := by
  intro a0 k
  obtain ⟨ih0, ih1, ih2⟩ := pack_Each.mono_l k
  unfold pack_Each.f
  repeat' first
      | (with_reducible exact ih0 _ _ _ _)
      | (with_reducible exact ih1 _ _ _)
      | (with_reducible exact ih2 _ _ _ _)
      | (with_reducible exact LeO.refl _)
      | (with_reducible exact LeO.none _)
      | (with_reducible refine LeO.ite ?_ ?_)
      | (with_reducible refine LeO.bind ?_ (fun _ => ?_))
      | exact ih0 _ _ _ _
      | exact ih1 _ _ _
      | exact ih2 _ _ _ _
      | exact LeO.none _
      | refine LeO.ite ?_ ?_
      | refine LeO.bind ?_ (fun _ => ?_)
set_option maxHeartbeats 8000000 in
set_option maxRecDepth 100000 in
theorem pack_Each.calls (k : Nat) (a0 : ByteArray) (r1 : List Int) (r2 : ByteArray) (r3 : Int) (w : World) (h : pack_Each.f k a0 = some (r1, r2, r3)) :
    Calls Try.prog 81 #[.string a0] w fun e w' => ∃ v0_ : Value, e = .returned (.tuple #[v0_, .string r2, .int .i64 r3]) ∧ Kd.R (Kd.int .i64) 3 w' w.heap.size (fun _ => True) v0_ r1 ∧ Below w.heap.size w w' := by
  have HB := Aside0.mk (Below.refl w.heap.size w)
  have H : ((pack_Take.f a0).bind fun bt180 => (if bt180.2.2 = 0 then (pack_Each.j0 k bt180.2.1 bt180.1 bt180.2.2 (decide (bt180.1 > 1000))) else (pack_Each.j0 k bt180.2.1 bt180.1 bt180.2.2 false))) = some (r1, r2, r3) := h
  clear h
  replace H := Option.bind_eq_some_iff.mp H
  obtain ⟨⟨t180, t181, t182⟩, A20, H⟩ := H
  replace H : (if t182 = 0 then (pack_Each.j0 k t181 t180 t182 (decide (t180 > 1000))) else (pack_Each.j0 k t181 t180 t182 false)) = some (r1, r2, r3) := H
  have A2 := Aside0.mk A20
  clear A20
  have HC3 := Aside0.mk H
  clear H
  go_enter Try.func81, Try.ntmps81
  go_upto_region 2 with (first | ((with_reducible refine gate_callee (f := 89) rfl ?_); refine goesL_ (some 11) rfl rfl Try.func89 (by kernel_rfl) rfl #[.string a0] rfl (by (try simp only [List.map_toArray, List.map_cons, List.map_nil]); first | done | rfl | (simp only [List.length_drop, List.length_take]; rfl)) ?_; (with_reducible refine (pack_Take.calls a0 t180 t181 t182 _ A2.out).mono ?_); rintro e w4 ⟨rfl, hb⟩; refine ⟨_, rfl, ?_⟩; have n0_ := Aside0.mk (below_step (by repeat (first | (with_reducible first | exact HB.out | apply below_alloc | apply pw_below_drewN | apply below_drew1) | exact HB.out)) hb); clear HB; have HB := n0_; clear n0_; (try clear hb); (try clear hb2); (try clear hk); (try clear hi)))
  (try simp only [Act.put, List.setIfInBounds_toArray, List.set_cons_zero, List.set_cons_succ])
  go_cut [20] (fun v20 wc => ∃ (kq : Nat) (x20_2 : Bool), v20 = .bool x20_2 ∧ Aside0 (pack_Each.j0 kq t181 t180 t182 x20_2 = some (r1, r2, r3)) ∧ Aside0 (kq ≤ k) ∧ Aside0 (Below w.heap.size w wc))
  case first =>
    have H := HC3.out
    clear HC3
    by_cases c5 : t182 = 0
    · rw [if_pos c5] at H
      have c5b0 : (t182 == 0) = true := beq_iff_eq.mpr c5
      have c5b1 : (t182 != 0) = false := bne_eq_false_iff_eq.mpr c5
      clear c5
      (first | rw [c5b0] | (simp only [i64_w, i32_w]; rw [c5b0]) | skip)
      have H' := Aside0.mk H
      clear H
      go_wp2
      go_meet
      case rel => exact ⟨_, (decide (t180 > 1000)), (by first | rfl | (simp; done) | (simp [*]; done)), H', ⟨by first | omega | exact Nat.le_refl _⟩, ⟨by repeat (first | (with_reducible first | exact HB.out | apply below_alloc | apply pw_below_drewN | apply below_drew1) | exact HB.out)⟩⟩
    · rw [if_neg c5] at H
      have c5b0 : (t182 == 0) = false := beq_eq_false_iff_ne.mpr c5
      have c5b1 : (t182 != 0) = true := bne_iff_ne.mpr c5
      (first | rw [c5b0] | (simp only [i64_w, i32_w]; rw [c5b0]) | skip)
      have H' := Aside0.mk H
      clear H
      go_wp2
      go_meet
      case rel => exact ⟨_, (false), (by first | rfl | (simp; done) | (simp [*]; done)), H', ⟨by first | omega | exact Nat.le_refl _⟩, ⟨by repeat (first | (with_reducible first | exact HB.out | apply below_alloc | apply pw_below_drewN | apply below_drew1) | exact HB.out)⟩⟩
  case rest =>
    clear HC3
    try clear p2
    try clear c5
    try clear c5b0
    try clear c5b1
    obtain ⟨kq, x20_2, rfl, HA, HJ2, HB⟩ := hcut
    cases kq with
    | zero => exact absurd HA.out (by simp [pack_Each.j0])
    | succ kj2 =>
      have H := HA.out
      clear HA
      simp only [pack_Each.j0] at H
      have HC6 := Aside0.mk H
      clear H
      go_upto_if 20 with (fail)
      go_cut [6] (fun v6 wc => ∃ (kq : Nat) (x6_5 : Int), v6 = .int .i64 x6_5 ∧ Aside0 (pack_Each.j1 kq t181 t180 x6_5 = some (r1, r2, r3)) ∧ Aside0 (kq ≤ kj2) ∧ Aside0 (Below w.heap.size w wc))
      case first =>
        have H := HC6.out
        clear HC6
        by_cases c7 : x20_2 = true
        · subst c7
          have H1 : (pack_Each.j1 kj2 t181 t180 2) = some (r1, r2, r3) := by rw [if_pos rfl] at H; exact H
          clear H
          have H := H1
          clear H1
          have H' := Aside0.mk H
          clear H
          go_wp2
          go_meet
          case rel => exact ⟨_, (2), (by first | rfl | (simp; done) | (simp [*]; done)), H', ⟨by have := HJ2.out; first | omega | exact Nat.le_refl _⟩, ⟨by repeat (first | (with_reducible first | exact HB.out | apply below_alloc | apply pw_below_drewN | apply below_drew1) | exact HB.out)⟩⟩
        · replace c7 := Bool.eq_false_iff.mpr c7
          subst c7
          have H1 : (pack_Each.j1 kj2 t181 t180 t182) = some (r1, r2, r3) := by rw [if_neg (show ¬ (false = true) by decide)] at H; exact H
          clear H
          have H := H1
          clear H1
          have H' := Aside0.mk H
          clear H
          go_wp2
          go_meet
          case rel => exact ⟨_, (t182), (by first | rfl | (simp; done) | (simp [*]; done)), H', ⟨by have := HJ2.out; first | omega | exact Nat.le_refl _⟩, ⟨by repeat (first | (with_reducible first | exact HB.out | apply below_alloc | apply pw_below_drewN | apply below_drew1) | exact HB.out)⟩⟩
      case rest =>
        clear HC6
        try clear p2
        try clear c5
        try clear c5b0
        try clear c5b1
        try clear c7
        try clear p2
        obtain ⟨kq, x6_5, rfl, HA, HJ5, HB⟩ := hcut
        cases kq with
        | zero => exact absurd HA.out (by simp [pack_Each.j1])
        | succ kj5 =>
          have H := HA.out
          clear HA
          simp only [pack_Each.j1] at H
          have H' := Aside0.mk H
          clear H
          go_wp2
          go_loopg [0, 6, 7] kj5 (fun kq v0 v6 v7 w' => ∃ (x0_3 : ByteArray) (x6_3 : Int) (x7_3 : List Int), v0 = .string x0_3 ∧ v6 = .int .i64 x6_3 ∧ Aside0 (pack_Each.l0 kq x0_3 t180 x6_3 x7_3 = some (r1, r2, r3)) ∧ Aside0 (kq ≤ kj5) ∧ Aside0 (Kd.R (Kd.int .i64) 3 w' w.heap.size (fun _ => True) v7 x7_3) ∧ Aside0 (Below w.heap.size w w'))
          case atStart => exact ⟨(t181), (x6_5), (([] : List Int)), (by first | rfl | (simp; done) | (simp [*]; done)), (by first | rfl | (simp; done) | (simp [*]; done)), H', ⟨Nat.le_refl _⟩, ⟨by first | exact Kd.R_nil _ _ _ _ _ | exact Kd.N_nil _ _ _ _ _ | exact Kd.V_nil _ _ _ _ _ | exact Kd.Q_nil _ _ _ _ _ | exact Kd.S_nil _ _ _ _ _⟩, ⟨by repeat (first | (with_reducible first | exact HB.out | apply below_alloc | apply pw_below_drewN | apply below_drew1) | exact HB.out)⟩⟩
          case round =>
            clear H'
            try clear p2
            try clear c5
            try clear c5b0
            try clear c5b1
            try clear c7
            try clear p2
            obtain ⟨x0_3, x6_3, x7_3, rfl, rfl, HA, HK3, HO_7, HB⟩ := hrel
            cases gk with
            | zero => exact absurd HA.out (by simp [pack_Each.l0])
            | succ k3 =>
              have H := HA.out
              clear HA
              simp only [pack_Each.l0] at H
              by_cases c8 : x6_3 = 0
              · rw [if_pos c8] at H
                have c8b0 : (x6_3 == 0) = true := beq_iff_eq.mpr c8
                have c8b1 : (x6_3 != 0) = false := bne_eq_false_iff_eq.mpr c8
                clear c8
                by_cases c9 : (x7_3.length : Int) < t180
                · rw [if_pos c9] at H
                  have c9b0 : decide ((x7_3.length : Int) < t180) = true := decide_eq_true c9
                  clear c9
                  replace H := Option.bind_eq_some_iff.mp H
                  obtain ⟨⟨t183, t184, t185⟩, A100, H⟩ := H
                  replace H : (if x7_3.length < 17592186044416 then (pack_Each.l0 k3 t184 t180 t185 (x7_3 ++ [t183])) else (none)) = some (r1, r2, r3) := H
                  have A10 := Aside0.mk A100
                  clear A100
                  by_cases c11 : x7_3.length < 17592186044416
                  · rw [if_pos c11] at H
                    have LMc11 := Aside0.mk c11
                    clear c11
                    obtain ⟨y186, hy186⟩ : ∃ y_ : List Int, y_ = (x7_3 ++ [t183]) := ⟨_, rfl⟩
                    replace H : (pack_Each.l0 k3 t184 t180 t185 y186) = some (r1, r2, r3) := by first | (rw [hy186]; with_reducible exact H) | (have H2_ := (Option.bind_some _ _).symm.trans H; rw [hy186]; with_reducible exact H2_) | (have H2_ := (Option.bind_some _ _).symm.trans H; with_reducible exact H2_) | with_reducible exact H | (rw [hy186]; exact H) | exact H
                    have Ny186 := Aside0.mk hy186
                    clear hy186
                    have H' := Aside0.mk H
                    clear H
                    obtain ⟨Ao12, co12, eo12⟩ := Kd.R_slice HO_7.out
                    subst eo12
                    go_wp2_with (first | ((with_reducible refine gate_callee (f := 89) rfl ?_); refine goesL_ (some 31) rfl rfl Try.func89 (by kernel_rfl) rfl #[.string x0_3] rfl (by (try simp only [List.map_toArray, List.map_cons, List.map_nil]); first | done | rfl | (simp only [List.length_drop, List.length_take]; rfl)) ?_; (with_reducible refine (pack_Take.calls x0_3 t183 t184 t185 _ A10.out).mono ?_); rintro e w13 ⟨rfl, hb⟩; refine ⟨_, rfl, ?_⟩; have n0_ := Aside0.mk (Kd.R_below (by (with_reducible repeat (first | apply Kd.R_alloc | apply Kd.R_drewN | apply Kd.R_drew)); exact HO_7.out) hb); have n1_ := Aside0.mk (below_step (by repeat (first | (with_reducible first | exact HB.out | apply below_alloc | apply pw_below_drewN | apply below_drew1) | exact HB.out)) hb); clear HO_7; clear HB; have HO_7 := n0_; have HB := n1_; clear n0_ n1_; (try clear hb); (try clear hb2); (try clear hk); (try clear hi)) | ((with_reducible refine gate_builtin (b := .append) (xs := #[.tmp 35, .tmp 37]) rfl ?_); (try (refine gate_guard (by rfl) ?_; dsimp only)); at_builtin; refine Kd.R_append (Kd.int .i64) (w0 := w) w.heap.size rfl (.tmp 35) (.tmp 37) 22 3 (.int .i64 0) 8 rfl Try.underlying22 info3 rfl (by decide) (by omega) (.slice Ao12 x7_3.length co12) x7_3 t183 [.int .i64 t183] (fun _ => True) (fun _ => False) rfl rfl ?aP (fun _ hk => hk.elim) ?aF ?aO ?aB ?aS ?aL ?_; (case aP => exact rfl); (case aB => exact (by repeat (first | (with_reducible first | exact HB.out | apply below_alloc | apply pw_below_drewN | apply below_drew1) | exact HB.out))); (case aF => exact (fun _ _ => trivial)); (case aO => exact (by (with_reducible repeat (first | apply Kd.R_alloc | apply Kd.R_drewN | apply Kd.R_drew)); exact HO_7.out)); (case aS => exact (below_size (by repeat (first | (with_reducible first | exact HB.out | apply below_alloc | apply pw_below_drewN | apply below_drew1) | exact HB.out)))); (case aL => have := LMc11.out; omega); intro v187 w14 ho hb hg hat; rw [← Ny186.out] at ho; have n0_ := Aside0.mk (hb); have n1_ := Aside0.mk (ho); clear HB; clear HO_7; have HB := n0_; have HO188 := n1_; clear n0_ n1_; clear ho hb hg hat))
                    go_roundg k3
                    case measure => have := HJ2.out; have := HJ5.out; have := HK3.out; omega
                    case rel => exact ⟨(t184), (t185), (y186), (by first | rfl | (simp; done) | (simp [*]; done)), (by first | rfl | (simp; done) | (simp [*]; done)), H', ⟨by have := HJ2.out; have := HJ5.out; have := HK3.out; omega⟩, ⟨by (with_reducible repeat (first | apply Kd.R_alloc | apply Kd.R_drewN | apply Kd.R_drew)); exact HO188.out⟩, ⟨by repeat (first | (with_reducible first | exact HB.out | apply below_alloc | apply pw_below_drewN | apply below_drew1) | exact HB.out)⟩⟩
                  · rw [if_neg c11] at H
                    exact absurd H (by simp)
                · rw [if_neg c9] at H
                  have c9b0 : decide ((x7_3.length : Int) < t180) = false := decide_eq_false c9
                  clear c9
                  simp only [Option.some.injEq, Prod.mk.injEq] at H
                  obtain ⟨rfl, rfl, rfl⟩ := H
                  obtain ⟨Ao15, co15, eo15⟩ := Kd.R_slice HO_7.out
                  subst eo15
                  go_wp2
                  go_ret3
                  exact ⟨_, by first | rfl | (simp [errW_none, errW_some] <;> rfl) | (simp [*, errW_none, errW_some] <;> rfl), by (with_reducible repeat (first | apply Kd.R_alloc | apply Kd.R_drewN | apply Kd.R_drew)); exact HO_7.out, by repeat (first | (with_reducible first | exact HB.out | apply below_alloc | apply pw_below_drewN | apply below_drew1) | exact HB.out)⟩
              · rw [if_neg c8] at H
                have c8b0 : (x6_3 == 0) = false := beq_eq_false_iff_ne.mpr c8
                have c8b1 : (x6_3 != 0) = true := bne_iff_ne.mpr c8
                simp only [Option.some.injEq, Prod.mk.injEq] at H
                obtain ⟨rfl, rfl, rfl⟩ := H
                go_wp2
                go_ret3
                exact ⟨_, by first | rfl | (simp [errW_none, errW_some] <;> rfl) | (simp [*, errW_none, errW_some] <;> rfl), by first | exact Kd.R_nil _ _ _ _ _ | exact Kd.N_nil _ _ _ _ _ | exact Kd.V_nil _ _ _ _ _ | exact Kd.Q_nil _ _ _ _ _ | exact Kd.S_nil _ _ _ _ _, by repeat (first | (with_reducible first | exact HB.out | apply below_alloc | apply pw_below_drewN | apply below_drew1) | exact HB.out)⟩

-- NOT PRINTED: function 83 (mesg_reader_id)

-- NOT PRINTED: function 62 (mesg_reader_message)

end Go.Proofs.Ythofobcbbddeeaa.PMesr
