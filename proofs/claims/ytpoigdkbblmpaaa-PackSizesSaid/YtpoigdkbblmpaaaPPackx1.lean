/- Functions that the law reaches, each as a plain Lean function with the proof that the call does what it says. Conditions: none beyond those that each theorem states. Written by a program for this claim. -/
import Derived.Test.YtpoigdkbblmpaaaPPackx0
namespace Go.Proofs.Ytpoigdkbblmpaaa.PPack
open Go.RowKit Go.Proofs.YtpoigdkbblmpaaaW.PrintWords Go.Proofs.YtpoigdkbblmpaaaW.PrintLast Go.Proofs.YtpoigdkbblmpaaaW.PrintMore
attribute [local go_sem] max2_int min2_int max_two min_two max_three min_three max_four min_four   -- for this text's walks alone
set_option linter.unusedVariables false
set_option linter.unusedSimpArgs false

/-! ### duetlaw01_short: function 33 -/
def duetlaw01_short.f (a0 : ByteArray) : Option (Bool) := some (decide ((a0.size : Int) ≤ 70000))
set_option maxHeartbeats 8000000 in
set_option maxRecDepth 100000 in
theorem duetlaw01_short.calls (a0 : ByteArray) (r : Bool) (w : World) (h : duetlaw01_short.f a0 = some r) :
    Calls Try.prog 33 #[.string a0] w fun e w' => e = .returned (.bool r) ∧ Drawn0 w w' := by
  have H : (some (decide ((a0.size : Int) ≤ 70000))) = some r := h
  clear h
  obtain rfl := Option.some.inj H
  go_enter Try.func33, Try.ntmps33
  go_wp2
  go_ret
  exact ⟨by first | rfl | (simp; done) | (simp [*]; done), by repeat (first | exact Drawn0.refl _ | apply Drawn0.step)⟩

/-! ### duetref01_Same: function 24 -/
def duetref01_Same.l0 : Nat → List Int → List Int → Int → Option (Bool)
  | 0, _, _, _ => none
  | k + 1, x0, x1, x5 => if x5 < (x0.length : Int) then (if 0 ≤ x5 then (if x5 < (x1.length : Int) then (if (rd x0 x5) = (rd x1 x5) then (duetref01_Same.l0 k x0 x1 (wrap64 (x5 + 1))) else (some false)) else (none)) else (none)) else (some true)
def duetref01_Same.f (k : Nat) (l0 : List Int) (l1 : List Int) : Option (Bool) := if (l0.length : Int) = (l1.length : Int) then (duetref01_Same.l0 k l0 l1 0) else (some false)
theorem duetref01_Same.mono_l : ∀ k, (∀ y0 y1 y2, LeO (duetref01_Same.l0 k y0 y1 y2) (duetref01_Same.l0 (k + 1) y0 y1 y2))
  | 0 => fun _ _ _ r h => by simp [duetref01_Same.l0] at h
  | k + 1 => by
    have ih0 := duetref01_Same.mono_l k
    · intro y0 y1 y2
      unfold duetref01_Same.l0
      repeat' first
      | (with_reducible exact ih0 _ _ _)
      | (with_reducible exact LeO.refl _)
      | (with_reducible exact LeO.none _)
      | (with_reducible refine LeO.ite ?_ ?_)
      | (with_reducible refine LeO.bind ?_ (fun _ => ?_))
      | exact ih0 _ _ _
      | exact LeO.none _
      | refine LeO.ite ?_ ?_
      | refine LeO.bind ?_ (fun _ => ?_)
theorem duetref01_Same.mono : ∀ a0 a1 k, LeO (duetref01_Same.f k a0 a1) (duetref01_Same.f (k + 1) a0 a1) := by
  intro a0 a1 k
  have ih0 := duetref01_Same.mono_l k
  unfold duetref01_Same.f
  repeat' first
      | (with_reducible exact ih0 _ _ _)
      | (with_reducible exact LeO.refl _)
      | (with_reducible exact LeO.none _)
      | (with_reducible refine LeO.ite ?_ ?_)
      | (with_reducible refine LeO.bind ?_ (fun _ => ?_))
      | exact ih0 _ _ _
      | exact LeO.none _
      | refine LeO.ite ?_ ?_
      | refine LeO.bind ?_ (fun _ => ?_)
set_option maxHeartbeats 8000000 in
set_option maxRecDepth 100000 in
theorem duetref01_Same.calls (k : Nat) (A0 : Option Addr) (c0 : Nat) (l0 : List Int) (A1 : Option Addr) (c1 : Nat) (l1 : List Int) (r : Bool) (w : World) (hr0 : Kd.C (Kd.int .i64) w A0 l0.length l0) (hc0 : l0.length ≤ c0) (hr1 : Kd.C (Kd.int .i64) w A1 l1.length l1) (hc1 : l1.length ≤ c1) (h : duetref01_Same.f k l0 l1 = some r) :
    Calls Try.prog 24 #[.slice A0 l0.length c0, .slice A1 l1.length c1] w fun e w' => e = .returned (.bool r) ∧ Drawn0 w w' := by
  have HR0 := Aside0.mk hr0
  have HC0 := Aside0.mk hc0
  clear hr0 hc0
  have HR1 := Aside0.mk hr1
  have HC1 := Aside0.mk hc1
  clear hr1 hc1
  have H : (if (l0.length : Int) = (l1.length : Int) then (duetref01_Same.l0 k l0 l1 0) else (some false)) = some r := h
  clear h
  by_cases c3 : (l0.length : Int) = (l1.length : Int)
  · rw [if_pos c3] at H
    have c3b0 : ((l0.length : Int) == (l1.length : Int)) = true := beq_iff_eq.mpr c3
    have c3b1 : ((l0.length : Int) != (l1.length : Int)) = false := bne_eq_false_iff_eq.mpr c3
    have c3b2 : (l0.length == l1.length) = true := by first | simpa using c3 | (simp at c3 ⊢; omega)
    clear c3
    have H' := Aside0.mk H
    clear H
    go_enter Try.func24, Try.ntmps24
    go_wp2
    repeat (go_quiet (fail); try go_wp2)
    go_loopg [5] k (fun kq v5 w' => ∃ (x5_1 : Int), v5 = .int .i64 x5_1 ∧ Aside0 (duetref01_Same.l0 kq l0 l1 x5_1 = some r) ∧ Aside0 (kq ≤ k) ∧ Drawn0 w w')
    case atStart => exact ⟨(0), (by first | rfl | (simp; done) | (simp [*]; done)), H', ⟨Nat.le_refl _⟩, by repeat (first | exact Drawn0.refl _ | apply Drawn0.step)⟩
    case round =>
      clear H'
      try clear c1
      try clear c2
      try clear p2
      try clear c3
      try clear c3b0
      try clear c3b1
      try clear c3b2
      obtain ⟨x5_1, rfl, HA, HK1, ⟨m1, rfl⟩⟩ := hrel
      cases gk with
      | zero => exact absurd HA.out (by simp [duetref01_Same.l0])
      | succ k1 =>
        have H := HA.out
        clear HA
        simp only [duetref01_Same.l0] at H
        by_cases c4 : x5_1 < (l0.length : Int)
        · rw [if_pos c4] at H
          have c4b0 : decide (x5_1 < (l0.length : Int)) = true := decide_eq_true c4
          clear c4
          by_cases c5 : 0 ≤ x5_1
          · rw [if_pos c5] at H
            have c5b0 : decide (0 ≤ x5_1) = true := decide_eq_true c5
            clear c5
            by_cases c6 : x5_1 < (l1.length : Int)
            · rw [if_pos c6] at H
              have c6b0 : decide (x5_1 < (l1.length : Int)) = true := decide_eq_true c6
              clear c6
              by_cases c7 : (rd l0 x5_1) = (rd l1 x5_1)
              · rw [if_pos c7] at H
                have c7b0 : ((rd l0 x5_1) == (rd l1 x5_1)) = true := beq_iff_eq.mpr c7
                have c7b1 : ((rd l0 x5_1) != (rd l1 x5_1)) = false := bne_eq_false_iff_eq.mpr c7
                clear c7
                have H' := Aside0.mk H
                clear H
                have p101 : 0 ≤ (x5_1 : Int) := of_decide_eq_true (by first | (with_reducible assumption) | assumption)
                have q101 : x5_1 < (l0.length : Int) := of_decide_eq_true (by first | (with_reducible assumption) | assumption)
                obtain ⟨ad101, e101, hx101_0⟩ := Kd.at_int HR0.out x5_1 p101 q101
                cases e101
                replace p101 := eq_true p101
                replace q101 := eq_true q101
                have p102 : 0 ≤ (x5_1 : Int) := of_decide_eq_true (by first | (with_reducible assumption) | assumption)
                have q102 : x5_1 < (l1.length : Int) := of_decide_eq_true (by first | (with_reducible assumption) | assumption)
                obtain ⟨ad102, e102, hx102_0⟩ := Kd.at_int HR1.out x5_1 p102 q102
                cases e102
                replace p102 := eq_true p102
                replace q102 := eq_true q102
                go_wp2
                repeat (go_quiet (fail); try go_wp2)
                go_roundg k1
                case measure => have := HK1.out; omega
                case rel => exact ⟨(wrap64 (x5_1 + 1)), (by first | rfl | (simp; done) | (simp [*]; done)), H', ⟨by have := HK1.out; omega⟩, by repeat (first | exact Drawn0.refl _ | apply Drawn0.step)⟩
              · rw [if_neg c7] at H
                have c7b0 : ((rd l0 x5_1) == (rd l1 x5_1)) = false := beq_eq_false_iff_ne.mpr c7
                have c7b1 : ((rd l0 x5_1) != (rd l1 x5_1)) = true := bne_iff_ne.mpr c7
                obtain rfl := Option.some.inj H
                have p101 : 0 ≤ (x5_1 : Int) := of_decide_eq_true (by first | (with_reducible assumption) | assumption)
                have q101 : x5_1 < (l0.length : Int) := of_decide_eq_true (by first | (with_reducible assumption) | assumption)
                obtain ⟨ad101, e101, hx101_0⟩ := Kd.at_int HR0.out x5_1 p101 q101
                cases e101
                replace p101 := eq_true p101
                replace q101 := eq_true q101
                have p102 : 0 ≤ (x5_1 : Int) := of_decide_eq_true (by first | (with_reducible assumption) | assumption)
                have q102 : x5_1 < (l1.length : Int) := of_decide_eq_true (by first | (with_reducible assumption) | assumption)
                obtain ⟨ad102, e102, hx102_0⟩ := Kd.at_int HR1.out x5_1 p102 q102
                cases e102
                replace p102 := eq_true p102
                replace q102 := eq_true q102
                go_wp2
                repeat (go_quiet (fail); try go_wp2)
                go_ret
                exact ⟨by first | rfl | (simp; done) | (simp [*]; done), by repeat (first | exact Drawn0.refl _ | apply Drawn0.step)⟩
            · rw [if_neg c6] at H
              exact absurd H (by simp)
          · rw [if_neg c5] at H
            exact absurd H (by simp)
        · rw [if_neg c4] at H
          have c4b0 : decide (x5_1 < (l0.length : Int)) = false := decide_eq_false c4
          clear c4
          obtain rfl := Option.some.inj H
          go_wp2
          repeat (go_quiet (fail); try go_wp2)
          go_ret
          exact ⟨by first | rfl | (simp; done) | (simp [*]; done), by repeat (first | exact Drawn0.refl _ | apply Drawn0.step)⟩
  · rw [if_neg c3] at H
    have c3b0 : ((l0.length : Int) == (l1.length : Int)) = false := beq_eq_false_iff_ne.mpr c3
    have c3b1 : ((l0.length : Int) != (l1.length : Int)) = true := bne_iff_ne.mpr c3
    have c3b2 : (l0.length == l1.length) = false := by first | simpa using c3 | (simp at c3 ⊢; omega)
    obtain rfl := Option.some.inj H
    go_enter Try.func24, Try.ntmps24
    go_wp2
    repeat (go_quiet (fail); try go_wp2)
    go_ret
    exact ⟨by first | rfl | (simp; done) | (simp [*]; done), by repeat (first | exact Drawn0.refl _ | apply Drawn0.step)⟩

/-! ### pack_width: function 55 -/
def pack_width.f (a0 : Int) : Option (Int) := if a0 > 16777215 then (some 4) else (if a0 > 65535 then (some 3) else (if a0 > 255 then (some 2) else (some 1)))
set_option maxHeartbeats 8000000 in
set_option maxRecDepth 100000 in
theorem pack_width.calls (a0 : Int) (r : Int) (w : World) (h : pack_width.f a0 = some r) :
    Calls Try.prog 55 #[.int .i64 a0] w fun e w' => e = .returned (.int .i64 r) ∧ Drawn0 w w' := by
  have H : (if a0 > 16777215 then (some 4) else (if a0 > 65535 then (some 3) else (if a0 > 255 then (some 2) else (some 1)))) = some r := h
  clear h
  by_cases c2 : a0 > 16777215
  · rw [if_pos c2] at H
    have c2b0 : decide (16777215 < a0) = true := decide_eq_true c2
    clear c2
    obtain rfl := Option.some.inj H
    go_enter Try.func55, Try.ntmps55
    go_wp2
    go_ret
    exact ⟨by first | rfl | (simp; done) | (simp [*]; done), by repeat (first | exact Drawn0.refl _ | apply Drawn0.step)⟩
  · rw [if_neg c2] at H
    have c2b0 : decide (16777215 < a0) = false := decide_eq_false c2
    clear c2
    by_cases c3 : a0 > 65535
    · rw [if_pos c3] at H
      have c3b0 : decide (65535 < a0) = true := decide_eq_true c3
      clear c3
      obtain rfl := Option.some.inj H
      go_enter Try.func55, Try.ntmps55
      go_wp2
      go_ret
      exact ⟨by first | rfl | (simp; done) | (simp [*]; done), by repeat (first | exact Drawn0.refl _ | apply Drawn0.step)⟩
    · rw [if_neg c3] at H
      have c3b0 : decide (65535 < a0) = false := decide_eq_false c3
      clear c3
      by_cases c4 : a0 > 255
      · rw [if_pos c4] at H
        have c4b0 : decide (255 < a0) = true := decide_eq_true c4
        clear c4
        obtain rfl := Option.some.inj H
        go_enter Try.func55, Try.ntmps55
        go_wp2
        go_ret
        exact ⟨by first | rfl | (simp; done) | (simp [*]; done), by repeat (first | exact Drawn0.refl _ | apply Drawn0.step)⟩
      · rw [if_neg c4] at H
        have c4b0 : decide (255 < a0) = false := decide_eq_false c4
        clear c4
        obtain rfl := Option.some.inj H
        go_enter Try.func55, Try.ntmps55
        go_wp2
        go_ret
        exact ⟨by first | rfl | (simp; done) | (simp [*]; done), by repeat (first | exact Drawn0.refl _ | apply Drawn0.step)⟩

/-! ### pack_Num: function 35 -/
def pack_Num.j0 : Nat → Int → Bool → Option (ByteArray × Int)
  | 0, _, _ => none
  | k + 1, x0, x11 => if x11 = true then (some ((⟨#[]⟩ : ByteArray), 1)) else (if x0 < 248 then (some (strOfNums (([(x0) % 256] : List Int)), 0)) else ((pack_width.f x0).bind fun t106 => ((some (([(wrap64 (247 + t106)) % 256] : List Int) : List Int)).bind fun y107 => (if t106 = 4 then (if y107.length < 140737488355328 then ((some (y107 ++ [(x0 / 16777216) % 256] : List Int)).bind fun y110 => (if y110.length < 140737488355328 then ((some (y110 ++ [(x0 / 65536) % 256] : List Int)).bind fun y113 => (if y113.length < 140737488355328 then ((some (y113 ++ [(x0 / 256) % 256] : List Int)).bind fun y116 => (if y116.length < 140737488355328 then (some (strOfNums (y116 ++ [(x0) % 256]), 0)) else (none))) else (none))) else (none))) else (none)) else (if t106 = 3 then (if y107.length < 140737488355328 then ((some (y107 ++ [(x0 / 65536) % 256] : List Int)).bind fun y122 => (if y122.length < 140737488355328 then ((some (y122 ++ [(x0 / 256) % 256] : List Int)).bind fun y125 => (if y125.length < 140737488355328 then (some (strOfNums (y125 ++ [(x0) % 256]), 0)) else (none))) else (none))) else (none)) else (if t106 = 2 then (if y107.length < 140737488355328 then ((some (y107 ++ [(x0 / 256) % 256] : List Int)).bind fun y131 => (if y131.length < 140737488355328 then (some (strOfNums (y131 ++ [(x0) % 256]), 0)) else (none))) else (none)) else (if y107.length < 140737488355328 then (some (strOfNums (y107 ++ [(x0) % 256]), 0)) else (none))))))))
def pack_Num.f (k : Nat) (a0 : Int) : Option (ByteArray × Int) := if a0 < 0 then (pack_Num.j0 k a0 true) else (pack_Num.j0 k a0 (decide (a0 > 4294967295)))
theorem pack_Num.mono_l : ∀ k, (∀ y0 y1, LeO (pack_Num.j0 k y0 y1) (pack_Num.j0 (k + 1) y0 y1))
  | 0 => fun _ _ r h => by simp [pack_Num.j0] at h
  | k + 1 => by
    have ih0 := pack_Num.mono_l k
    · intro y0 y1
      unfold pack_Num.j0
      repeat' first
      | (with_reducible exact ih0 _ _)
      | (with_reducible exact LeO.refl _)
      | (with_reducible exact LeO.none _)
      | (with_reducible refine LeO.ite ?_ ?_)
      | (with_reducible refine LeO.bind ?_ (fun _ => ?_))
      | exact ih0 _ _
      | exact LeO.none _
      | refine LeO.ite ?_ ?_
      | refine LeO.bind ?_ (fun _ => ?_)
theorem pack_Num.mono : ∀ a0 k, LeO (pack_Num.f k a0) (pack_Num.f (k + 1) a0) := by
  intro a0 k
  have ih0 := pack_Num.mono_l k
  unfold pack_Num.f
  repeat' first
      | (with_reducible exact ih0 _ _)
      | (with_reducible exact LeO.refl _)
      | (with_reducible exact LeO.none _)
      | (with_reducible refine LeO.ite ?_ ?_)
      | (with_reducible refine LeO.bind ?_ (fun _ => ?_))
      | exact ih0 _ _
      | exact LeO.none _
      | refine LeO.ite ?_ ?_
      | refine LeO.bind ?_ (fun _ => ?_)
set_option maxHeartbeats 8000000 in
set_option maxRecDepth 100000 in
theorem pack_Num.calls (k : Nat) (a0 : Int) (r1 : ByteArray) (r2 : Int) (w : World) (h : pack_Num.f k a0 = some (r1, r2)) :
    Calls Try.prog 35 #[.int .i64 a0] w fun e w' => e = .returned (.tuple #[.string r1, .int .i64 r2]) ∧ Below w.heap.size w w' := by
  have HB := Aside0.mk (Below.refl w.heap.size w)
  have H : (if a0 < 0 then (pack_Num.j0 k a0 true) else (pack_Num.j0 k a0 (decide (a0 > 4294967295)))) = some (r1, r2) := h
  clear h
  have HC2 := Aside0.mk H
  clear H
  go_enter Try.func35, Try.ntmps35
  go_upto_region 1 with (fail)
  go_cut [11] (fun v11 wc => ∃ (kq : Nat) (x11_1 : Bool), v11 = .bool x11_1 ∧ Aside0 (pack_Num.j0 kq a0 x11_1 = some (r1, r2)) ∧ Aside0 (kq ≤ k) ∧ Aside0 (Below w.heap.size w wc))
  case first =>
    have H := HC2.out
    clear HC2
    by_cases c3 : a0 < 0
    · rw [if_pos c3] at H
      have c3b0 : decide (a0 < 0) = true := decide_eq_true c3
      clear c3
      (first | rw [c3b0] | (simp only [i64_w, i32_w]; rw [c3b0]) | skip)
      have H' := Aside0.mk H
      clear H
      go_wp2
      go_meet
      case rel => exact ⟨_, (true), (by first | rfl | (simp; done) | (simp [*]; done)), H', ⟨by first | omega | exact Nat.le_refl _⟩, ⟨by repeat (first | (with_reducible first | exact HB.out | apply below_alloc | apply pw_below_drewN | apply below_drew1) | exact HB.out)⟩⟩
    · rw [if_neg c3] at H
      have c3b0 : decide (a0 < 0) = false := decide_eq_false c3
      clear c3
      (first | rw [c3b0] | (simp only [i64_w, i32_w]; rw [c3b0]) | skip)
      have H' := Aside0.mk H
      clear H
      go_wp2
      go_meet
      case rel => exact ⟨_, (decide (a0 > 4294967295)), (by first | rfl | (simp; done) | (simp [*]; done)), H', ⟨by first | omega | exact Nat.le_refl _⟩, ⟨by repeat (first | (with_reducible first | exact HB.out | apply below_alloc | apply pw_below_drewN | apply below_drew1) | exact HB.out)⟩⟩
  case rest =>
    clear HC2
    try clear p2
    try clear c3
    try clear c3b0
    obtain ⟨kq, x11_1, rfl, HA, HJ1, HB⟩ := hcut
    cases kq with
    | zero => exact absurd HA.out (by simp [pack_Num.j0])
    | succ kj1 =>
      have H := HA.out
      clear HA
      simp only [pack_Num.j0] at H
      by_cases c4 : x11_1 = true
      · subst c4
        have H1 : (some ((⟨#[]⟩ : ByteArray), 1)) = some (r1, r2) := by rw [if_pos rfl] at H; exact H
        clear H
        have H := H1
        clear H1
        simp only [Option.some.injEq, Prod.mk.injEq] at H
        obtain ⟨rfl, rfl⟩ := H
        go_wp2
        go_ret2
        exact ⟨by first | rfl | (simp [errW_none, errW_some] <;> rfl) | (simp [*, errW_none, errW_some] <;> rfl), by repeat (first | (with_reducible first | exact HB.out | apply below_alloc | apply pw_below_drewN | apply below_drew1) | exact HB.out)⟩
      · replace c4 := Bool.eq_false_iff.mpr c4
        subst c4
        have H1 : (if a0 < 248 then (some (strOfNums (([(a0) % 256] : List Int)), 0)) else ((pack_width.f a0).bind fun t106 => ((some (([(wrap64 (247 + t106)) % 256] : List Int) : List Int)).bind fun y107 => (if t106 = 4 then (if y107.length < 140737488355328 then ((some (y107 ++ [(a0 / 16777216) % 256] : List Int)).bind fun y110 => (if y110.length < 140737488355328 then ((some (y110 ++ [(a0 / 65536) % 256] : List Int)).bind fun y113 => (if y113.length < 140737488355328 then ((some (y113 ++ [(a0 / 256) % 256] : List Int)).bind fun y116 => (if y116.length < 140737488355328 then (some (strOfNums (y116 ++ [(a0) % 256]), 0)) else (none))) else (none))) else (none))) else (none)) else (if t106 = 3 then (if y107.length < 140737488355328 then ((some (y107 ++ [(a0 / 65536) % 256] : List Int)).bind fun y122 => (if y122.length < 140737488355328 then ((some (y122 ++ [(a0 / 256) % 256] : List Int)).bind fun y125 => (if y125.length < 140737488355328 then (some (strOfNums (y125 ++ [(a0) % 256]), 0)) else (none))) else (none))) else (none)) else (if t106 = 2 then (if y107.length < 140737488355328 then ((some (y107 ++ [(a0 / 256) % 256] : List Int)).bind fun y131 => (if y131.length < 140737488355328 then (some (strOfNums (y131 ++ [(a0) % 256]), 0)) else (none))) else (none)) else (if y107.length < 140737488355328 then (some (strOfNums (y107 ++ [(a0) % 256]), 0)) else (none)))))))) = some (r1, r2) := by rw [if_neg (show ¬ (false = true) by decide)] at H; exact H
        clear H
        have H := H1
        clear H1
        by_cases c5 : a0 < 248
        · rw [if_pos c5] at H
          have c5b0 : decide (a0 < 248) = true := decide_eq_true c5
          clear c5
          obtain ⟨y103, hy103⟩ : ∃ y_ : List Int, y_ = (([(a0) % 256] : List Int)) := ⟨_, rfl⟩
          replace H : (some (strOfNums y103, 0)) = some (r1, r2) := by first | (rw [hy103]; with_reducible exact H) | (have H2_ := (Option.bind_some _ _).symm.trans H; rw [hy103]; with_reducible exact H2_) | (have H2_ := (Option.bind_some _ _).symm.trans H; with_reducible exact H2_) | with_reducible exact H | (rw [hy103]; exact H) | exact H
          have Ny103 := Aside0.mk hy103
          clear hy103
          simp only [Option.some.injEq, Prod.mk.injEq] at H
          obtain ⟨rfl, rfl⟩ := H
          go_wp2_with (first | ((with_reducible refine gate_dst (N := 16) rfl ?_); refine Kd.R_lit (Kd.int .u8) _ 5 ?hg (N := 16) ?hd (xs := ([(a0) % 256] : List Int)) (inner := [.int .u8 ((a0) % 256)]) (ok := fun _ => True) (okp := fun _ => True) ?hr ?hp (fun _ hk => hk) trivial (Below.refl _ _) (Nat.le_refl _) (by simp) ?_; (case hd => rfl); (case hg => rfl); (case hr => first | (go_simp; done) | (go_simp; rfl)); (case hp => exact (Reps.one (show Kd.M (Kd.int .u8) _ _ _ ((a0) % 256) [.int .u8 ((a0) % 256)] from rfl) (Reps.none _ _))); intro v104 w6 ho7 hb hg_ hnew_; clear hg_ hnew_; (first | rw [← Ny103.out] at ho7 | (simp only [Int.reduceToNat] at ho7; rw [← Ny103.out] at ho7)); have n0_ := Aside0.mk (Kd.R_lower ho7 (below_size (by repeat (first | (with_reducible first | exact HB.out | apply below_alloc | apply pw_below_drewN | apply below_drew1) | exact HB.out)))); have n1_ := Aside0.mk (below_step (by repeat (first | (with_reducible first | exact HB.out | apply below_alloc | apply pw_below_drewN | apply below_drew1) | exact HB.out)) hb); clear HB; have HO105 := n0_; have HB := n1_; clear n0_ n1_; clear hb ho7; have hcv8 := own_string (P := Try.prog) Try.underlying70 Try.underlying5 Try.underlying9 (Kd.own_of_R HO105.out)))
          go_ret2
          exact ⟨by first | rfl | (simp [errW_none, errW_some] <;> rfl) | (simp [*, errW_none, errW_some] <;> rfl), by repeat (first | (with_reducible first | exact HB.out | apply below_alloc | apply pw_below_drewN | apply below_drew1) | exact HB.out)⟩
        · rw [if_neg c5] at H
          have c5b0 : decide (a0 < 248) = false := decide_eq_false c5
          clear c5
          replace H := Option.bind_eq_some_iff.mp H
          obtain ⟨t106, A90, H⟩ := H
          replace H : ((some (([(wrap64 (247 + t106)) % 256] : List Int) : List Int)).bind fun y107 => (if t106 = 4 then (if y107.length < 140737488355328 then ((some (y107 ++ [(a0 / 16777216) % 256] : List Int)).bind fun y110 => (if y110.length < 140737488355328 then ((some (y110 ++ [(a0 / 65536) % 256] : List Int)).bind fun y113 => (if y113.length < 140737488355328 then ((some (y113 ++ [(a0 / 256) % 256] : List Int)).bind fun y116 => (if y116.length < 140737488355328 then (some (strOfNums (y116 ++ [(a0) % 256]), 0)) else (none))) else (none))) else (none))) else (none)) else (if t106 = 3 then (if y107.length < 140737488355328 then ((some (y107 ++ [(a0 / 65536) % 256] : List Int)).bind fun y122 => (if y122.length < 140737488355328 then ((some (y122 ++ [(a0 / 256) % 256] : List Int)).bind fun y125 => (if y125.length < 140737488355328 then (some (strOfNums (y125 ++ [(a0) % 256]), 0)) else (none))) else (none))) else (none)) else (if t106 = 2 then (if y107.length < 140737488355328 then ((some (y107 ++ [(a0 / 256) % 256] : List Int)).bind fun y131 => (if y131.length < 140737488355328 then (some (strOfNums (y131 ++ [(a0) % 256]), 0)) else (none))) else (none)) else (if y107.length < 140737488355328 then (some (strOfNums (y107 ++ [(a0) % 256]), 0)) else (none)))))) = some (r1, r2) := H
          have A9 := Aside0.mk A90
          clear A90
          obtain ⟨y107, hy107⟩ : ∃ y_ : List Int, y_ = (([(wrap64 (247 + t106)) % 256] : List Int)) := ⟨_, rfl⟩
          replace H : (if t106 = 4 then (if y107.length < 140737488355328 then ((some (y107 ++ [(a0 / 16777216) % 256] : List Int)).bind fun y110 => (if y110.length < 140737488355328 then ((some (y110 ++ [(a0 / 65536) % 256] : List Int)).bind fun y113 => (if y113.length < 140737488355328 then ((some (y113 ++ [(a0 / 256) % 256] : List Int)).bind fun y116 => (if y116.length < 140737488355328 then (some (strOfNums (y116 ++ [(a0) % 256]), 0)) else (none))) else (none))) else (none))) else (none)) else (if t106 = 3 then (if y107.length < 140737488355328 then ((some (y107 ++ [(a0 / 65536) % 256] : List Int)).bind fun y122 => (if y122.length < 140737488355328 then ((some (y122 ++ [(a0 / 256) % 256] : List Int)).bind fun y125 => (if y125.length < 140737488355328 then (some (strOfNums (y125 ++ [(a0) % 256]), 0)) else (none))) else (none))) else (none)) else (if t106 = 2 then (if y107.length < 140737488355328 then ((some (y107 ++ [(a0 / 256) % 256] : List Int)).bind fun y131 => (if y131.length < 140737488355328 then (some (strOfNums (y131 ++ [(a0) % 256]), 0)) else (none))) else (none)) else (if y107.length < 140737488355328 then (some (strOfNums (y107 ++ [(a0) % 256]), 0)) else (none))))) = some (r1, r2) := by first | (rw [hy107]; with_reducible exact H) | (have H2_ := (Option.bind_some _ _).symm.trans H; rw [hy107]; with_reducible exact H2_) | (have H2_ := (Option.bind_some _ _).symm.trans H; with_reducible exact H2_) | with_reducible exact H | (rw [hy107]; exact H) | exact H
          have Ny107 := Aside0.mk hy107
          clear hy107
          by_cases c10 : t106 = 4
          · rw [if_pos c10] at H
            have c10b0 : (t106 == 4) = true := beq_iff_eq.mpr c10
            have c10b1 : (t106 != 4) = false := bne_eq_false_iff_eq.mpr c10
            clear c10
            by_cases c11 : y107.length < 140737488355328
            · rw [if_pos c11] at H
              have LMc11 := Aside0.mk c11
              clear c11
              obtain ⟨y110, hy110⟩ : ∃ y_ : List Int, y_ = (y107 ++ [(a0 / 16777216) % 256]) := ⟨_, rfl⟩
              replace H : (if y110.length < 140737488355328 then ((some (y110 ++ [(a0 / 65536) % 256] : List Int)).bind fun y113 => (if y113.length < 140737488355328 then ((some (y113 ++ [(a0 / 256) % 256] : List Int)).bind fun y116 => (if y116.length < 140737488355328 then (some (strOfNums (y116 ++ [(a0) % 256]), 0)) else (none))) else (none))) else (none)) = some (r1, r2) := by first | (rw [hy110]; with_reducible exact H) | (have H2_ := (Option.bind_some _ _).symm.trans H; rw [hy110]; with_reducible exact H2_) | (have H2_ := (Option.bind_some _ _).symm.trans H; with_reducible exact H2_) | with_reducible exact H | (rw [hy110]; exact H) | exact H
              have Ny110 := Aside0.mk hy110
              clear hy110
              by_cases c12 : y110.length < 140737488355328
              · rw [if_pos c12] at H
                have LMc12 := Aside0.mk c12
                clear c12
                obtain ⟨y113, hy113⟩ : ∃ y_ : List Int, y_ = (y110 ++ [(a0 / 65536) % 256]) := ⟨_, rfl⟩
                replace H : (if y113.length < 140737488355328 then ((some (y113 ++ [(a0 / 256) % 256] : List Int)).bind fun y116 => (if y116.length < 140737488355328 then (some (strOfNums (y116 ++ [(a0) % 256]), 0)) else (none))) else (none)) = some (r1, r2) := by first | (rw [hy113]; with_reducible exact H) | (have H2_ := (Option.bind_some _ _).symm.trans H; rw [hy113]; with_reducible exact H2_) | (have H2_ := (Option.bind_some _ _).symm.trans H; with_reducible exact H2_) | with_reducible exact H | (rw [hy113]; exact H) | exact H
                have Ny113 := Aside0.mk hy113
                clear hy113
                by_cases c13 : y113.length < 140737488355328
                · rw [if_pos c13] at H
                  have LMc13 := Aside0.mk c13
                  clear c13
                  obtain ⟨y116, hy116⟩ : ∃ y_ : List Int, y_ = (y113 ++ [(a0 / 256) % 256]) := ⟨_, rfl⟩
                  replace H : (if y116.length < 140737488355328 then (some (strOfNums (y116 ++ [(a0) % 256]), 0)) else (none)) = some (r1, r2) := by first | (rw [hy116]; with_reducible exact H) | (have H2_ := (Option.bind_some _ _).symm.trans H; rw [hy116]; with_reducible exact H2_) | (have H2_ := (Option.bind_some _ _).symm.trans H; with_reducible exact H2_) | with_reducible exact H | (rw [hy116]; exact H) | exact H
                  have Ny116 := Aside0.mk hy116
                  clear hy116
                  by_cases c14 : y116.length < 140737488355328
                  · rw [if_pos c14] at H
                    have LMc14 := Aside0.mk c14
                    clear c14
                    obtain ⟨y119, hy119⟩ : ∃ y_ : List Int, y_ = (y116 ++ [(a0) % 256]) := ⟨_, rfl⟩
                    replace H : (some (strOfNums y119, 0)) = some (r1, r2) := by first | (rw [hy119]; with_reducible exact H) | (have H2_ := (Option.bind_some _ _).symm.trans H; rw [hy119]; with_reducible exact H2_) | (have H2_ := (Option.bind_some _ _).symm.trans H; with_reducible exact H2_) | with_reducible exact H | (rw [hy119]; exact H) | exact H
                    have Ny119 := Aside0.mk hy119
                    clear hy119
                    simp only [Option.some.injEq, Prod.mk.injEq] at H
                    obtain ⟨rfl, rfl⟩ := H
                    go_wp2_with (first | ((with_reducible refine gate_callee (f := 55) rfl ?_); refine goesL_ (some 19) rfl rfl Try.func55 (by kernel_rfl) rfl #[.int .i64 a0] rfl (by (try simp only [List.map_toArray, List.map_cons, List.map_nil]); first | done | rfl | (simp only [List.length_drop, List.length_take]; rfl)) ?_; (with_reducible refine (pack_width.calls a0 t106 _ A9.out).mono ?_); rintro e w' ⟨rfl, ⟨nd, rfl⟩⟩; refine ⟨_, rfl, ?_⟩) | ((with_reducible refine gate_dst (N := 23) rfl ?_); refine Kd.R_lit (Kd.int .u8) _ 5 ?hg (N := 23) ?hd (xs := ([(wrap64 (247 + t106)) % 256] : List Int)) (inner := [.int .u8 ((wrap64 (247 + t106)) % 256)]) (ok := fun _ => True) (okp := fun _ => True) ?hr ?hp (fun _ hk => hk) trivial (Below.refl _ _) (Nat.le_refl _) (by simp) ?_; (case hd => rfl); (case hg => rfl); (case hr => first | (go_simp; done) | (go_simp; rfl)); (case hp => exact (Reps.one (show Kd.M (Kd.int .u8) _ _ _ ((wrap64 (247 + t106)) % 256) [.int .u8 ((wrap64 (247 + t106)) % 256)] from rfl) (Reps.none _ _))); intro v108 w15 ho16 hb hg_ hnew_; clear hg_ hnew_; (first | rw [← Ny107.out] at ho16 | (simp only [Int.reduceToNat] at ho16; rw [← Ny107.out] at ho16)); have n0_ := Aside0.mk (Kd.R_lower ho16 (below_size (by repeat (first | (with_reducible first | exact HB.out | apply below_alloc | apply pw_below_drewN | apply below_drew1) | exact HB.out)))); have n1_ := Aside0.mk (below_step (by repeat (first | (with_reducible first | exact HB.out | apply below_alloc | apply pw_below_drewN | apply below_drew1) | exact HB.out)) hb); clear HB; have HO109 := n0_; have HB := n1_; clear n0_ n1_; clear hb ho16) | ((with_reducible refine gate_builtin (b := .append) (xs := #[.tmp 31, .tmp 35]) rfl ?_); at_builtin; refine Kd.R_append (Kd.int .u8) (w0 := w) w.heap.size rfl (.tmp 31) (.tmp 35) 70 5 (.int .u8 0) 1 rfl Try.underlying70 info5 rfl (by decide) (by omega) v108 y107 ((a0 / 16777216) % 256) [.int .u8 ((a0 / 16777216) % 256)] (fun _ => True) (fun _ => False) rfl rfl ?aP (fun _ hk => hk.elim) ?aF ?aO ?aB ?aS ?aL ?_; (case aP => exact rfl); (case aB => exact (by repeat (first | (with_reducible first | exact HB.out | apply below_alloc | apply pw_below_drewN | apply below_drew1) | exact HB.out))); (case aF => exact (fun _ _ => trivial)); (case aO => exact (by (with_reducible repeat (first | apply Kd.R_alloc | apply Kd.R_drewN | apply Kd.R_drew)); exact HO109.out)); (case aS => exact (below_size (by repeat (first | (with_reducible first | exact HB.out | apply below_alloc | apply pw_below_drewN | apply below_drew1) | exact HB.out)))); (case aL => have := LMc11.out; omega); intro v111 w17 ho hb hg hat; rw [← Ny110.out] at ho; have n0_ := Aside0.mk (hb); have n1_ := Aside0.mk (ho); clear HB; clear HO109; have HB := n0_; have HO112 := n1_; clear n0_ n1_; clear ho hb hg hat) | ((with_reducible refine gate_builtin (b := .append) (xs := #[.tmp 37, .tmp 41]) rfl ?_); at_builtin; refine Kd.R_append (Kd.int .u8) (w0 := w) w.heap.size rfl (.tmp 37) (.tmp 41) 70 5 (.int .u8 0) 1 rfl Try.underlying70 info5 rfl (by decide) (by omega) v111 y110 ((a0 / 65536) % 256) [.int .u8 ((a0 / 65536) % 256)] (fun _ => True) (fun _ => False) rfl rfl ?aP (fun _ hk => hk.elim) ?aF ?aO ?aB ?aS ?aL ?_; (case aP => exact rfl); (case aB => exact (by repeat (first | (with_reducible first | exact HB.out | apply below_alloc | apply pw_below_drewN | apply below_drew1) | exact HB.out))); (case aF => exact (fun _ _ => trivial)); (case aO => exact (by (with_reducible repeat (first | apply Kd.R_alloc | apply Kd.R_drewN | apply Kd.R_drew)); exact HO112.out)); (case aS => exact (below_size (by repeat (first | (with_reducible first | exact HB.out | apply below_alloc | apply pw_below_drewN | apply below_drew1) | exact HB.out)))); (case aL => have := LMc12.out; omega); intro v114 w18 ho hb hg hat; rw [← Ny113.out] at ho; have n0_ := Aside0.mk (hb); have n1_ := Aside0.mk (ho); clear HB; clear HO112; have HB := n0_; have HO115 := n1_; clear n0_ n1_; clear ho hb hg hat) | ((with_reducible refine gate_builtin (b := .append) (xs := #[.tmp 43, .tmp 47]) rfl ?_); at_builtin; refine Kd.R_append (Kd.int .u8) (w0 := w) w.heap.size rfl (.tmp 43) (.tmp 47) 70 5 (.int .u8 0) 1 rfl Try.underlying70 info5 rfl (by decide) (by omega) v114 y113 ((a0 / 256) % 256) [.int .u8 ((a0 / 256) % 256)] (fun _ => True) (fun _ => False) rfl rfl ?aP (fun _ hk => hk.elim) ?aF ?aO ?aB ?aS ?aL ?_; (case aP => exact rfl); (case aB => exact (by repeat (first | (with_reducible first | exact HB.out | apply below_alloc | apply pw_below_drewN | apply below_drew1) | exact HB.out))); (case aF => exact (fun _ _ => trivial)); (case aO => exact (by (with_reducible repeat (first | apply Kd.R_alloc | apply Kd.R_drewN | apply Kd.R_drew)); exact HO115.out)); (case aS => exact (below_size (by repeat (first | (with_reducible first | exact HB.out | apply below_alloc | apply pw_below_drewN | apply below_drew1) | exact HB.out)))); (case aL => have := LMc13.out; omega); intro v117 w19 ho hb hg hat; rw [← Ny116.out] at ho; have n0_ := Aside0.mk (hb); have n1_ := Aside0.mk (ho); clear HB; clear HO115; have HB := n0_; have HO118 := n1_; clear n0_ n1_; clear ho hb hg hat) | ((with_reducible refine gate_builtin (b := .append) (xs := #[.tmp 49, .tmp 52]) rfl ?_); at_builtin; refine Kd.R_append (Kd.int .u8) (w0 := w) w.heap.size rfl (.tmp 49) (.tmp 52) 70 5 (.int .u8 0) 1 rfl Try.underlying70 info5 rfl (by decide) (by omega) v117 y116 ((a0) % 256) [.int .u8 ((a0) % 256)] (fun _ => True) (fun _ => False) rfl rfl ?aP (fun _ hk => hk.elim) ?aF ?aO ?aB ?aS ?aL ?_; (case aP => exact rfl); (case aB => exact (by repeat (first | (with_reducible first | exact HB.out | apply below_alloc | apply pw_below_drewN | apply below_drew1) | exact HB.out))); (case aF => exact (fun _ _ => trivial)); (case aO => exact (by (with_reducible repeat (first | apply Kd.R_alloc | apply Kd.R_drewN | apply Kd.R_drew)); exact HO118.out)); (case aS => exact (below_size (by repeat (first | (with_reducible first | exact HB.out | apply below_alloc | apply pw_below_drewN | apply below_drew1) | exact HB.out)))); (case aL => have := LMc14.out; omega); intro v120 w20 ho hb hg hat; rw [← Ny119.out] at ho; have n0_ := Aside0.mk (hb); have n1_ := Aside0.mk (ho); clear HB; clear HO118; have HB := n0_; have HO121 := n1_; clear n0_ n1_; clear ho hb hg hat; have hcv21 := own_string (P := Try.prog) Try.underlying70 Try.underlying5 Try.underlying9 (Kd.own_of_R HO121.out)))
                    go_ret2
                    exact ⟨by first | rfl | (simp [errW_none, errW_some] <;> rfl) | (simp [*, errW_none, errW_some] <;> rfl), by repeat (first | (with_reducible first | exact HB.out | apply below_alloc | apply pw_below_drewN | apply below_drew1) | exact HB.out)⟩
                  · rw [if_neg c14] at H
                    exact absurd H (by simp)
                · rw [if_neg c13] at H
                  exact absurd H (by simp)
              · rw [if_neg c12] at H
                exact absurd H (by simp)
            · rw [if_neg c11] at H
              exact absurd H (by simp)
          · rw [if_neg c10] at H
            have c10b0 : (t106 == 4) = false := beq_eq_false_iff_ne.mpr c10
            have c10b1 : (t106 != 4) = true := bne_iff_ne.mpr c10
            by_cases c22 : t106 = 3
            · rw [if_pos c22] at H
              have c22b0 : (t106 == 3) = true := beq_iff_eq.mpr c22
              have c22b1 : (t106 != 3) = false := bne_eq_false_iff_eq.mpr c22
              clear c22
              by_cases c23 : y107.length < 140737488355328
              · rw [if_pos c23] at H
                have LMc23 := Aside0.mk c23
                clear c23
                obtain ⟨y122, hy122⟩ : ∃ y_ : List Int, y_ = (y107 ++ [(a0 / 65536) % 256]) := ⟨_, rfl⟩
                replace H : (if y122.length < 140737488355328 then ((some (y122 ++ [(a0 / 256) % 256] : List Int)).bind fun y125 => (if y125.length < 140737488355328 then (some (strOfNums (y125 ++ [(a0) % 256]), 0)) else (none))) else (none)) = some (r1, r2) := by first | (rw [hy122]; with_reducible exact H) | (have H2_ := (Option.bind_some _ _).symm.trans H; rw [hy122]; with_reducible exact H2_) | (have H2_ := (Option.bind_some _ _).symm.trans H; with_reducible exact H2_) | with_reducible exact H | (rw [hy122]; exact H) | exact H
                have Ny122 := Aside0.mk hy122
                clear hy122
                by_cases c24 : y122.length < 140737488355328
                · rw [if_pos c24] at H
                  have LMc24 := Aside0.mk c24
                  clear c24
                  obtain ⟨y125, hy125⟩ : ∃ y_ : List Int, y_ = (y122 ++ [(a0 / 256) % 256]) := ⟨_, rfl⟩
                  replace H : (if y125.length < 140737488355328 then (some (strOfNums (y125 ++ [(a0) % 256]), 0)) else (none)) = some (r1, r2) := by first | (rw [hy125]; with_reducible exact H) | (have H2_ := (Option.bind_some _ _).symm.trans H; rw [hy125]; with_reducible exact H2_) | (have H2_ := (Option.bind_some _ _).symm.trans H; with_reducible exact H2_) | with_reducible exact H | (rw [hy125]; exact H) | exact H
                  have Ny125 := Aside0.mk hy125
                  clear hy125
                  by_cases c25 : y125.length < 140737488355328
                  · rw [if_pos c25] at H
                    have LMc25 := Aside0.mk c25
                    clear c25
                    obtain ⟨y128, hy128⟩ : ∃ y_ : List Int, y_ = (y125 ++ [(a0) % 256]) := ⟨_, rfl⟩
                    replace H : (some (strOfNums y128, 0)) = some (r1, r2) := by first | (rw [hy128]; with_reducible exact H) | (have H2_ := (Option.bind_some _ _).symm.trans H; rw [hy128]; with_reducible exact H2_) | (have H2_ := (Option.bind_some _ _).symm.trans H; with_reducible exact H2_) | with_reducible exact H | (rw [hy128]; exact H) | exact H
                    have Ny128 := Aside0.mk hy128
                    clear hy128
                    simp only [Option.some.injEq, Prod.mk.injEq] at H
                    obtain ⟨rfl, rfl⟩ := H
                    go_wp2_with (first | ((with_reducible refine gate_callee (f := 55) rfl ?_); refine goesL_ (some 19) rfl rfl Try.func55 (by kernel_rfl) rfl #[.int .i64 a0] rfl (by (try simp only [List.map_toArray, List.map_cons, List.map_nil]); first | done | rfl | (simp only [List.length_drop, List.length_take]; rfl)) ?_; (with_reducible refine (pack_width.calls a0 t106 _ A9.out).mono ?_); rintro e w' ⟨rfl, ⟨nd, rfl⟩⟩; refine ⟨_, rfl, ?_⟩) | ((with_reducible refine gate_dst (N := 23) rfl ?_); refine Kd.R_lit (Kd.int .u8) _ 5 ?hg (N := 23) ?hd (xs := ([(wrap64 (247 + t106)) % 256] : List Int)) (inner := [.int .u8 ((wrap64 (247 + t106)) % 256)]) (ok := fun _ => True) (okp := fun _ => True) ?hr ?hp (fun _ hk => hk) trivial (Below.refl _ _) (Nat.le_refl _) (by simp) ?_; (case hd => rfl); (case hg => rfl); (case hr => first | (go_simp; done) | (go_simp; rfl)); (case hp => exact (Reps.one (show Kd.M (Kd.int .u8) _ _ _ ((wrap64 (247 + t106)) % 256) [.int .u8 ((wrap64 (247 + t106)) % 256)] from rfl) (Reps.none _ _))); intro v108 w26 ho27 hb hg_ hnew_; clear hg_ hnew_; (first | rw [← Ny107.out] at ho27 | (simp only [Int.reduceToNat] at ho27; rw [← Ny107.out] at ho27)); have n0_ := Aside0.mk (Kd.R_lower ho27 (below_size (by repeat (first | (with_reducible first | exact HB.out | apply below_alloc | apply pw_below_drewN | apply below_drew1) | exact HB.out)))); have n1_ := Aside0.mk (below_step (by repeat (first | (with_reducible first | exact HB.out | apply below_alloc | apply pw_below_drewN | apply below_drew1) | exact HB.out)) hb); clear HB; have HO109 := n0_; have HB := n1_; clear n0_ n1_; clear hb ho27) | ((with_reducible refine gate_builtin (b := .append) (xs := #[.tmp 37, .tmp 41]) rfl ?_); at_builtin; refine Kd.R_append (Kd.int .u8) (w0 := w) w.heap.size rfl (.tmp 37) (.tmp 41) 70 5 (.int .u8 0) 1 rfl Try.underlying70 info5 rfl (by decide) (by omega) v108 y107 ((a0 / 65536) % 256) [.int .u8 ((a0 / 65536) % 256)] (fun _ => True) (fun _ => False) rfl rfl ?aP (fun _ hk => hk.elim) ?aF ?aO ?aB ?aS ?aL ?_; (case aP => exact rfl); (case aB => exact (by repeat (first | (with_reducible first | exact HB.out | apply below_alloc | apply pw_below_drewN | apply below_drew1) | exact HB.out))); (case aF => exact (fun _ _ => trivial)); (case aO => exact (by (with_reducible repeat (first | apply Kd.R_alloc | apply Kd.R_drewN | apply Kd.R_drew)); exact HO109.out)); (case aS => exact (below_size (by repeat (first | (with_reducible first | exact HB.out | apply below_alloc | apply pw_below_drewN | apply below_drew1) | exact HB.out)))); (case aL => have := LMc23.out; omega); intro v123 w28 ho hb hg hat; rw [← Ny122.out] at ho; have n0_ := Aside0.mk (hb); have n1_ := Aside0.mk (ho); clear HB; clear HO109; have HB := n0_; have HO124 := n1_; clear n0_ n1_; clear ho hb hg hat) | ((with_reducible refine gate_builtin (b := .append) (xs := #[.tmp 43, .tmp 47]) rfl ?_); at_builtin; refine Kd.R_append (Kd.int .u8) (w0 := w) w.heap.size rfl (.tmp 43) (.tmp 47) 70 5 (.int .u8 0) 1 rfl Try.underlying70 info5 rfl (by decide) (by omega) v123 y122 ((a0 / 256) % 256) [.int .u8 ((a0 / 256) % 256)] (fun _ => True) (fun _ => False) rfl rfl ?aP (fun _ hk => hk.elim) ?aF ?aO ?aB ?aS ?aL ?_; (case aP => exact rfl); (case aB => exact (by repeat (first | (with_reducible first | exact HB.out | apply below_alloc | apply pw_below_drewN | apply below_drew1) | exact HB.out))); (case aF => exact (fun _ _ => trivial)); (case aO => exact (by (with_reducible repeat (first | apply Kd.R_alloc | apply Kd.R_drewN | apply Kd.R_drew)); exact HO124.out)); (case aS => exact (below_size (by repeat (first | (with_reducible first | exact HB.out | apply below_alloc | apply pw_below_drewN | apply below_drew1) | exact HB.out)))); (case aL => have := LMc24.out; omega); intro v126 w29 ho hb hg hat; rw [← Ny125.out] at ho; have n0_ := Aside0.mk (hb); have n1_ := Aside0.mk (ho); clear HB; clear HO124; have HB := n0_; have HO127 := n1_; clear n0_ n1_; clear ho hb hg hat) | ((with_reducible refine gate_builtin (b := .append) (xs := #[.tmp 49, .tmp 52]) rfl ?_); at_builtin; refine Kd.R_append (Kd.int .u8) (w0 := w) w.heap.size rfl (.tmp 49) (.tmp 52) 70 5 (.int .u8 0) 1 rfl Try.underlying70 info5 rfl (by decide) (by omega) v126 y125 ((a0) % 256) [.int .u8 ((a0) % 256)] (fun _ => True) (fun _ => False) rfl rfl ?aP (fun _ hk => hk.elim) ?aF ?aO ?aB ?aS ?aL ?_; (case aP => exact rfl); (case aB => exact (by repeat (first | (with_reducible first | exact HB.out | apply below_alloc | apply pw_below_drewN | apply below_drew1) | exact HB.out))); (case aF => exact (fun _ _ => trivial)); (case aO => exact (by (with_reducible repeat (first | apply Kd.R_alloc | apply Kd.R_drewN | apply Kd.R_drew)); exact HO127.out)); (case aS => exact (below_size (by repeat (first | (with_reducible first | exact HB.out | apply below_alloc | apply pw_below_drewN | apply below_drew1) | exact HB.out)))); (case aL => have := LMc25.out; omega); intro v129 w30 ho hb hg hat; rw [← Ny128.out] at ho; have n0_ := Aside0.mk (hb); have n1_ := Aside0.mk (ho); clear HB; clear HO127; have HB := n0_; have HO130 := n1_; clear n0_ n1_; clear ho hb hg hat; have hcv31 := own_string (P := Try.prog) Try.underlying70 Try.underlying5 Try.underlying9 (Kd.own_of_R HO130.out)))
                    go_ret2
                    exact ⟨by first | rfl | (simp [errW_none, errW_some] <;> rfl) | (simp [*, errW_none, errW_some] <;> rfl), by repeat (first | (with_reducible first | exact HB.out | apply below_alloc | apply pw_below_drewN | apply below_drew1) | exact HB.out)⟩
                  · rw [if_neg c25] at H
                    exact absurd H (by simp)
                · rw [if_neg c24] at H
                  exact absurd H (by simp)
              · rw [if_neg c23] at H
                exact absurd H (by simp)
            · rw [if_neg c22] at H
              have c22b0 : (t106 == 3) = false := beq_eq_false_iff_ne.mpr c22
              have c22b1 : (t106 != 3) = true := bne_iff_ne.mpr c22
              by_cases c32 : t106 = 2
              · rw [if_pos c32] at H
                have c32b0 : (t106 == 2) = true := beq_iff_eq.mpr c32
                have c32b1 : (t106 != 2) = false := bne_eq_false_iff_eq.mpr c32
                clear c32
                by_cases c33 : y107.length < 140737488355328
                · rw [if_pos c33] at H
                  have LMc33 := Aside0.mk c33
                  clear c33
                  obtain ⟨y131, hy131⟩ : ∃ y_ : List Int, y_ = (y107 ++ [(a0 / 256) % 256]) := ⟨_, rfl⟩
                  replace H : (if y131.length < 140737488355328 then (some (strOfNums (y131 ++ [(a0) % 256]), 0)) else (none)) = some (r1, r2) := by first | (rw [hy131]; with_reducible exact H) | (have H2_ := (Option.bind_some _ _).symm.trans H; rw [hy131]; with_reducible exact H2_) | (have H2_ := (Option.bind_some _ _).symm.trans H; with_reducible exact H2_) | with_reducible exact H | (rw [hy131]; exact H) | exact H
                  have Ny131 := Aside0.mk hy131
                  clear hy131
                  by_cases c34 : y131.length < 140737488355328
                  · rw [if_pos c34] at H
                    have LMc34 := Aside0.mk c34
                    clear c34
                    obtain ⟨y134, hy134⟩ : ∃ y_ : List Int, y_ = (y131 ++ [(a0) % 256]) := ⟨_, rfl⟩
                    replace H : (some (strOfNums y134, 0)) = some (r1, r2) := by first | (rw [hy134]; with_reducible exact H) | (have H2_ := (Option.bind_some _ _).symm.trans H; rw [hy134]; with_reducible exact H2_) | (have H2_ := (Option.bind_some _ _).symm.trans H; with_reducible exact H2_) | with_reducible exact H | (rw [hy134]; exact H) | exact H
                    have Ny134 := Aside0.mk hy134
                    clear hy134
                    simp only [Option.some.injEq, Prod.mk.injEq] at H
                    obtain ⟨rfl, rfl⟩ := H
                    go_wp2_with (first | ((with_reducible refine gate_callee (f := 55) rfl ?_); refine goesL_ (some 19) rfl rfl Try.func55 (by kernel_rfl) rfl #[.int .i64 a0] rfl (by (try simp only [List.map_toArray, List.map_cons, List.map_nil]); first | done | rfl | (simp only [List.length_drop, List.length_take]; rfl)) ?_; (with_reducible refine (pack_width.calls a0 t106 _ A9.out).mono ?_); rintro e w' ⟨rfl, ⟨nd, rfl⟩⟩; refine ⟨_, rfl, ?_⟩) | ((with_reducible refine gate_dst (N := 23) rfl ?_); refine Kd.R_lit (Kd.int .u8) _ 5 ?hg (N := 23) ?hd (xs := ([(wrap64 (247 + t106)) % 256] : List Int)) (inner := [.int .u8 ((wrap64 (247 + t106)) % 256)]) (ok := fun _ => True) (okp := fun _ => True) ?hr ?hp (fun _ hk => hk) trivial (Below.refl _ _) (Nat.le_refl _) (by simp) ?_; (case hd => rfl); (case hg => rfl); (case hr => first | (go_simp; done) | (go_simp; rfl)); (case hp => exact (Reps.one (show Kd.M (Kd.int .u8) _ _ _ ((wrap64 (247 + t106)) % 256) [.int .u8 ((wrap64 (247 + t106)) % 256)] from rfl) (Reps.none _ _))); intro v108 w35 ho36 hb hg_ hnew_; clear hg_ hnew_; (first | rw [← Ny107.out] at ho36 | (simp only [Int.reduceToNat] at ho36; rw [← Ny107.out] at ho36)); have n0_ := Aside0.mk (Kd.R_lower ho36 (below_size (by repeat (first | (with_reducible first | exact HB.out | apply below_alloc | apply pw_below_drewN | apply below_drew1) | exact HB.out)))); have n1_ := Aside0.mk (below_step (by repeat (first | (with_reducible first | exact HB.out | apply below_alloc | apply pw_below_drewN | apply below_drew1) | exact HB.out)) hb); clear HB; have HO109 := n0_; have HB := n1_; clear n0_ n1_; clear hb ho36) | ((with_reducible refine gate_builtin (b := .append) (xs := #[.tmp 43, .tmp 47]) rfl ?_); at_builtin; refine Kd.R_append (Kd.int .u8) (w0 := w) w.heap.size rfl (.tmp 43) (.tmp 47) 70 5 (.int .u8 0) 1 rfl Try.underlying70 info5 rfl (by decide) (by omega) v108 y107 ((a0 / 256) % 256) [.int .u8 ((a0 / 256) % 256)] (fun _ => True) (fun _ => False) rfl rfl ?aP (fun _ hk => hk.elim) ?aF ?aO ?aB ?aS ?aL ?_; (case aP => exact rfl); (case aB => exact (by repeat (first | (with_reducible first | exact HB.out | apply below_alloc | apply pw_below_drewN | apply below_drew1) | exact HB.out))); (case aF => exact (fun _ _ => trivial)); (case aO => exact (by (with_reducible repeat (first | apply Kd.R_alloc | apply Kd.R_drewN | apply Kd.R_drew)); exact HO109.out)); (case aS => exact (below_size (by repeat (first | (with_reducible first | exact HB.out | apply below_alloc | apply pw_below_drewN | apply below_drew1) | exact HB.out)))); (case aL => have := LMc33.out; omega); intro v132 w37 ho hb hg hat; rw [← Ny131.out] at ho; have n0_ := Aside0.mk (hb); have n1_ := Aside0.mk (ho); clear HB; clear HO109; have HB := n0_; have HO133 := n1_; clear n0_ n1_; clear ho hb hg hat) | ((with_reducible refine gate_builtin (b := .append) (xs := #[.tmp 49, .tmp 52]) rfl ?_); at_builtin; refine Kd.R_append (Kd.int .u8) (w0 := w) w.heap.size rfl (.tmp 49) (.tmp 52) 70 5 (.int .u8 0) 1 rfl Try.underlying70 info5 rfl (by decide) (by omega) v132 y131 ((a0) % 256) [.int .u8 ((a0) % 256)] (fun _ => True) (fun _ => False) rfl rfl ?aP (fun _ hk => hk.elim) ?aF ?aO ?aB ?aS ?aL ?_; (case aP => exact rfl); (case aB => exact (by repeat (first | (with_reducible first | exact HB.out | apply below_alloc | apply pw_below_drewN | apply below_drew1) | exact HB.out))); (case aF => exact (fun _ _ => trivial)); (case aO => exact (by (with_reducible repeat (first | apply Kd.R_alloc | apply Kd.R_drewN | apply Kd.R_drew)); exact HO133.out)); (case aS => exact (below_size (by repeat (first | (with_reducible first | exact HB.out | apply below_alloc | apply pw_below_drewN | apply below_drew1) | exact HB.out)))); (case aL => have := LMc34.out; omega); intro v135 w38 ho hb hg hat; rw [← Ny134.out] at ho; have n0_ := Aside0.mk (hb); have n1_ := Aside0.mk (ho); clear HB; clear HO133; have HB := n0_; have HO136 := n1_; clear n0_ n1_; clear ho hb hg hat; have hcv39 := own_string (P := Try.prog) Try.underlying70 Try.underlying5 Try.underlying9 (Kd.own_of_R HO136.out)))
                    go_ret2
                    exact ⟨by first | rfl | (simp [errW_none, errW_some] <;> rfl) | (simp [*, errW_none, errW_some] <;> rfl), by repeat (first | (with_reducible first | exact HB.out | apply below_alloc | apply pw_below_drewN | apply below_drew1) | exact HB.out)⟩
                  · rw [if_neg c34] at H
                    exact absurd H (by simp)
                · rw [if_neg c33] at H
                  exact absurd H (by simp)
              · rw [if_neg c32] at H
                have c32b0 : (t106 == 2) = false := beq_eq_false_iff_ne.mpr c32
                have c32b1 : (t106 != 2) = true := bne_iff_ne.mpr c32
                by_cases c40 : y107.length < 140737488355328
                · rw [if_pos c40] at H
                  have LMc40 := Aside0.mk c40
                  clear c40
                  obtain ⟨y137, hy137⟩ : ∃ y_ : List Int, y_ = (y107 ++ [(a0) % 256]) := ⟨_, rfl⟩
                  replace H : (some (strOfNums y137, 0)) = some (r1, r2) := by first | (rw [hy137]; with_reducible exact H) | (have H2_ := (Option.bind_some _ _).symm.trans H; rw [hy137]; with_reducible exact H2_) | (have H2_ := (Option.bind_some _ _).symm.trans H; with_reducible exact H2_) | with_reducible exact H | (rw [hy137]; exact H) | exact H
                  have Ny137 := Aside0.mk hy137
                  clear hy137
                  simp only [Option.some.injEq, Prod.mk.injEq] at H
                  obtain ⟨rfl, rfl⟩ := H
                  go_wp2_with (first | ((with_reducible refine gate_callee (f := 55) rfl ?_); refine goesL_ (some 19) rfl rfl Try.func55 (by kernel_rfl) rfl #[.int .i64 a0] rfl (by (try simp only [List.map_toArray, List.map_cons, List.map_nil]); first | done | rfl | (simp only [List.length_drop, List.length_take]; rfl)) ?_; (with_reducible refine (pack_width.calls a0 t106 _ A9.out).mono ?_); rintro e w' ⟨rfl, ⟨nd, rfl⟩⟩; refine ⟨_, rfl, ?_⟩) | ((with_reducible refine gate_dst (N := 23) rfl ?_); refine Kd.R_lit (Kd.int .u8) _ 5 ?hg (N := 23) ?hd (xs := ([(wrap64 (247 + t106)) % 256] : List Int)) (inner := [.int .u8 ((wrap64 (247 + t106)) % 256)]) (ok := fun _ => True) (okp := fun _ => True) ?hr ?hp (fun _ hk => hk) trivial (Below.refl _ _) (Nat.le_refl _) (by simp) ?_; (case hd => rfl); (case hg => rfl); (case hr => first | (go_simp; done) | (go_simp; rfl)); (case hp => exact (Reps.one (show Kd.M (Kd.int .u8) _ _ _ ((wrap64 (247 + t106)) % 256) [.int .u8 ((wrap64 (247 + t106)) % 256)] from rfl) (Reps.none _ _))); intro v108 w41 ho42 hb hg_ hnew_; clear hg_ hnew_; (first | rw [← Ny107.out] at ho42 | (simp only [Int.reduceToNat] at ho42; rw [← Ny107.out] at ho42)); have n0_ := Aside0.mk (Kd.R_lower ho42 (below_size (by repeat (first | (with_reducible first | exact HB.out | apply below_alloc | apply pw_below_drewN | apply below_drew1) | exact HB.out)))); have n1_ := Aside0.mk (below_step (by repeat (first | (with_reducible first | exact HB.out | apply below_alloc | apply pw_below_drewN | apply below_drew1) | exact HB.out)) hb); clear HB; have HO109 := n0_; have HB := n1_; clear n0_ n1_; clear hb ho42) | ((with_reducible refine gate_builtin (b := .append) (xs := #[.tmp 49, .tmp 52]) rfl ?_); at_builtin; refine Kd.R_append (Kd.int .u8) (w0 := w) w.heap.size rfl (.tmp 49) (.tmp 52) 70 5 (.int .u8 0) 1 rfl Try.underlying70 info5 rfl (by decide) (by omega) v108 y107 ((a0) % 256) [.int .u8 ((a0) % 256)] (fun _ => True) (fun _ => False) rfl rfl ?aP (fun _ hk => hk.elim) ?aF ?aO ?aB ?aS ?aL ?_; (case aP => exact rfl); (case aB => exact (by repeat (first | (with_reducible first | exact HB.out | apply below_alloc | apply pw_below_drewN | apply below_drew1) | exact HB.out))); (case aF => exact (fun _ _ => trivial)); (case aO => exact (by (with_reducible repeat (first | apply Kd.R_alloc | apply Kd.R_drewN | apply Kd.R_drew)); exact HO109.out)); (case aS => exact (below_size (by repeat (first | (with_reducible first | exact HB.out | apply below_alloc | apply pw_below_drewN | apply below_drew1) | exact HB.out)))); (case aL => have := LMc40.out; omega); intro v138 w43 ho hb hg hat; rw [← Ny137.out] at ho; have n0_ := Aside0.mk (hb); have n1_ := Aside0.mk (ho); clear HB; clear HO109; have HB := n0_; have HO139 := n1_; clear n0_ n1_; clear ho hb hg hat; have hcv44 := own_string (P := Try.prog) Try.underlying70 Try.underlying5 Try.underlying9 (Kd.own_of_R HO139.out)))
                  go_ret2
                  exact ⟨by first | rfl | (simp [errW_none, errW_some] <;> rfl) | (simp [*, errW_none, errW_some] <;> rfl), by repeat (first | (with_reducible first | exact HB.out | apply below_alloc | apply pw_below_drewN | apply below_drew1) | exact HB.out)⟩
                · rw [if_neg c40] at H
                  exact absurd H (by simp)

/-! ### pack_Text: function 37 -/
def pack_Text.f (k : Nat) (a0 : ByteArray) : Option (ByteArray × Int) := if (a0.size : Int) > 65535 then (some ((⟨#[]⟩ : ByteArray), 1)) else ((pack_Num.f k (a0.size : Int)).bind fun bt140 => (if bt140.1.size + a0.size ≤ 9223372036854775807 then (some (bt140.1 ++ a0, 0)) else (none)))
theorem pack_Text.mono : ∀ a0 k, LeO (pack_Text.f k a0) (pack_Text.f (k + 1) a0) := by
  intro a0 k
  unfold pack_Text.f
  repeat' first
      | (with_reducible exact pack_Num.mono _ _)
      | (with_reducible exact LeO.refl _)
      | (with_reducible exact LeO.none _)
      | (with_reducible refine LeO.ite ?_ ?_)
      | (with_reducible refine LeO.bind ?_ (fun _ => ?_))
      | exact pack_Num.mono _ _
      | exact LeO.none _
      | refine LeO.ite ?_ ?_
      | refine LeO.bind ?_ (fun _ => ?_)
set_option maxHeartbeats 8000000 in
set_option maxRecDepth 100000 in
theorem pack_Text.calls (k : Nat) (a0 : ByteArray) (r1 : ByteArray) (r2 : Int) (w : World) (h : pack_Text.f k a0 = some (r1, r2)) :
    Calls Try.prog 37 #[.string a0] w fun e w' => e = .returned (.tuple #[.string r1, .int .i64 r2]) ∧ Below w.heap.size w w' := by
  have HB := Aside0.mk (Below.refl w.heap.size w)
  have H : (if (a0.size : Int) > 65535 then (some ((⟨#[]⟩ : ByteArray), 1)) else ((pack_Num.f k (a0.size : Int)).bind fun bt140 => (if bt140.1.size + a0.size ≤ 9223372036854775807 then (some (bt140.1 ++ a0, 0)) else (none)))) = some (r1, r2) := h
  clear h
  by_cases c2 : (a0.size : Int) > 65535
  · rw [if_pos c2] at H
    have c2b0 : decide (65535 < (a0.size : Int)) = true := decide_eq_true c2
    have c2b1 : decide (65535 < a0.size) = true := decide_eq_true (by omega)
    clear c2
    simp only [Option.some.injEq, Prod.mk.injEq] at H
    obtain ⟨rfl, rfl⟩ := H
    go_enter Try.func37, Try.ntmps37
    go_wp2
    go_ret2
    exact ⟨by first | rfl | (simp [errW_none, errW_some] <;> rfl) | (simp [*, errW_none, errW_some] <;> rfl), by repeat (first | (with_reducible first | exact HB.out | apply below_alloc | apply pw_below_drewN | apply below_drew1) | exact HB.out)⟩
  · rw [if_neg c2] at H
    have c2b0 : decide (65535 < (a0.size : Int)) = false := decide_eq_false c2
    have c2b1 : decide (65535 < a0.size) = false := decide_eq_false (by omega)
    clear c2
    replace H := Option.bind_eq_some_iff.mp H
    obtain ⟨⟨t140, t141⟩, A30, H⟩ := H
    replace H : (if t140.size + a0.size ≤ 9223372036854775807 then (some (t140 ++ a0, 0)) else (none)) = some (r1, r2) := H
    have A3 := Aside0.mk A30
    clear A30
    by_cases c4 : t140.size + a0.size ≤ 9223372036854775807
    · rw [if_pos c4] at H
      have c4b0 := eq_true c4
      have c4b1 : decide (t140.size + a0.size ≤ 9223372036854775807) = true := decide_eq_true c4
      try have c4b2 : (9223372036854775807 < t140.size + a0.size) = False := eq_false (Nat.not_lt.2 c4)
      simp only [Option.some.injEq, Prod.mk.injEq] at H
      obtain ⟨rfl, rfl⟩ := H
      go_enter Try.func37, Try.ntmps37
      go_wp2_with (first | ((with_reducible refine gate_callee (f := 35) rfl ?_); refine goesL_ (some 12) rfl rfl Try.func35 (by kernel_rfl) rfl #[.int .i64 (a0.size : Int)] rfl (by (try simp only [List.map_toArray, List.map_cons, List.map_nil]); first | done | rfl | (simp only [List.length_drop, List.length_take]; rfl)) ?_; (with_reducible refine (pack_Num.calls k (a0.size : Int) t140 t141 _ A3.out).mono ?_); rintro e w5 ⟨rfl, hb⟩; refine ⟨_, rfl, ?_⟩; have n0_ := Aside0.mk (below_step (by repeat (first | (with_reducible first | exact HB.out | apply below_alloc | apply pw_below_drewN | apply below_drew1) | exact HB.out)) hb); clear HB; have HB := n0_; clear n0_; (try clear hb); (try clear hb2); (try clear hk); (try clear hi)))
      go_ret2
      exact ⟨by first | rfl | (simp [errW_none, errW_some] <;> rfl) | (simp [*, errW_none, errW_some] <;> rfl), by repeat (first | (with_reducible first | exact HB.out | apply below_alloc | apply pw_below_drewN | apply below_drew1) | exact HB.out)⟩
    · rw [if_neg c4] at H
      exact absurd H (by simp)

/-! ### pack_List: function 39 -/
def pack_List.go : List Int → List Int → Option (ByteArray × Int)
  | [], b => some (strOfNums b, 0)
  | n :: l, b => (pack_Num.f 9 n).bind fun t => if t.2 = 0 then (if b.length + t.1.size ≤ 140737488355328 then pack_List.go l (b ++ bytesOf t.1) else none) else some (⟨#[]⟩, t.2)
def pack_List.f (l0 : List Int) : Option (ByteArray × Int) := if (l0.length : Int) > 1000 then some (⟨#[]⟩, 1) else (pack_Num.f 9 (l0.length : Int)).bind fun t => if t.1.size ≤ 100 then pack_List.go l0 (bytesOf t.1) else none
set_option maxHeartbeats 2000000 in
set_option maxRecDepth 100000 in
theorem pack_List.calls (A0 : Option Addr) (c0 : Nat) (l0 : List Int) (r1 : ByteArray) (r2 : Int) (w : World) (hr0 : Kd.C (Kd.int .i64) w A0 l0.length l0) (hc0 : l0.length ≤ c0) (h : pack_List.f l0 = some (r1, r2)) :
    Calls Try.prog 39 #[.slice A0 l0.length c0] w fun e w' => e = .returned (.tuple #[.string r1, .int .i64 r2]) ∧ Below w.heap.size w w' := by
  have HR0 := Aside0.mk hr0
  clear hr0
  have HB := Aside0.mk (Below.refl w.heap.size w)
  unfold pack_List.f at h
  by_cases c1 : (l0.length : Int) > 1000
  · rw [if_pos c1] at h
    simp only [Option.some.injEq, Prod.mk.injEq] at h
    obtain ⟨rfl, rfl⟩ := h
    have t1 : decide (1000 < l0.length) = true := decide_eq_true (by omega)
    have t2 : decide ((1000 : Int) < (l0.length : Int)) = true := decide_eq_true (by omega)
    go_enter Try.func39, Try.ntmps39
    go_wp2
    go_ret2
    exact ⟨rfl, HB.out⟩
  rw [if_neg c1] at h
  obtain ⟨⟨t0s, t0e⟩, ht0, h⟩ := Option.bind_eq_some_iff.mp h
  simp only at h
  split at h
  rotate_left
  · cases h
  rename_i hsz
  have HT := Aside0.mk ht0
  have HH := Aside0.mk h
  have t1 : decide (1000 < l0.length) = false := decide_eq_false (by omega)
  have t2 : decide ((1000 : Int) < (l0.length : Int)) = false := decide_eq_false (by omega)
  have hlen : l0.length ≤ 1000 := by omega
  have HSZ := Aside0.mk hsz
  clear ht0 h c1 hsz
  have kb := fun W => print_bytes (P := Try.prog) 9 70 5 Try.underlying9 Try.underlying70 Try.underlying5 t0s W
  go_enter Try.func39, Try.ntmps39
  go_wp2_with (go_at_call 35; (with_reducible refine (pack_Num.calls 9 _ _ _ _ HT.out).mono ?_); rintro e w1 ⟨rfl, hb1⟩; have HB1 := Aside0.mk hb1; clear hb1)
  have HBR := Aside0.mk (Go.Proofs.Ytpoigdkbblmpaaa.XW.brow_bytes w1 w.heap.size 5 t0s HB1.out.size (by have := HSZ.out; simp only [maxLen]; omega))
  have HBL := Aside0.mk (bytes_below HB1.out HB1.out.size 5 t0s)
  clear HB1 kb
  have HI : Aside0 (∃ j : Int, ∃ b : List Int, 0 ≤ j ∧ j ≤ (l0.length : Int) ∧ (0 : Int) = j ∧ Aside0 (pack_List.go (l0.drop j.toNat) b = some (r1, r2)) ∧ Aside0 (Go.Proofs.Ytpoigdkbblmpaaa.XW.BRow (Lib.bytesWorld w1 5 t0s) w.heap.size 5 (.slice (some ⟨w1.heap.size, 0, none⟩) t0s.size (grownCap w1 t0s.size 0 5)) b)) := ⟨0, bytesOf t0s, by omega, by omega, rfl, HH, HBR⟩
  clear HH HBR
  generalize Lib.bytesWorld w1 5 t0s = W2 at *
  generalize Value.slice (some ⟨w1.heap.size, 0, none⟩) t0s.size (grownCap w1 t0s.size 0 5) = v6 at *
  go_loopw [6, 8, 9, 10, 24] (fun v6 _ _ _ i wr => ∃ j : Int, ∃ b : List Int, 0 ≤ j ∧ j ≤ (l0.length : Int) ∧ i = .int .i64 j ∧ Aside0 (pack_List.go (l0.drop j.toNat) b = some (r1, r2)) ∧ Aside0 (Go.Proofs.Ytpoigdkbblmpaaa.XW.BRow wr w.heap.size 5 v6 b) ∧ Aside0 (Below w.heap.size w wr)) (fun _ _ _ _ i _ => l0.length - (intOf i).toNat)
  case atStart =>
    obtain ⟨j, b, h1, h2, rfl, h3, h4⟩ := HI.out
    exact ⟨0, b, h1, h2, rfl, h3, h4, HBL⟩
  case round =>
    clear HI HBL
    obtain ⟨j, b, hj0, hj1, rfl, HH, HBR, HBL⟩ := hrel
    by_cases hlt : j < (l0.length : Int)
    · obtain ⟨ad, ead, hcell⟩ := Kd.at_int (Kd.C_below HR0.out HBL.out) j hj0 hlt
      cases ead
      have hd : l0.drop j.toNat = rd l0 j :: l0.drop (j + 1).toNat := by
        rw [List.drop_eq_getElem_cons (show j.toNat < l0.length by omega), show (j + 1).toNat = j.toNat + 1 by omega]
        simp [rd, List.getD_eq_getElem?_getD, List.getElem?_eq_getElem (show j.toNat < l0.length by omega)]
      have hz := HH.out
      rw [hd] at hz
      simp only [pack_List.go] at hz
      obtain ⟨⟨ts, te⟩, ht, hz⟩ := Option.bind_eq_some_iff.mp hz
      have HT2 := Aside0.mk ht
      clear ht hd HH
      have t3 : decide (j < (l0.length : Int)) = true := decide_eq_true hlt
      have t4 : (0 ≤ j) = True := eq_true hj0
      have t5 : (j < (l0.length : Int)) = True := eq_true hlt
      have t6 : j + 1 ≤ (l0.length : Int) := by omega
      clear hlt
      simp only at hz
      by_cases hte : te = 0
      · rw [if_pos hte] at hz
        split at hz
        rotate_left
        · cases hz
        rename_i hsz2
        subst hte
        have HZ := Aside0.mk hz
        have HS2 := Aside0.mk hsz2
        clear hz hsz2
        go_wp2_with (first | (go_at_call 35; (with_reducible refine (pack_Num.calls 9 _ _ _ _ HT2.out).mono ?_); rintro e w2 ⟨rfl, hb2⟩; have HB2 := Aside0.mk hb2; clear hb2) | ((with_reducible refine gate_builtin (b := .append) (xs := #[.tmp 36, .tmp 37]) rfl ?_); at_builtin; refine Go.Proofs.Ytpoigdkbblmpaaa.XW.wp_brow_append (w0 := w) rfl (.tmp 36) (.tmp 37) 70 9 rfl 5 Try.underlying70 Try.underlying9 info5 _ b rfl (Go.Proofs.Ytpoigdkbblmpaaa.XW.BRow.below HBR.out HB2.out) ts rfl HS2.out (below_step HBL.out HB2.out) ?_; intro v3 w3 hbr3 hbl3; have HBR3 := Aside0.mk hbr3; have HBL3 := Aside0.mk hbl3; clear hbr3 hbl3))
        go_roundw
        case rel => exact ⟨j + 1, _, by omega, t6, rfl, HZ, HBR3, HBL3⟩
        case measure => simp only [intOf]; omega
      · rw [if_neg hte] at hz
        simp only [Option.some.injEq, Prod.mk.injEq] at hz
        obtain ⟨rfl, rfl⟩ := hz
        have t7 : (te != 0) = true := bne_iff_ne.mpr hte
        have t8 : (te == 0) = false := beq_eq_false_iff_ne.mpr hte
        go_wp2_with (go_at_call 35; (with_reducible refine (pack_Num.calls 9 _ _ _ _ HT2.out).mono ?_); rintro e w2 ⟨rfl, hb2⟩; have HB2 := Aside0.mk hb2; clear hb2)
        go_ret2
        exact ⟨rfl, below_step HBL.out HB2.out⟩
    · have t3 : decide (j < (l0.length : Int)) = false := decide_eq_false hlt
      have hz := HH.out
      rw [List.drop_eq_nil_of_le (by omega)] at hz
      simp only [pack_List.go, Option.some.injEq, Prod.mk.injEq] at hz
      obtain ⟨rfl, rfl⟩ := hz
      have hcv := fun s1 s2 e => Go.Proofs.Ytpoigdkbblmpaaa.XW.BRow.string (P := Try.prog) (src := s1) (dst := s2) (e := e) (h := HBR.out)
      have hcv2 := hcv 70 9 5 Try.underlying70 Try.underlying5 Try.underlying9
      clear hcv hlt
      go_wp2
      go_ret2
      exact ⟨rfl, HBL.out⟩


/-! ### pack_Take: function 41 -/
def pack_Take.num (s : ByteArray) : Nat → Int
  | 0 => 0
  | k + 1 => 256 * pack_Take.num s k + bt s ((k : Int) + 1)
def pack_Take.f (a0 : ByteArray) : Option (Int × ByteArray × Int) :=
  if a0.toList = ([] : List UInt8) then some (0, ⟨#[]⟩, 3)
  else if bt a0 0 ≤ 247 then some (bt a0 0, a0.extract 1 a0.size, 0)
  else if bt a0 0 > 251 then some (0, ⟨#[]⟩, 2)
  else if (a0.size : Int) - 1 < bt a0 0 - 247 then some (0, ⟨#[]⟩, 3)
  else if pack_Take.num a0 (bt a0 0 - 247).toNat < 248 then some (0, ⟨#[]⟩, 2)
  else (pack_width.f (pack_Take.num a0 (bt a0 0 - 247).toNat)).bind fun t => if t = bt a0 0 - 247 then some (pack_Take.num a0 (bt a0 0 - 247).toNat, (a0.extract 1 a0.size).extract (bt a0 0 - 247).toNat (a0.extract 1 a0.size).size, 0)
  else some (0, ⟨#[]⟩, 2)
theorem pack_Take.num_range (s : ByteArray) : ∀ k : Nat, 0 ≤ pack_Take.num s k ∧ pack_Take.num s k < 256 ^ k
  | 0 => ⟨Int.le_refl 0, by show (0 : Int) < 1; decide⟩
  | k + 1 => by
    have ih := pack_Take.num_range s k
    have hb := bt_range s ((k : Int) + 1)
    simp only [pack_Take.num]
    rw [Int.pow_succ]
    omega
set_option maxHeartbeats 2000000 in
set_option maxRecDepth 100000 in
theorem pack_Take.calls (a0 : ByteArray) (r1 : Int) (r2 : ByteArray) (r3 : Int) (w : World) (h : pack_Take.f a0 = some (r1, r2, r3)) :
    Calls Try.prog 41 #[.string a0] w fun e w' => e = .returned (.tuple #[.int .i64 r1, .string r2, .int .i64 r3]) ∧ Below w.heap.size w w' := by
  have HB := Aside0.mk (Below.refl w.heap.size w)
  unfold pack_Take.f at h
  by_cases c1 : a0.toList = ([] : List UInt8)
  · rw [if_pos c1] at h
    have c2b0 : (a0.toList == ([] : List UInt8)) = true := beq_iff_eq.mpr c1
    have c2b1 : (a0.toList != ([] : List UInt8)) = false := bne_eq_false_iff_eq.mpr c1
    clear c1
    simp only [Option.some.injEq, Prod.mk.injEq] at h
    obtain ⟨rfl, rfl, rfl⟩ := h
    go_enter Try.func41, Try.ntmps41
    go_wp2
    go_ret3
    exact ⟨rfl, HB.out⟩
  rw [if_neg c1] at h
  have hpos : 0 < a0.size := Go.Proofs.Ytpoigdkbblmpaaa.XW.pos_of_toList c1
  have c2b0 : (a0.toList == ([] : List UInt8)) = false := beq_eq_false_iff_ne.mpr c1
  have c2b1 : (a0.toList != ([] : List UInt8)) = true := bne_iff_ne.mpr c1
  clear c1
  have hx : ∀ h : 0 < a0.size, ((a0[0]'h).toNat : Int) = bt a0 0 := bt_at a0 0
  have hb := bt_range a0 0
  obtain ⟨hb0, hb1⟩ := hb
  have hw : wrap64 (bt a0 0) = bt a0 0 := by unfold wrap64; omega
  have hs1 : ((1 : Int) ≤ (a0.size : Int)) = True := eq_true (by omega)
  have hs0 : (0 < a0.size) = True := eq_true hpos
  by_cases c3 : bt a0 0 ≤ 247
  · rw [if_pos c3] at h
    simp only [Option.some.injEq, Prod.mk.injEq] at h
    obtain ⟨rfl, rfl, rfl⟩ := h
    have t1 : decide (bt a0 0 - 248 + 1 ≤ 0) = true := decide_eq_true (by omega)
    go_enter Try.func41, Try.ntmps41
    go_wp2
    go_quiet (fail)
    go_wp2
    go_ret3
    exact ⟨rfl, pw_below_drewN HB.out _⟩
  rw [if_neg c3] at h
  have t1 : decide (bt a0 0 - 248 + 1 ≤ 0) = false := decide_eq_false (by omega)
  by_cases c4 : bt a0 0 > 251
  · rw [if_pos c4] at h
    simp only [Option.some.injEq, Prod.mk.injEq] at h
    obtain ⟨rfl, rfl, rfl⟩ := h
    have t2 : decide (4 < bt a0 0 - 248 + 1) = true := decide_eq_true (by omega)
    go_enter Try.func41, Try.ntmps41
    go_wp2
    go_quiet (fail)
    go_wp2
    go_ret3
    exact ⟨rfl, pw_below_drewN HB.out _⟩
  rw [if_neg c4] at h
  have t2 : decide (4 < bt a0 0 - 248 + 1) = false := decide_eq_false (by omega)
  by_cases c5 : (a0.size : Int) - 1 < bt a0 0 - 247
  · rw [if_pos c5] at h
    simp only [Option.some.injEq, Prod.mk.injEq] at h
    obtain ⟨rfl, rfl, rfl⟩ := h
    go_enter Try.func41, Try.ntmps41
    go_wp2
    go_quiet (fail)
    go_wp2
    go_ret3
    exact ⟨rfl, pw_below_drewN HB.out _⟩
  rw [if_neg c5] at h
  have kb := fun W s => print_bytes (P := Try.prog) 9 70 5 Try.underlying9 Try.underlying70 Try.underlying5 s W
  obtain ⟨kk, hkk⟩ : ∃ kk : Nat, bt a0 0 - 248 + 1 = (kk : Int) := ⟨(bt a0 0 - 247).toNat, by omega⟩
  have hk1 : 1 ≤ kk := by omega
  have hk4 : kk ≤ 4 := by omega
  have hks : kk + 1 ≤ a0.size := by omega
  have e247 : bt a0 0 - 247 = (kk : Int) := by omega
  rw [e247, Int.toNat_natCast] at h
  have hks2 : kk ≤ a0.size - 1 := by omega
  have hmin : min kk (a0.size - 1) = kk := by omega
  have HH := Aside0.mk h
  clear h e247 c3 c4 c5
  go_enter Try.func41, Try.ntmps41
  go_wp2
  go_quiet (fail)
  go_wp2
  generalize hu : (a0.extract 1 a0.size).extract 0 kk = u
  have hus : u.size = kk := by
    rw [← hu, ByteArray.size_extract, ByteArray.size_extract]; omega
  have hub : ∀ j : Int, 0 ≤ j → j < kk → bt u j = bt a0 (j + 1) := by
    intro j h0 h1
    rw [← hu, Go.Proofs.Ytpoigdkbblmpaaa.XW.bt_extract _ 0 kk j h0 (by rw [ByteArray.size_extract]; omega) (by omega), Go.Proofs.Ytpoigdkbblmpaaa.XW.bt_extract _ 1 _ _ (by omega) (by omega) (by omega)]
    rw [show j + ((0 : Nat) : Int) + ((1 : Nat) : Int) = j + 1 by omega]
  have hrd := bytes_reads (w.drewN nq) 5 u (by omega)
  have hbl := bytes_below (pw_below_drewN HB.out nq) (Nat.le_refl _) 5 u
  have HR := Aside0.mk (show Kd.C (Kd.int .u8) (Lib.bytesWorld (w.drewN nq) 5 u) (some ⟨w.heap.size, 0, none⟩) kk (bytesOf u) from by
    have := Kd.C_of_reads (d := (0 : Int)) (h1 := fun _ => rfl) hrd
    rw [hus] at this
    exact this)
  have HBL := Aside0.mk hbl
  have HUB := Aside0.mk hub
  clear hrd hbl hub hu hus
  generalize Lib.bytesWorld (w.drewN nq) 5 u = W2 at *
  generalize grownCap (w.drewN nq) kk 0 5 = cp
  go_loop [7, 9, 38] (fun n _ i => ∃ j : Int, 0 ≤ j ∧ j ≤ (kk : Int) ∧ n = .int .i64 (pack_Take.num a0 j.toNat) ∧ i = .int .i64 j) (fun _ _ i => kk - (intOf i).toNat)
  case atStart => exact ⟨0, by omega, by omega, rfl, rfl⟩
  case round =>
    obtain ⟨j, hj0, hj1, rfl, rfl⟩ := hrel
    by_cases hlt : j < (kk : Int)
    · obtain ⟨adx, eadx, hcell⟩ := Kd.at_int HR.out j hj0 hlt
      cases eadx
      simp only [add_plain] at hcell
      rw [rd_bytesOf, HUB.out j hj0 hlt] at hcell
      have t3 : decide (j < (kk : Int)) = true := decide_eq_true hlt
      have t4 : (0 ≤ j) = True := eq_true hj0
      have t5 : (j < (kk : Int)) = True := eq_true hlt
      have t6 : j + 1 ≤ (kk : Int) := by omega
      have hby := bt_range a0 (j + 1)
      obtain ⟨hby0, hby1⟩ := hby
      have hnr := pack_Take.num_range a0 j.toNat
      obtain ⟨hnr0, hnr1⟩ := hnr
      have hp : (256 : Int) ^ j.toNat ≤ 256 ^ 3 := by
        have : (256 : Nat) ^ j.toNat ≤ 256 ^ 3 := Nat.pow_le_pow_right (by decide) (by omega)
        exact_mod_cast this
      have hn3 : pack_Take.num a0 j.toNat < 16777216 := by omega
      have HE : Aside0 (bits .or .i64 (wrap64 (pack_Take.num a0 j.toNat * 256)) (bt a0 (j + 1)) = pack_Take.num a0 (j + 1).toNat) := ⟨by
        rw [show wrap64 (pack_Take.num a0 j.toNat * 256) = pack_Take.num a0 j.toNat * 256 by unfold wrap64; omega, Go.Proofs.Ytpoigdkbblmpaaa.XW.or_byte _ _ hnr0 (by omega) hby0 hby1, show (j + 1).toNat = j.toNat + 1 by omega]
        simp only [pack_Take.num]
        rw [show ((j.toNat : Nat) : Int) = j by omega]
        omega⟩
      clear hlt hn3 hp hnr0 hnr1
      go_wp2
      exact ⟨⟨j + 1, by omega, t6, congrArg (Value.int .i64) HE.out, rfl⟩, by simp only [intOf]; omega⟩
    · obtain rfl : j = (kk : Int) := by omega
      have hz := HH.out
      clear hlt HUB
      by_cases c6 : pack_Take.num a0 kk < 248
      · rw [if_pos c6] at hz
        simp only [Option.some.injEq, Prod.mk.injEq] at hz
        obtain ⟨rfl, rfl, rfl⟩ := hz
        have t7 : decide (pack_Take.num a0 kk < 248) = true := decide_eq_true c6
        clear HH c6
        go_wp2
        go_ret3
        exact ⟨rfl, HBL.out⟩
      · rw [if_neg c6] at hz
        have t7 : decide (pack_Take.num a0 kk < 248) = false := decide_eq_false c6
        obtain ⟨t, ht, hz⟩ := Option.bind_eq_some_iff.mp hz
        have HT := Aside0.mk ht
        clear HH c6 ht
        by_cases c7 : t = (kk : Int)
        · subst c7
          rw [if_pos rfl] at hz
          simp only [Option.some.injEq, Prod.mk.injEq] at hz
          obtain ⟨rfl, rfl, rfl⟩ := hz
          go_wp2_with (go_at_call 55; (with_reducible refine (pack_width.calls _ _ _ HT.out).mono ?_); rintro e w' ⟨rfl, ⟨nd, rfl⟩⟩)
          go_quiet (fail)
          go_wp2
          go_ret3
          exact ⟨by simp, pw_below_drewN (pw_below_drewN HBL.out _) _⟩
        · rw [if_neg c7] at hz
          simp only [Option.some.injEq, Prod.mk.injEq] at hz
          obtain ⟨rfl, rfl, rfl⟩ := hz
          have t8 : (t != (kk : Int)) = true := bne_iff_ne.mpr c7
          have t9 : (t == (kk : Int)) = false := beq_eq_false_iff_ne.mpr c7
          go_wp2_with (go_at_call 55; (with_reducible refine (pack_width.calls _ _ _ HT.out).mono ?_); rintro e w' ⟨rfl, ⟨nd, rfl⟩⟩)
          go_ret3
          exact ⟨rfl, pw_below_drewN HBL.out _⟩


end Go.Proofs.Ytpoigdkbblmpaaa.PPack
