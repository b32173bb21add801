/- Functions that the law reaches, each as a plain Lean function with the proof that the call does what it says. Conditions: none beyond those that each theorem states. Written by a program for this claim. -/
import Derived.Test.YtpoigdkbblmpaaaPVecx0
import Derived.Test.YtpoigdkbblmpaaaPVecx1
namespace Go.Proofs.Ytpoigdkbblmpaaa.PVec
open Go.RowKit Go.Proofs.YtpoigdkbblmpaaaW.PrintWords Go.Proofs.YtpoigdkbblmpaaaW.PrintLast Go.Proofs.YtpoigdkbblmpaaaW.PrintMore
attribute [local go_sem] max2_int min2_int max_two min_two max_three min_three max_four min_four   -- for this text's walks alone
set_option linter.unusedVariables false
set_option linter.unusedSimpArgs false

/-! ### vec_Vec_Compare: function 22 -/
def vec_Vec_Compare.l0 : Nat → List Int → Int → List Int → Int → Int → Option (Int × Int)
  | 0, _, _, _, _, _ => none
  | k + 1, x1, x6, x13, x14, x15 => if x15 < x14 then (if 0 ≤ x15 then (if x15 < (x13.length : Int) then (if x15 < (x1.length : Int) then (if (rd x13 x15) < (rd x1 x15) then (vec_Vec_Compare.l0 k x1 (Go.bits .or .i64 x6 1) x13 x14 (wrap64 (x15 + 1))) else (if (rd x13 x15) > (rd x1 x15) then (vec_Vec_Compare.l0 k x1 (Go.bits .or .i64 x6 2) x13 x14 (wrap64 (x15 + 1))) else (vec_Vec_Compare.l0 k x1 x6 x13 x14 (wrap64 (x15 + 1))))) else (none)) else (none)) else (none)) else (some (x6, 0))
def vec_Vec_Compare.f (k : Nat) (l0 : List Int) (l1 : List Int) : Option (Int × Int) := (vec_Vec_goes.f l0 l1).bind fun t112 => (if t112 = true then (vec_Vec_Compare.l0 k l1 0 l0 (l0.length : Int) 0) else (some (0, 1)))
theorem vec_Vec_Compare.mono_l : ∀ k, (∀ y0 y1 y2 y3 y4, LeO (vec_Vec_Compare.l0 k y0 y1 y2 y3 y4) (vec_Vec_Compare.l0 (k + 1) y0 y1 y2 y3 y4))
  | 0 => fun _ _ _ _ _ r h => by simp [vec_Vec_Compare.l0] at h
  | k + 1 => by
    have ih0 := vec_Vec_Compare.mono_l k
    · intro y0 y1 y2 y3 y4
      unfold vec_Vec_Compare.l0
      repeat' first
      | (with_reducible exact ih0 _ _ _ _ _)
      | (with_reducible exact LeO.refl _)
      | (with_reducible exact LeO.none _)
      | (with_reducible refine LeO.ite ?_ ?_)
      | (with_reducible refine LeO.bind ?_ (fun _ => ?_))
      | exact ih0 _ _ _ _ _
      | exact LeO.none _
      | refine LeO.ite ?_ ?_
      | refine LeO.bind ?_ (fun _ => ?_)
theorem vec_Vec_Compare.mono : ∀ a0 a1 k, LeO (vec_Vec_Compare.f k a0 a1) (vec_Vec_Compare.f (k + 1) a0 a1) := by
  intro a0 a1 k
  have ih0 := vec_Vec_Compare.mono_l k
  unfold vec_Vec_Compare.f
  repeat' first
      | (with_reducible exact ih0 _ _ _ _ _)
      | (with_reducible exact LeO.refl _)
      | (with_reducible exact LeO.none _)
      | (with_reducible refine LeO.ite ?_ ?_)
      | (with_reducible refine LeO.bind ?_ (fun _ => ?_))
      | exact ih0 _ _ _ _ _
      | exact LeO.none _
      | refine LeO.ite ?_ ?_
      | refine LeO.bind ?_ (fun _ => ?_)
set_option maxHeartbeats 8000000 in
set_option maxRecDepth 100000 in
theorem vec_Vec_Compare.calls (k : Nat) (A0 : Option Addr) (c0 : Nat) (l0 : List Int) (A1 : Option Addr) (c1 : Nat) (l1 : List Int) (r1 : Int) (r2 : Int) (w : World) (hr0 : Kd.C (Kd.int .i64) w A0 l0.length l0) (hc0 : l0.length ≤ c0) (hr1 : Kd.C (Kd.int .i64) w A1 l1.length l1) (hc1 : l1.length ≤ c1) (h : vec_Vec_Compare.f k l0 l1 = some (r1, r2)) :
    Calls Try.prog 22 #[.slice A0 l0.length c0, .slice A1 l1.length c1] w fun e w' => e = .returned (.tuple #[.int .i64 r1, .int .i64 r2]) ∧ Drawn0 w w' := by
  have HR0 := Aside0.mk hr0
  have HC0 := Aside0.mk hc0
  clear hr0 hc0
  have HR1 := Aside0.mk hr1
  have HC1 := Aside0.mk hc1
  clear hr1 hc1
  have H : ((vec_Vec_goes.f l0 l1).bind fun t112 => (if t112 = true then (vec_Vec_Compare.l0 k l1 0 l0 (l0.length : Int) 0) else (some (0, 1)))) = some (r1, r2) := h
  clear h
  replace H := Option.bind_eq_some_iff.mp H
  obtain ⟨t112, A30, H⟩ := H
  replace H : (if t112 = true then (vec_Vec_Compare.l0 k l1 0 l0 (l0.length : Int) 0) else (some (0, 1))) = some (r1, r2) := H
  have A3 := Aside0.mk A30
  clear A30
  by_cases c4 : t112 = true
  · subst c4
    have H1 : (vec_Vec_Compare.l0 k l1 0 l0 (l0.length : Int) 0) = some (r1, r2) := by rw [if_pos rfl] at H; exact H
    clear H
    have H := H1
    clear H1
    have H' := Aside0.mk H
    clear H
    go_enter Try.func22, Try.ntmps22
    go_wp2_with (first | ((with_reducible refine gate_callee (f := 48) rfl ?_); refine goesL_ (some 11) rfl rfl Try.func48 (by kernel_rfl) rfl #[.slice A0 l0.length c0, .slice A1 l1.length c1] rfl (by (try simp only [List.map_toArray, List.map_cons, List.map_nil]); first | done | rfl | (simp only [List.length_drop, List.length_take]; rfl)) ?_; (with_reducible refine (vec_Vec_goes.calls _ _ l0 _ _ l1 true _ ?side1 ?side2 ?side3 ?side4 A3.out).mono ?_); (case side1 => repeat (first | exact HR0.out | (with_reducible refine Kd.C_alloc ?_ _) | (with_reducible refine Kd.C_drewN ?_ _) | (with_reducible refine Kd.C_drew ?_))); (case side2 => exact HC0.out); (case side3 => repeat (first | exact HR1.out | (with_reducible refine Kd.C_alloc ?_ _) | (with_reducible refine Kd.C_drewN ?_ _) | (with_reducible refine Kd.C_drew ?_))); (case side4 => exact HC1.out); rintro e w' ⟨rfl, ⟨nd, rfl⟩⟩; refine ⟨_, rfl, ?_⟩))
    go_loopg [6, 15] k (fun kq v6 v15 w' => ∃ (x6_1 : Int) (x15_1 : Int), v6 = .int .i64 x6_1 ∧ v15 = .int .i64 x15_1 ∧ Aside0 (vec_Vec_Compare.l0 kq l1 x6_1 l0 (l0.length : Int) x15_1 = some (r1, r2)) ∧ Aside0 (kq ≤ k) ∧ Drawn0 w w')
    case atStart => exact ⟨(0), (0), (by first | rfl | (simp; done) | (simp [*]; done)), (by first | rfl | (simp; done) | (simp [*]; done)), H', ⟨Nat.le_refl _⟩, by repeat (first | exact Drawn0.refl _ | apply Drawn0.step)⟩
    case round =>
      clear H'
      try clear c1
      try clear c2
      try clear p2
      try clear c4
      obtain ⟨x6_1, x15_1, rfl, rfl, HA, HK1, ⟨m1, rfl⟩⟩ := hrel
      cases gk with
      | zero => exact absurd HA.out (by simp [vec_Vec_Compare.l0])
      | succ k1 =>
        have H := HA.out
        clear HA
        simp only [vec_Vec_Compare.l0] at H
        by_cases c5 : x15_1 < (l0.length : Int)
        · rw [if_pos c5] at H
          have c5b0 : decide (x15_1 < (l0.length : Int)) = true := decide_eq_true c5
          clear c5
          by_cases c6 : 0 ≤ x15_1
          · rw [if_pos c6] at H
            have c6b0 : decide (0 ≤ x15_1) = true := decide_eq_true c6
            clear c6
            by_cases c7 : x15_1 < (l0.length : Int)
            · rw [if_pos c7] at H
              have c7b0 : decide (x15_1 < (l0.length : Int)) = true := decide_eq_true c7
              clear c7
              by_cases c8 : x15_1 < (l1.length : Int)
              · rw [if_pos c8] at H
                have c8b0 : decide (x15_1 < (l1.length : Int)) = true := decide_eq_true c8
                clear c8
                by_cases c9 : (rd l0 x15_1) < (rd l1 x15_1)
                · rw [if_pos c9] at H
                  have c9b0 : decide ((rd l0 x15_1) < (rd l1 x15_1)) = true := decide_eq_true c9
                  clear c9
                  have H' := Aside0.mk H
                  clear H
                  have p113 : 0 ≤ (x15_1 : Int) := of_decide_eq_true (by first | (with_reducible assumption) | assumption)
                  have q113 : x15_1 < (l0.length : Int) := of_decide_eq_true (by first | (with_reducible assumption) | assumption)
                  obtain ⟨ad113, e113, hx113_0⟩ := Kd.at_int HR0.out x15_1 p113 q113
                  cases e113
                  replace p113 := eq_true p113
                  replace q113 := eq_true q113
                  have p114 : 0 ≤ (x15_1 : Int) := of_decide_eq_true (by first | (with_reducible assumption) | assumption)
                  have q114 : x15_1 < (l1.length : Int) := of_decide_eq_true (by first | (with_reducible assumption) | assumption)
                  obtain ⟨ad114, e114, hx114_0⟩ := Kd.at_int HR1.out x15_1 p114 q114
                  cases e114
                  replace p114 := eq_true p114
                  replace q114 := eq_true q114
                  go_wp2
                  go_roundg k1
                  case measure => have := HK1.out; omega
                  case rel => exact ⟨(Go.bits .or .i64 x6_1 1), (wrap64 (x15_1 + 1)), (by first | rfl | (simp; done) | (simp [*]; done)), (by first | rfl | (simp; done) | (simp [*]; done)), H', ⟨by have := HK1.out; omega⟩, by repeat (first | exact Drawn0.refl _ | apply Drawn0.step)⟩
                · rw [if_neg c9] at H
                  have c9b0 : decide ((rd l0 x15_1) < (rd l1 x15_1)) = false := decide_eq_false c9
                  clear c9
                  by_cases c10 : (rd l0 x15_1) > (rd l1 x15_1)
                  · rw [if_pos c10] at H
                    have c10b0 : decide ((rd l1 x15_1) < (rd l0 x15_1)) = true := decide_eq_true c10
                    clear c10
                    have H' := Aside0.mk H
                    clear H
                    have p113 : 0 ≤ (x15_1 : Int) := of_decide_eq_true (by first | (with_reducible assumption) | assumption)
                    have q113 : x15_1 < (l0.length : Int) := of_decide_eq_true (by first | (with_reducible assumption) | assumption)
                    obtain ⟨ad113, e113, hx113_0⟩ := Kd.at_int HR0.out x15_1 p113 q113
                    cases e113
                    replace p113 := eq_true p113
                    replace q113 := eq_true q113
                    have p114 : 0 ≤ (x15_1 : Int) := of_decide_eq_true (by first | (with_reducible assumption) | assumption)
                    have q114 : x15_1 < (l1.length : Int) := of_decide_eq_true (by first | (with_reducible assumption) | assumption)
                    obtain ⟨ad114, e114, hx114_0⟩ := Kd.at_int HR1.out x15_1 p114 q114
                    cases e114
                    replace p114 := eq_true p114
                    replace q114 := eq_true q114
                    have p115 : 0 ≤ (x15_1 : Int) := of_decide_eq_true (by first | (with_reducible assumption) | assumption)
                    have q115 : x15_1 < (l1.length : Int) := of_decide_eq_true (by first | (with_reducible assumption) | assumption)
                    obtain ⟨ad115, e115, hx115_0⟩ := Kd.at_int HR1.out x15_1 p115 q115
                    obtain rfl : ad114 = ad115 := (by injection e115)
                    replace p115 := eq_true p115
                    replace q115 := eq_true q115
                    go_wp2
                    go_roundg k1
                    case measure => have := HK1.out; omega
                    case rel => exact ⟨(Go.bits .or .i64 x6_1 2), (wrap64 (x15_1 + 1)), (by first | rfl | (simp; done) | (simp [*]; done)), (by first | rfl | (simp; done) | (simp [*]; done)), H', ⟨by have := HK1.out; omega⟩, by repeat (first | exact Drawn0.refl _ | apply Drawn0.step)⟩
                  · rw [if_neg c10] at H
                    have c10b0 : decide ((rd l1 x15_1) < (rd l0 x15_1)) = false := decide_eq_false c10
                    clear c10
                    have H' := Aside0.mk H
                    clear H
                    have p113 : 0 ≤ (x15_1 : Int) := of_decide_eq_true (by first | (with_reducible assumption) | assumption)
                    have q113 : x15_1 < (l0.length : Int) := of_decide_eq_true (by first | (with_reducible assumption) | assumption)
                    obtain ⟨ad113, e113, hx113_0⟩ := Kd.at_int HR0.out x15_1 p113 q113
                    cases e113
                    replace p113 := eq_true p113
                    replace q113 := eq_true q113
                    have p114 : 0 ≤ (x15_1 : Int) := of_decide_eq_true (by first | (with_reducible assumption) | assumption)
                    have q114 : x15_1 < (l1.length : Int) := of_decide_eq_true (by first | (with_reducible assumption) | assumption)
                    obtain ⟨ad114, e114, hx114_0⟩ := Kd.at_int HR1.out x15_1 p114 q114
                    cases e114
                    replace p114 := eq_true p114
                    replace q114 := eq_true q114
                    have p115 : 0 ≤ (x15_1 : Int) := of_decide_eq_true (by first | (with_reducible assumption) | assumption)
                    have q115 : x15_1 < (l1.length : Int) := of_decide_eq_true (by first | (with_reducible assumption) | assumption)
                    obtain ⟨ad115, e115, hx115_0⟩ := Kd.at_int HR1.out x15_1 p115 q115
                    obtain rfl : ad114 = ad115 := (by injection e115)
                    replace p115 := eq_true p115
                    replace q115 := eq_true q115
                    go_wp2
                    go_roundg k1
                    case measure => have := HK1.out; omega
                    case rel => exact ⟨(x6_1), (wrap64 (x15_1 + 1)), (by first | rfl | (simp; done) | (simp [*]; done)), (by first | rfl | (simp; done) | (simp [*]; done)), H', ⟨by have := HK1.out; omega⟩, by repeat (first | exact Drawn0.refl _ | apply Drawn0.step)⟩
              · rw [if_neg c8] at H
                exact absurd H (by simp)
            · rw [if_neg c7] at H
              exact absurd H (by simp)
          · rw [if_neg c6] at H
            exact absurd H (by simp)
        · rw [if_neg c5] at H
          have c5b0 : decide (x15_1 < (l0.length : Int)) = false := decide_eq_false c5
          clear c5
          simp only [Option.some.injEq, Prod.mk.injEq] at H
          obtain ⟨rfl, rfl⟩ := H
          go_wp2
          go_ret2
          exact ⟨by first | rfl | (simp; done) | (simp [*]; done), by repeat (first | exact Drawn0.refl _ | apply Drawn0.step)⟩
  · replace c4 := Bool.eq_false_iff.mpr c4
    subst c4
    have H1 : (some (0, 1)) = some (r1, r2) := by rw [if_neg (show ¬ (false = true) by decide)] at H; exact H
    clear H
    have H := H1
    clear H1
    simp only [Option.some.injEq, Prod.mk.injEq] at H
    obtain ⟨rfl, rfl⟩ := H
    go_enter Try.func22, Try.ntmps22
    go_wp2_with (first | ((with_reducible refine gate_callee (f := 48) rfl ?_); refine goesL_ (some 11) rfl rfl Try.func48 (by kernel_rfl) rfl #[.slice A0 l0.length c0, .slice A1 l1.length c1] rfl (by (try simp only [List.map_toArray, List.map_cons, List.map_nil]); first | done | rfl | (simp only [List.length_drop, List.length_take]; rfl)) ?_; (with_reducible refine (vec_Vec_goes.calls _ _ l0 _ _ l1 false _ ?side1 ?side2 ?side3 ?side4 A3.out).mono ?_); (case side1 => repeat (first | exact HR0.out | (with_reducible refine Kd.C_alloc ?_ _) | (with_reducible refine Kd.C_drewN ?_ _) | (with_reducible refine Kd.C_drew ?_))); (case side2 => exact HC0.out); (case side3 => repeat (first | exact HR1.out | (with_reducible refine Kd.C_alloc ?_ _) | (with_reducible refine Kd.C_drewN ?_ _) | (with_reducible refine Kd.C_drew ?_))); (case side4 => exact HC1.out); rintro e w' ⟨rfl, ⟨nd, rfl⟩⟩; refine ⟨_, rfl, ?_⟩))
    go_ret2
    exact ⟨by first | rfl | (simp; done) | (simp [*]; done), by repeat (first | exact Drawn0.refl _ | apply Drawn0.step)⟩
theorem vec_Vec_Compare.at (k : Nat) (A0 : Option Addr) (c0 : Nat) (n0 : Nat) (l0 : List Int) (A1 : Option Addr) (c1 : Nat) (n1 : Nat) (l1 : List Int) (r1 : Int) (r2 : Int) (w : World) (hr0 : Kd.C (Kd.int .i64) w A0 n0 l0) (hc0 : n0 ≤ c0) (hr1 : Kd.C (Kd.int .i64) w A1 n1 l1) (hc1 : n1 ≤ c1) (h : vec_Vec_Compare.f k l0 l1 = some (r1, r2)) :
    Calls Try.prog 22 #[.slice A0 n0 c0, .slice A1 n1 c1] w fun e w' => e = .returned (.tuple #[.int .i64 r1, .int .i64 r2]) ∧ Drawn0 w w' := by
  obtain rfl : l0.length = n0 := Kd.C_len hr0
  obtain rfl : l1.length = n1 := Kd.C_len hr1
  exact vec_Vec_Compare.calls k A0 c0 l0 A1 c1 l1 r1 r2 w hr0 hc0 hr1 hc1 h

/-! ### duetref01_Same: function 24 -/
def duetref01_Same.l0 : Nat → List Int → List Int → Int → Option (Bool)
  | 0, _, _, _ => none
  | k + 1, x0, x1, x5 => if x5 < (x0.length : Int) then (if 0 ≤ x5 then (if x5 < (x1.length : Int) then (if (rd x0 x5) = (rd x1 x5) then (duetref01_Same.l0 k x0 x1 (wrap64 (x5 + 1))) else (some false)) else (none)) else (none)) else (some true)
def duetref01_Same.f (k : Nat) (l0 : List Int) (l1 : List Int) : Option (Bool) := if (l0.length : Int) = (l1.length : Int) then (duetref01_Same.l0 k l0 l1 0) else (some false)
theorem duetref01_Same.mono_l : ∀ k, (∀ y0 y1 y2, LeO (duetref01_Same.l0 k y0 y1 y2) (duetref01_Same.l0 (k + 1) y0 y1 y2))
  | 0 => fun _ _ _ r h => by simp [duetref01_Same.l0] at h
  | k + 1 => by
    have ih0 := duetref01_Same.mono_l k
    · intro y0 y1 y2
      unfold duetref01_Same.l0
      repeat' first
      | (with_reducible exact ih0 _ _ _)
      | (with_reducible exact LeO.refl _)
      | (with_reducible exact LeO.none _)
      | (with_reducible refine LeO.ite ?_ ?_)
      | (with_reducible refine LeO.bind ?_ (fun _ => ?_))
      | exact ih0 _ _ _
      | exact LeO.none _
      | refine LeO.ite ?_ ?_
      | refine LeO.bind ?_ (fun _ => ?_)
theorem duetref01_Same.mono : ∀ a0 a1 k, LeO (duetref01_Same.f k a0 a1) (duetref01_Same.f (k + 1) a0 a1) := by
  intro a0 a1 k
  have ih0 := duetref01_Same.mono_l k
  unfold duetref01_Same.f
  repeat' first
      | (with_reducible exact ih0 _ _ _)
      | (with_reducible exact LeO.refl _)
      | (with_reducible exact LeO.none _)
      | (with_reducible refine LeO.ite ?_ ?_)
      | (with_reducible refine LeO.bind ?_ (fun _ => ?_))
      | exact ih0 _ _ _
      | exact LeO.none _
      | refine LeO.ite ?_ ?_
      | refine LeO.bind ?_ (fun _ => ?_)
set_option maxHeartbeats 8000000 in
set_option maxRecDepth 100000 in
theorem duetref01_Same.calls (k : Nat) (A0 : Option Addr) (c0 : Nat) (l0 : List Int) (A1 : Option Addr) (c1 : Nat) (l1 : List Int) (r : Bool) (w : World) (hr0 : Kd.C (Kd.int .i64) w A0 l0.length l0) (hc0 : l0.length ≤ c0) (hr1 : Kd.C (Kd.int .i64) w A1 l1.length l1) (hc1 : l1.length ≤ c1) (h : duetref01_Same.f k l0 l1 = some r) :
    Calls Try.prog 24 #[.slice A0 l0.length c0, .slice A1 l1.length c1] w fun e w' => e = .returned (.bool r) ∧ Drawn0 w w' := by
  have HR0 := Aside0.mk hr0
  have HC0 := Aside0.mk hc0
  clear hr0 hc0
  have HR1 := Aside0.mk hr1
  have HC1 := Aside0.mk hc1
  clear hr1 hc1
  have H : (if (l0.length : Int) = (l1.length : Int) then (duetref01_Same.l0 k l0 l1 0) else (some false)) = some r := h
  clear h
  by_cases c3 : (l0.length : Int) = (l1.length : Int)
  · rw [if_pos c3] at H
    have c3b0 : ((l0.length : Int) == (l1.length : Int)) = true := beq_iff_eq.mpr c3
    have c3b1 : ((l0.length : Int) != (l1.length : Int)) = false := bne_eq_false_iff_eq.mpr c3
    have c3b2 : (l0.length == l1.length) = true := by first | simpa using c3 | (simp at c3 ⊢; omega)
    clear c3
    have H' := Aside0.mk H
    clear H
    go_enter Try.func24, Try.ntmps24
    go_wp2
    repeat (go_quiet (fail); try go_wp2)
    go_loopg [5] k (fun kq v5 w' => ∃ (x5_1 : Int), v5 = .int .i64 x5_1 ∧ Aside0 (duetref01_Same.l0 kq l0 l1 x5_1 = some r) ∧ Aside0 (kq ≤ k) ∧ Drawn0 w w')
    case atStart => exact ⟨(0), (by first | rfl | (simp; done) | (simp [*]; done)), H', ⟨Nat.le_refl _⟩, by repeat (first | exact Drawn0.refl _ | apply Drawn0.step)⟩
    case round =>
      clear H'
      try clear c1
      try clear c2
      try clear p2
      try clear c3
      try clear c3b0
      try clear c3b1
      try clear c3b2
      obtain ⟨x5_1, rfl, HA, HK1, ⟨m1, rfl⟩⟩ := hrel
      cases gk with
      | zero => exact absurd HA.out (by simp [duetref01_Same.l0])
      | succ k1 =>
        have H := HA.out
        clear HA
        simp only [duetref01_Same.l0] at H
        by_cases c4 : x5_1 < (l0.length : Int)
        · rw [if_pos c4] at H
          have c4b0 : decide (x5_1 < (l0.length : Int)) = true := decide_eq_true c4
          clear c4
          by_cases c5 : 0 ≤ x5_1
          · rw [if_pos c5] at H
            have c5b0 : decide (0 ≤ x5_1) = true := decide_eq_true c5
            clear c5
            by_cases c6 : x5_1 < (l1.length : Int)
            · rw [if_pos c6] at H
              have c6b0 : decide (x5_1 < (l1.length : Int)) = true := decide_eq_true c6
              clear c6
              by_cases c7 : (rd l0 x5_1) = (rd l1 x5_1)
              · rw [if_pos c7] at H
                have c7b0 : ((rd l0 x5_1) == (rd l1 x5_1)) = true := beq_iff_eq.mpr c7
                have c7b1 : ((rd l0 x5_1) != (rd l1 x5_1)) = false := bne_eq_false_iff_eq.mpr c7
                clear c7
                have H' := Aside0.mk H
                clear H
                have p116 : 0 ≤ (x5_1 : Int) := of_decide_eq_true (by first | (with_reducible assumption) | assumption)
                have q116 : x5_1 < (l0.length : Int) := of_decide_eq_true (by first | (with_reducible assumption) | assumption)
                obtain ⟨ad116, e116, hx116_0⟩ := Kd.at_int HR0.out x5_1 p116 q116
                cases e116
                replace p116 := eq_true p116
                replace q116 := eq_true q116
                have p117 : 0 ≤ (x5_1 : Int) := of_decide_eq_true (by first | (with_reducible assumption) | assumption)
                have q117 : x5_1 < (l1.length : Int) := of_decide_eq_true (by first | (with_reducible assumption) | assumption)
                obtain ⟨ad117, e117, hx117_0⟩ := Kd.at_int HR1.out x5_1 p117 q117
                cases e117
                replace p117 := eq_true p117
                replace q117 := eq_true q117
                go_wp2
                repeat (go_quiet (fail); try go_wp2)
                go_roundg k1
                case measure => have := HK1.out; omega
                case rel => exact ⟨(wrap64 (x5_1 + 1)), (by first | rfl | (simp; done) | (simp [*]; done)), H', ⟨by have := HK1.out; omega⟩, by repeat (first | exact Drawn0.refl _ | apply Drawn0.step)⟩
              · rw [if_neg c7] at H
                have c7b0 : ((rd l0 x5_1) == (rd l1 x5_1)) = false := beq_eq_false_iff_ne.mpr c7
                have c7b1 : ((rd l0 x5_1) != (rd l1 x5_1)) = true := bne_iff_ne.mpr c7
                obtain rfl := Option.some.inj H
                have p116 : 0 ≤ (x5_1 : Int) := of_decide_eq_true (by first | (with_reducible assumption) | assumption)
                have q116 : x5_1 < (l0.length : Int) := of_decide_eq_true (by first | (with_reducible assumption) | assumption)
                obtain ⟨ad116, e116, hx116_0⟩ := Kd.at_int HR0.out x5_1 p116 q116
                cases e116
                replace p116 := eq_true p116
                replace q116 := eq_true q116
                have p117 : 0 ≤ (x5_1 : Int) := of_decide_eq_true (by first | (with_reducible assumption) | assumption)
                have q117 : x5_1 < (l1.length : Int) := of_decide_eq_true (by first | (with_reducible assumption) | assumption)
                obtain ⟨ad117, e117, hx117_0⟩ := Kd.at_int HR1.out x5_1 p117 q117
                cases e117
                replace p117 := eq_true p117
                replace q117 := eq_true q117
                go_wp2
                repeat (go_quiet (fail); try go_wp2)
                go_ret
                exact ⟨by first | rfl | (simp; done) | (simp [*]; done), by repeat (first | exact Drawn0.refl _ | apply Drawn0.step)⟩
            · rw [if_neg c6] at H
              exact absurd H (by simp)
          · rw [if_neg c5] at H
            exact absurd H (by simp)
        · rw [if_neg c4] at H
          have c4b0 : decide (x5_1 < (l0.length : Int)) = false := decide_eq_false c4
          clear c4
          obtain rfl := Option.some.inj H
          go_wp2
          repeat (go_quiet (fail); try go_wp2)
          go_ret
          exact ⟨by first | rfl | (simp; done) | (simp [*]; done), by repeat (first | exact Drawn0.refl _ | apply Drawn0.step)⟩
  · rw [if_neg c3] at H
    have c3b0 : ((l0.length : Int) == (l1.length : Int)) = false := beq_eq_false_iff_ne.mpr c3
    have c3b1 : ((l0.length : Int) != (l1.length : Int)) = true := bne_iff_ne.mpr c3
    have c3b2 : (l0.length == l1.length) = false := by first | simpa using c3 | (simp at c3 ⊢; omega)
    obtain rfl := Option.some.inj H
    go_enter Try.func24, Try.ntmps24
    go_wp2
    repeat (go_quiet (fail); try go_wp2)
    go_ret
    exact ⟨by first | rfl | (simp; done) | (simp [*]; done), by repeat (first | exact Drawn0.refl _ | apply Drawn0.step)⟩
theorem duetref01_Same.at (k : Nat) (A0 : Option Addr) (c0 : Nat) (n0 : Nat) (l0 : List Int) (A1 : Option Addr) (c1 : Nat) (n1 : Nat) (l1 : List Int) (r : Bool) (w : World) (hr0 : Kd.C (Kd.int .i64) w A0 n0 l0) (hc0 : n0 ≤ c0) (hr1 : Kd.C (Kd.int .i64) w A1 n1 l1) (hc1 : n1 ≤ c1) (h : duetref01_Same.f k l0 l1 = some r) :
    Calls Try.prog 24 #[.slice A0 n0 c0, .slice A1 n1 c1] w fun e w' => e = .returned (.bool r) ∧ Drawn0 w w' := by
  obtain rfl : l0.length = n0 := Kd.C_len hr0
  obtain rfl : l1.length = n1 := Kd.C_len hr1
  exact duetref01_Same.calls k A0 c0 l0 A1 c1 l1 r w hr0 hc0 hr1 hc1 h

/-! ### vec_New: function 25 -/
def vec_New.f (a0 : Int) : Option (List Int × Int) := if a0 < 1 then (some (([] : List Int), 1)) else (if a0 > 16 then (some (([] : List Int), 1)) else (if 0 ≤ a0 then (if (a0 : Int).toNat ≤ 35184372088832 then (some ((List.replicate (a0 : Int).toNat 0), 0)) else (none)) else (none)))
set_option maxHeartbeats 8000000 in
set_option maxRecDepth 100000 in
theorem vec_New.calls (a0 : Int) (r1 : List Int) (r2 : Int) (w : World) (h : vec_New.f a0 = some (r1, r2)) :
    Calls Try.prog 25 #[.int .i64 a0] w fun e w' => ∃ v0_ : Value, e = .returned (.tuple #[v0_, .int .i64 r2]) ∧ Kd.R (Kd.int .i64) 3 w' w.heap.size (fun _ => True) v0_ r1 ∧ Below w.heap.size w w' := by
  have HB := Aside0.mk (Below.refl w.heap.size w)
  have H : (if a0 < 1 then (some (([] : List Int), 1)) else (if a0 > 16 then (some (([] : List Int), 1)) else (if 0 ≤ a0 then (if (a0 : Int).toNat ≤ 35184372088832 then (some ((List.replicate (a0 : Int).toNat 0), 0)) else (none)) else (none)))) = some (r1, r2) := h
  clear h
  by_cases c2 : a0 < 1
  · rw [if_pos c2] at H
    have c2b0 : decide (a0 < 1) = true := decide_eq_true c2
    clear c2
    simp only [Option.some.injEq, Prod.mk.injEq] at H
    obtain ⟨rfl, rfl⟩ := H
    go_enter Try.func25, Try.ntmps25
    go_wp2
    go_ret2
    exact ⟨_, by first | rfl | (simp [errW_none, errW_some] <;> rfl) | (simp [*, errW_none, errW_some] <;> rfl), by first | exact Kd.R_nil _ _ _ _ _ | exact Kd.N_nil _ _ _ _ _ | exact Kd.V_nil _ _ _ _ _ | exact Kd.Q_nil _ _ _ _ _ | exact Kd.S_nil _ _ _ _ _, by repeat (first | (with_reducible first | exact HB.out | apply below_alloc | apply pw_below_drewN | apply below_drew1) | exact HB.out)⟩
  · rw [if_neg c2] at H
    have c2b0 : decide (a0 < 1) = false := decide_eq_false c2
    clear c2
    by_cases c3 : a0 > 16
    · rw [if_pos c3] at H
      have c3b0 : decide (16 < a0) = true := decide_eq_true c3
      clear c3
      simp only [Option.some.injEq, Prod.mk.injEq] at H
      obtain ⟨rfl, rfl⟩ := H
      go_enter Try.func25, Try.ntmps25
      go_wp2
      go_ret2
      exact ⟨_, by first | rfl | (simp [errW_none, errW_some] <;> rfl) | (simp [*, errW_none, errW_some] <;> rfl), by first | exact Kd.R_nil _ _ _ _ _ | exact Kd.N_nil _ _ _ _ _ | exact Kd.V_nil _ _ _ _ _ | exact Kd.Q_nil _ _ _ _ _ | exact Kd.S_nil _ _ _ _ _, by repeat (first | (with_reducible first | exact HB.out | apply below_alloc | apply pw_below_drewN | apply below_drew1) | exact HB.out)⟩
    · rw [if_neg c3] at H
      have c3b0 : decide (16 < a0) = false := decide_eq_false c3
      clear c3
      by_cases c4 : 0 ≤ a0
      · rw [if_pos c4] at H
        have c4b0 := eq_true c4
        have c4b1 : decide (0 ≤ a0) = true := decide_eq_true c4
        clear c4
        by_cases c5 : (a0 : Int).toNat ≤ 35184372088832
        · rw [if_pos c5] at H
          have c5b0 := eq_true c5
          have c5b1 : decide ((a0 : Int).toNat ≤ 35184372088832) = true := decide_eq_true c5
          clear c5
          obtain ⟨y118, hy118⟩ : ∃ y_ : List Int, y_ = (List.replicate (a0 : Int).toNat 0) := ⟨_, rfl⟩
          replace H : (some (y118, 0)) = some (r1, r2) := by first | (rw [hy118]; with_reducible exact H) | (have H2_ := (Option.bind_some _ _).symm.trans H; rw [hy118]; with_reducible exact H2_) | (have H2_ := (Option.bind_some _ _).symm.trans H; with_reducible exact H2_) | with_reducible exact H | (rw [hy118]; exact H) | exact H
          have Ny118 := Aside0.mk hy118
          clear hy118
          simp only [Option.some.injEq, Prod.mk.injEq] at H
          obtain ⟨rfl, rfl⟩ := H
          go_enter Try.func25, Try.ntmps25
          go_wp2_with (first | ((with_reducible refine gate_dst (N := 11) rfl ?_); refine Kd.R_make (Kd.int .i64) _ 3 rfl (N := 11) rfl 26 _ _ rfl a0 rfl rfl Try.underlying26 (.int .i64 0) 8 info3 rfl (by decide) (by omega) 0 (ok := fun _ => True) (okp := fun _ => True) rfl (fun _ hk => hk) trivial (of_decide_eq_true (by first | (with_reducible assumption) | assumption)) (Nat.le_trans (Nat.mul_le_mul_right _ (of_decide_eq_true (by first | (with_reducible assumption) | assumption) : a0.toNat ≤ 35184372088832)) (by omega)) (Below.refl _ _) (Nat.le_refl _) ?_; intro v119 w6 ho7 hb hg_ hnew_; clear hg_ hnew_; (first | rw [← Ny118.out] at ho7 | (simp only [Int.reduceToNat] at ho7; rw [← Ny118.out] at ho7)); have n0_ := Aside0.mk (Kd.R_lower ho7 (below_size (by repeat (first | (with_reducible first | exact HB.out | apply below_alloc | apply pw_below_drewN | apply below_drew1) | exact HB.out)))); have n1_ := Aside0.mk (below_step (by repeat (first | (with_reducible first | exact HB.out | apply below_alloc | apply pw_below_drewN | apply below_drew1) | exact HB.out)) hb); clear HB; have HO120 := n0_; have HB := n1_; clear n0_ n1_; clear hb ho7))
          go_ret2
          exact ⟨_, by first | rfl | (simp [errW_none, errW_some] <;> rfl) | (simp [*, errW_none, errW_some] <;> rfl), by (with_reducible repeat (first | apply Kd.R_alloc | apply Kd.R_drewN | apply Kd.R_drew)); exact HO120.out, by repeat (first | (with_reducible first | exact HB.out | apply below_alloc | apply pw_below_drewN | apply below_drew1) | exact HB.out)⟩
        · rw [if_neg c5] at H
          exact absurd H (by simp)
      · rw [if_neg c4] at H
        exact absurd H (by simp)

/-! ### vec_Vec_Covers: function 27 -/
def vec_Vec_Covers.f (l0 : List Int) (a1 : Int) (a2 : Int) : Option (Bool) := (vec_Vec_Check.f l0).bind fun t121 => (if t121 = 0 then (if a1 ≥ 0 then (if a1 < (l0.length : Int) then (if a2 > 0 then (if 0 ≤ a1 then (some (decide (a2 ≤ (rd l0 a1)))) else (none)) else (some false)) else (some false)) else (some false)) else (some false))
set_option maxHeartbeats 8000000 in
set_option maxRecDepth 100000 in
theorem vec_Vec_Covers.calls (A0 : Option Addr) (c0 : Nat) (l0 : List Int) (a1 : Int) (a2 : Int) (r : Bool) (w : World) (hr0 : Kd.C (Kd.int .i64) w A0 l0.length l0) (hc0 : l0.length ≤ c0) (h : vec_Vec_Covers.f l0 a1 a2 = some r) :
    Calls Try.prog 27 #[.slice A0 l0.length c0, .int .i64 a1, .int .i64 a2] w fun e w' => e = .returned (.bool r) ∧ Drawn0 w w' := by
  have HR0 := Aside0.mk hr0
  have HC0 := Aside0.mk hc0
  clear hr0 hc0
  have H : ((vec_Vec_Check.f l0).bind fun t121 => (if t121 = 0 then (if a1 ≥ 0 then (if a1 < (l0.length : Int) then (if a2 > 0 then (if 0 ≤ a1 then (some (decide (a2 ≤ (rd l0 a1)))) else (none)) else (some false)) else (some false)) else (some false)) else (some false))) = some r := h
  clear h
  replace H := Option.bind_eq_some_iff.mp H
  obtain ⟨t121, A40, H⟩ := H
  replace H : (if t121 = 0 then (if a1 ≥ 0 then (if a1 < (l0.length : Int) then (if a2 > 0 then (if 0 ≤ a1 then (some (decide (a2 ≤ (rd l0 a1)))) else (none)) else (some false)) else (some false)) else (some false)) else (some false)) = some r := H
  have A4 := Aside0.mk A40
  clear A40
  by_cases c5 : t121 = 0
  · rw [if_pos c5] at H
    have c5b0 : (t121 == 0) = true := beq_iff_eq.mpr c5
    have c5b1 : (t121 != 0) = false := bne_eq_false_iff_eq.mpr c5
    clear c5
    by_cases c6 : a1 ≥ 0
    · rw [if_pos c6] at H
      have c6b0 : decide (0 ≤ a1) = true := decide_eq_true c6
      clear c6
      by_cases c7 : a1 < (l0.length : Int)
      · rw [if_pos c7] at H
        have c7b0 : decide (a1 < (l0.length : Int)) = true := decide_eq_true c7
        clear c7
        by_cases c8 : a2 > 0
        · rw [if_pos c8] at H
          have c8b0 : decide (0 < a2) = true := decide_eq_true c8
          clear c8
          by_cases c9 : 0 ≤ a1
          · rw [if_pos c9] at H
            have c9b0 : decide (0 ≤ a1) = true := decide_eq_true c9
            clear c9
            obtain rfl := Option.some.inj H
            go_enter Try.func27, Try.ntmps27
            go_wp2_with (first | ((with_reducible refine gate_callee (f := 29) rfl ?_); refine goesL_ (some 8) rfl rfl Try.func29 (by kernel_rfl) rfl #[.slice A0 l0.length c0] rfl (by (try simp only [List.map_toArray, List.map_cons, List.map_nil]); first | done | rfl | (simp only [List.length_drop, List.length_take]; rfl)) ?_; (with_reducible refine (vec_Vec_Check.calls _ _ l0 t121 _ ?side1 ?side2 A4.out).mono ?_); (case side1 => repeat (first | exact HR0.out | (with_reducible refine Kd.C_alloc ?_ _) | (with_reducible refine Kd.C_drewN ?_ _) | (with_reducible refine Kd.C_drew ?_))); (case side2 => exact HC0.out); rintro e w' ⟨rfl, ⟨nd, rfl⟩⟩; refine ⟨_, rfl, ?_⟩; have p122 : 0 ≤ (a1 : Int) := of_decide_eq_true (by first | (with_reducible assumption) | assumption); have q122 : a1 < (l0.length : Int) := of_decide_eq_true (by first | (with_reducible assumption) | assumption); obtain ⟨ad122, e122, hx122_0⟩ := Kd.at_int HR0.out a1 p122 q122; cases e122; replace p122 := eq_true p122; replace q122 := eq_true q122))
            go_ret
            exact ⟨by first | rfl | (simp; done) | (simp [*]; done), by repeat (first | exact Drawn0.refl _ | apply Drawn0.step)⟩
          · rw [if_neg c9] at H
            exact absurd H (by simp)
        · rw [if_neg c8] at H
          have c8b0 : decide (0 < a2) = false := decide_eq_false c8
          clear c8
          obtain rfl := Option.some.inj H
          go_enter Try.func27, Try.ntmps27
          go_wp2_with (first | ((with_reducible refine gate_callee (f := 29) rfl ?_); refine goesL_ (some 8) rfl rfl Try.func29 (by kernel_rfl) rfl #[.slice A0 l0.length c0] rfl (by (try simp only [List.map_toArray, List.map_cons, List.map_nil]); first | done | rfl | (simp only [List.length_drop, List.length_take]; rfl)) ?_; (with_reducible refine (vec_Vec_Check.calls _ _ l0 t121 _ ?side1 ?side2 A4.out).mono ?_); (case side1 => repeat (first | exact HR0.out | (with_reducible refine Kd.C_alloc ?_ _) | (with_reducible refine Kd.C_drewN ?_ _) | (with_reducible refine Kd.C_drew ?_))); (case side2 => exact HC0.out); rintro e w' ⟨rfl, ⟨nd, rfl⟩⟩; refine ⟨_, rfl, ?_⟩))
          go_ret
          exact ⟨by first | rfl | (simp; done) | (simp [*]; done), by repeat (first | exact Drawn0.refl _ | apply Drawn0.step)⟩
      · rw [if_neg c7] at H
        have c7b0 : decide (a1 < (l0.length : Int)) = false := decide_eq_false c7
        clear c7
        obtain rfl := Option.some.inj H
        go_enter Try.func27, Try.ntmps27
        go_wp2_with (first | ((with_reducible refine gate_callee (f := 29) rfl ?_); refine goesL_ (some 8) rfl rfl Try.func29 (by kernel_rfl) rfl #[.slice A0 l0.length c0] rfl (by (try simp only [List.map_toArray, List.map_cons, List.map_nil]); first | done | rfl | (simp only [List.length_drop, List.length_take]; rfl)) ?_; (with_reducible refine (vec_Vec_Check.calls _ _ l0 t121 _ ?side1 ?side2 A4.out).mono ?_); (case side1 => repeat (first | exact HR0.out | (with_reducible refine Kd.C_alloc ?_ _) | (with_reducible refine Kd.C_drewN ?_ _) | (with_reducible refine Kd.C_drew ?_))); (case side2 => exact HC0.out); rintro e w' ⟨rfl, ⟨nd, rfl⟩⟩; refine ⟨_, rfl, ?_⟩))
        go_ret
        exact ⟨by first | rfl | (simp; done) | (simp [*]; done), by repeat (first | exact Drawn0.refl _ | apply Drawn0.step)⟩
    · rw [if_neg c6] at H
      have c6b0 : decide (0 ≤ a1) = false := decide_eq_false c6
      clear c6
      obtain rfl := Option.some.inj H
      go_enter Try.func27, Try.ntmps27
      go_wp2_with (first | ((with_reducible refine gate_callee (f := 29) rfl ?_); refine goesL_ (some 8) rfl rfl Try.func29 (by kernel_rfl) rfl #[.slice A0 l0.length c0] rfl (by (try simp only [List.map_toArray, List.map_cons, List.map_nil]); first | done | rfl | (simp only [List.length_drop, List.length_take]; rfl)) ?_; (with_reducible refine (vec_Vec_Check.calls _ _ l0 t121 _ ?side1 ?side2 A4.out).mono ?_); (case side1 => repeat (first | exact HR0.out | (with_reducible refine Kd.C_alloc ?_ _) | (with_reducible refine Kd.C_drewN ?_ _) | (with_reducible refine Kd.C_drew ?_))); (case side2 => exact HC0.out); rintro e w' ⟨rfl, ⟨nd, rfl⟩⟩; refine ⟨_, rfl, ?_⟩))
      go_ret
      exact ⟨by first | rfl | (simp; done) | (simp [*]; done), by repeat (first | exact Drawn0.refl _ | apply Drawn0.step)⟩
  · rw [if_neg c5] at H
    have c5b0 : (t121 == 0) = false := beq_eq_false_iff_ne.mpr c5
    have c5b1 : (t121 != 0) = true := bne_iff_ne.mpr c5
    obtain rfl := Option.some.inj H
    go_enter Try.func27, Try.ntmps27
    go_wp2_with (first | ((with_reducible refine gate_callee (f := 29) rfl ?_); refine goesL_ (some 8) rfl rfl Try.func29 (by kernel_rfl) rfl #[.slice A0 l0.length c0] rfl (by (try simp only [List.map_toArray, List.map_cons, List.map_nil]); first | done | rfl | (simp only [List.length_drop, List.length_take]; rfl)) ?_; (with_reducible refine (vec_Vec_Check.calls _ _ l0 t121 _ ?side1 ?side2 A4.out).mono ?_); (case side1 => repeat (first | exact HR0.out | (with_reducible refine Kd.C_alloc ?_ _) | (with_reducible refine Kd.C_drewN ?_ _) | (with_reducible refine Kd.C_drew ?_))); (case side2 => exact HC0.out); rintro e w' ⟨rfl, ⟨nd, rfl⟩⟩; refine ⟨_, rfl, ?_⟩))
    go_ret
    exact ⟨by first | rfl | (simp; done) | (simp [*]; done), by repeat (first | exact Drawn0.refl _ | apply Drawn0.step)⟩
theorem vec_Vec_Covers.at (A0 : Option Addr) (c0 : Nat) (n0 : Nat) (l0 : List Int) (a1 : Int) (a2 : Int) (r : Bool) (w : World) (hr0 : Kd.C (Kd.int .i64) w A0 n0 l0) (hc0 : n0 ≤ c0) (h : vec_Vec_Covers.f l0 a1 a2 = some r) :
    Calls Try.prog 27 #[.slice A0 n0 c0, .int .i64 a1, .int .i64 a2] w fun e w' => e = .returned (.bool r) ∧ Drawn0 w w' := by
  obtain rfl : l0.length = n0 := Kd.C_len hr0
  exact vec_Vec_Covers.calls A0 c0 l0 a1 a2 r w hr0 hc0 h

/-! ### duetlaw06_live: function 15 -/
def duetlaw06_live.f : Option Bool := some true
set_option maxHeartbeats 4000000 in
set_option maxRecDepth 100000 in
theorem duetlaw06_live.calls (r : Bool) (w : World) (h : duetlaw06_live.f = some r) :
    Calls Try.prog 15 #[] w fun e w' => e = .returned (.bool r) ∧ Below w.heap.size w w' := by
  obtain rfl := Option.some.inj h
  clear h
  have HT0 := Aside0.mk (Below.refl w.heap.size w)
  have E1 : Aside0 (vec_New.f (2) = some ([0, 0], 0)) := ⟨by first | rfl | decide +kernel⟩
  have E2 : Aside0 (vec_New.f (0) = some ([], 1)) := ⟨by first | rfl | decide +kernel⟩
  have E3 : Aside0 (vec_Vec_Tick.f 9 ([0, 0]) (0) = some ([1, 0], 0)) := ⟨by first | rfl | decide +kernel⟩
  have E6 : Aside0 (vec_Vec_Join.f ([1, 2]) ([2, 1]) = some ([2, 2], 0)) := ⟨by first | rfl | decide +kernel⟩
  have E9 : Aside0 (vec_Vec_Meet.f ([1, 2]) ([2, 1]) = some ([1, 1], 0)) := ⟨by first | rfl | decide +kernel⟩
  have E12 : Aside0 (vec_Vec_Compare.f 9 ([1, 2]) ([2, 1]) = some (3, 0)) := ⟨by first | rfl | decide +kernel⟩
  have E13 : Aside0 (vec_Vec_Compare.f 9 ([0, 0]) ([1, 0]) = some (1, 0)) := ⟨by first | rfl | decide +kernel⟩
  have E15 : Aside0 (vec_Vec_Tick.f 9 ([4294967295]) (0) = some ([], 5)) := ⟨by first | rfl | decide +kernel⟩
  have E17 : Aside0 (duetref01_Same.f 9 ([0, 0]) ([0, 0]) = some true) := ⟨by first | rfl | decide +kernel⟩
  have E19 : Aside0 (duetref01_Same.f 9 ([1, 0]) ([1, 0]) = some true) := ⟨by first | rfl | decide +kernel⟩
  have E21 : Aside0 (duetref01_Same.f 9 ([2, 2]) ([2, 2]) = some true) := ⟨by first | rfl | decide +kernel⟩
  have E23 : Aside0 (duetref01_Same.f 9 ([1, 1]) ([1, 1]) = some true) := ⟨by first | rfl | decide +kernel⟩
  have E24 : Aside0 (vec_Vec_Covers.f ([1, 0]) (0) (1) = some true) := ⟨by first | rfl | decide +kernel⟩
  have E25 : Aside0 (vec_Vec_Covers.f ([1, 0]) (0) (2) = some false) := ⟨by first | rfl | decide +kernel⟩
  have E26 : Aside0 (vec_Vec_Check.f ([1, 0]) = some 0) := ⟨by first | rfl | decide +kernel⟩
  go_enter Try.func15, Try.ntmps15
  go_wp2_with (first | (go_at_call 25; (with_reducible refine (vec_New.calls (2) ([0, 0]) (0) _  E1.out).mono ?_); rintro e w1 ⟨v1, rfl, ho1, hb1⟩; obtain ⟨A1, c1, hv1⟩ := Kd.R_slice ho1; subst hv1; have HC1 := Aside0.mk (Kd.R_reads' ho1).2.2; have HD1 := Aside0.mk (Kd.R_reads' ho1).2.1; clear ho1; have HB1 := Aside0.mk hb1; have HT1 := Aside0.mk (below_step (by repeat (first | exact HT0.out | apply below_alloc | apply pw_below_drewN | apply below_drew1)) hb1); clear hb1) | (go_at_call 25; (with_reducible refine (vec_New.calls (0) ([]) (1) _  E2.out).mono ?_); rintro e w2 ⟨v2, rfl, ho2, hb2⟩; obtain ⟨A2, c2, hv2⟩ := Kd.R_slice ho2; subst hv2; have HC2 := Aside0.mk (Kd.R_reads' ho2).2.2; have HD2 := Aside0.mk (Kd.R_reads' ho2).2.1; clear ho2; have HB2 := Aside0.mk hb2; have HT2 := Aside0.mk (below_step (by repeat (first | exact HT1.out | exact HT0.out | apply below_alloc | apply pw_below_drewN | apply below_drew1)) hb2); clear hb2) | (go_at_call 16; (with_reducible refine (vec_Vec_Tick.at 9 _ _ _ ([0, 0]) (0) ([1, 0]) (0) _ ?s0 ?c0 E3.out).mono ?_); (case s0 => (repeat (first | exact HC1.out | exact HC2.out | exact Go.Proofs.Ytpoigdkbblmpaaa.XW.C_lit_i64 _ _ _ _ _ _ (by simp) rfl rfl (by decide) | (with_reducible refine Kd.C_alloc ?_ _) | (with_reducible refine Kd.C_drewN ?_ _) | (with_reducible refine Kd.C_drew ?_) | (with_reducible refine Kd.C_below ?_ HB1.out) | (with_reducible refine Kd.C_below ?_ HB2.out)))); (case c0 => (first | exact HD1.out | exact HD2.out | exact Nat.le_refl _)); rintro e w3 ⟨v3, rfl, ho3, hb3⟩; obtain ⟨A3, c3, hv3⟩ := Kd.R_slice ho3; subst hv3; have HC3 := Aside0.mk (Kd.R_reads' ho3).2.2; have HD3 := Aside0.mk (Kd.R_reads' ho3).2.1; clear ho3; have HB3 := Aside0.mk hb3; have HT3 := Aside0.mk (below_step (by repeat (first | exact HT2.out | exact HT1.out | exact HT0.out | apply below_alloc | apply pw_below_drewN | apply below_drew1)) hb3); clear hb3) | ((with_reducible refine gate_dst (N := 31) rfl ?_); (try (refine gate_guard (by rfl) ?_; dsimp only)); refine Kd.R_lit (Kd.int .i64) _ 3 ?hg (N := 31) ?hd (xs := ([1, 2] : List Int)) (inner := [.int .i64 1, .int .i64 2]) (ok := fun _ => True) (okp := fun _ => True) ?hr ?hp (fun _ hk => hk) trivial (Below.refl _ _) (Nat.le_refl _) (by simp) ?_; (case hd => rfl); (case hg => rfl); (case hr => first | (go_simp; done) | (go_simp; rfl)); (case hp => exact Reps.one (show Kd.M (Kd.int .i64) _ _ _ 1 [.int .i64 1] from rfl) (Reps.one (show Kd.M (Kd.int .i64) _ _ _ 2 [.int .i64 2] from rfl) (Reps.none _ _))); intro v4 w4 ho4 hb4 hg_ hn_; clear hg_ hn_; obtain ⟨A4, c4, hv4⟩ := Kd.R_slice ho4; subst hv4; have HC4 := Aside0.mk (Kd.R_reads' ho4).2.2; have HD4 := Aside0.mk (Kd.R_reads' ho4).2.1; clear ho4; have HB4 := Aside0.mk hb4; have HT4 := Aside0.mk (below_step (by repeat (first | exact HT3.out | exact HT2.out | exact HT1.out | exact HT0.out | apply below_alloc | apply pw_below_drewN | apply below_drew1)) hb4); clear hb4) | ((with_reducible refine gate_dst (N := 32) rfl ?_); (try (refine gate_guard (by rfl) ?_; dsimp only)); refine Kd.R_lit (Kd.int .i64) _ 3 ?hg (N := 32) ?hd (xs := ([2, 1] : List Int)) (inner := [.int .i64 2, .int .i64 1]) (ok := fun _ => True) (okp := fun _ => True) ?hr ?hp (fun _ hk => hk) trivial (Below.refl _ _) (Nat.le_refl _) (by simp) ?_; (case hd => rfl); (case hg => rfl); (case hr => first | (go_simp; done) | (go_simp; rfl)); (case hp => exact Reps.one (show Kd.M (Kd.int .i64) _ _ _ 2 [.int .i64 2] from rfl) (Reps.one (show Kd.M (Kd.int .i64) _ _ _ 1 [.int .i64 1] from rfl) (Reps.none _ _))); intro v5 w5 ho5 hb5 hg_ hn_; clear hg_ hn_; obtain ⟨A5, c5, hv5⟩ := Kd.R_slice ho5; subst hv5; have HC5 := Aside0.mk (Kd.R_reads' ho5).2.2; have HD5 := Aside0.mk (Kd.R_reads' ho5).2.1; clear ho5; have HB5 := Aside0.mk hb5; have HT5 := Aside0.mk (below_step (by repeat (first | exact HT4.out | exact HT3.out | exact HT2.out | exact HT1.out | exact HT0.out | apply below_alloc | apply pw_below_drewN | apply below_drew1)) hb5); clear hb5) | (go_at_call 18; (with_reducible refine (vec_Vec_Join.at _ _ _ ([1, 2]) _ _ _ ([2, 1]) ([2, 2]) (0) _ ?s0 ?c0 ?s1 ?c1 E6.out).mono ?_); (case s0 => (repeat (first | exact HC1.out | exact HC2.out | exact HC3.out | exact HC4.out | exact HC5.out | exact Go.Proofs.Ytpoigdkbblmpaaa.XW.C_lit_i64 _ _ _ _ _ _ (by simp) rfl rfl (by decide) | (with_reducible refine Kd.C_alloc ?_ _) | (with_reducible refine Kd.C_drewN ?_ _) | (with_reducible refine Kd.C_drew ?_) | (with_reducible refine Kd.C_below ?_ HB1.out) | (with_reducible refine Kd.C_below ?_ HB2.out) | (with_reducible refine Kd.C_below ?_ HB3.out) | (with_reducible refine Kd.C_below ?_ HB4.out) | (with_reducible refine Kd.C_below ?_ HB5.out)))); (case c0 => (first | exact HD1.out | exact HD2.out | exact HD3.out | exact HD4.out | exact HD5.out | exact Nat.le_refl _)); (case s1 => (repeat (first | exact HC1.out | exact HC2.out | exact HC3.out | exact HC4.out | exact HC5.out | exact Go.Proofs.Ytpoigdkbblmpaaa.XW.C_lit_i64 _ _ _ _ _ _ (by simp) rfl rfl (by decide) | (with_reducible refine Kd.C_alloc ?_ _) | (with_reducible refine Kd.C_drewN ?_ _) | (with_reducible refine Kd.C_drew ?_) | (with_reducible refine Kd.C_below ?_ HB1.out) | (with_reducible refine Kd.C_below ?_ HB2.out) | (with_reducible refine Kd.C_below ?_ HB3.out) | (with_reducible refine Kd.C_below ?_ HB4.out) | (with_reducible refine Kd.C_below ?_ HB5.out)))); (case c1 => (first | exact HD1.out | exact HD2.out | exact HD3.out | exact HD4.out | exact HD5.out | exact Nat.le_refl _)); rintro e w6 ⟨v6, rfl, ho6, hb6⟩; obtain ⟨A6, c6, hv6⟩ := Kd.R_slice ho6; subst hv6; have HC6 := Aside0.mk (Kd.R_reads' ho6).2.2; have HD6 := Aside0.mk (Kd.R_reads' ho6).2.1; clear ho6; have HB6 := Aside0.mk hb6; have HT6 := Aside0.mk (below_step (by repeat (first | exact HT5.out | exact HT4.out | exact HT3.out | exact HT2.out | exact HT1.out | exact HT0.out | apply below_alloc | apply pw_below_drewN | apply below_drew1)) hb6); clear hb6) | ((with_reducible refine gate_dst (N := 37) rfl ?_); (try (refine gate_guard (by rfl) ?_; dsimp only)); refine Kd.R_lit (Kd.int .i64) _ 3 ?hg (N := 37) ?hd (xs := ([1, 2] : List Int)) (inner := [.int .i64 1, .int .i64 2]) (ok := fun _ => True) (okp := fun _ => True) ?hr ?hp (fun _ hk => hk) trivial (Below.refl _ _) (Nat.le_refl _) (by simp) ?_; (case hd => rfl); (case hg => rfl); (case hr => first | (go_simp; done) | (go_simp; rfl)); (case hp => exact Reps.one (show Kd.M (Kd.int .i64) _ _ _ 1 [.int .i64 1] from rfl) (Reps.one (show Kd.M (Kd.int .i64) _ _ _ 2 [.int .i64 2] from rfl) (Reps.none _ _))); intro v7 w7 ho7 hb7 hg_ hn_; clear hg_ hn_; obtain ⟨A7, c7, hv7⟩ := Kd.R_slice ho7; subst hv7; have HC7 := Aside0.mk (Kd.R_reads' ho7).2.2; have HD7 := Aside0.mk (Kd.R_reads' ho7).2.1; clear ho7; have HB7 := Aside0.mk hb7; have HT7 := Aside0.mk (below_step (by repeat (first | exact HT6.out | exact HT5.out | exact HT4.out | exact HT3.out | exact HT2.out | exact HT1.out | exact HT0.out | apply below_alloc | apply pw_below_drewN | apply below_drew1)) hb7); clear hb7) | ((with_reducible refine gate_dst (N := 38) rfl ?_); (try (refine gate_guard (by rfl) ?_; dsimp only)); refine Kd.R_lit (Kd.int .i64) _ 3 ?hg (N := 38) ?hd (xs := ([2, 1] : List Int)) (inner := [.int .i64 2, .int .i64 1]) (ok := fun _ => True) (okp := fun _ => True) ?hr ?hp (fun _ hk => hk) trivial (Below.refl _ _) (Nat.le_refl _) (by simp) ?_; (case hd => rfl); (case hg => rfl); (case hr => first | (go_simp; done) | (go_simp; rfl)); (case hp => exact Reps.one (show Kd.M (Kd.int .i64) _ _ _ 2 [.int .i64 2] from rfl) (Reps.one (show Kd.M (Kd.int .i64) _ _ _ 1 [.int .i64 1] from rfl) (Reps.none _ _))); intro v8 w8 ho8 hb8 hg_ hn_; clear hg_ hn_; obtain ⟨A8, c8, hv8⟩ := Kd.R_slice ho8; subst hv8; have HC8 := Aside0.mk (Kd.R_reads' ho8).2.2; have HD8 := Aside0.mk (Kd.R_reads' ho8).2.1; clear ho8; have HB8 := Aside0.mk hb8; have HT8 := Aside0.mk (below_step (by repeat (first | exact HT7.out | exact HT6.out | exact HT5.out | exact HT4.out | exact HT3.out | exact HT2.out | exact HT1.out | exact HT0.out | apply below_alloc | apply pw_below_drewN | apply below_drew1)) hb8); clear hb8) | (go_at_call 20; (with_reducible refine (vec_Vec_Meet.at _ _ _ ([1, 2]) _ _ _ ([2, 1]) ([1, 1]) (0) _ ?s0 ?c0 ?s1 ?c1 E9.out).mono ?_); (case s0 => (repeat (first | exact HC1.out | exact HC2.out | exact HC3.out | exact HC4.out | exact HC5.out | exact HC6.out | exact HC7.out | exact HC8.out | exact Go.Proofs.Ytpoigdkbblmpaaa.XW.C_lit_i64 _ _ _ _ _ _ (by simp) rfl rfl (by decide) | (with_reducible refine Kd.C_alloc ?_ _) | (with_reducible refine Kd.C_drewN ?_ _) | (with_reducible refine Kd.C_drew ?_) | (with_reducible refine Kd.C_below ?_ HB1.out) | (with_reducible refine Kd.C_below ?_ HB2.out) | (with_reducible refine Kd.C_below ?_ HB3.out) | (with_reducible refine Kd.C_below ?_ HB4.out) | (with_reducible refine Kd.C_below ?_ HB5.out) | (with_reducible refine Kd.C_below ?_ HB6.out) | (with_reducible refine Kd.C_below ?_ HB7.out) | (with_reducible refine Kd.C_below ?_ HB8.out)))); (case c0 => (first | exact HD1.out | exact HD2.out | exact HD3.out | exact HD4.out | exact HD5.out | exact HD6.out | exact HD7.out | exact HD8.out | exact Nat.le_refl _)); (case s1 => (repeat (first | exact HC1.out | exact HC2.out | exact HC3.out | exact HC4.out | exact HC5.out | exact HC6.out | exact HC7.out | exact HC8.out | exact Go.Proofs.Ytpoigdkbblmpaaa.XW.C_lit_i64 _ _ _ _ _ _ (by simp) rfl rfl (by decide) | (with_reducible refine Kd.C_alloc ?_ _) | (with_reducible refine Kd.C_drewN ?_ _) | (with_reducible refine Kd.C_drew ?_) | (with_reducible refine Kd.C_below ?_ HB1.out) | (with_reducible refine Kd.C_below ?_ HB2.out) | (with_reducible refine Kd.C_below ?_ HB3.out) | (with_reducible refine Kd.C_below ?_ HB4.out) | (with_reducible refine Kd.C_below ?_ HB5.out) | (with_reducible refine Kd.C_below ?_ HB6.out) | (with_reducible refine Kd.C_below ?_ HB7.out) | (with_reducible refine Kd.C_below ?_ HB8.out)))); (case c1 => (first | exact HD1.out | exact HD2.out | exact HD3.out | exact HD4.out | exact HD5.out | exact HD6.out | exact HD7.out | exact HD8.out | exact Nat.le_refl _)); rintro e w9 ⟨v9, rfl, ho9, hb9⟩; obtain ⟨A9, c9, hv9⟩ := Kd.R_slice ho9; subst hv9; have HC9 := Aside0.mk (Kd.R_reads' ho9).2.2; have HD9 := Aside0.mk (Kd.R_reads' ho9).2.1; clear ho9; have HB9 := Aside0.mk hb9; have HT9 := Aside0.mk (below_step (by repeat (first | exact HT8.out | exact HT7.out | exact HT6.out | exact HT5.out | exact HT4.out | exact HT3.out | exact HT2.out | exact HT1.out | exact HT0.out | apply below_alloc | apply pw_below_drewN | apply below_drew1)) hb9); clear hb9) | ((with_reducible refine gate_dst (N := 43) rfl ?_); (try (refine gate_guard (by rfl) ?_; dsimp only)); refine Kd.R_lit (Kd.int .i64) _ 3 ?hg (N := 43) ?hd (xs := ([1, 2] : List Int)) (inner := [.int .i64 1, .int .i64 2]) (ok := fun _ => True) (okp := fun _ => True) ?hr ?hp (fun _ hk => hk) trivial (Below.refl _ _) (Nat.le_refl _) (by simp) ?_; (case hd => rfl); (case hg => rfl); (case hr => first | (go_simp; done) | (go_simp; rfl)); (case hp => exact Reps.one (show Kd.M (Kd.int .i64) _ _ _ 1 [.int .i64 1] from rfl) (Reps.one (show Kd.M (Kd.int .i64) _ _ _ 2 [.int .i64 2] from rfl) (Reps.none _ _))); intro v10 w10 ho10 hb10 hg_ hn_; clear hg_ hn_; obtain ⟨A10, c10, hv10⟩ := Kd.R_slice ho10; subst hv10; have HC10 := Aside0.mk (Kd.R_reads' ho10).2.2; have HD10 := Aside0.mk (Kd.R_reads' ho10).2.1; clear ho10; have HB10 := Aside0.mk hb10; have HT10 := Aside0.mk (below_step (by repeat (first | exact HT9.out | exact HT8.out | exact HT7.out | exact HT6.out | exact HT5.out | exact HT4.out | exact HT3.out | exact HT2.out | exact HT1.out | exact HT0.out | apply below_alloc | apply pw_below_drewN | apply below_drew1)) hb10); clear hb10) | ((with_reducible refine gate_dst (N := 44) rfl ?_); (try (refine gate_guard (by rfl) ?_; dsimp only)); refine Kd.R_lit (Kd.int .i64) _ 3 ?hg (N := 44) ?hd (xs := ([2, 1] : List Int)) (inner := [.int .i64 2, .int .i64 1]) (ok := fun _ => True) (okp := fun _ => True) ?hr ?hp (fun _ hk => hk) trivial (Below.refl _ _) (Nat.le_refl _) (by simp) ?_; (case hd => rfl); (case hg => rfl); (case hr => first | (go_simp; done) | (go_simp; rfl)); (case hp => exact Reps.one (show Kd.M (Kd.int .i64) _ _ _ 2 [.int .i64 2] from rfl) (Reps.one (show Kd.M (Kd.int .i64) _ _ _ 1 [.int .i64 1] from rfl) (Reps.none _ _))); intro v11 w11 ho11 hb11 hg_ hn_; clear hg_ hn_; obtain ⟨A11, c11, hv11⟩ := Kd.R_slice ho11; subst hv11; have HC11 := Aside0.mk (Kd.R_reads' ho11).2.2; have HD11 := Aside0.mk (Kd.R_reads' ho11).2.1; clear ho11; have HB11 := Aside0.mk hb11; have HT11 := Aside0.mk (below_step (by repeat (first | exact HT10.out | exact HT9.out | exact HT8.out | exact HT7.out | exact HT6.out | exact HT5.out | exact HT4.out | exact HT3.out | exact HT2.out | exact HT1.out | exact HT0.out | apply below_alloc | apply pw_below_drewN | apply below_drew1)) hb11); clear hb11) | (go_at_call 22; (with_reducible refine (vec_Vec_Compare.at 9 _ _ _ ([1, 2]) _ _ _ ([2, 1]) (3) (0) _ ?s0 ?c0 ?s1 ?c1 E12.out).mono ?_); (case s0 => (repeat (first | exact HC1.out | exact HC2.out | exact HC3.out | exact HC4.out | exact HC5.out | exact HC6.out | exact HC7.out | exact HC8.out | exact HC9.out | exact HC10.out | exact HC11.out | exact Go.Proofs.Ytpoigdkbblmpaaa.XW.C_lit_i64 _ _ _ _ _ _ (by simp) rfl rfl (by decide) | (with_reducible refine Kd.C_alloc ?_ _) | (with_reducible refine Kd.C_drewN ?_ _) | (with_reducible refine Kd.C_drew ?_) | (with_reducible refine Kd.C_below ?_ HB1.out) | (with_reducible refine Kd.C_below ?_ HB2.out) | (with_reducible refine Kd.C_below ?_ HB3.out) | (with_reducible refine Kd.C_below ?_ HB4.out) | (with_reducible refine Kd.C_below ?_ HB5.out) | (with_reducible refine Kd.C_below ?_ HB6.out) | (with_reducible refine Kd.C_below ?_ HB7.out) | (with_reducible refine Kd.C_below ?_ HB8.out) | (with_reducible refine Kd.C_below ?_ HB9.out) | (with_reducible refine Kd.C_below ?_ HB10.out) | (with_reducible refine Kd.C_below ?_ HB11.out)))); (case c0 => (first | exact HD1.out | exact HD2.out | exact HD3.out | exact HD4.out | exact HD5.out | exact HD6.out | exact HD7.out | exact HD8.out | exact HD9.out | exact HD10.out | exact HD11.out | exact Nat.le_refl _)); (case s1 => (repeat (first | exact HC1.out | exact HC2.out | exact HC3.out | exact HC4.out | exact HC5.out | exact HC6.out | exact HC7.out | exact HC8.out | exact HC9.out | exact HC10.out | exact HC11.out | exact Go.Proofs.Ytpoigdkbblmpaaa.XW.C_lit_i64 _ _ _ _ _ _ (by simp) rfl rfl (by decide) | (with_reducible refine Kd.C_alloc ?_ _) | (with_reducible refine Kd.C_drewN ?_ _) | (with_reducible refine Kd.C_drew ?_) | (with_reducible refine Kd.C_below ?_ HB1.out) | (with_reducible refine Kd.C_below ?_ HB2.out) | (with_reducible refine Kd.C_below ?_ HB3.out) | (with_reducible refine Kd.C_below ?_ HB4.out) | (with_reducible refine Kd.C_below ?_ HB5.out) | (with_reducible refine Kd.C_below ?_ HB6.out) | (with_reducible refine Kd.C_below ?_ HB7.out) | (with_reducible refine Kd.C_below ?_ HB8.out) | (with_reducible refine Kd.C_below ?_ HB9.out) | (with_reducible refine Kd.C_below ?_ HB10.out) | (with_reducible refine Kd.C_below ?_ HB11.out)))); (case c1 => (first | exact HD1.out | exact HD2.out | exact HD3.out | exact HD4.out | exact HD5.out | exact HD6.out | exact HD7.out | exact HD8.out | exact HD9.out | exact HD10.out | exact HD11.out | exact Nat.le_refl _)); rintro e w' ⟨rfl, ⟨nd, rfl⟩⟩) | (go_at_call 22; (with_reducible refine (vec_Vec_Compare.at 9 _ _ _ ([0, 0]) _ _ _ ([1, 0]) (1) (0) _ ?s0 ?c0 ?s1 ?c1 E13.out).mono ?_); (case s0 => (repeat (first | exact HC1.out | exact HC2.out | exact HC3.out | exact HC4.out | exact HC5.out | exact HC6.out | exact HC7.out | exact HC8.out | exact HC9.out | exact HC10.out | exact HC11.out | exact Go.Proofs.Ytpoigdkbblmpaaa.XW.C_lit_i64 _ _ _ _ _ _ (by simp) rfl rfl (by decide) | (with_reducible refine Kd.C_alloc ?_ _) | (with_reducible refine Kd.C_drewN ?_ _) | (with_reducible refine Kd.C_drew ?_) | (with_reducible refine Kd.C_below ?_ HB1.out) | (with_reducible refine Kd.C_below ?_ HB2.out) | (with_reducible refine Kd.C_below ?_ HB3.out) | (with_reducible refine Kd.C_below ?_ HB4.out) | (with_reducible refine Kd.C_below ?_ HB5.out) | (with_reducible refine Kd.C_below ?_ HB6.out) | (with_reducible refine Kd.C_below ?_ HB7.out) | (with_reducible refine Kd.C_below ?_ HB8.out) | (with_reducible refine Kd.C_below ?_ HB9.out) | (with_reducible refine Kd.C_below ?_ HB10.out) | (with_reducible refine Kd.C_below ?_ HB11.out)))); (case c0 => (first | exact HD1.out | exact HD2.out | exact HD3.out | exact HD4.out | exact HD5.out | exact HD6.out | exact HD7.out | exact HD8.out | exact HD9.out | exact HD10.out | exact HD11.out | exact Nat.le_refl _)); (case s1 => (repeat (first | exact HC1.out | exact HC2.out | exact HC3.out | exact HC4.out | exact HC5.out | exact HC6.out | exact HC7.out | exact HC8.out | exact HC9.out | exact HC10.out | exact HC11.out | exact Go.Proofs.Ytpoigdkbblmpaaa.XW.C_lit_i64 _ _ _ _ _ _ (by simp) rfl rfl (by decide) | (with_reducible refine Kd.C_alloc ?_ _) | (with_reducible refine Kd.C_drewN ?_ _) | (with_reducible refine Kd.C_drew ?_) | (with_reducible refine Kd.C_below ?_ HB1.out) | (with_reducible refine Kd.C_below ?_ HB2.out) | (with_reducible refine Kd.C_below ?_ HB3.out) | (with_reducible refine Kd.C_below ?_ HB4.out) | (with_reducible refine Kd.C_below ?_ HB5.out) | (with_reducible refine Kd.C_below ?_ HB6.out) | (with_reducible refine Kd.C_below ?_ HB7.out) | (with_reducible refine Kd.C_below ?_ HB8.out) | (with_reducible refine Kd.C_below ?_ HB9.out) | (with_reducible refine Kd.C_below ?_ HB10.out) | (with_reducible refine Kd.C_below ?_ HB11.out)))); (case c1 => (first | exact HD1.out | exact HD2.out | exact HD3.out | exact HD4.out | exact HD5.out | exact HD6.out | exact HD7.out | exact HD8.out | exact HD9.out | exact HD10.out | exact HD11.out | exact Nat.le_refl _)); rintro e w' ⟨rfl, ⟨nd, rfl⟩⟩) | ((with_reducible refine gate_dst (N := 55) rfl ?_); (try (refine gate_guard (by rfl) ?_; dsimp only)); refine Kd.R_lit (Kd.int .i64) _ 3 ?hg (N := 55) ?hd (xs := ([4294967295] : List Int)) (inner := [.int .i64 4294967295]) (ok := fun _ => True) (okp := fun _ => True) ?hr ?hp (fun _ hk => hk) trivial (Below.refl _ _) (Nat.le_refl _) (by simp) ?_; (case hd => rfl); (case hg => rfl); (case hr => first | (go_simp; done) | (go_simp; rfl)); (case hp => exact Reps.one (show Kd.M (Kd.int .i64) _ _ _ 4294967295 [.int .i64 4294967295] from rfl) (Reps.none _ _)); intro v14 w14 ho14 hb14 hg_ hn_; clear hg_ hn_; obtain ⟨A14, c14, hv14⟩ := Kd.R_slice ho14; subst hv14; have HC14 := Aside0.mk (Kd.R_reads' ho14).2.2; have HD14 := Aside0.mk (Kd.R_reads' ho14).2.1; clear ho14; have HB14 := Aside0.mk hb14; have HT14 := Aside0.mk (below_step (by repeat (first | exact HT11.out | exact HT10.out | exact HT9.out | exact HT8.out | exact HT7.out | exact HT6.out | exact HT5.out | exact HT4.out | exact HT3.out | exact HT2.out | exact HT1.out | exact HT0.out | apply below_alloc | apply pw_below_drewN | apply below_drew1)) hb14); clear hb14) | (go_at_call 16; (with_reducible refine (vec_Vec_Tick.at 9 _ _ _ ([4294967295]) (0) ([]) (5) _ ?s0 ?c0 E15.out).mono ?_); (case s0 => (repeat (first | exact HC1.out | exact HC2.out | exact HC3.out | exact HC4.out | exact HC5.out | exact HC6.out | exact HC7.out | exact HC8.out | exact HC9.out | exact HC10.out | exact HC11.out | exact HC14.out | exact Go.Proofs.Ytpoigdkbblmpaaa.XW.C_lit_i64 _ _ _ _ _ _ (by simp) rfl rfl (by decide) | (with_reducible refine Kd.C_alloc ?_ _) | (with_reducible refine Kd.C_drewN ?_ _) | (with_reducible refine Kd.C_drew ?_) | (with_reducible refine Kd.C_below ?_ HB1.out) | (with_reducible refine Kd.C_below ?_ HB2.out) | (with_reducible refine Kd.C_below ?_ HB3.out) | (with_reducible refine Kd.C_below ?_ HB4.out) | (with_reducible refine Kd.C_below ?_ HB5.out) | (with_reducible refine Kd.C_below ?_ HB6.out) | (with_reducible refine Kd.C_below ?_ HB7.out) | (with_reducible refine Kd.C_below ?_ HB8.out) | (with_reducible refine Kd.C_below ?_ HB9.out) | (with_reducible refine Kd.C_below ?_ HB10.out) | (with_reducible refine Kd.C_below ?_ HB11.out) | (with_reducible refine Kd.C_below ?_ HB14.out)))); (case c0 => (first | exact HD1.out | exact HD2.out | exact HD3.out | exact HD4.out | exact HD5.out | exact HD6.out | exact HD7.out | exact HD8.out | exact HD9.out | exact HD10.out | exact HD11.out | exact HD14.out | exact Nat.le_refl _)); rintro e w15 ⟨v15, rfl, ho15, hb15⟩; obtain ⟨A15, c15, hv15⟩ := Kd.R_slice ho15; subst hv15; have HC15 := Aside0.mk (Kd.R_reads' ho15).2.2; have HD15 := Aside0.mk (Kd.R_reads' ho15).2.1; clear ho15; have HB15 := Aside0.mk hb15; have HT15 := Aside0.mk (below_step (by repeat (first | exact HT14.out | exact HT11.out | exact HT10.out | exact HT9.out | exact HT8.out | exact HT7.out | exact HT6.out | exact HT5.out | exact HT4.out | exact HT3.out | exact HT2.out | exact HT1.out | exact HT0.out | apply below_alloc | apply pw_below_drewN | apply below_drew1)) hb15); clear hb15) | ((with_reducible refine gate_dst (N := 60) rfl ?_); (try (refine gate_guard (by rfl) ?_; dsimp only)); refine Kd.R_lit (Kd.int .i64) _ 3 ?hg (N := 60) ?hd (xs := ([0, 0] : List Int)) (inner := [.int .i64 0, .int .i64 0]) (ok := fun _ => True) (okp := fun _ => True) ?hr ?hp (fun _ hk => hk) trivial (Below.refl _ _) (Nat.le_refl _) (by simp) ?_; (case hd => rfl); (case hg => rfl); (case hr => first | (go_simp; done) | (go_simp; rfl)); (case hp => exact Reps.one (show Kd.M (Kd.int .i64) _ _ _ 0 [.int .i64 0] from rfl) (Reps.one (show Kd.M (Kd.int .i64) _ _ _ 0 [.int .i64 0] from rfl) (Reps.none _ _))); intro v16 w16 ho16 hb16 hg_ hn_; clear hg_ hn_; obtain ⟨A16, c16, hv16⟩ := Kd.R_slice ho16; subst hv16; have HC16 := Aside0.mk (Kd.R_reads' ho16).2.2; have HD16 := Aside0.mk (Kd.R_reads' ho16).2.1; clear ho16; have HB16 := Aside0.mk hb16; have HT16 := Aside0.mk (below_step (by repeat (first | exact HT15.out | exact HT14.out | exact HT11.out | exact HT10.out | exact HT9.out | exact HT8.out | exact HT7.out | exact HT6.out | exact HT5.out | exact HT4.out | exact HT3.out | exact HT2.out | exact HT1.out | exact HT0.out | apply below_alloc | apply pw_below_drewN | apply below_drew1)) hb16); clear hb16) | (go_at_call 24; (with_reducible refine (duetref01_Same.at 9 _ _ _ ([0, 0]) _ _ _ ([0, 0]) (true) _ ?s0 ?c0 ?s1 ?c1 E17.out).mono ?_); (case s0 => (repeat (first | exact HC1.out | exact HC2.out | exact HC3.out | exact HC4.out | exact HC5.out | exact HC6.out | exact HC7.out | exact HC8.out | exact HC9.out | exact HC10.out | exact HC11.out | exact HC14.out | exact HC15.out | exact HC16.out | exact Go.Proofs.Ytpoigdkbblmpaaa.XW.C_lit_i64 _ _ _ _ _ _ (by simp) rfl rfl (by decide) | (with_reducible refine Kd.C_alloc ?_ _) | (with_reducible refine Kd.C_drewN ?_ _) | (with_reducible refine Kd.C_drew ?_) | (with_reducible refine Kd.C_below ?_ HB1.out) | (with_reducible refine Kd.C_below ?_ HB2.out) | (with_reducible refine Kd.C_below ?_ HB3.out) | (with_reducible refine Kd.C_below ?_ HB4.out) | (with_reducible refine Kd.C_below ?_ HB5.out) | (with_reducible refine Kd.C_below ?_ HB6.out) | (with_reducible refine Kd.C_below ?_ HB7.out) | (with_reducible refine Kd.C_below ?_ HB8.out) | (with_reducible refine Kd.C_below ?_ HB9.out) | (with_reducible refine Kd.C_below ?_ HB10.out) | (with_reducible refine Kd.C_below ?_ HB11.out) | (with_reducible refine Kd.C_below ?_ HB14.out) | (with_reducible refine Kd.C_below ?_ HB15.out) | (with_reducible refine Kd.C_below ?_ HB16.out)))); (case c0 => (first | exact HD1.out | exact HD2.out | exact HD3.out | exact HD4.out | exact HD5.out | exact HD6.out | exact HD7.out | exact HD8.out | exact HD9.out | exact HD10.out | exact HD11.out | exact HD14.out | exact HD15.out | exact HD16.out | exact Nat.le_refl _)); (case s1 => (repeat (first | exact HC1.out | exact HC2.out | exact HC3.out | exact HC4.out | exact HC5.out | exact HC6.out | exact HC7.out | exact HC8.out | exact HC9.out | exact HC10.out | exact HC11.out | exact HC14.out | exact HC15.out | exact HC16.out | exact Go.Proofs.Ytpoigdkbblmpaaa.XW.C_lit_i64 _ _ _ _ _ _ (by simp) rfl rfl (by decide) | (with_reducible refine Kd.C_alloc ?_ _) | (with_reducible refine Kd.C_drewN ?_ _) | (with_reducible refine Kd.C_drew ?_) | (with_reducible refine Kd.C_below ?_ HB1.out) | (with_reducible refine Kd.C_below ?_ HB2.out) | (with_reducible refine Kd.C_below ?_ HB3.out) | (with_reducible refine Kd.C_below ?_ HB4.out) | (with_reducible refine Kd.C_below ?_ HB5.out) | (with_reducible refine Kd.C_below ?_ HB6.out) | (with_reducible refine Kd.C_below ?_ HB7.out) | (with_reducible refine Kd.C_below ?_ HB8.out) | (with_reducible refine Kd.C_below ?_ HB9.out) | (with_reducible refine Kd.C_below ?_ HB10.out) | (with_reducible refine Kd.C_below ?_ HB11.out) | (with_reducible refine Kd.C_below ?_ HB14.out) | (with_reducible refine Kd.C_below ?_ HB15.out) | (with_reducible refine Kd.C_below ?_ HB16.out)))); (case c1 => (first | exact HD1.out | exact HD2.out | exact HD3.out | exact HD4.out | exact HD5.out | exact HD6.out | exact HD7.out | exact HD8.out | exact HD9.out | exact HD10.out | exact HD11.out | exact HD14.out | exact HD15.out | exact HD16.out | exact Nat.le_refl _)); rintro e w' ⟨rfl, ⟨nd, rfl⟩⟩) | ((with_reducible refine gate_dst (N := 72) rfl ?_); (try (refine gate_guard (by rfl) ?_; dsimp only)); refine Kd.R_lit (Kd.int .i64) _ 3 ?hg (N := 72) ?hd (xs := ([1, 0] : List Int)) (inner := [.int .i64 1, .int .i64 0]) (ok := fun _ => True) (okp := fun _ => True) ?hr ?hp (fun _ hk => hk) trivial (Below.refl _ _) (Nat.le_refl _) (by simp) ?_; (case hd => rfl); (case hg => rfl); (case hr => first | (go_simp; done) | (go_simp; rfl)); (case hp => exact Reps.one (show Kd.M (Kd.int .i64) _ _ _ 1 [.int .i64 1] from rfl) (Reps.one (show Kd.M (Kd.int .i64) _ _ _ 0 [.int .i64 0] from rfl) (Reps.none _ _))); intro v18 w18 ho18 hb18 hg_ hn_; clear hg_ hn_; obtain ⟨A18, c18, hv18⟩ := Kd.R_slice ho18; subst hv18; have HC18 := Aside0.mk (Kd.R_reads' ho18).2.2; have HD18 := Aside0.mk (Kd.R_reads' ho18).2.1; clear ho18; have HB18 := Aside0.mk hb18; have HT18 := Aside0.mk (below_step (by repeat (first | exact HT16.out | exact HT15.out | exact HT14.out | exact HT11.out | exact HT10.out | exact HT9.out | exact HT8.out | exact HT7.out | exact HT6.out | exact HT5.out | exact HT4.out | exact HT3.out | exact HT2.out | exact HT1.out | exact HT0.out | apply below_alloc | apply pw_below_drewN | apply below_drew1)) hb18); clear hb18) | (go_at_call 24; (with_reducible refine (duetref01_Same.at 9 _ _ _ ([1, 0]) _ _ _ ([1, 0]) (true) _ ?s0 ?c0 ?s1 ?c1 E19.out).mono ?_); (case s0 => (repeat (first | exact HC1.out | exact HC2.out | exact HC3.out | exact HC4.out | exact HC5.out | exact HC6.out | exact HC7.out | exact HC8.out | exact HC9.out | exact HC10.out | exact HC11.out | exact HC14.out | exact HC15.out | exact HC16.out | exact HC18.out | exact Go.Proofs.Ytpoigdkbblmpaaa.XW.C_lit_i64 _ _ _ _ _ _ (by simp) rfl rfl (by decide) | (with_reducible refine Kd.C_alloc ?_ _) | (with_reducible refine Kd.C_drewN ?_ _) | (with_reducible refine Kd.C_drew ?_) | (with_reducible refine Kd.C_below ?_ HB1.out) | (with_reducible refine Kd.C_below ?_ HB2.out) | (with_reducible refine Kd.C_below ?_ HB3.out) | (with_reducible refine Kd.C_below ?_ HB4.out) | (with_reducible refine Kd.C_below ?_ HB5.out) | (with_reducible refine Kd.C_below ?_ HB6.out) | (with_reducible refine Kd.C_below ?_ HB7.out) | (with_reducible refine Kd.C_below ?_ HB8.out) | (with_reducible refine Kd.C_below ?_ HB9.out) | (with_reducible refine Kd.C_below ?_ HB10.out) | (with_reducible refine Kd.C_below ?_ HB11.out) | (with_reducible refine Kd.C_below ?_ HB14.out) | (with_reducible refine Kd.C_below ?_ HB15.out) | (with_reducible refine Kd.C_below ?_ HB16.out) | (with_reducible refine Kd.C_below ?_ HB18.out)))); (case c0 => (first | exact HD1.out | exact HD2.out | exact HD3.out | exact HD4.out | exact HD5.out | exact HD6.out | exact HD7.out | exact HD8.out | exact HD9.out | exact HD10.out | exact HD11.out | exact HD14.out | exact HD15.out | exact HD16.out | exact HD18.out | exact Nat.le_refl _)); (case s1 => (repeat (first | exact HC1.out | exact HC2.out | exact HC3.out | exact HC4.out | exact HC5.out | exact HC6.out | exact HC7.out | exact HC8.out | exact HC9.out | exact HC10.out | exact HC11.out | exact HC14.out | exact HC15.out | exact HC16.out | exact HC18.out | exact Go.Proofs.Ytpoigdkbblmpaaa.XW.C_lit_i64 _ _ _ _ _ _ (by simp) rfl rfl (by decide) | (with_reducible refine Kd.C_alloc ?_ _) | (with_reducible refine Kd.C_drewN ?_ _) | (with_reducible refine Kd.C_drew ?_) | (with_reducible refine Kd.C_below ?_ HB1.out) | (with_reducible refine Kd.C_below ?_ HB2.out) | (with_reducible refine Kd.C_below ?_ HB3.out) | (with_reducible refine Kd.C_below ?_ HB4.out) | (with_reducible refine Kd.C_below ?_ HB5.out) | (with_reducible refine Kd.C_below ?_ HB6.out) | (with_reducible refine Kd.C_below ?_ HB7.out) | (with_reducible refine Kd.C_below ?_ HB8.out) | (with_reducible refine Kd.C_below ?_ HB9.out) | (with_reducible refine Kd.C_below ?_ HB10.out) | (with_reducible refine Kd.C_below ?_ HB11.out) | (with_reducible refine Kd.C_below ?_ HB14.out) | (with_reducible refine Kd.C_below ?_ HB15.out) | (with_reducible refine Kd.C_below ?_ HB16.out) | (with_reducible refine Kd.C_below ?_ HB18.out)))); (case c1 => (first | exact HD1.out | exact HD2.out | exact HD3.out | exact HD4.out | exact HD5.out | exact HD6.out | exact HD7.out | exact HD8.out | exact HD9.out | exact HD10.out | exact HD11.out | exact HD14.out | exact HD15.out | exact HD16.out | exact HD18.out | exact Nat.le_refl _)); rintro e w' ⟨rfl, ⟨nd, rfl⟩⟩) | ((with_reducible refine gate_dst (N := 81) rfl ?_); (try (refine gate_guard (by rfl) ?_; dsimp only)); refine Kd.R_lit (Kd.int .i64) _ 3 ?hg (N := 81) ?hd (xs := ([2, 2] : List Int)) (inner := [.int .i64 2, .int .i64 2]) (ok := fun _ => True) (okp := fun _ => True) ?hr ?hp (fun _ hk => hk) trivial (Below.refl _ _) (Nat.le_refl _) (by simp) ?_; (case hd => rfl); (case hg => rfl); (case hr => first | (go_simp; done) | (go_simp; rfl)); (case hp => exact Reps.one (show Kd.M (Kd.int .i64) _ _ _ 2 [.int .i64 2] from rfl) (Reps.one (show Kd.M (Kd.int .i64) _ _ _ 2 [.int .i64 2] from rfl) (Reps.none _ _))); intro v20 w20 ho20 hb20 hg_ hn_; clear hg_ hn_; obtain ⟨A20, c20, hv20⟩ := Kd.R_slice ho20; subst hv20; have HC20 := Aside0.mk (Kd.R_reads' ho20).2.2; have HD20 := Aside0.mk (Kd.R_reads' ho20).2.1; clear ho20; have HB20 := Aside0.mk hb20; have HT20 := Aside0.mk (below_step (by repeat (first | exact HT18.out | exact HT16.out | exact HT15.out | exact HT14.out | exact HT11.out | exact HT10.out | exact HT9.out | exact HT8.out | exact HT7.out | exact HT6.out | exact HT5.out | exact HT4.out | exact HT3.out | exact HT2.out | exact HT1.out | exact HT0.out | apply below_alloc | apply pw_below_drewN | apply below_drew1)) hb20); clear hb20) | (go_at_call 24; (with_reducible refine (duetref01_Same.at 9 _ _ _ ([2, 2]) _ _ _ ([2, 2]) (true) _ ?s0 ?c0 ?s1 ?c1 E21.out).mono ?_); (case s0 => (repeat (first | exact HC1.out | exact HC2.out | exact HC3.out | exact HC4.out | exact HC5.out | exact HC6.out | exact HC7.out | exact HC8.out | exact HC9.out | exact HC10.out | exact HC11.out | exact HC14.out | exact HC15.out | exact HC16.out | exact HC18.out | exact HC20.out | exact Go.Proofs.Ytpoigdkbblmpaaa.XW.C_lit_i64 _ _ _ _ _ _ (by simp) rfl rfl (by decide) | (with_reducible refine Kd.C_alloc ?_ _) | (with_reducible refine Kd.C_drewN ?_ _) | (with_reducible refine Kd.C_drew ?_) | (with_reducible refine Kd.C_below ?_ HB1.out) | (with_reducible refine Kd.C_below ?_ HB2.out) | (with_reducible refine Kd.C_below ?_ HB3.out) | (with_reducible refine Kd.C_below ?_ HB4.out) | (with_reducible refine Kd.C_below ?_ HB5.out) | (with_reducible refine Kd.C_below ?_ HB6.out) | (with_reducible refine Kd.C_below ?_ HB7.out) | (with_reducible refine Kd.C_below ?_ HB8.out) | (with_reducible refine Kd.C_below ?_ HB9.out) | (with_reducible refine Kd.C_below ?_ HB10.out) | (with_reducible refine Kd.C_below ?_ HB11.out) | (with_reducible refine Kd.C_below ?_ HB14.out) | (with_reducible refine Kd.C_below ?_ HB15.out) | (with_reducible refine Kd.C_below ?_ HB16.out) | (with_reducible refine Kd.C_below ?_ HB18.out) | (with_reducible refine Kd.C_below ?_ HB20.out)))); (case c0 => (first | exact HD1.out | exact HD2.out | exact HD3.out | exact HD4.out | exact HD5.out | exact HD6.out | exact HD7.out | exact HD8.out | exact HD9.out | exact HD10.out | exact HD11.out | exact HD14.out | exact HD15.out | exact HD16.out | exact HD18.out | exact HD20.out | exact Nat.le_refl _)); (case s1 => (repeat (first | exact HC1.out | exact HC2.out | exact HC3.out | exact HC4.out | exact HC5.out | exact HC6.out | exact HC7.out | exact HC8.out | exact HC9.out | exact HC10.out | exact HC11.out | exact HC14.out | exact HC15.out | exact HC16.out | exact HC18.out | exact HC20.out | exact Go.Proofs.Ytpoigdkbblmpaaa.XW.C_lit_i64 _ _ _ _ _ _ (by simp) rfl rfl (by decide) | (with_reducible refine Kd.C_alloc ?_ _) | (with_reducible refine Kd.C_drewN ?_ _) | (with_reducible refine Kd.C_drew ?_) | (with_reducible refine Kd.C_below ?_ HB1.out) | (with_reducible refine Kd.C_below ?_ HB2.out) | (with_reducible refine Kd.C_below ?_ HB3.out) | (with_reducible refine Kd.C_below ?_ HB4.out) | (with_reducible refine Kd.C_below ?_ HB5.out) | (with_reducible refine Kd.C_below ?_ HB6.out) | (with_reducible refine Kd.C_below ?_ HB7.out) | (with_reducible refine Kd.C_below ?_ HB8.out) | (with_reducible refine Kd.C_below ?_ HB9.out) | (with_reducible refine Kd.C_below ?_ HB10.out) | (with_reducible refine Kd.C_below ?_ HB11.out) | (with_reducible refine Kd.C_below ?_ HB14.out) | (with_reducible refine Kd.C_below ?_ HB15.out) | (with_reducible refine Kd.C_below ?_ HB16.out) | (with_reducible refine Kd.C_below ?_ HB18.out) | (with_reducible refine Kd.C_below ?_ HB20.out)))); (case c1 => (first | exact HD1.out | exact HD2.out | exact HD3.out | exact HD4.out | exact HD5.out | exact HD6.out | exact HD7.out | exact HD8.out | exact HD9.out | exact HD10.out | exact HD11.out | exact HD14.out | exact HD15.out | exact HD16.out | exact HD18.out | exact HD20.out | exact Nat.le_refl _)); rintro e w' ⟨rfl, ⟨nd, rfl⟩⟩) | ((with_reducible refine gate_dst (N := 90) rfl ?_); (try (refine gate_guard (by rfl) ?_; dsimp only)); refine Kd.R_lit (Kd.int .i64) _ 3 ?hg (N := 90) ?hd (xs := ([1, 1] : List Int)) (inner := [.int .i64 1, .int .i64 1]) (ok := fun _ => True) (okp := fun _ => True) ?hr ?hp (fun _ hk => hk) trivial (Below.refl _ _) (Nat.le_refl _) (by simp) ?_; (case hd => rfl); (case hg => rfl); (case hr => first | (go_simp; done) | (go_simp; rfl)); (case hp => exact Reps.one (show Kd.M (Kd.int .i64) _ _ _ 1 [.int .i64 1] from rfl) (Reps.one (show Kd.M (Kd.int .i64) _ _ _ 1 [.int .i64 1] from rfl) (Reps.none _ _))); intro v22 w22 ho22 hb22 hg_ hn_; clear hg_ hn_; obtain ⟨A22, c22, hv22⟩ := Kd.R_slice ho22; subst hv22; have HC22 := Aside0.mk (Kd.R_reads' ho22).2.2; have HD22 := Aside0.mk (Kd.R_reads' ho22).2.1; clear ho22; have HB22 := Aside0.mk hb22; have HT22 := Aside0.mk (below_step (by repeat (first | exact HT20.out | exact HT18.out | exact HT16.out | exact HT15.out | exact HT14.out | exact HT11.out | exact HT10.out | exact HT9.out | exact HT8.out | exact HT7.out | exact HT6.out | exact HT5.out | exact HT4.out | exact HT3.out | exact HT2.out | exact HT1.out | exact HT0.out | apply below_alloc | apply pw_below_drewN | apply below_drew1)) hb22); clear hb22) | (go_at_call 24; (with_reducible refine (duetref01_Same.at 9 _ _ _ ([1, 1]) _ _ _ ([1, 1]) (true) _ ?s0 ?c0 ?s1 ?c1 E23.out).mono ?_); (case s0 => (repeat (first | exact HC1.out | exact HC2.out | exact HC3.out | exact HC4.out | exact HC5.out | exact HC6.out | exact HC7.out | exact HC8.out | exact HC9.out | exact HC10.out | exact HC11.out | exact HC14.out | exact HC15.out | exact HC16.out | exact HC18.out | exact HC20.out | exact HC22.out | exact Go.Proofs.Ytpoigdkbblmpaaa.XW.C_lit_i64 _ _ _ _ _ _ (by simp) rfl rfl (by decide) | (with_reducible refine Kd.C_alloc ?_ _) | (with_reducible refine Kd.C_drewN ?_ _) | (with_reducible refine Kd.C_drew ?_) | (with_reducible refine Kd.C_below ?_ HB1.out) | (with_reducible refine Kd.C_below ?_ HB2.out) | (with_reducible refine Kd.C_below ?_ HB3.out) | (with_reducible refine Kd.C_below ?_ HB4.out) | (with_reducible refine Kd.C_below ?_ HB5.out) | (with_reducible refine Kd.C_below ?_ HB6.out) | (with_reducible refine Kd.C_below ?_ HB7.out) | (with_reducible refine Kd.C_below ?_ HB8.out) | (with_reducible refine Kd.C_below ?_ HB9.out) | (with_reducible refine Kd.C_below ?_ HB10.out) | (with_reducible refine Kd.C_below ?_ HB11.out) | (with_reducible refine Kd.C_below ?_ HB14.out) | (with_reducible refine Kd.C_below ?_ HB15.out) | (with_reducible refine Kd.C_below ?_ HB16.out) | (with_reducible refine Kd.C_below ?_ HB18.out) | (with_reducible refine Kd.C_below ?_ HB20.out) | (with_reducible refine Kd.C_below ?_ HB22.out)))); (case c0 => (first | exact HD1.out | exact HD2.out | exact HD3.out | exact HD4.out | exact HD5.out | exact HD6.out | exact HD7.out | exact HD8.out | exact HD9.out | exact HD10.out | exact HD11.out | exact HD14.out | exact HD15.out | exact HD16.out | exact HD18.out | exact HD20.out | exact HD22.out | exact Nat.le_refl _)); (case s1 => (repeat (first | exact HC1.out | exact HC2.out | exact HC3.out | exact HC4.out | exact HC5.out | exact HC6.out | exact HC7.out | exact HC8.out | exact HC9.out | exact HC10.out | exact HC11.out | exact HC14.out | exact HC15.out | exact HC16.out | exact HC18.out | exact HC20.out | exact HC22.out | exact Go.Proofs.Ytpoigdkbblmpaaa.XW.C_lit_i64 _ _ _ _ _ _ (by simp) rfl rfl (by decide) | (with_reducible refine Kd.C_alloc ?_ _) | (with_reducible refine Kd.C_drewN ?_ _) | (with_reducible refine Kd.C_drew ?_) | (with_reducible refine Kd.C_below ?_ HB1.out) | (with_reducible refine Kd.C_below ?_ HB2.out) | (with_reducible refine Kd.C_below ?_ HB3.out) | (with_reducible refine Kd.C_below ?_ HB4.out) | (with_reducible refine Kd.C_below ?_ HB5.out) | (with_reducible refine Kd.C_below ?_ HB6.out) | (with_reducible refine Kd.C_below ?_ HB7.out) | (with_reducible refine Kd.C_below ?_ HB8.out) | (with_reducible refine Kd.C_below ?_ HB9.out) | (with_reducible refine Kd.C_below ?_ HB10.out) | (with_reducible refine Kd.C_below ?_ HB11.out) | (with_reducible refine Kd.C_below ?_ HB14.out) | (with_reducible refine Kd.C_below ?_ HB15.out) | (with_reducible refine Kd.C_below ?_ HB16.out) | (with_reducible refine Kd.C_below ?_ HB18.out) | (with_reducible refine Kd.C_below ?_ HB20.out) | (with_reducible refine Kd.C_below ?_ HB22.out)))); (case c1 => (first | exact HD1.out | exact HD2.out | exact HD3.out | exact HD4.out | exact HD5.out | exact HD6.out | exact HD7.out | exact HD8.out | exact HD9.out | exact HD10.out | exact HD11.out | exact HD14.out | exact HD15.out | exact HD16.out | exact HD18.out | exact HD20.out | exact HD22.out | exact Nat.le_refl _)); rintro e w' ⟨rfl, ⟨nd, rfl⟩⟩) | (go_at_call 27; (with_reducible refine (vec_Vec_Covers.at _ _ _ ([1, 0]) (0) (1) (true) _ ?s0 ?c0 E24.out).mono ?_); (case s0 => (repeat (first | exact HC1.out | exact HC2.out | exact HC3.out | exact HC4.out | exact HC5.out | exact HC6.out | exact HC7.out | exact HC8.out | exact HC9.out | exact HC10.out | exact HC11.out | exact HC14.out | exact HC15.out | exact HC16.out | exact HC18.out | exact HC20.out | exact HC22.out | exact Go.Proofs.Ytpoigdkbblmpaaa.XW.C_lit_i64 _ _ _ _ _ _ (by simp) rfl rfl (by decide) | (with_reducible refine Kd.C_alloc ?_ _) | (with_reducible refine Kd.C_drewN ?_ _) | (with_reducible refine Kd.C_drew ?_) | (with_reducible refine Kd.C_below ?_ HB1.out) | (with_reducible refine Kd.C_below ?_ HB2.out) | (with_reducible refine Kd.C_below ?_ HB3.out) | (with_reducible refine Kd.C_below ?_ HB4.out) | (with_reducible refine Kd.C_below ?_ HB5.out) | (with_reducible refine Kd.C_below ?_ HB6.out) | (with_reducible refine Kd.C_below ?_ HB7.out) | (with_reducible refine Kd.C_below ?_ HB8.out) | (with_reducible refine Kd.C_below ?_ HB9.out) | (with_reducible refine Kd.C_below ?_ HB10.out) | (with_reducible refine Kd.C_below ?_ HB11.out) | (with_reducible refine Kd.C_below ?_ HB14.out) | (with_reducible refine Kd.C_below ?_ HB15.out) | (with_reducible refine Kd.C_below ?_ HB16.out) | (with_reducible refine Kd.C_below ?_ HB18.out) | (with_reducible refine Kd.C_below ?_ HB20.out) | (with_reducible refine Kd.C_below ?_ HB22.out)))); (case c0 => (first | exact HD1.out | exact HD2.out | exact HD3.out | exact HD4.out | exact HD5.out | exact HD6.out | exact HD7.out | exact HD8.out | exact HD9.out | exact HD10.out | exact HD11.out | exact HD14.out | exact HD15.out | exact HD16.out | exact HD18.out | exact HD20.out | exact HD22.out | exact Nat.le_refl _)); rintro e w' ⟨rfl, ⟨nd, rfl⟩⟩) | (go_at_call 27; (with_reducible refine (vec_Vec_Covers.at _ _ _ ([1, 0]) (0) (2) (false) _ ?s0 ?c0 E25.out).mono ?_); (case s0 => (repeat (first | exact HC1.out | exact HC2.out | exact HC3.out | exact HC4.out | exact HC5.out | exact HC6.out | exact HC7.out | exact HC8.out | exact HC9.out | exact HC10.out | exact HC11.out | exact HC14.out | exact HC15.out | exact HC16.out | exact HC18.out | exact HC20.out | exact HC22.out | exact Go.Proofs.Ytpoigdkbblmpaaa.XW.C_lit_i64 _ _ _ _ _ _ (by simp) rfl rfl (by decide) | (with_reducible refine Kd.C_alloc ?_ _) | (with_reducible refine Kd.C_drewN ?_ _) | (with_reducible refine Kd.C_drew ?_) | (with_reducible refine Kd.C_below ?_ HB1.out) | (with_reducible refine Kd.C_below ?_ HB2.out) | (with_reducible refine Kd.C_below ?_ HB3.out) | (with_reducible refine Kd.C_below ?_ HB4.out) | (with_reducible refine Kd.C_below ?_ HB5.out) | (with_reducible refine Kd.C_below ?_ HB6.out) | (with_reducible refine Kd.C_below ?_ HB7.out) | (with_reducible refine Kd.C_below ?_ HB8.out) | (with_reducible refine Kd.C_below ?_ HB9.out) | (with_reducible refine Kd.C_below ?_ HB10.out) | (with_reducible refine Kd.C_below ?_ HB11.out) | (with_reducible refine Kd.C_below ?_ HB14.out) | (with_reducible refine Kd.C_below ?_ HB15.out) | (with_reducible refine Kd.C_below ?_ HB16.out) | (with_reducible refine Kd.C_below ?_ HB18.out) | (with_reducible refine Kd.C_below ?_ HB20.out) | (with_reducible refine Kd.C_below ?_ HB22.out)))); (case c0 => (first | exact HD1.out | exact HD2.out | exact HD3.out | exact HD4.out | exact HD5.out | exact HD6.out | exact HD7.out | exact HD8.out | exact HD9.out | exact HD10.out | exact HD11.out | exact HD14.out | exact HD15.out | exact HD16.out | exact HD18.out | exact HD20.out | exact HD22.out | exact Nat.le_refl _)); rintro e w' ⟨rfl, ⟨nd, rfl⟩⟩) | (go_at_call 29; (with_reducible refine (vec_Vec_Check.at _ _ _ ([1, 0]) (0) _ ?s0 ?c0 E26.out).mono ?_); (case s0 => (repeat (first | exact HC1.out | exact HC2.out | exact HC3.out | exact HC4.out | exact HC5.out | exact HC6.out | exact HC7.out | exact HC8.out | exact HC9.out | exact HC10.out | exact HC11.out | exact HC14.out | exact HC15.out | exact HC16.out | exact HC18.out | exact HC20.out | exact HC22.out | exact Go.Proofs.Ytpoigdkbblmpaaa.XW.C_lit_i64 _ _ _ _ _ _ (by simp) rfl rfl (by decide) | (with_reducible refine Kd.C_alloc ?_ _) | (with_reducible refine Kd.C_drewN ?_ _) | (with_reducible refine Kd.C_drew ?_) | (with_reducible refine Kd.C_below ?_ HB1.out) | (with_reducible refine Kd.C_below ?_ HB2.out) | (with_reducible refine Kd.C_below ?_ HB3.out) | (with_reducible refine Kd.C_below ?_ HB4.out) | (with_reducible refine Kd.C_below ?_ HB5.out) | (with_reducible refine Kd.C_below ?_ HB6.out) | (with_reducible refine Kd.C_below ?_ HB7.out) | (with_reducible refine Kd.C_below ?_ HB8.out) | (with_reducible refine Kd.C_below ?_ HB9.out) | (with_reducible refine Kd.C_below ?_ HB10.out) | (with_reducible refine Kd.C_below ?_ HB11.out) | (with_reducible refine Kd.C_below ?_ HB14.out) | (with_reducible refine Kd.C_below ?_ HB15.out) | (with_reducible refine Kd.C_below ?_ HB16.out) | (with_reducible refine Kd.C_below ?_ HB18.out) | (with_reducible refine Kd.C_below ?_ HB20.out) | (with_reducible refine Kd.C_below ?_ HB22.out)))); (case c0 => (first | exact HD1.out | exact HD2.out | exact HD3.out | exact HD4.out | exact HD5.out | exact HD6.out | exact HD7.out | exact HD8.out | exact HD9.out | exact HD10.out | exact HD11.out | exact HD14.out | exact HD15.out | exact HD16.out | exact HD18.out | exact HD20.out | exact HD22.out | exact Nat.le_refl _)); rintro e w' ⟨rfl, ⟨nd, rfl⟩⟩))
  go_ret
  exact ⟨rfl, (by repeat (first | exact HT22.out | exact HT20.out | exact HT18.out | exact HT16.out | exact HT15.out | exact HT14.out | exact HT11.out | exact HT10.out | exact HT9.out | exact HT8.out | exact HT7.out | exact HT6.out | exact HT5.out | exact HT4.out | exact HT3.out | exact HT2.out | exact HT1.out | exact HT0.out | apply below_alloc | apply pw_below_drewN | apply below_drew1))⟩


/-! ### duetref06_May: function 30 -/
def duetref06_May.l0 : Nat → List Int → Int → Option (Bool)
  | 0, _, _ => none
  | k + 1, x0, x3 => if x3 < (x0.length : Int) then (if 0 ≤ x3 then (if (rd x0 x3) < 0 then (some false) else (if (rd x0 x3) > 4294967295 then (some false) else (duetref06_May.l0 k x0 (wrap64 (x3 + 1))))) else (none)) else (if (x0.length : Int) ≥ 1 then (some (decide ((x0.length : Int) ≤ 16))) else (some false))
def duetref06_May.f (k : Nat) (l0 : List Int) : Option (Bool) := duetref06_May.l0 k l0 0
theorem duetref06_May.mono_l : ∀ k, (∀ y0 y1, LeO (duetref06_May.l0 k y0 y1) (duetref06_May.l0 (k + 1) y0 y1))
  | 0 => fun _ _ r h => by simp [duetref06_May.l0] at h
  | k + 1 => by
    have ih0 := duetref06_May.mono_l k
    · intro y0 y1
      unfold duetref06_May.l0
      repeat' first
      | (with_reducible exact ih0 _ _)
      | (with_reducible exact LeO.refl _)
      | (with_reducible exact LeO.none _)
      | (with_reducible refine LeO.ite ?_ ?_)
      | (with_reducible refine LeO.bind ?_ (fun _ => ?_))
      | exact ih0 _ _
      | exact LeO.none _
      | refine LeO.ite ?_ ?_
      | refine LeO.bind ?_ (fun _ => ?_)
theorem duetref06_May.mono : ∀ a0 k, LeO (duetref06_May.f k a0) (duetref06_May.f (k + 1) a0) := by
  intro a0 k
  have ih0 := duetref06_May.mono_l k
  unfold duetref06_May.f
  repeat' first
      | (with_reducible exact ih0 _ _)
      | (with_reducible exact LeO.refl _)
      | (with_reducible exact LeO.none _)
      | (with_reducible refine LeO.ite ?_ ?_)
      | (with_reducible refine LeO.bind ?_ (fun _ => ?_))
      | exact ih0 _ _
      | exact LeO.none _
      | refine LeO.ite ?_ ?_
      | refine LeO.bind ?_ (fun _ => ?_)
set_option maxHeartbeats 8000000 in
set_option maxRecDepth 100000 in
theorem duetref06_May.calls (k : Nat) (A0 : Option Addr) (c0 : Nat) (l0 : List Int) (r : Bool) (w : World) (hr0 : Kd.C (Kd.int .i64) w A0 l0.length l0) (hc0 : l0.length ≤ c0) (h : duetref06_May.f k l0 = some r) :
    Calls Try.prog 30 #[.slice A0 l0.length c0] w fun e w' => e = .returned (.bool r) ∧ Drawn0 w w' := by
  have HR0 := Aside0.mk hr0
  have HC0 := Aside0.mk hc0
  clear hr0 hc0
  have H : (duetref06_May.l0 k l0 0) = some r := h
  clear h
  have H' := Aside0.mk H
  clear H
  go_enter Try.func30, Try.ntmps30
  go_wp2
  go_loopg [3] k (fun kq v3 w' => ∃ (x3_1 : Int), v3 = .int .i64 x3_1 ∧ Aside0 (duetref06_May.l0 kq l0 x3_1 = some r) ∧ Aside0 (kq ≤ k) ∧ Drawn0 w w')
  case atStart => exact ⟨(0), (by first | rfl | (simp; done) | (simp [*]; done)), H', ⟨Nat.le_refl _⟩, by repeat (first | exact Drawn0.refl _ | apply Drawn0.step)⟩
  case round =>
    clear H'
    obtain ⟨x3_1, rfl, HA, HK1, ⟨m1, rfl⟩⟩ := hrel
    cases gk with
    | zero => exact absurd HA.out (by simp [duetref06_May.l0])
    | succ k1 =>
      have H := HA.out
      clear HA
      simp only [duetref06_May.l0] at H
      by_cases c2 : x3_1 < (l0.length : Int)
      · rw [if_pos c2] at H
        have c2b0 : decide (x3_1 < (l0.length : Int)) = true := decide_eq_true c2
        clear c2
        by_cases c3 : 0 ≤ x3_1
        · rw [if_pos c3] at H
          have c3b0 : decide (0 ≤ x3_1) = true := decide_eq_true c3
          clear c3
          by_cases c4 : (rd l0 x3_1) < 0
          · rw [if_pos c4] at H
            have c4b0 : decide ((rd l0 x3_1) < 0) = true := decide_eq_true c4
            clear c4
            obtain rfl := Option.some.inj H
            have p123 : 0 ≤ (x3_1 : Int) := of_decide_eq_true (by first | (with_reducible assumption) | assumption)
            have q123 : x3_1 < (l0.length : Int) := of_decide_eq_true (by first | (with_reducible assumption) | assumption)
            obtain ⟨ad123, e123, hx123_0⟩ := Kd.at_int HR0.out x3_1 p123 q123
            cases e123
            replace p123 := eq_true p123
            replace q123 := eq_true q123
            go_wp2
            go_ret
            exact ⟨by first | rfl | (simp; done) | (simp [*]; done), by repeat (first | exact Drawn0.refl _ | apply Drawn0.step)⟩
          · rw [if_neg c4] at H
            have c4b0 : decide ((rd l0 x3_1) < 0) = false := decide_eq_false c4
            clear c4
            by_cases c5 : (rd l0 x3_1) > 4294967295
            · rw [if_pos c5] at H
              have c5b0 : decide (4294967295 < (rd l0 x3_1)) = true := decide_eq_true c5
              clear c5
              obtain rfl := Option.some.inj H
              have p123 : 0 ≤ (x3_1 : Int) := of_decide_eq_true (by first | (with_reducible assumption) | assumption)
              have q123 : x3_1 < (l0.length : Int) := of_decide_eq_true (by first | (with_reducible assumption) | assumption)
              obtain ⟨ad123, e123, hx123_0⟩ := Kd.at_int HR0.out x3_1 p123 q123
              cases e123
              replace p123 := eq_true p123
              replace q123 := eq_true q123
              have p124 : 0 ≤ (x3_1 : Int) := of_decide_eq_true (by first | (with_reducible assumption) | assumption)
              have q124 : x3_1 < (l0.length : Int) := of_decide_eq_true (by first | (with_reducible assumption) | assumption)
              obtain ⟨ad124, e124, hx124_0⟩ := Kd.at_int HR0.out x3_1 p124 q124
              obtain rfl : ad123 = ad124 := (by injection e124)
              replace p124 := eq_true p124
              replace q124 := eq_true q124
              go_wp2
              go_ret
              exact ⟨by first | rfl | (simp; done) | (simp [*]; done), by repeat (first | exact Drawn0.refl _ | apply Drawn0.step)⟩
            · rw [if_neg c5] at H
              have c5b0 : decide (4294967295 < (rd l0 x3_1)) = false := decide_eq_false c5
              clear c5
              have H' := Aside0.mk H
              clear H
              have p123 : 0 ≤ (x3_1 : Int) := of_decide_eq_true (by first | (with_reducible assumption) | assumption)
              have q123 : x3_1 < (l0.length : Int) := of_decide_eq_true (by first | (with_reducible assumption) | assumption)
              obtain ⟨ad123, e123, hx123_0⟩ := Kd.at_int HR0.out x3_1 p123 q123
              cases e123
              replace p123 := eq_true p123
              replace q123 := eq_true q123
              have p124 : 0 ≤ (x3_1 : Int) := of_decide_eq_true (by first | (with_reducible assumption) | assumption)
              have q124 : x3_1 < (l0.length : Int) := of_decide_eq_true (by first | (with_reducible assumption) | assumption)
              obtain ⟨ad124, e124, hx124_0⟩ := Kd.at_int HR0.out x3_1 p124 q124
              obtain rfl : ad123 = ad124 := (by injection e124)
              replace p124 := eq_true p124
              replace q124 := eq_true q124
              go_wp2
              go_roundg k1
              case measure => have := HK1.out; omega
              case rel => exact ⟨(wrap64 (x3_1 + 1)), (by first | rfl | (simp; done) | (simp [*]; done)), H', ⟨by have := HK1.out; omega⟩, by repeat (first | exact Drawn0.refl _ | apply Drawn0.step)⟩
        · rw [if_neg c3] at H
          exact absurd H (by simp)
      · rw [if_neg c2] at H
        have c2b0 : decide (x3_1 < (l0.length : Int)) = false := decide_eq_false c2
        clear c2
        by_cases c6 : (l0.length : Int) ≥ 1
        · rw [if_pos c6] at H
          have c6b0 : decide (1 ≤ (l0.length : Int)) = true := decide_eq_true c6
          have c6b1 : decide (1 ≤ l0.length) = true := decide_eq_true (by omega)
          clear c6
          obtain rfl := Option.some.inj H
          go_wp2
          go_ret
          exact ⟨by first | rfl | (simp; done) | (simp [*]; done), by repeat (first | exact Drawn0.refl _ | apply Drawn0.step)⟩
        · rw [if_neg c6] at H
          have c6b0 : decide (1 ≤ (l0.length : Int)) = false := decide_eq_false c6
          have c6b1 : decide (1 ≤ l0.length) = false := decide_eq_false (by omega)
          clear c6
          obtain rfl := Option.some.inj H
          go_wp2
          go_ret
          exact ⟨by first | rfl | (simp; done) | (simp [*]; done), by repeat (first | exact Drawn0.refl _ | apply Drawn0.step)⟩
theorem duetref06_May.at (k : Nat) (A0 : Option Addr) (c0 : Nat) (n0 : Nat) (l0 : List Int) (r : Bool) (w : World) (hr0 : Kd.C (Kd.int .i64) w A0 n0 l0) (hc0 : n0 ≤ c0) (h : duetref06_May.f k l0 = some r) :
    Calls Try.prog 30 #[.slice A0 n0 c0] w fun e w' => e = .returned (.bool r) ∧ Drawn0 w w' := by
  obtain rfl : l0.length = n0 := Kd.C_len hr0
  exact duetref06_May.calls k A0 c0 l0 r w hr0 hc0 h

/-! ### duetref06_Tick: function 17 -/
def duetref06_Tick.j0 : Nat → List Int → Int → Bool → Option (List Int × Int)
  | 0, _, _, _ => none
  | k + 1, x0, x1, x19 => if x19 = true then (some (([] : List Int), 1)) else (if 0 ≤ x1 then (if x1 < (x0.length : Int) then (if (rd x0 x1) = 4294967295 then (some (([] : List Int), 5)) else (if ([] : List Int).length + x0.length < 17592186044416 then ((some (([] : List Int) ++ x0 : List Int)).bind fun y127 => (if x1 < (y127.length : Int) then (some ((y127.set (x1 : Int).toNat (wrap64 ((rd y127 x1) + 1))), 0)) else (none))) else (none))) else (none)) else (none))
def duetref06_Tick.f (k : Nat) (l0 : List Int) (a1 : Int) : Option (List Int × Int) := (duetref06_May.f k l0).bind fun t125 => (if t125 = true then (if a1 < 0 then (duetref06_Tick.j0 k l0 a1 true) else (duetref06_Tick.j0 k l0 a1 (decide (a1 ≥ (l0.length : Int))))) else (duetref06_Tick.j0 k l0 a1 true))
theorem duetref06_Tick.mono_l : ∀ k, (∀ y0 y1 y2, LeO (duetref06_Tick.j0 k y0 y1 y2) (duetref06_Tick.j0 (k + 1) y0 y1 y2))
  | 0 => fun _ _ _ r h => by simp [duetref06_Tick.j0] at h
  | k + 1 => by
    have ih0 := duetref06_Tick.mono_l k
    · intro y0 y1 y2
      unfold duetref06_Tick.j0
      repeat' first
      | (with_reducible exact ih0 _ _ _)
      | (with_reducible exact duetref06_May.mono _ _)
      | (with_reducible exact LeO.refl _)
      | (with_reducible exact LeO.none _)
      | (with_reducible refine LeO.ite ?_ ?_)
      | (with_reducible refine LeO.bind ?_ (fun _ => ?_))
      | exact ih0 _ _ _
      | exact duetref06_May.mono _ _
      | exact LeO.none _
      | refine LeO.ite ?_ ?_
      | refine LeO.bind ?_ (fun _ => ?_)
theorem duetref06_Tick.mono : ∀ a0 a1 k, LeO (duetref06_Tick.f k a0 a1) (duetref06_Tick.f (k + 1) a0 a1) := by
  intro a0 a1 k
  have ih0 := duetref06_Tick.mono_l k
  unfold duetref06_Tick.f
  repeat' first
      | (with_reducible exact ih0 _ _ _)
      | (with_reducible exact duetref06_May.mono _ _)
      | (with_reducible exact LeO.refl _)
      | (with_reducible exact LeO.none _)
      | (with_reducible refine LeO.ite ?_ ?_)
      | (with_reducible refine LeO.bind ?_ (fun _ => ?_))
      | exact ih0 _ _ _
      | exact duetref06_May.mono _ _
      | exact LeO.none _
      | refine LeO.ite ?_ ?_
      | refine LeO.bind ?_ (fun _ => ?_)
set_option maxHeartbeats 8000000 in
set_option maxRecDepth 100000 in
theorem duetref06_Tick.calls (k : Nat) (A0 : Option Addr) (c0 : Nat) (l0 : List Int) (a1 : Int) (r1 : List Int) (r2 : Int) (w : World) (hr0 : Kd.C (Kd.int .i64) w A0 l0.length l0) (hc0 : l0.length ≤ c0) (h : duetref06_Tick.f k l0 a1 = some (r1, r2)) :
    Calls Try.prog 17 #[.slice A0 l0.length c0, .int .i64 a1] w fun e w' => ∃ v0_ : Value, e = .returned (.tuple #[v0_, .int .i64 r2]) ∧ Kd.R (Kd.int .i64) 3 w' w.heap.size (fun _ => True) v0_ r1 ∧ Below w.heap.size w w' := by
  have HR0 := Aside0.mk hr0
  have HC0 := Aside0.mk hc0
  clear hr0 hc0
  have HB := Aside0.mk (Below.refl w.heap.size w)
  have H : ((duetref06_May.f k l0).bind fun t125 => (if t125 = true then (if a1 < 0 then (duetref06_Tick.j0 k l0 a1 true) else (duetref06_Tick.j0 k l0 a1 (decide (a1 ≥ (l0.length : Int))))) else (duetref06_Tick.j0 k l0 a1 true))) = some (r1, r2) := h
  clear h
  have HC3 := Aside0.mk H
  clear H
  go_enter Try.func17, Try.ntmps17
  go_upto_region 1 with (fail)
  go_cut [19] (fun v19 wc => ∃ (kq : Nat) (x19_2 : Bool), v19 = .bool x19_2 ∧ Aside0 (duetref06_Tick.j0 kq l0 a1 x19_2 = some (r1, r2)) ∧ Aside0 (kq ≤ k) ∧ Aside0 (Below w.heap.size w wc))
  case first =>
    have H := HC3.out
    clear HC3
    replace H := Option.bind_eq_some_iff.mp H
    obtain ⟨t125, A40, H⟩ := H
    replace H : (if t125 = true then (if a1 < 0 then (duetref06_Tick.j0 k l0 a1 true) else (duetref06_Tick.j0 k l0 a1 (decide (a1 ≥ (l0.length : Int))))) else (duetref06_Tick.j0 k l0 a1 true)) = some (r1, r2) := H
    have A4 := Aside0.mk A40
    clear A40
    by_cases c5 : t125 = true
    · subst c5
      have H1 : (if a1 < 0 then (duetref06_Tick.j0 k l0 a1 true) else (duetref06_Tick.j0 k l0 a1 (decide (a1 ≥ (l0.length : Int))))) = some (r1, r2) := by rw [if_pos rfl] at H; exact H
      clear H
      have H := H1
      clear H1
      by_cases c6 : a1 < 0
      · rw [if_pos c6] at H
        have c6b0 : decide (a1 < 0) = true := decide_eq_true c6
        clear c6
        (first | rw [c6b0] | (simp only [i64_w, i32_w]; rw [c6b0]) | skip)
        have H' := Aside0.mk H
        clear H
        go_wp2_with (first | ((with_reducible refine gate_callee (f := 30) rfl ?_); refine goesL_ (some 8) rfl rfl Try.func30 (by kernel_rfl) rfl #[.slice A0 l0.length c0] rfl (by (try simp only [List.map_toArray, List.map_cons, List.map_nil]); first | done | rfl | (simp only [List.length_drop, List.length_take]; rfl)) ?_; (with_reducible refine (duetref06_May.calls k _ _ l0 true _ ?side1 ?side2 A4.out).mono ?_); (case side1 => repeat (first | exact (Kd.C_below HR0.out HB.out) | (with_reducible refine Kd.C_alloc ?_ _) | (with_reducible refine Kd.C_drewN ?_ _) | (with_reducible refine Kd.C_drew ?_))); (case side2 => exact HC0.out); rintro e w' ⟨rfl, ⟨nd, rfl⟩⟩; refine ⟨_, rfl, ?_⟩))
        go_meet
        case rel => exact ⟨_, (true), (by first | rfl | (simp; done) | (simp [*]; done)), H', ⟨by first | omega | exact Nat.le_refl _⟩, ⟨by repeat (first | (with_reducible first | exact HB.out | apply below_alloc | apply pw_below_drewN | apply below_drew1) | exact HB.out)⟩⟩
      · rw [if_neg c6] at H
        have c6b0 : decide (a1 < 0) = false := decide_eq_false c6
        clear c6
        (first | rw [c6b0] | (simp only [i64_w, i32_w]; rw [c6b0]) | skip)
        have H' := Aside0.mk H
        clear H
        go_wp2_with (first | ((with_reducible refine gate_callee (f := 30) rfl ?_); refine goesL_ (some 8) rfl rfl Try.func30 (by kernel_rfl) rfl #[.slice A0 l0.length c0] rfl (by (try simp only [List.map_toArray, List.map_cons, List.map_nil]); first | done | rfl | (simp only [List.length_drop, List.length_take]; rfl)) ?_; (with_reducible refine (duetref06_May.calls k _ _ l0 true _ ?side1 ?side2 A4.out).mono ?_); (case side1 => repeat (first | exact (Kd.C_below HR0.out HB.out) | (with_reducible refine Kd.C_alloc ?_ _) | (with_reducible refine Kd.C_drewN ?_ _) | (with_reducible refine Kd.C_drew ?_))); (case side2 => exact HC0.out); rintro e w' ⟨rfl, ⟨nd, rfl⟩⟩; refine ⟨_, rfl, ?_⟩))
        go_meet
        case rel => exact ⟨_, (decide (a1 ≥ (l0.length : Int))), (by first | rfl | (simp; done) | (simp [*]; done)), H', ⟨by first | omega | exact Nat.le_refl _⟩, ⟨by repeat (first | (with_reducible first | exact HB.out | apply below_alloc | apply pw_below_drewN | apply below_drew1) | exact HB.out)⟩⟩
    · replace c5 := Bool.eq_false_iff.mpr c5
      subst c5
      have H1 : (duetref06_Tick.j0 k l0 a1 true) = some (r1, r2) := by rw [if_neg (show ¬ (false = true) by decide)] at H; exact H
      clear H
      have H := H1
      clear H1
      have H' := Aside0.mk H
      clear H
      go_wp2_with (first | ((with_reducible refine gate_callee (f := 30) rfl ?_); refine goesL_ (some 8) rfl rfl Try.func30 (by kernel_rfl) rfl #[.slice A0 l0.length c0] rfl (by (try simp only [List.map_toArray, List.map_cons, List.map_nil]); first | done | rfl | (simp only [List.length_drop, List.length_take]; rfl)) ?_; (with_reducible refine (duetref06_May.calls k _ _ l0 false _ ?side1 ?side2 A4.out).mono ?_); (case side1 => repeat (first | exact (Kd.C_below HR0.out HB.out) | (with_reducible refine Kd.C_alloc ?_ _) | (with_reducible refine Kd.C_drewN ?_ _) | (with_reducible refine Kd.C_drew ?_))); (case side2 => exact HC0.out); rintro e w' ⟨rfl, ⟨nd, rfl⟩⟩; refine ⟨_, rfl, ?_⟩))
      go_meet
      case rel => exact ⟨_, (true), (by first | rfl | (simp; done) | (simp [*]; done)), H', ⟨by first | omega | exact Nat.le_refl _⟩, ⟨by repeat (first | (with_reducible first | exact HB.out | apply below_alloc | apply pw_below_drewN | apply below_drew1) | exact HB.out)⟩⟩
  case rest =>
    clear HC3
    try clear c1
    try clear p2
    try clear c3
    try clear c5
    try clear c6
    try clear c6b0
    obtain ⟨kq, x19_2, rfl, HA, HJ2, HB⟩ := hcut
    cases kq with
    | zero => exact absurd HA.out (by simp [duetref06_Tick.j0])
    | succ kj2 =>
      have H := HA.out
      clear HA
      simp only [duetref06_Tick.j0] at H
      by_cases c7 : x19_2 = true
      · subst c7
        have H1 : (some (([] : List Int), 1)) = some (r1, r2) := by rw [if_pos rfl] at H; exact H
        clear H
        have H := H1
        clear H1
        simp only [Option.some.injEq, Prod.mk.injEq] at H
        obtain ⟨rfl, rfl⟩ := H
        go_wp2
        go_ret2
        exact ⟨_, by first | rfl | (simp [errW_none, errW_some] <;> rfl) | (simp [*, errW_none, errW_some] <;> rfl), by first | exact Kd.R_nil _ _ _ _ _ | exact Kd.N_nil _ _ _ _ _ | exact Kd.V_nil _ _ _ _ _ | exact Kd.Q_nil _ _ _ _ _ | exact Kd.S_nil _ _ _ _ _, by repeat (first | (with_reducible first | exact HB.out | apply below_alloc | apply pw_below_drewN | apply below_drew1) | exact HB.out)⟩
      · replace c7 := Bool.eq_false_iff.mpr c7
        subst c7
        have H1 : (if 0 ≤ a1 then (if a1 < (l0.length : Int) then (if (rd l0 a1) = 4294967295 then (some (([] : List Int), 5)) else (if ([] : List Int).length + l0.length < 17592186044416 then ((some (([] : List Int) ++ l0 : List Int)).bind fun y127 => (if a1 < (y127.length : Int) then (some ((y127.set (a1 : Int).toNat (wrap64 ((rd y127 a1) + 1))), 0)) else (none))) else (none))) else (none)) else (none)) = some (r1, r2) := by rw [if_neg (show ¬ (false = true) by decide)] at H; exact H
        clear H
        have H := H1
        clear H1
        by_cases c8 : 0 ≤ a1
        · rw [if_pos c8] at H
          have c8b0 : decide (0 ≤ a1) = true := decide_eq_true c8
          clear c8
          by_cases c9 : a1 < (l0.length : Int)
          · rw [if_pos c9] at H
            have c9b0 : decide (a1 < (l0.length : Int)) = true := decide_eq_true c9
            clear c9
            by_cases c10 : (rd l0 a1) = 4294967295
            · rw [if_pos c10] at H
              have c10b0 : ((rd l0 a1) == 4294967295) = true := beq_iff_eq.mpr c10
              have c10b1 : ((rd l0 a1) != 4294967295) = false := bne_eq_false_iff_eq.mpr c10
              clear c10
              simp only [Option.some.injEq, Prod.mk.injEq] at H
              obtain ⟨rfl, rfl⟩ := H
              have p126 : 0 ≤ (a1 : Int) := of_decide_eq_true (by first | (with_reducible assumption) | assumption)
              have q126 : a1 < (l0.length : Int) := of_decide_eq_true (by first | (with_reducible assumption) | assumption)
              obtain ⟨ad126, e126, hx126_0⟩ := Kd.at_int HR0.out a1 p126 q126
              cases e126
              replace hx126_0 := (HB.out.cell (World.block_lt_of_cell? w _ hx126_0)).trans hx126_0
              replace p126 := eq_true p126
              replace q126 := eq_true q126
              go_wp2
              go_ret2
              exact ⟨_, by first | rfl | (simp [errW_none, errW_some] <;> rfl) | (simp [*, errW_none, errW_some] <;> rfl), by first | exact Kd.R_nil _ _ _ _ _ | exact Kd.N_nil _ _ _ _ _ | exact Kd.V_nil _ _ _ _ _ | exact Kd.Q_nil _ _ _ _ _ | exact Kd.S_nil _ _ _ _ _, by repeat (first | (with_reducible first | exact HB.out | apply below_alloc | apply pw_below_drewN | apply below_drew1) | exact HB.out)⟩
            · rw [if_neg c10] at H
              have c10b0 : ((rd l0 a1) == 4294967295) = false := beq_eq_false_iff_ne.mpr c10
              have c10b1 : ((rd l0 a1) != 4294967295) = true := bne_iff_ne.mpr c10
              by_cases c11 : ([] : List Int).length + l0.length < 17592186044416
              · rw [if_pos c11] at H
                have LMc11 := Aside0.mk c11
                clear c11
                obtain ⟨y127, hy127⟩ : ∃ y_ : List Int, y_ = (([] : List Int) ++ l0) := ⟨_, rfl⟩
                replace H : (if a1 < (y127.length : Int) then (some ((y127.set (a1 : Int).toNat (wrap64 ((rd y127 a1) + 1))), 0)) else (none)) = some (r1, r2) := by first | (rw [hy127]; with_reducible exact H) | (have H2_ := (Option.bind_some _ _).symm.trans H; rw [hy127]; with_reducible exact H2_) | (have H2_ := (Option.bind_some _ _).symm.trans H; with_reducible exact H2_) | with_reducible exact H | (rw [hy127]; exact H) | exact H
                have Ny127 := Aside0.mk hy127
                clear hy127
                by_cases c12 : a1 < (y127.length : Int)
                · rw [if_pos c12] at H
                  have c12b0 : decide (a1 < (y127.length : Int)) = true := decide_eq_true c12
                  clear c12
                  obtain ⟨y131, hy131⟩ : ∃ y_ : List Int, y_ = (y127.set (a1 : Int).toNat (wrap64 ((rd y127 a1) + 1))) := ⟨_, rfl⟩
                  replace H : (some (y131, 0)) = some (r1, r2) := by first | (rw [hy131]; with_reducible exact H) | (have H2_ := (Option.bind_some _ _).symm.trans H; rw [hy131]; with_reducible exact H2_) | (have H2_ := (Option.bind_some _ _).symm.trans H; with_reducible exact H2_) | with_reducible exact H | (rw [hy131]; exact H) | exact H
                  have Ny131 := Aside0.mk hy131
                  clear hy131
                  simp only [Option.some.injEq, Prod.mk.injEq] at H
                  obtain ⟨rfl, rfl⟩ := H
                  have p126 : 0 ≤ (a1 : Int) := of_decide_eq_true (by first | (with_reducible assumption) | assumption)
                  have q126 : a1 < (l0.length : Int) := of_decide_eq_true (by first | (with_reducible assumption) | assumption)
                  obtain ⟨ad126, e126, hx126_0⟩ := Kd.at_int HR0.out a1 p126 q126
                  cases e126
                  replace hx126_0 := (HB.out.cell (World.block_lt_of_cell? w _ hx126_0)).trans hx126_0
                  replace p126 := eq_true p126
                  replace q126 := eq_true q126
                  go_wp2_with (first | ((with_reducible refine gate_builtin (b := .append) (xs := #[.tmp 25, .tmp 26]) rfl ?_); (try (refine gate_guard (by rfl) ?_; dsimp only)); at_builtin; refine Kd.R_append_rows (Kd.int .i64) (w0 := w) w.heap.size rfl (.tmp 25) (.tmp 26) 22 3 (.int .i64 0) 8 rfl Try.underlying22 info3 rfl (by decide) (by omega) (.slice none 0 0) ([] : List Int) l0 _ _ _ (fun _ => True) (fun _ => False) rfl rfl ?aO ?aR (fun _ _ h => h) (fun _ h => h.elim) ?aF ?aB ?aS ?aL ?_; (case aR => repeat (first | exact (Kd.C_below HR0.out HB.out) | (with_reducible refine Kd.C_alloc ?_ _) | (with_reducible refine Kd.C_drewN ?_ _) | (with_reducible refine Kd.C_drew ?_))); (case aB => exact (by repeat (first | (with_reducible first | exact HB.out | apply below_alloc | apply pw_below_drewN | apply below_drew1) | exact HB.out))); (case aF => exact (fun _ _ => trivial)); (case aO => exact ((Kd.R_nil _ _ _ _ (fun _ => True)))); (case aS => exact (below_size (by repeat (first | (with_reducible first | exact HB.out | apply below_alloc | apply pw_below_drewN | apply below_drew1) | exact HB.out)))); (case aL => have := LMc11.out; omega); intro v128 w14 ho hb hg hat; rw [← Ny127.out] at ho; have n0_ := Aside0.mk (hb); have n1_ := Aside0.mk (ho); clear HB; have HB := n0_; have HO129 := n1_; clear n0_ n1_; clear ho hb hg hat; obtain ⟨Ao15, co15, eo15⟩ := Kd.R_slice HO129.out; subst eo15; have p130 : 0 ≤ (a1 : Int) := of_decide_eq_true (by first | (with_reducible assumption) | assumption); have q130 : a1 < (y127.length : Int) := of_decide_eq_true (by first | (with_reducible assumption) | assumption); obtain ⟨ad130, e130, hx130_0⟩ := Kd.at_int (Kd.R_reads' HO129.out).2.2 a1 p130 q130; cases e130; replace p130 := eq_true p130; replace q130 := eq_true q130; have p13 : 0 ≤ (a1 : Int) := of_decide_eq_true (by first | (with_reducible assumption) | assumption); have q13 : (a1 : Int) < ((y127.length : Int) : Int) := of_decide_eq_true (by first | (with_reducible assumption) | assumption); obtain ⟨go13, co13, eo13, gb13, gl13, cl13, HG13⟩ := Kd.R_form HO129.out (by omega); (first | cases eo13 | (injection eo13 with ea_ en_ ec_; (first | subst ea_ | (injection ea_ with ea_; subst ea_)); subst ec_; clear en_)); have GB13 := Aside0.mk gb13; have GG13 := Aside0.mk HG13; clear gb13 gl13 HG13; (first | simp only [add_plain] at hx130_0 | skip); obtain ⟨hx13_0, hf13_0⟩ := Kd.R_celln 0 HO129.out (a1 : Int) p13 q13; replace p13 := eq_true p13; replace q13 := eq_true q13; obtain ⟨hy16_, hz16_⟩ := Kd.R_celln 0 HO129.out (a1 : Int) (of_decide_eq_true (by first | (with_reducible assumption) | assumption)) (of_decide_eq_true (by first | (with_reducible assumption) | assumption)); have HP16 := Kd.R_putg HO129.out (a1 : Int) (wrap64 ((rd y127 a1) + 1))) | ((with_reducible refine gate_store (t := 3) (p := 35) rfl ?_); refine store_event (t := 3) (p := 35) (v := ?vo_w17) (w1 := (w14.setCell ⟨go13, (a1 : Int).toNat, none⟩ (.int .i64 (wrap64 ((rd y127 a1) + 1))))) ?hg ?ho ?hn ?hr ?_; (case ho => rfl); (case hg => rfl); (case hn => rfl); (case hr => first | (go_simp; done) | (go_simp; rfl)); intro w17 hw; have hg : w14.grownBy w17 (some go13) := (by rw [hw]; exact HP16.2); have hp_ : Kd.R (Kd.int .i64) 3 w17 w.heap.size (fun _ => True) (.slice (some ⟨go13, 0, none⟩) y127.length co15) y131 := (by rw [hw, Ny131.out]; exact HP16.1); clear HP16; have n0_ := Aside0.mk (hp_); have n1_ := Aside0.mk ((by rw [hw]; exact below_set (HB.out) GB13.out : Below w.heap.size w w17)); clear HO129; clear HB; have HO129 := n0_; have HB := n1_; clear n0_ n1_; clear hg hw hp_))
                  go_ret2
                  exact ⟨_, by first | rfl | (simp [errW_none, errW_some] <;> rfl) | (simp [*, errW_none, errW_some] <;> rfl), by (with_reducible repeat (first | apply Kd.R_alloc | apply Kd.R_drewN | apply Kd.R_drew)); exact HO129.out, by repeat (first | (with_reducible first | exact HB.out | apply below_alloc | apply pw_below_drewN | apply below_drew1) | exact HB.out)⟩
                · rw [if_neg c12] at H
                  exact absurd H (by simp)
              · rw [if_neg c11] at H
                exact absurd H (by simp)
          · rw [if_neg c9] at H
            exact absurd H (by simp)
        · rw [if_neg c8] at H
          exact absurd H (by simp)
theorem duetref06_Tick.at (k : Nat) (A0 : Option Addr) (c0 : Nat) (n0 : Nat) (l0 : List Int) (a1 : Int) (r1 : List Int) (r2 : Int) (w : World) (hr0 : Kd.C (Kd.int .i64) w A0 n0 l0) (hc0 : n0 ≤ c0) (h : duetref06_Tick.f k l0 a1 = some (r1, r2)) :
    Calls Try.prog 17 #[.slice A0 n0 c0, .int .i64 a1] w fun e w' => ∃ v0_ : Value, e = .returned (.tuple #[v0_, .int .i64 r2]) ∧ Kd.R (Kd.int .i64) 3 w' w.heap.size (fun _ => True) v0_ r1 ∧ Below w.heap.size w w' := by
  obtain rfl : l0.length = n0 := Kd.C_len hr0
  exact duetref06_Tick.calls k A0 c0 l0 a1 r1 r2 w hr0 hc0 h

end Go.Proofs.Ytpoigdkbblmpaaa.PVec
