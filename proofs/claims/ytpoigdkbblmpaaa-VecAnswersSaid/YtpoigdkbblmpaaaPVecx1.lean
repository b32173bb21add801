/- Functions that the law reaches, each as a plain Lean function with the proof that the call does what it says. Conditions: none beyond those that each theorem states. Written by a program for this claim. -/
import Derived.Test.YtpoigdkbblmpaaaPVecx0
namespace Go.Proofs.Ytpoigdkbblmpaaa.PVec
open Go.RowKit Go.Proofs.YtpoigdkbblmpaaaW.PrintWords Go.Proofs.YtpoigdkbblmpaaaW.PrintLast Go.Proofs.YtpoigdkbblmpaaaW.PrintMore
attribute [local go_sem] max2_int min2_int max_two min_two max_three min_three max_four min_four   -- for this text's walks alone
set_option linter.unusedVariables false
set_option linter.unusedSimpArgs false

/-! ### vec_Vec_int_53: function 53 -/
def minTo (l : List Int) : Nat → Int
  | 0 => rd l 0
  | k + 1 => mn (minTo l k) (rd l ((k : Int) + 1))
def vec_Vec_int_53.f (l0 : List Int) : Option Int := if l0.length = 0 then none else some (minTo l0 (l0.length - 1))
set_option maxHeartbeats 1000000 in
set_option maxRecDepth 100000 in
theorem vec_Vec_int_53.calls (A0 : Option Addr) (c0 : Nat) (l0 : List Int) (r : Int) (w : World) (hr0 : Kd.C (Kd.int .i64) w A0 l0.length l0) (hc0 : l0.length ≤ c0) (h : vec_Vec_int_53.f l0 = some r) :
    Calls Try.prog 53 #[.slice A0 l0.length c0] w fun e w' => e = .returned (.int .i64 r) ∧ Drawn0 w w' := by
  have HR0 := Aside0.mk hr0
  clear hr0
  have hpos : 0 < l0.length := by
    rcases Nat.eq_zero_or_pos l0.length with h0 | h0
    · simp [vec_Vec_int_53.f, h0] at h
    · exact h0
  have hmax := Kd.C_max HR0.out
  have hrr : r = minTo l0 (l0.length - 1) := by
    unfold vec_Vec_int_53.f at h
    rw [if_neg (by omega)] at h
    exact (Option.some.inj h).symm
  have HRR := Aside0.mk hrr
  clear hrr h
  have t1 : decide (l0.length < 1) = false := decide_eq_false (by omega)
  have t2 : decide ((l0.length : Int) < 1) = false := decide_eq_false (by omega)
  obtain ⟨ad, ead, hx⟩ := Kd.at_int HR0.out 0 (by omega) (by omega)
  cases ead
  rw [show ((0 : Int)).toNat = 0 from rfl, Addr.add_zero'] at hx
  have qi : (0 < l0.length) = True := eq_true hpos
  go_enter Try.func53, Try.ntmps53
  go_wp2
  go_loop [3, 4] (fun m i => ∃ j : Int, 1 ≤ j ∧ j ≤ (l0.length : Int) ∧ m = .int .i64 (minTo l0 (j.toNat - 1)) ∧ i = .int .i64 j) (fun _ i => l0.length - (intOf i).toNat)
  case atStart => exact ⟨1, by omega, by omega, rfl, rfl⟩
  case round =>
    obtain ⟨j, hj1, hj2, rfl, rfl⟩ := hrel
    by_cases hlt : j < (l0.length : Int)
    · obtain ⟨ad1, ead1, hx1⟩ := Kd.at_int HR0.out j (by omega) hlt
      cases ead1
      have t3 : decide (j < (l0.length : Int)) = true := decide_eq_true hlt
      have t4 : (0 ≤ j) = True := eq_true (by omega)
      have t5 : (j < (l0.length : Int)) = True := eq_true hlt
      have HN : Aside0 (mn (minTo l0 (j.toNat - 1)) (rd l0 j) = minTo l0 ((j + 1).toNat - 1)) := ⟨by
        obtain ⟨k, rfl⟩ : ∃ k : Nat, j = (k : Int) + 1 := ⟨(j - 1).toNat, by omega⟩
        rw [show ((k : Int) + 1).toNat - 1 = k by omega, show ((k : Int) + 1 + 1).toNat - 1 = k + 1 by omega]; rfl⟩
      have t6 : j + 1 ≤ (l0.length : Int) := by omega
      clear hlt
      go_wp2
      go_round
      case rel => exact ⟨j + 1, by omega, by omega, congrArg (Value.int .i64) HN.out, rfl⟩
      case measure => simp [intOf]; omega
    · have t3 : decide (j < (l0.length : Int)) = false := decide_eq_false hlt
      have HE : Aside0 (r = minTo l0 (j.toNat - 1)) := ⟨by rw [HRR.out, show l0.length - 1 = j.toNat - 1 by omega]⟩
      clear hlt
      go_wp2
      go_ret
      exact ⟨congrArg (fun x => Ending.returned (Value.int .i64 x)) HE.out.symm, Drawn0.refl _⟩
theorem vec_Vec_int_53.at (A0 : Option Addr) (c0 : Nat) (n0 : Nat) (l0 : List Int) (r : Int) (w : World) (hr0 : Kd.C (Kd.int .i64) w A0 n0 l0) (hc0 : n0 ≤ c0) (h : vec_Vec_int_53.f l0 = some r) :
    Calls Try.prog 53 #[.slice A0 n0 c0] w fun e w' => e = .returned (.int .i64 r) ∧ Drawn0 w w' := by
  obtain rfl : l0.length = n0 := Kd.C_len hr0
  exact vec_Vec_int_53.calls A0 c0 l0 r w hr0 hc0 h


/-! ### vec_Vec_int_54: function 54 -/
def maxTo (l : List Int) : Nat → Int
  | 0 => rd l 0
  | k + 1 => mx (maxTo l k) (rd l ((k : Int) + 1))
def vec_Vec_int_54.f (l0 : List Int) : Option Int := if l0.length = 0 then none else some (maxTo l0 (l0.length - 1))
set_option maxHeartbeats 1000000 in
set_option maxRecDepth 100000 in
theorem vec_Vec_int_54.calls (A0 : Option Addr) (c0 : Nat) (l0 : List Int) (r : Int) (w : World) (hr0 : Kd.C (Kd.int .i64) w A0 l0.length l0) (hc0 : l0.length ≤ c0) (h : vec_Vec_int_54.f l0 = some r) :
    Calls Try.prog 54 #[.slice A0 l0.length c0] w fun e w' => e = .returned (.int .i64 r) ∧ Drawn0 w w' := by
  have HR0 := Aside0.mk hr0
  clear hr0
  have hpos : 0 < l0.length := by
    rcases Nat.eq_zero_or_pos l0.length with h0 | h0
    · simp [vec_Vec_int_54.f, h0] at h
    · exact h0
  have hmax := Kd.C_max HR0.out
  have hrr : r = maxTo l0 (l0.length - 1) := by
    unfold vec_Vec_int_54.f at h
    rw [if_neg (by omega)] at h
    exact (Option.some.inj h).symm
  have HRR := Aside0.mk hrr
  clear hrr h
  have t1 : decide (l0.length < 1) = false := decide_eq_false (by omega)
  have t2 : decide ((l0.length : Int) < 1) = false := decide_eq_false (by omega)
  obtain ⟨ad, ead, hx⟩ := Kd.at_int HR0.out 0 (by omega) (by omega)
  cases ead
  rw [show ((0 : Int)).toNat = 0 from rfl, Addr.add_zero'] at hx
  have qi : (0 < l0.length) = True := eq_true hpos
  go_enter Try.func54, Try.ntmps54
  go_wp2
  go_loop [3, 4] (fun m i => ∃ j : Int, 1 ≤ j ∧ j ≤ (l0.length : Int) ∧ m = .int .i64 (maxTo l0 (j.toNat - 1)) ∧ i = .int .i64 j) (fun _ i => l0.length - (intOf i).toNat)
  case atStart => exact ⟨1, by omega, by omega, rfl, rfl⟩
  case round =>
    obtain ⟨j, hj1, hj2, rfl, rfl⟩ := hrel
    by_cases hlt : j < (l0.length : Int)
    · obtain ⟨ad1, ead1, hx1⟩ := Kd.at_int HR0.out j (by omega) hlt
      cases ead1
      have t3 : decide (j < (l0.length : Int)) = true := decide_eq_true hlt
      have t4 : (0 ≤ j) = True := eq_true (by omega)
      have t5 : (j < (l0.length : Int)) = True := eq_true hlt
      have HN : Aside0 (mx (maxTo l0 (j.toNat - 1)) (rd l0 j) = maxTo l0 ((j + 1).toNat - 1)) := ⟨by
        obtain ⟨k, rfl⟩ : ∃ k : Nat, j = (k : Int) + 1 := ⟨(j - 1).toNat, by omega⟩
        rw [show ((k : Int) + 1).toNat - 1 = k by omega, show ((k : Int) + 1 + 1).toNat - 1 = k + 1 by omega]; rfl⟩
      have t6 : j + 1 ≤ (l0.length : Int) := by omega
      clear hlt
      go_wp2
      go_round
      case rel => exact ⟨j + 1, by omega, by omega, congrArg (Value.int .i64) HN.out, rfl⟩
      case measure => simp [intOf]; omega
    · have t3 : decide (j < (l0.length : Int)) = false := decide_eq_false hlt
      have HE : Aside0 (r = maxTo l0 (j.toNat - 1)) := ⟨by rw [HRR.out, show l0.length - 1 = j.toNat - 1 by omega]⟩
      clear hlt
      go_wp2
      go_ret
      exact ⟨congrArg (fun x => Ending.returned (Value.int .i64 x)) HE.out.symm, Drawn0.refl _⟩
theorem vec_Vec_int_54.at (A0 : Option Addr) (c0 : Nat) (n0 : Nat) (l0 : List Int) (r : Int) (w : World) (hr0 : Kd.C (Kd.int .i64) w A0 n0 l0) (hc0 : n0 ≤ c0) (h : vec_Vec_int_54.f l0 = some r) :
    Calls Try.prog 54 #[.slice A0 n0 c0] w fun e w' => e = .returned (.int .i64 r) ∧ Drawn0 w w' := by
  obtain rfl : l0.length = n0 := Kd.C_len hr0
  exact vec_Vec_int_54.calls A0 c0 l0 r w hr0 hc0 h


/-! ### vec_Vec_Check: function 29 -/
def vec_Vec_Check.f (l0 : List Int) : Option (Int) := if (l0.length : Int) < 1 then (some 1) else (if (l0.length : Int) > 16 then (some 1) else ((vec_Vec_int_53.f l0).bind fun t101 => (if t101 < 0 then (some 1) else ((vec_Vec_int_54.f l0).bind fun t102 => (if t102 > 4294967295 then (some 1) else (some 0))))))
set_option maxHeartbeats 8000000 in
set_option maxRecDepth 100000 in
theorem vec_Vec_Check.calls (A0 : Option Addr) (c0 : Nat) (l0 : List Int) (r : Int) (w : World) (hr0 : Kd.C (Kd.int .i64) w A0 l0.length l0) (hc0 : l0.length ≤ c0) (h : vec_Vec_Check.f l0 = some r) :
    Calls Try.prog 29 #[.slice A0 l0.length c0] w fun e w' => e = .returned (.int .i64 r) ∧ Drawn0 w w' := by
  have HR0 := Aside0.mk hr0
  have HC0 := Aside0.mk hc0
  clear hr0 hc0
  have H : (if (l0.length : Int) < 1 then (some 1) else (if (l0.length : Int) > 16 then (some 1) else ((vec_Vec_int_53.f l0).bind fun t101 => (if t101 < 0 then (some 1) else ((vec_Vec_int_54.f l0).bind fun t102 => (if t102 > 4294967295 then (some 1) else (some 0))))))) = some r := h
  clear h
  by_cases c2 : (l0.length : Int) < 1
  · rw [if_pos c2] at H
    have c2b0 : decide ((l0.length : Int) < 1) = true := decide_eq_true c2
    have c2b1 : decide (l0.length < 1) = true := decide_eq_true (by omega)
    clear c2
    obtain rfl := Option.some.inj H
    go_enter Try.func29, Try.ntmps29
    go_wp2
    go_ret
    exact ⟨by first | rfl | (simp; done) | (simp [*]; done), by repeat (first | exact Drawn0.refl _ | apply Drawn0.step)⟩
  · rw [if_neg c2] at H
    have c2b0 : decide ((l0.length : Int) < 1) = false := decide_eq_false c2
    have c2b1 : decide (l0.length < 1) = false := decide_eq_false (by omega)
    clear c2
    by_cases c3 : (l0.length : Int) > 16
    · rw [if_pos c3] at H
      have c3b0 : decide (16 < (l0.length : Int)) = true := decide_eq_true c3
      have c3b1 : decide (16 < l0.length) = true := decide_eq_true (by omega)
      clear c3
      obtain rfl := Option.some.inj H
      go_enter Try.func29, Try.ntmps29
      go_wp2
      go_ret
      exact ⟨by first | rfl | (simp; done) | (simp [*]; done), by repeat (first | exact Drawn0.refl _ | apply Drawn0.step)⟩
    · rw [if_neg c3] at H
      have c3b0 : decide (16 < (l0.length : Int)) = false := decide_eq_false c3
      have c3b1 : decide (16 < l0.length) = false := decide_eq_false (by omega)
      clear c3
      replace H := Option.bind_eq_some_iff.mp H
      obtain ⟨t101, A40, H⟩ := H
      replace H : (if t101 < 0 then (some 1) else ((vec_Vec_int_54.f l0).bind fun t102 => (if t102 > 4294967295 then (some 1) else (some 0)))) = some r := H
      have A4 := Aside0.mk A40
      clear A40
      by_cases c5 : t101 < 0
      · rw [if_pos c5] at H
        have c5b0 : decide (t101 < 0) = true := decide_eq_true c5
        clear c5
        obtain rfl := Option.some.inj H
        go_enter Try.func29, Try.ntmps29
        go_wp2_with (first | (go_at_call 53; (with_reducible refine (vec_Vec_int_53.calls _ _ l0 t101 _ ?side1 ?side2 A4.out).mono ?_); (case side1 => repeat (first | exact HR0.out | (with_reducible refine Kd.C_alloc ?_ _) | (with_reducible refine Kd.C_drewN ?_ _) | (with_reducible refine Kd.C_drew ?_))); (case side2 => exact HC0.out); rintro e w' ⟨rfl, ⟨nd, rfl⟩⟩))
        go_ret
        exact ⟨by first | rfl | (simp; done) | (simp [*]; done), by repeat (first | exact Drawn0.refl _ | apply Drawn0.step)⟩
      · rw [if_neg c5] at H
        have c5b0 : decide (t101 < 0) = false := decide_eq_false c5
        clear c5
        replace H := Option.bind_eq_some_iff.mp H
        obtain ⟨t102, A60, H⟩ := H
        replace H : (if t102 > 4294967295 then (some 1) else (some 0)) = some r := H
        have A6 := Aside0.mk A60
        clear A60
        by_cases c7 : t102 > 4294967295
        · rw [if_pos c7] at H
          have c7b0 : decide (4294967295 < t102) = true := decide_eq_true c7
          clear c7
          obtain rfl := Option.some.inj H
          go_enter Try.func29, Try.ntmps29
          go_wp2_with (first | (go_at_call 53; (with_reducible refine (vec_Vec_int_53.calls _ _ l0 t101 _ ?side1 ?side2 A4.out).mono ?_); (case side1 => repeat (first | exact HR0.out | (with_reducible refine Kd.C_alloc ?_ _) | (with_reducible refine Kd.C_drewN ?_ _) | (with_reducible refine Kd.C_drew ?_))); (case side2 => exact HC0.out); rintro e w' ⟨rfl, ⟨nd, rfl⟩⟩) | (go_at_call 54; (with_reducible refine (vec_Vec_int_54.calls _ _ l0 t102 _ ?side1 ?side2 A6.out).mono ?_); (case side1 => repeat (first | exact HR0.out | (with_reducible refine Kd.C_alloc ?_ _) | (with_reducible refine Kd.C_drewN ?_ _) | (with_reducible refine Kd.C_drew ?_))); (case side2 => exact HC0.out); rintro e w' ⟨rfl, ⟨nd, rfl⟩⟩))
          go_ret
          exact ⟨by first | rfl | (simp; done) | (simp [*]; done), by repeat (first | exact Drawn0.refl _ | apply Drawn0.step)⟩
        · rw [if_neg c7] at H
          have c7b0 : decide (4294967295 < t102) = false := decide_eq_false c7
          clear c7
          obtain rfl := Option.some.inj H
          go_enter Try.func29, Try.ntmps29
          go_wp2_with (first | (go_at_call 53; (with_reducible refine (vec_Vec_int_53.calls _ _ l0 t101 _ ?side1 ?side2 A4.out).mono ?_); (case side1 => repeat (first | exact HR0.out | (with_reducible refine Kd.C_alloc ?_ _) | (with_reducible refine Kd.C_drewN ?_ _) | (with_reducible refine Kd.C_drew ?_))); (case side2 => exact HC0.out); rintro e w' ⟨rfl, ⟨nd, rfl⟩⟩) | (go_at_call 54; (with_reducible refine (vec_Vec_int_54.calls _ _ l0 t102 _ ?side1 ?side2 A6.out).mono ?_); (case side1 => repeat (first | exact HR0.out | (with_reducible refine Kd.C_alloc ?_ _) | (with_reducible refine Kd.C_drewN ?_ _) | (with_reducible refine Kd.C_drew ?_))); (case side2 => exact HC0.out); rintro e w' ⟨rfl, ⟨nd, rfl⟩⟩))
          go_ret
          exact ⟨by first | rfl | (simp; done) | (simp [*]; done), by repeat (first | exact Drawn0.refl _ | apply Drawn0.step)⟩
theorem vec_Vec_Check.at (A0 : Option Addr) (c0 : Nat) (n0 : Nat) (l0 : List Int) (r : Int) (w : World) (hr0 : Kd.C (Kd.int .i64) w A0 n0 l0) (hc0 : n0 ≤ c0) (h : vec_Vec_Check.f l0 = some r) :
    Calls Try.prog 29 #[.slice A0 n0 c0] w fun e w' => e = .returned (.int .i64 r) ∧ Drawn0 w w' := by
  obtain rfl : l0.length = n0 := Kd.C_len hr0
  exact vec_Vec_Check.calls A0 c0 l0 r w hr0 hc0 h

/-! ### vec_Vec_int_47: function 47 -/
def vec_Vec_int_47.f (l0 : List Int) : Option (List Int) := if l0.length < 17592186044416 then some l0 else none
set_option maxHeartbeats 1000000 in
set_option maxRecDepth 100000 in
theorem vec_Vec_int_47.calls (A0 : Option Addr) (c0 : Nat) (l0 : List Int) (r : List Int) (w : World) (hr0 : Kd.C (Kd.int .i64) w A0 l0.length l0) (hc0 : l0.length ≤ c0) (h : vec_Vec_int_47.f l0 = some r) :
    Calls Try.prog 47 #[.slice A0 l0.length c0] w fun e w' => ∃ v0_ : Value, e = .returned (v0_) ∧ Kd.R (Kd.int .i64) 3 w' w.heap.size (fun _ => True) v0_ r ∧ Below w.heap.size w w' := by
  have HR0 := Aside0.mk hr0
  clear hr0
  have HB := Aside0.mk (Below.refl w.heap.size w)
  have hlim : l0.length < 17592186044416 := by
    unfold vec_Vec_int_47.f at h
    split at h
    · assumption
    · cases h
  unfold vec_Vec_int_47.f at h
  rw [if_pos hlim] at h
  have HL := Aside0.mk hlim
  clear hlim
  obtain rfl := Option.some.inj h
  clear h
  have heq := fun W n c => Lib.run_eql_slice_nil (P := Try.prog) W 26 3 A0 n c 0 0 Try.underlying26
  have hun := Try.underlying26
  cases A0 with
  | none =>
    have h0 : l0 = [] := by
      rcases Nat.eq_zero_or_pos l0.length with h | h
      · exact List.eq_nil_of_length_eq_zero h
      · obtain ⟨ad, e, _⟩ := Kd.at_int HR0.out 0 (by omega) (by omega)
        cases e
    subst h0
    go_enter Try.func47, Try.ntmps47
    go_wp2
    go_ret
    exact ⟨_, rfl, Kd.R_nil _ _ _ _ _, Below.refl _ _⟩
  | some ad0 =>
    go_enter Try.func47, Try.ntmps47
    go_wp2_with (first | ((with_reducible refine gate_dst (N := 5) rfl ?_); refine Kd.R_lit (Kd.int .i64) w.heap.size 3 ?hg (N := 5) ?hd (xs := ([] : List Int)) (inner := []) (ok := fun _ => True) (okp := fun _ => True) ?hr ?hp (fun _ hk => hk) trivial (Below.refl _ _) (Nat.le_refl _) (by simp) ?_; (case hd => rfl); (case hg => rfl); (case hr => first | (go_simp; done) | (go_simp; rfl)); (case hp => exact Reps.none _ _); intro v5 w5 ho5 hb5 _ _; have HO5 := Aside0.mk ho5; have HB5 := Aside0.mk hb5; clear ho5 hb5) | ((with_reducible refine gate_builtin (b := .append) (xs := #[.tmp 5, .tmp 6]) rfl ?_); at_builtin; refine Kd.R_append_rows (Kd.int .i64) (w0 := w) w.heap.size rfl (.tmp 5) (.tmp 6) 26 3 (.int .i64 0) 8 rfl Try.underlying26 info3 rfl (by decide) (by omega) v5 ([] : List Int) l0 _ _ _ (fun _ => True) (fun _ => False) rfl rfl ?aO ?aR (fun _ _ h => h) (fun _ h => h.elim) ?aF ?aB ?aS ?aL ?_; (case aR => exact Kd.C_below HR0.out HB5.out); (case aB => exact HB5.out); (case aF => exact (fun _ _ => trivial)); (case aO => exact HO5.out); (case aS => exact HB5.out.size); (case aL => have := HL.out; simp only [List.length_nil]; omega); intro v7 w7 ho7 hb7 _ _; have HO7 := Aside0.mk ho7; have HB7 := Aside0.mk hb7; clear ho7 hb7))
    go_ret
    exact ⟨v7, rfl, HO7.out, HB7.out⟩
theorem vec_Vec_int_47.at (A0 : Option Addr) (c0 : Nat) (n0 : Nat) (l0 : List Int) (r : List Int) (w : World) (hr0 : Kd.C (Kd.int .i64) w A0 n0 l0) (hc0 : n0 ≤ c0) (h : vec_Vec_int_47.f l0 = some r) :
    Calls Try.prog 47 #[.slice A0 n0 c0] w fun e w' => ∃ v0_ : Value, e = .returned (v0_) ∧ Kd.R (Kd.int .i64) 3 w' w.heap.size (fun _ => True) v0_ r ∧ Below w.heap.size w w' := by
  obtain rfl : l0.length = n0 := Kd.C_len hr0
  exact vec_Vec_int_47.calls A0 c0 l0 r w hr0 hc0 h


/-! ### vec_Vec_Tick: function 16 -/
def vec_Vec_Tick.j0 : Nat → List Int → Int → Bool → Option (List Int × Int)
  | 0, _, _, _ => none
  | k + 1, x0, x1, x7 => if x7 = true then (some (([] : List Int), 1)) else (if 0 ≤ x1 then (if x1 < (x0.length : Int) then (if (rd x0 x1) = 4294967295 then (some (([] : List Int), 5)) else ((vec_Vec_int_47.f x0).bind fun t105 => (if x1 < (t105.length : Int) then (some ((t105.set (x1 : Int).toNat (wrap64 ((rd t105 x1) + 1))), 0)) else (none)))) else (none)) else (none))
def vec_Vec_Tick.f (k : Nat) (l0 : List Int) (a1 : Int) : Option (List Int × Int) := (vec_Vec_Check.f l0).bind fun t103 => (if t103 = 0 then (if a1 < 0 then (vec_Vec_Tick.j0 k l0 a1 true) else (vec_Vec_Tick.j0 k l0 a1 (decide (a1 ≥ (l0.length : Int))))) else (vec_Vec_Tick.j0 k l0 a1 true))
theorem vec_Vec_Tick.mono_l : ∀ k, (∀ y0 y1 y2, LeO (vec_Vec_Tick.j0 k y0 y1 y2) (vec_Vec_Tick.j0 (k + 1) y0 y1 y2))
  | 0 => fun _ _ _ r h => by simp [vec_Vec_Tick.j0] at h
  | k + 1 => by
    have ih0 := vec_Vec_Tick.mono_l k
    · intro y0 y1 y2
      unfold vec_Vec_Tick.j0
      repeat' first
      | (with_reducible exact ih0 _ _ _)
      | (with_reducible exact LeO.refl _)
      | (with_reducible exact LeO.none _)
      | (with_reducible refine LeO.ite ?_ ?_)
      | (with_reducible refine LeO.bind ?_ (fun _ => ?_))
      | exact ih0 _ _ _
      | exact LeO.none _
      | refine LeO.ite ?_ ?_
      | refine LeO.bind ?_ (fun _ => ?_)
theorem vec_Vec_Tick.mono : ∀ a0 a1 k, LeO (vec_Vec_Tick.f k a0 a1) (vec_Vec_Tick.f (k + 1) a0 a1) := by
  intro a0 a1 k
  have ih0 := vec_Vec_Tick.mono_l k
  unfold vec_Vec_Tick.f
  repeat' first
      | (with_reducible exact ih0 _ _ _)
      | (with_reducible exact LeO.refl _)
      | (with_reducible exact LeO.none _)
      | (with_reducible refine LeO.ite ?_ ?_)
      | (with_reducible refine LeO.bind ?_ (fun _ => ?_))
      | exact ih0 _ _ _
      | exact LeO.none _
      | refine LeO.ite ?_ ?_
      | refine LeO.bind ?_ (fun _ => ?_)
set_option maxHeartbeats 8000000 in
set_option maxRecDepth 100000 in
theorem vec_Vec_Tick.calls (k : Nat) (A0 : Option Addr) (c0 : Nat) (l0 : List Int) (a1 : Int) (r1 : List Int) (r2 : Int) (w : World) (hr0 : Kd.C (Kd.int .i64) w A0 l0.length l0) (hc0 : l0.length ≤ c0) (h : vec_Vec_Tick.f k l0 a1 = some (r1, r2)) :
    Calls Try.prog 16 #[.slice A0 l0.length c0, .int .i64 a1] w fun e w' => ∃ v0_ : Value, e = .returned (.tuple #[v0_, .int .i64 r2]) ∧ Kd.R (Kd.int .i64) 3 w' w.heap.size (fun _ => True) v0_ r1 ∧ Below w.heap.size w w' := by
  have HR0 := Aside0.mk hr0
  have HC0 := Aside0.mk hc0
  clear hr0 hc0
  have HB := Aside0.mk (Below.refl w.heap.size w)
  have H : ((vec_Vec_Check.f l0).bind fun t103 => (if t103 = 0 then (if a1 < 0 then (vec_Vec_Tick.j0 k l0 a1 true) else (vec_Vec_Tick.j0 k l0 a1 (decide (a1 ≥ (l0.length : Int))))) else (vec_Vec_Tick.j0 k l0 a1 true))) = some (r1, r2) := h
  clear h
  have HC3 := Aside0.mk H
  clear H
  go_enter Try.func16, Try.ntmps16
  go_upto_region 1 with (fail)
  go_cut [7] (fun v7 wc => ∃ (kq : Nat) (x7_2 : Bool), v7 = .bool x7_2 ∧ Aside0 (vec_Vec_Tick.j0 kq l0 a1 x7_2 = some (r1, r2)) ∧ Aside0 (kq ≤ k) ∧ Aside0 (Below w.heap.size w wc))
  case first =>
    have H := HC3.out
    clear HC3
    replace H := Option.bind_eq_some_iff.mp H
    obtain ⟨t103, A40, H⟩ := H
    replace H : (if t103 = 0 then (if a1 < 0 then (vec_Vec_Tick.j0 k l0 a1 true) else (vec_Vec_Tick.j0 k l0 a1 (decide (a1 ≥ (l0.length : Int))))) else (vec_Vec_Tick.j0 k l0 a1 true)) = some (r1, r2) := H
    have A4 := Aside0.mk A40
    clear A40
    by_cases c5 : t103 = 0
    · rw [if_pos c5] at H
      have c5b0 : (t103 == 0) = true := beq_iff_eq.mpr c5
      have c5b1 : (t103 != 0) = false := bne_eq_false_iff_eq.mpr c5
      clear c5
      (first | rw [c5b0] | (simp only [i64_w, i32_w]; rw [c5b0]) | skip)
      by_cases c6 : a1 < 0
      · rw [if_pos c6] at H
        have c6b0 : decide (a1 < 0) = true := decide_eq_true c6
        clear c6
        have H' := Aside0.mk H
        clear H
        go_wp2_with (first | ((with_reducible refine gate_callee (f := 29) rfl ?_); refine goesL_ (some 9) rfl rfl Try.func29 (by kernel_rfl) rfl #[.slice A0 l0.length c0] rfl (by (try simp only [List.map_toArray, List.map_cons, List.map_nil]); first | done | rfl | (simp only [List.length_drop, List.length_take]; rfl)) ?_; (with_reducible refine (vec_Vec_Check.calls _ _ l0 t103 _ ?side1 ?side2 A4.out).mono ?_); (case side1 => repeat (first | exact (Kd.C_below HR0.out HB.out) | (with_reducible refine Kd.C_alloc ?_ _) | (with_reducible refine Kd.C_drewN ?_ _) | (with_reducible refine Kd.C_drew ?_))); (case side2 => exact HC0.out); rintro e w' ⟨rfl, ⟨nd, rfl⟩⟩; refine ⟨_, rfl, ?_⟩))
        go_meet
        case rel => exact ⟨_, (true), (by first | rfl | (simp; done) | (simp [*]; done)), H', ⟨by first | omega | exact Nat.le_refl _⟩, ⟨by repeat (first | (with_reducible first | exact HB.out | apply below_alloc | apply pw_below_drewN | apply below_drew1) | exact HB.out)⟩⟩
      · rw [if_neg c6] at H
        have c6b0 : decide (a1 < 0) = false := decide_eq_false c6
        clear c6
        have H' := Aside0.mk H
        clear H
        go_wp2_with (first | ((with_reducible refine gate_callee (f := 29) rfl ?_); refine goesL_ (some 9) rfl rfl Try.func29 (by kernel_rfl) rfl #[.slice A0 l0.length c0] rfl (by (try simp only [List.map_toArray, List.map_cons, List.map_nil]); first | done | rfl | (simp only [List.length_drop, List.length_take]; rfl)) ?_; (with_reducible refine (vec_Vec_Check.calls _ _ l0 t103 _ ?side1 ?side2 A4.out).mono ?_); (case side1 => repeat (first | exact (Kd.C_below HR0.out HB.out) | (with_reducible refine Kd.C_alloc ?_ _) | (with_reducible refine Kd.C_drewN ?_ _) | (with_reducible refine Kd.C_drew ?_))); (case side2 => exact HC0.out); rintro e w' ⟨rfl, ⟨nd, rfl⟩⟩; refine ⟨_, rfl, ?_⟩))
        go_meet
        case rel => exact ⟨_, (decide (a1 ≥ (l0.length : Int))), (by first | rfl | (simp; done) | (simp [*]; done)), H', ⟨by first | omega | exact Nat.le_refl _⟩, ⟨by repeat (first | (with_reducible first | exact HB.out | apply below_alloc | apply pw_below_drewN | apply below_drew1) | exact HB.out)⟩⟩
    · rw [if_neg c5] at H
      have c5b0 : (t103 == 0) = false := beq_eq_false_iff_ne.mpr c5
      have c5b1 : (t103 != 0) = true := bne_iff_ne.mpr c5
      (first | rw [c5b0] | (simp only [i64_w, i32_w]; rw [c5b0]) | skip)
      have H' := Aside0.mk H
      clear H
      go_wp2_with (first | ((with_reducible refine gate_callee (f := 29) rfl ?_); refine goesL_ (some 9) rfl rfl Try.func29 (by kernel_rfl) rfl #[.slice A0 l0.length c0] rfl (by (try simp only [List.map_toArray, List.map_cons, List.map_nil]); first | done | rfl | (simp only [List.length_drop, List.length_take]; rfl)) ?_; (with_reducible refine (vec_Vec_Check.calls _ _ l0 t103 _ ?side1 ?side2 A4.out).mono ?_); (case side1 => repeat (first | exact (Kd.C_below HR0.out HB.out) | (with_reducible refine Kd.C_alloc ?_ _) | (with_reducible refine Kd.C_drewN ?_ _) | (with_reducible refine Kd.C_drew ?_))); (case side2 => exact HC0.out); rintro e w' ⟨rfl, ⟨nd, rfl⟩⟩; refine ⟨_, rfl, ?_⟩))
      go_meet
      case rel => exact ⟨_, (true), (by first | rfl | (simp; done) | (simp [*]; done)), H', ⟨by first | omega | exact Nat.le_refl _⟩, ⟨by repeat (first | (with_reducible first | exact HB.out | apply below_alloc | apply pw_below_drewN | apply below_drew1) | exact HB.out)⟩⟩
  case rest =>
    clear HC3
    try clear c1
    try clear c2
    try clear p2
    try clear c5
    try clear c5b0
    try clear c5b1
    try clear c6
    try clear c6b0
    obtain ⟨kq, x7_2, rfl, HA, HJ2, HB⟩ := hcut
    cases kq with
    | zero => exact absurd HA.out (by simp [vec_Vec_Tick.j0])
    | succ kj2 =>
      have H := HA.out
      clear HA
      simp only [vec_Vec_Tick.j0] at H
      by_cases c7 : x7_2 = true
      · subst c7
        have H1 : (some (([] : List Int), 1)) = some (r1, r2) := by rw [if_pos rfl] at H; exact H
        clear H
        have H := H1
        clear H1
        simp only [Option.some.injEq, Prod.mk.injEq] at H
        obtain ⟨rfl, rfl⟩ := H
        go_wp2
        go_ret2
        exact ⟨_, by first | rfl | (simp [errW_none, errW_some] <;> rfl) | (simp [*, errW_none, errW_some] <;> rfl), by first | exact Kd.R_nil _ _ _ _ _ | exact Kd.N_nil _ _ _ _ _ | exact Kd.V_nil _ _ _ _ _ | exact Kd.Q_nil _ _ _ _ _ | exact Kd.S_nil _ _ _ _ _, by repeat (first | (with_reducible first | exact HB.out | apply below_alloc | apply pw_below_drewN | apply below_drew1) | exact HB.out)⟩
      · replace c7 := Bool.eq_false_iff.mpr c7
        subst c7
        have H1 : (if 0 ≤ a1 then (if a1 < (l0.length : Int) then (if (rd l0 a1) = 4294967295 then (some (([] : List Int), 5)) else ((vec_Vec_int_47.f l0).bind fun t105 => (if a1 < (t105.length : Int) then (some ((t105.set (a1 : Int).toNat (wrap64 ((rd t105 a1) + 1))), 0)) else (none)))) else (none)) else (none)) = some (r1, r2) := by rw [if_neg (show ¬ (false = true) by decide)] at H; exact H
        clear H
        have H := H1
        clear H1
        by_cases c8 : 0 ≤ a1
        · rw [if_pos c8] at H
          have c8b0 : decide (0 ≤ a1) = true := decide_eq_true c8
          clear c8
          by_cases c9 : a1 < (l0.length : Int)
          · rw [if_pos c9] at H
            have c9b0 : decide (a1 < (l0.length : Int)) = true := decide_eq_true c9
            clear c9
            by_cases c10 : (rd l0 a1) = 4294967295
            · rw [if_pos c10] at H
              have c10b0 : ((rd l0 a1) == 4294967295) = true := beq_iff_eq.mpr c10
              have c10b1 : ((rd l0 a1) != 4294967295) = false := bne_eq_false_iff_eq.mpr c10
              clear c10
              simp only [Option.some.injEq, Prod.mk.injEq] at H
              obtain ⟨rfl, rfl⟩ := H
              have p104 : 0 ≤ (a1 : Int) := of_decide_eq_true (by first | (with_reducible assumption) | assumption)
              have q104 : a1 < (l0.length : Int) := of_decide_eq_true (by first | (with_reducible assumption) | assumption)
              obtain ⟨ad104, e104, hx104_0⟩ := Kd.at_int HR0.out a1 p104 q104
              cases e104
              replace hx104_0 := (HB.out.cell (World.block_lt_of_cell? w _ hx104_0)).trans hx104_0
              replace p104 := eq_true p104
              replace q104 := eq_true q104
              go_wp2
              go_ret2
              exact ⟨_, by first | rfl | (simp [errW_none, errW_some] <;> rfl) | (simp [*, errW_none, errW_some] <;> rfl), by first | exact Kd.R_nil _ _ _ _ _ | exact Kd.N_nil _ _ _ _ _ | exact Kd.V_nil _ _ _ _ _ | exact Kd.Q_nil _ _ _ _ _ | exact Kd.S_nil _ _ _ _ _, by repeat (first | (with_reducible first | exact HB.out | apply below_alloc | apply pw_below_drewN | apply below_drew1) | exact HB.out)⟩
            · rw [if_neg c10] at H
              have c10b0 : ((rd l0 a1) == 4294967295) = false := beq_eq_false_iff_ne.mpr c10
              have c10b1 : ((rd l0 a1) != 4294967295) = true := bne_iff_ne.mpr c10
              replace H := Option.bind_eq_some_iff.mp H
              obtain ⟨t105, A110, H⟩ := H
              replace H : (if a1 < (t105.length : Int) then (some ((t105.set (a1 : Int).toNat (wrap64 ((rd t105 a1) + 1))), 0)) else (none)) = some (r1, r2) := H
              have A11 := Aside0.mk A110
              clear A110
              by_cases c12 : a1 < (t105.length : Int)
              · rw [if_pos c12] at H
                have c12b0 : decide (a1 < (t105.length : Int)) = true := decide_eq_true c12
                clear c12
                obtain ⟨y109, hy109⟩ : ∃ y_ : List Int, y_ = (t105.set (a1 : Int).toNat (wrap64 ((rd t105 a1) + 1))) := ⟨_, rfl⟩
                replace H : (some (y109, 0)) = some (r1, r2) := by first | (rw [hy109]; with_reducible exact H) | (have H2_ := (Option.bind_some _ _).symm.trans H; rw [hy109]; with_reducible exact H2_) | (have H2_ := (Option.bind_some _ _).symm.trans H; with_reducible exact H2_) | with_reducible exact H | (rw [hy109]; exact H) | exact H
                have Ny109 := Aside0.mk hy109
                clear hy109
                simp only [Option.some.injEq, Prod.mk.injEq] at H
                obtain ⟨rfl, rfl⟩ := H
                have p104 : 0 ≤ (a1 : Int) := of_decide_eq_true (by first | (with_reducible assumption) | assumption)
                have q104 : a1 < (l0.length : Int) := of_decide_eq_true (by first | (with_reducible assumption) | assumption)
                obtain ⟨ad104, e104, hx104_0⟩ := Kd.at_int HR0.out a1 p104 q104
                cases e104
                replace hx104_0 := (HB.out.cell (World.block_lt_of_cell? w _ hx104_0)).trans hx104_0
                replace p104 := eq_true p104
                replace q104 := eq_true q104
                go_wp2_with (first | ((with_reducible refine gate_callee (f := 47) rfl ?_); refine goesL_ (some 28) rfl rfl Try.func47 (by kernel_rfl) rfl #[.slice (some ad104) l0.length c0] rfl (by (try simp only [List.map_toArray, List.map_cons, List.map_nil]); first | done | rfl | (simp only [List.length_drop, List.length_take]; rfl)) ?_; (with_reducible refine (vec_Vec_int_47.calls _ _ l0 t105 _ ?side1 ?side2 A11.out).mono ?_); (case side1 => repeat (first | exact (Kd.C_below HR0.out HB.out) | (with_reducible refine Kd.C_alloc ?_ _) | (with_reducible refine Kd.C_drewN ?_ _) | (with_reducible refine Kd.C_drew ?_))); (case side2 => exact HC0.out); rintro e w14 ⟨v106, rfl, ho0, hb⟩; refine ⟨_, rfl, ?_⟩; have n0_ := Aside0.mk (Kd.R_lower ho0 (below_size (by repeat (first | (with_reducible first | exact HB.out | apply below_alloc | apply pw_below_drewN | apply below_drew1) | exact HB.out)))); have n1_ := Aside0.mk (below_step (by repeat (first | (with_reducible first | exact HB.out | apply below_alloc | apply pw_below_drewN | apply below_drew1) | exact HB.out)) hb); clear HB; have HO107 := n0_; have HB := n1_; clear n0_ n1_; (try clear hb); (try clear hb2); (try clear hk); (try clear hi); (try clear ho0); obtain ⟨Ao15, co15, eo15⟩ := Kd.R_slice HO107.out; subst eo15; have p108 : 0 ≤ (a1 : Int) := of_decide_eq_true (by first | (with_reducible assumption) | assumption); have q108 : a1 < (t105.length : Int) := of_decide_eq_true (by first | (with_reducible assumption) | assumption); obtain ⟨ad108, e108, hx108_0⟩ := Kd.at_int (Kd.R_reads' HO107.out).2.2 a1 p108 q108; cases e108; replace p108 := eq_true p108; replace q108 := eq_true q108; have p13 : 0 ≤ (a1 : Int) := of_decide_eq_true (by first | (with_reducible assumption) | assumption); have q13 : (a1 : Int) < ((t105.length : Int) : Int) := of_decide_eq_true (by first | (with_reducible assumption) | assumption); obtain ⟨go13, co13, eo13, gb13, gl13, cl13, HG13⟩ := Kd.R_form HO107.out (by omega); (first | cases eo13 | (injection eo13 with ea_ en_ ec_; (first | subst ea_ | (injection ea_ with ea_; subst ea_)); subst ec_; clear en_)); have GB13 := Aside0.mk gb13; have GG13 := Aside0.mk HG13; clear gb13 gl13 HG13; (first | simp only [add_plain] at hx108_0 | skip); obtain ⟨hx13_0, hf13_0⟩ := Kd.R_celln 0 HO107.out (a1 : Int) p13 q13; replace p13 := eq_true p13; replace q13 := eq_true q13; obtain ⟨hy16_, hz16_⟩ := Kd.R_celln 0 HO107.out (a1 : Int) (of_decide_eq_true (by first | (with_reducible assumption) | assumption)) (of_decide_eq_true (by first | (with_reducible assumption) | assumption)); have HP16 := Kd.R_putg HO107.out (a1 : Int) (wrap64 ((rd t105 a1) + 1))) | ((with_reducible refine gate_store (t := 3) (p := 34) rfl ?_); refine store_event (t := 3) (p := 34) (v := ?vo_w17) (w1 := (w14.setCell ⟨go13, (a1 : Int).toNat, none⟩ (.int .i64 (wrap64 ((rd t105 a1) + 1))))) ?hg ?ho ?hn ?hr ?_; (case ho => rfl); (case hg => rfl); (case hn => rfl); (case hr => first | (go_simp; done) | (go_simp; rfl)); intro w17 hw; have hg : w14.grownBy w17 (some go13) := (by rw [hw]; exact HP16.2); have hp_ : Kd.R (Kd.int .i64) 3 w17 w.heap.size (fun _ => True) (.slice (some ⟨go13, 0, none⟩) t105.length co15) y109 := (by rw [hw, Ny109.out]; exact HP16.1); clear HP16; have n0_ := Aside0.mk (hp_); have n1_ := Aside0.mk ((by rw [hw]; exact below_set (HB.out) GB13.out : Below w.heap.size w w17)); clear HO107; clear HB; have HO107 := n0_; have HB := n1_; clear n0_ n1_; clear hg hw hp_))
                go_ret2
                exact ⟨_, by first | rfl | (simp [errW_none, errW_some] <;> rfl) | (simp [*, errW_none, errW_some] <;> rfl), by (with_reducible repeat (first | apply Kd.R_alloc | apply Kd.R_drewN | apply Kd.R_drew)); exact HO107.out, by repeat (first | (with_reducible first | exact HB.out | apply below_alloc | apply pw_below_drewN | apply below_drew1) | exact HB.out)⟩
              · rw [if_neg c12] at H
                exact absurd H (by simp)
          · rw [if_neg c9] at H
            exact absurd H (by simp)
        · rw [if_neg c8] at H
          exact absurd H (by simp)
theorem vec_Vec_Tick.at (k : Nat) (A0 : Option Addr) (c0 : Nat) (n0 : Nat) (l0 : List Int) (a1 : Int) (r1 : List Int) (r2 : Int) (w : World) (hr0 : Kd.C (Kd.int .i64) w A0 n0 l0) (hc0 : n0 ≤ c0) (h : vec_Vec_Tick.f k l0 a1 = some (r1, r2)) :
    Calls Try.prog 16 #[.slice A0 n0 c0, .int .i64 a1] w fun e w' => ∃ v0_ : Value, e = .returned (.tuple #[v0_, .int .i64 r2]) ∧ Kd.R (Kd.int .i64) 3 w' w.heap.size (fun _ => True) v0_ r1 ∧ Below w.heap.size w w' := by
  obtain rfl : l0.length = n0 := Kd.C_len hr0
  exact vec_Vec_Tick.calls k A0 c0 l0 a1 r1 r2 w hr0 hc0 h

/-! ### vec_Vec_goes: function 48 -/
def vec_Vec_goes.f (l0 : List Int) (l1 : List Int) : Option (Bool) := if (l0.length : Int) = (l1.length : Int) then ((vec_Vec_Check.f l0).bind fun t110 => (if t110 = 0 then ((vec_Vec_Check.f l1).bind fun t111 => (some (t111 == 0))) else (some false))) else (some false)
set_option maxHeartbeats 8000000 in
set_option maxRecDepth 100000 in
theorem vec_Vec_goes.calls (A0 : Option Addr) (c0 : Nat) (l0 : List Int) (A1 : Option Addr) (c1 : Nat) (l1 : List Int) (r : Bool) (w : World) (hr0 : Kd.C (Kd.int .i64) w A0 l0.length l0) (hc0 : l0.length ≤ c0) (hr1 : Kd.C (Kd.int .i64) w A1 l1.length l1) (hc1 : l1.length ≤ c1) (h : vec_Vec_goes.f l0 l1 = some r) :
    Calls Try.prog 48 #[.slice A0 l0.length c0, .slice A1 l1.length c1] w fun e w' => e = .returned (.bool r) ∧ Drawn0 w w' := by
  have HR0 := Aside0.mk hr0
  have HC0 := Aside0.mk hc0
  clear hr0 hc0
  have HR1 := Aside0.mk hr1
  have HC1 := Aside0.mk hc1
  clear hr1 hc1
  have H : (if (l0.length : Int) = (l1.length : Int) then ((vec_Vec_Check.f l0).bind fun t110 => (if t110 = 0 then ((vec_Vec_Check.f l1).bind fun t111 => (some (t111 == 0))) else (some false))) else (some false)) = some r := h
  clear h
  by_cases c3 : (l0.length : Int) = (l1.length : Int)
  · rw [if_pos c3] at H
    have c3b0 : ((l0.length : Int) == (l1.length : Int)) = true := beq_iff_eq.mpr c3
    have c3b1 : ((l0.length : Int) != (l1.length : Int)) = false := bne_eq_false_iff_eq.mpr c3
    have c3b2 : (l0.length == l1.length) = true := by first | simpa using c3 | (simp at c3 ⊢; omega)
    clear c3
    replace H := Option.bind_eq_some_iff.mp H
    obtain ⟨t110, A40, H⟩ := H
    replace H : (if t110 = 0 then ((vec_Vec_Check.f l1).bind fun t111 => (some (t111 == 0))) else (some false)) = some r := H
    have A4 := Aside0.mk A40
    clear A40
    by_cases c5 : t110 = 0
    · rw [if_pos c5] at H
      have c5b0 : (t110 == 0) = true := beq_iff_eq.mpr c5
      have c5b1 : (t110 != 0) = false := bne_eq_false_iff_eq.mpr c5
      clear c5
      replace H := Option.bind_eq_some_iff.mp H
      obtain ⟨t111, A60, H⟩ := H
      replace H : (some (t111 == 0)) = some r := H
      have A6 := Aside0.mk A60
      clear A60
      obtain rfl := Option.some.inj H
      go_enter Try.func48, Try.ntmps48
      go_wp2_with (first | (go_at_call 29; (with_reducible refine (vec_Vec_Check.calls _ _ l0 t110 _ ?side1 ?side2 A4.out).mono ?_); (case side1 => repeat (first | exact HR0.out | (with_reducible refine Kd.C_alloc ?_ _) | (with_reducible refine Kd.C_drewN ?_ _) | (with_reducible refine Kd.C_drew ?_))); (case side2 => exact HC0.out); rintro e w' ⟨rfl, ⟨nd, rfl⟩⟩) | (go_at_call 29; (with_reducible refine (vec_Vec_Check.calls _ _ l1 t111 _ ?side1 ?side2 A6.out).mono ?_); (case side1 => repeat (first | exact HR1.out | (with_reducible refine Kd.C_alloc ?_ _) | (with_reducible refine Kd.C_drewN ?_ _) | (with_reducible refine Kd.C_drew ?_))); (case side2 => exact HC1.out); rintro e w' ⟨rfl, ⟨nd, rfl⟩⟩))
      go_ret
      exact ⟨by first | rfl | (simp; done) | (simp [*]; done), by repeat (first | exact Drawn0.refl _ | apply Drawn0.step)⟩
    · rw [if_neg c5] at H
      have c5b0 : (t110 == 0) = false := beq_eq_false_iff_ne.mpr c5
      have c5b1 : (t110 != 0) = true := bne_iff_ne.mpr c5
      obtain rfl := Option.some.inj H
      go_enter Try.func48, Try.ntmps48
      go_wp2_with (first | (go_at_call 29; (with_reducible refine (vec_Vec_Check.calls _ _ l0 t110 _ ?side1 ?side2 A4.out).mono ?_); (case side1 => repeat (first | exact HR0.out | (with_reducible refine Kd.C_alloc ?_ _) | (with_reducible refine Kd.C_drewN ?_ _) | (with_reducible refine Kd.C_drew ?_))); (case side2 => exact HC0.out); rintro e w' ⟨rfl, ⟨nd, rfl⟩⟩))
      go_ret
      exact ⟨by first | rfl | (simp; done) | (simp [*]; done), by repeat (first | exact Drawn0.refl _ | apply Drawn0.step)⟩
  · rw [if_neg c3] at H
    have c3b0 : ((l0.length : Int) == (l1.length : Int)) = false := beq_eq_false_iff_ne.mpr c3
    have c3b1 : ((l0.length : Int) != (l1.length : Int)) = true := bne_iff_ne.mpr c3
    have c3b2 : (l0.length == l1.length) = false := by first | simpa using c3 | (simp at c3 ⊢; omega)
    obtain rfl := Option.some.inj H
    go_enter Try.func48, Try.ntmps48
    go_wp2
    go_ret
    exact ⟨by first | rfl | (simp; done) | (simp [*]; done), by repeat (first | exact Drawn0.refl _ | apply Drawn0.step)⟩
theorem vec_Vec_goes.at (A0 : Option Addr) (c0 : Nat) (n0 : Nat) (l0 : List Int) (A1 : Option Addr) (c1 : Nat) (n1 : Nat) (l1 : List Int) (r : Bool) (w : World) (hr0 : Kd.C (Kd.int .i64) w A0 n0 l0) (hc0 : n0 ≤ c0) (hr1 : Kd.C (Kd.int .i64) w A1 n1 l1) (hc1 : n1 ≤ c1) (h : vec_Vec_goes.f l0 l1 = some r) :
    Calls Try.prog 48 #[.slice A0 n0 c0, .slice A1 n1 c1] w fun e w' => e = .returned (.bool r) ∧ Drawn0 w w' := by
  obtain rfl : l0.length = n0 := Kd.C_len hr0
  obtain rfl : l1.length = n1 := Kd.C_len hr1
  exact vec_Vec_goes.calls A0 c0 l0 A1 c1 l1 r w hr0 hc0 hr1 hc1 h

-- NOT PRINTED: function 49 (vec_zip_int)

/-! ### vec_Vec_Join: function 18 -/
def vec_Vec_Join.f (l0 l1 : List Int) : Option (List Int × Int) := (vec_Vec_goes.f l0 l1).bind fun b => if b = true then (if l0.length = 0 then none else if l0.length = l1.length then (if l0.length ≤ 1000 then some (List.zipWith mx l0 l1, 0) else none) else none) else some ([], 1)
set_option maxRecDepth 100000 in
theorem vec_Vec_Join.by1 (a b : Int) (w : World) : Calls Try.prog 50 #[.int .i64 a, .int .i64 b] w fun e w' => e = .returned (.int .i64 (mx a b)) ∧ w = w' := by
  by_cases hab : a < b
  · have e : mx a b = b := by unfold mx; rw [if_pos hab]
    rw [e]
    go_enter Try.func50, Try.ntmps50
    go_wp2
    go_ret
    exact ⟨rfl, rfl⟩
  · have e : mx a b = a := by unfold mx; rw [if_neg hab]
    rw [e]
    go_enter Try.func50, Try.ntmps50
    go_wp2
    go_ret
    exact ⟨rfl, rfl⟩
def vec_Vec_Join.zs (l0 l1 : List Int) (j : Int) : List Int := List.zipWith mx (l0.take j.toNat) (l1.take j.toNat) ++ List.replicate (l0.length - j.toNat) 0
theorem vec_Vec_Join.zs_len (l0 l1 : List Int) (j : Int) (h : l0.length = l1.length) (h1 : j ≤ l0.length) : (vec_Vec_Join.zs l0 l1 j).length = l0.length := by
  simp [vec_Vec_Join.zs]; omega
theorem vec_Vec_Join.zs_step (l0 l1 : List Int) (j : Int) (h : l0.length = l1.length) (h0 : 0 ≤ j) (h1 : j < l0.length) : (vec_Vec_Join.zs l0 l1 j).set j.toNat (mx (rd l0 j) (rd l1 j)) = vec_Vec_Join.zs l0 l1 (j + 1) := by
  obtain ⟨k, rfl⟩ := Int.eq_ofNat_of_zero_le h0
  have e1 : ((k : Int) + 1).toNat = k + 1 := by omega
  have hk : k < l0.length := by omega
  have hk1 : k < l1.length := by omega
  simp only [vec_Vec_Join.zs, Int.toNat_natCast, e1, rd]
  apply List.ext_getElem
  · simp; omega
  · intro i h2 h3
    simp only [List.length_set, List.length_append, List.length_zipWith, List.length_take, List.length_replicate] at h2
    rw [List.getElem_set]
    by_cases hi : k = i
    · subst hi
      rw [if_pos rfl, List.getElem_append_left (by simp; omega)]
      simp [List.getD_eq_getElem?_getD, List.getElem?_eq_getElem hk, List.getElem?_eq_getElem hk1]
    · rw [if_neg hi]
      by_cases hlt : i < k
      · rw [List.getElem_append_left (by simp; omega), List.getElem_append_left (by simp; omega)]
        simp
      · rw [List.getElem_append_right (by simp; omega), List.getElem_append_right (by simp; omega)]
        simp
set_option maxHeartbeats 2000000 in
set_option maxRecDepth 100000 in
theorem vec_Vec_Join.zip (A0 : Option Addr) (c0 : Nat) (l0 : List Int) (A1 : Option Addr) (c1 : Nat) (l1 : List Int) (w : World) (hr0 : Kd.C (Kd.int .i64) w A0 l0.length l0) (hc0 : l0.length ≤ c0) (hr1 : Kd.C (Kd.int .i64) w A1 l1.length l1) (hc1 : l1.length ≤ c1)
    (hlen : l0.length = l1.length) (hpos : 0 < l0.length) (hlim : l0.length ≤ 1000) :
    Calls Try.prog 49 #[.slice A0 l0.length c0, .slice A1 l1.length c1, .func (.func 50) #[] #[]] w fun e w' => ∃ v0_ : Value, e = .returned v0_ ∧ Kd.R (Kd.int .i64) 3 w' w.heap.size (fun _ => True) v0_ (List.zipWith mx l0 l1) ∧ Below w.heap.size w w' := by
  have HR0 := Aside0.mk hr0
  have HR1 := Aside0.mk hr1
  have HB := Aside0.mk (Below.refl w.heap.size w)
  have HLEN := Aside0.mk hlen
  have HLIM := Aside0.mk hlim
  clear hr0 hr1 hlen
  have b0 : (0 : Int) ≤ (l0.length : Int) := by omega
  go_enter Try.func49, Try.ntmps49
  go_wp2_with (first | ((with_reducible refine gate_dst (N := 11) rfl ?_); refine Kd.R_make (Kd.int .i64) w.heap.size 3 rfl (N := 11) rfl 22 _ _ rfl (l0.length : Int) rfl rfl Try.underlying22 (.int .i64 0) 8 info3 rfl (by decide) (by omega) 0 (ok := fun _ => True) (okp := fun _ => True) rfl (fun _ hk => hk) trivial (by omega) (by have := HLIM.out; omega) (Below.refl _ _) (Nat.le_refl _) ?_; intro v7 w7 ho7 hb7 hg7 hn7; have HO7 := Aside0.mk ho7; have HB7 := Aside0.mk hb7; clear ho7 hb7 hg7 hn7))
  have hz0 : Kd.R (Kd.int .i64) 3 w7 w.heap.size (fun _ => True) v7 (vec_Vec_Join.zs l0 l1 0) := by
    have := HO7.out
    simpa [vec_Vec_Join.zs] using this
  obtain ⟨g, cap, rfl, hge, hlt, _⟩ := Kd.R_form hz0 (by rw [vec_Vec_Join.zs_len l0 l1 0 HLEN.out (by omega)]; exact hpos)
  rw [vec_Vec_Join.zs_len l0 l1 0 HLEN.out (by omega)] at hz0 ⊢
  have HZ := Aside0.mk hz0
  clear hz0 HO7
  go_loopw [8, 14] (fun _ x wr => ∃ j : Int, 0 ≤ j ∧ j ≤ (l0.length : Int) ∧ x = .int .i64 j ∧ Aside0 (Kd.R (Kd.int .i64) 3 wr w.heap.size (fun _ => True) (.slice (some ⟨g, 0, none⟩) l0.length cap) (vec_Vec_Join.zs l0 l1 j)) ∧ Aside0 (Below w.heap.size w wr)) (fun _ x _ => l0.length - (intOf x).toNat)
  case atStart => exact ⟨0, by omega, by omega, rfl, HZ, HB7⟩
  case round =>
    obtain ⟨j, hj1, hj2, rfl, HZ, HB7⟩ := hrel
    by_cases hlt : j < (l0.length : Int)
    · obtain ⟨ad0, ead0, hx0⟩ := Kd.at_int (Kd.C_below HR0.out HB7.out) j hj1 hlt
      obtain ⟨ad1, ead1, hx1⟩ := Kd.at_int (Kd.C_below HR1.out HB7.out) j hj1 (by have := HLEN.out; omega)
      cases ead0
      cases ead1
      obtain ⟨hc, hf⟩ := Kd.R_celln 0 HZ.out j hj1 hlt
      have HP := Aside0.mk (Kd.R_putg HZ.out j (mx (rd l0 j) (rd l1 j)))
      have t3 : decide (j < (l0.length : Int)) = true := decide_eq_true hlt
      have t4 : (0 ≤ j) = True := eq_true (by omega)
      have t5 : (j < (l0.length : Int)) = True := eq_true hlt
      have t6 : j + 1 ≤ (l0.length : Int) := by omega
      have t7 : (j < (l1.length : Int)) = True := eq_true (by have := HLEN.out; omega)
      clear hlt
      go_wp2
      refine wp_region_still_tail 13 (by kernel_rfl) (by kernel_rfl) ?_
      simp only [List.take_succ_cons, List.take_zero, List.drop_succ_cons, List.drop_zero]
      change wpStill _ _ wr.drew _ _ _
      still_step
      still_step
      still_step
      still_step
      still_step
      still_step
      still_step
      still_step
      still_step
      still_step
      still_step
      refine wpStill_step (fun K hK => ?_)
      go_simp
      refine ⟨_, (vec_Vec_Join.by1 _ _ _).mono fun e w' ⟨he, hw⟩ => ⟨he, hw.symm⟩, hK _ ?_⟩
      clear hK K
      still_step
      refine wpStill_nil ?_
      change wpList _ _ _ _ _ wr.drew
      have HP2 := HP.out
      rw [vec_Vec_Join.zs_step l0 l1 j HLEN.out hj1 (by omega)] at HP2
      have HQ := Aside0.mk HP2
      clear HP2 HP
      go_wp2
      go_roundw
      case rel => exact ⟨j + 1, by omega, t6, rfl, ⟨Kd.R_drew HQ.out.1⟩, ⟨below_drew (below_set HB7.out hge)⟩⟩
      case measure => simp only [intOf]; omega
    · have t3 : decide (j < (l0.length : Int)) = false := decide_eq_false hlt
      have HE := Aside0.mk (show Kd.R (Kd.int .i64) 3 wr w.heap.size (fun _ => True) (.slice (some ⟨g, 0, none⟩) l0.length cap) (List.zipWith mx l0 l1) by
        have h1 := HZ.out
        have hj : j.toNat = l0.length := by omega
        have hl := HLEN.out
        have e : vec_Vec_Join.zs l0 l1 j = List.zipWith mx l0 l1 := by
          unfold vec_Vec_Join.zs
          rw [hj, List.take_of_length_le (Nat.le_refl _), List.take_of_length_le (by omega), Nat.sub_self]
          simp
        rwa [e] at h1)
      clear hlt
      go_wp2
      go_ret
      exact ⟨_, rfl, HE.out, HB7.out⟩
set_option maxHeartbeats 2000000 in
set_option maxRecDepth 100000 in
theorem vec_Vec_Join.calls (A0 : Option Addr) (c0 : Nat) (l0 : List Int) (A1 : Option Addr) (c1 : Nat) (l1 : List Int) (r1 : List Int) (r2 : Int) (w : World) (hr0 : Kd.C (Kd.int .i64) w A0 l0.length l0) (hc0 : l0.length ≤ c0) (hr1 : Kd.C (Kd.int .i64) w A1 l1.length l1) (hc1 : l1.length ≤ c1) (h : vec_Vec_Join.f l0 l1 = some (r1, r2)) :
    Calls Try.prog 18 #[.slice A0 l0.length c0, .slice A1 l1.length c1] w fun e w' => ∃ v0_ : Value, e = .returned (.tuple #[v0_, .int .i64 r2]) ∧ Kd.R (Kd.int .i64) 3 w' w.heap.size (fun _ => True) v0_ r1 ∧ Below w.heap.size w w' := by
  have HR0 := Aside0.mk hr0
  have HR1 := Aside0.mk hr1
  clear hr0 hr1
  unfold vec_Vec_Join.f at h
  obtain ⟨b, hb, h⟩ := Option.bind_eq_some_iff.mp h
  have HG := Aside0.mk hb
  clear hb
  cases b with
  | false =>
    simp only [Bool.false_eq_true, if_false, Option.some.injEq, Prod.mk.injEq] at h
    obtain ⟨rfl, rfl⟩ := h
    go_enter Try.func18, Try.ntmps18
    go_wp2_with (go_at_call 48; (with_reducible refine (vec_Vec_goes.calls _ _ l0 _ _ l1 false _ ?s1 ?s2 ?s3 ?s4 HG.out).mono ?_); (case s1 => exact HR0.out); (case s2 => exact hc0); (case s3 => exact HR1.out); (case s4 => exact hc1); rintro e w' ⟨rfl, ⟨nd, rfl⟩⟩)
    go_ret2
    exact ⟨_, rfl, Kd.R_nil _ _ _ _ _, pw_below_drewN (Below.refl _ _) _⟩
  | true =>
    rw [if_pos rfl] at h
    split at h
    · cases h
    rename_i hp
    split at h
    · rename_i hl
      split at h
      · rename_i hm
        simp only [Option.some.injEq, Prod.mk.injEq] at h
        obtain ⟨rfl, rfl⟩ := h
        have HL := Aside0.mk hl
        have HM := Aside0.mk hm
        have HP := Aside0.mk hp
        clear hl hm hp
        go_enter Try.func18, Try.ntmps18
        go_wp2_with (first | (go_at_call 48; (with_reducible refine (vec_Vec_goes.calls _ _ l0 _ _ l1 true _ ?s1 ?s2 ?s3 ?s4 HG.out).mono ?_); (case s1 => exact HR0.out); (case s2 => exact hc0); (case s3 => exact HR1.out); (case s4 => exact hc1); rintro e w' ⟨rfl, ⟨nd, rfl⟩⟩) | (go_at_call 49; (refine (vec_Vec_Join.zip _ _ l0 _ _ l1 _ ?s1 ?s2 ?s3 ?s4 HL.out ?s5 HM.out).mono ?_); (case s1 => exact Kd.C_drewN HR0.out _); (case s2 => exact hc0); (case s3 => exact Kd.C_drewN HR1.out _); (case s4 => exact hc1); (case s5 => have := HP.out; omega); rintro e w' ⟨v5, rfl, ho5, hb5⟩; have HO5 := Aside0.mk ho5; have HB5 := Aside0.mk hb5; clear ho5 hb5))
        go_ret2
        exact ⟨_, rfl, HO5.out, below_step (pw_below_drewN (Below.refl _ _) nd) HB5.out⟩
      · cases h
    · cases h
theorem vec_Vec_Join.at (A0 : Option Addr) (c0 : Nat) (n0 : Nat) (l0 : List Int) (A1 : Option Addr) (c1 : Nat) (n1 : Nat) (l1 : List Int) (r1 : List Int) (r2 : Int) (w : World) (hr0 : Kd.C (Kd.int .i64) w A0 n0 l0) (hc0 : n0 ≤ c0) (hr1 : Kd.C (Kd.int .i64) w A1 n1 l1) (hc1 : n1 ≤ c1) (h : vec_Vec_Join.f l0 l1 = some (r1, r2)) :
    Calls Try.prog 18 #[.slice A0 n0 c0, .slice A1 n1 c1] w fun e w' => ∃ v0_ : Value, e = .returned (.tuple #[v0_, .int .i64 r2]) ∧ Kd.R (Kd.int .i64) 3 w' w.heap.size (fun _ => True) v0_ r1 ∧ Below w.heap.size w w' := by
  obtain rfl : l0.length = n0 := Kd.C_len hr0
  obtain rfl : l1.length = n1 := Kd.C_len hr1
  exact vec_Vec_Join.calls A0 c0 l0 A1 c1 l1 r1 r2 w hr0 hc0 hr1 hc1 h


/-! ### vec_Vec_Meet: function 20 -/
def vec_Vec_Meet.f (l0 l1 : List Int) : Option (List Int × Int) := (vec_Vec_goes.f l0 l1).bind fun b => if b = true then (if l0.length = 0 then none else if l0.length = l1.length then (if l0.length ≤ 1000 then some (List.zipWith mn l0 l1, 0) else none) else none) else some ([], 1)
set_option maxRecDepth 100000 in
theorem vec_Vec_Meet.by1 (a b : Int) (w : World) : Calls Try.prog 52 #[.int .i64 a, .int .i64 b] w fun e w' => e = .returned (.int .i64 (mn a b)) ∧ w = w' := by
  by_cases hab : b < a
  · have e : mn a b = b := by unfold mn; rw [if_pos hab]
    rw [e]
    go_enter Try.func52, Try.ntmps52
    go_wp2
    go_ret
    exact ⟨rfl, rfl⟩
  · have e : mn a b = a := by unfold mn; rw [if_neg hab]
    rw [e]
    go_enter Try.func52, Try.ntmps52
    go_wp2
    go_ret
    exact ⟨rfl, rfl⟩
def vec_Vec_Meet.zs (l0 l1 : List Int) (j : Int) : List Int := List.zipWith mn (l0.take j.toNat) (l1.take j.toNat) ++ List.replicate (l0.length - j.toNat) 0
theorem vec_Vec_Meet.zs_len (l0 l1 : List Int) (j : Int) (h : l0.length = l1.length) (h1 : j ≤ l0.length) : (vec_Vec_Meet.zs l0 l1 j).length = l0.length := by
  simp [vec_Vec_Meet.zs]; omega
theorem vec_Vec_Meet.zs_step (l0 l1 : List Int) (j : Int) (h : l0.length = l1.length) (h0 : 0 ≤ j) (h1 : j < l0.length) : (vec_Vec_Meet.zs l0 l1 j).set j.toNat (mn (rd l0 j) (rd l1 j)) = vec_Vec_Meet.zs l0 l1 (j + 1) := by
  obtain ⟨k, rfl⟩ := Int.eq_ofNat_of_zero_le h0
  have e1 : ((k : Int) + 1).toNat = k + 1 := by omega
  have hk : k < l0.length := by omega
  have hk1 : k < l1.length := by omega
  simp only [vec_Vec_Meet.zs, Int.toNat_natCast, e1, rd]
  apply List.ext_getElem
  · simp; omega
  · intro i h2 h3
    simp only [List.length_set, List.length_append, List.length_zipWith, List.length_take, List.length_replicate] at h2
    rw [List.getElem_set]
    by_cases hi : k = i
    · subst hi
      rw [if_pos rfl, List.getElem_append_left (by simp; omega)]
      simp [List.getD_eq_getElem?_getD, List.getElem?_eq_getElem hk, List.getElem?_eq_getElem hk1]
    · rw [if_neg hi]
      by_cases hlt : i < k
      · rw [List.getElem_append_left (by simp; omega), List.getElem_append_left (by simp; omega)]
        simp
      · rw [List.getElem_append_right (by simp; omega), List.getElem_append_right (by simp; omega)]
        simp
set_option maxHeartbeats 2000000 in
set_option maxRecDepth 100000 in
theorem vec_Vec_Meet.zip (A0 : Option Addr) (c0 : Nat) (l0 : List Int) (A1 : Option Addr) (c1 : Nat) (l1 : List Int) (w : World) (hr0 : Kd.C (Kd.int .i64) w A0 l0.length l0) (hc0 : l0.length ≤ c0) (hr1 : Kd.C (Kd.int .i64) w A1 l1.length l1) (hc1 : l1.length ≤ c1)
    (hlen : l0.length = l1.length) (hpos : 0 < l0.length) (hlim : l0.length ≤ 1000) :
    Calls Try.prog 49 #[.slice A0 l0.length c0, .slice A1 l1.length c1, .func (.func 52) #[] #[]] w fun e w' => ∃ v0_ : Value, e = .returned v0_ ∧ Kd.R (Kd.int .i64) 3 w' w.heap.size (fun _ => True) v0_ (List.zipWith mn l0 l1) ∧ Below w.heap.size w w' := by
  have HR0 := Aside0.mk hr0
  have HR1 := Aside0.mk hr1
  have HB := Aside0.mk (Below.refl w.heap.size w)
  have HLEN := Aside0.mk hlen
  have HLIM := Aside0.mk hlim
  clear hr0 hr1 hlen
  have b0 : (0 : Int) ≤ (l0.length : Int) := by omega
  go_enter Try.func49, Try.ntmps49
  go_wp2_with (first | ((with_reducible refine gate_dst (N := 11) rfl ?_); refine Kd.R_make (Kd.int .i64) w.heap.size 3 rfl (N := 11) rfl 22 _ _ rfl (l0.length : Int) rfl rfl Try.underlying22 (.int .i64 0) 8 info3 rfl (by decide) (by omega) 0 (ok := fun _ => True) (okp := fun _ => True) rfl (fun _ hk => hk) trivial (by omega) (by have := HLIM.out; omega) (Below.refl _ _) (Nat.le_refl _) ?_; intro v7 w7 ho7 hb7 hg7 hn7; have HO7 := Aside0.mk ho7; have HB7 := Aside0.mk hb7; clear ho7 hb7 hg7 hn7))
  have hz0 : Kd.R (Kd.int .i64) 3 w7 w.heap.size (fun _ => True) v7 (vec_Vec_Meet.zs l0 l1 0) := by
    have := HO7.out
    simpa [vec_Vec_Meet.zs] using this
  obtain ⟨g, cap, rfl, hge, hlt, _⟩ := Kd.R_form hz0 (by rw [vec_Vec_Meet.zs_len l0 l1 0 HLEN.out (by omega)]; exact hpos)
  rw [vec_Vec_Meet.zs_len l0 l1 0 HLEN.out (by omega)] at hz0 ⊢
  have HZ := Aside0.mk hz0
  clear hz0 HO7
  go_loopw [8, 14] (fun _ x wr => ∃ j : Int, 0 ≤ j ∧ j ≤ (l0.length : Int) ∧ x = .int .i64 j ∧ Aside0 (Kd.R (Kd.int .i64) 3 wr w.heap.size (fun _ => True) (.slice (some ⟨g, 0, none⟩) l0.length cap) (vec_Vec_Meet.zs l0 l1 j)) ∧ Aside0 (Below w.heap.size w wr)) (fun _ x _ => l0.length - (intOf x).toNat)
  case atStart => exact ⟨0, by omega, by omega, rfl, HZ, HB7⟩
  case round =>
    obtain ⟨j, hj1, hj2, rfl, HZ, HB7⟩ := hrel
    by_cases hlt : j < (l0.length : Int)
    · obtain ⟨ad0, ead0, hx0⟩ := Kd.at_int (Kd.C_below HR0.out HB7.out) j hj1 hlt
      obtain ⟨ad1, ead1, hx1⟩ := Kd.at_int (Kd.C_below HR1.out HB7.out) j hj1 (by have := HLEN.out; omega)
      cases ead0
      cases ead1
      obtain ⟨hc, hf⟩ := Kd.R_celln 0 HZ.out j hj1 hlt
      have HP := Aside0.mk (Kd.R_putg HZ.out j (mn (rd l0 j) (rd l1 j)))
      have t3 : decide (j < (l0.length : Int)) = true := decide_eq_true hlt
      have t4 : (0 ≤ j) = True := eq_true (by omega)
      have t5 : (j < (l0.length : Int)) = True := eq_true hlt
      have t6 : j + 1 ≤ (l0.length : Int) := by omega
      have t7 : (j < (l1.length : Int)) = True := eq_true (by have := HLEN.out; omega)
      clear hlt
      go_wp2
      refine wp_region_still_tail 13 (by kernel_rfl) (by kernel_rfl) ?_
      simp only [List.take_succ_cons, List.take_zero, List.drop_succ_cons, List.drop_zero]
      change wpStill _ _ wr.drew _ _ _
      still_step
      still_step
      still_step
      still_step
      still_step
      still_step
      still_step
      still_step
      still_step
      still_step
      still_step
      refine wpStill_step (fun K hK => ?_)
      go_simp
      refine ⟨_, (vec_Vec_Meet.by1 _ _ _).mono fun e w' ⟨he, hw⟩ => ⟨he, hw.symm⟩, hK _ ?_⟩
      clear hK K
      still_step
      refine wpStill_nil ?_
      change wpList _ _ _ _ _ wr.drew
      have HP2 := HP.out
      rw [vec_Vec_Meet.zs_step l0 l1 j HLEN.out hj1 (by omega)] at HP2
      have HQ := Aside0.mk HP2
      clear HP2 HP
      go_wp2
      go_roundw
      case rel => exact ⟨j + 1, by omega, t6, rfl, ⟨Kd.R_drew HQ.out.1⟩, ⟨below_drew (below_set HB7.out hge)⟩⟩
      case measure => simp only [intOf]; omega
    · have t3 : decide (j < (l0.length : Int)) = false := decide_eq_false hlt
      have HE := Aside0.mk (show Kd.R (Kd.int .i64) 3 wr w.heap.size (fun _ => True) (.slice (some ⟨g, 0, none⟩) l0.length cap) (List.zipWith mn l0 l1) by
        have h1 := HZ.out
        have hj : j.toNat = l0.length := by omega
        have hl := HLEN.out
        have e : vec_Vec_Meet.zs l0 l1 j = List.zipWith mn l0 l1 := by
          unfold vec_Vec_Meet.zs
          rw [hj, List.take_of_length_le (Nat.le_refl _), List.take_of_length_le (by omega), Nat.sub_self]
          simp
        rwa [e] at h1)
      clear hlt
      go_wp2
      go_ret
      exact ⟨_, rfl, HE.out, HB7.out⟩
set_option maxHeartbeats 2000000 in
set_option maxRecDepth 100000 in
theorem vec_Vec_Meet.calls (A0 : Option Addr) (c0 : Nat) (l0 : List Int) (A1 : Option Addr) (c1 : Nat) (l1 : List Int) (r1 : List Int) (r2 : Int) (w : World) (hr0 : Kd.C (Kd.int .i64) w A0 l0.length l0) (hc0 : l0.length ≤ c0) (hr1 : Kd.C (Kd.int .i64) w A1 l1.length l1) (hc1 : l1.length ≤ c1) (h : vec_Vec_Meet.f l0 l1 = some (r1, r2)) :
    Calls Try.prog 20 #[.slice A0 l0.length c0, .slice A1 l1.length c1] w fun e w' => ∃ v0_ : Value, e = .returned (.tuple #[v0_, .int .i64 r2]) ∧ Kd.R (Kd.int .i64) 3 w' w.heap.size (fun _ => True) v0_ r1 ∧ Below w.heap.size w w' := by
  have HR0 := Aside0.mk hr0
  have HR1 := Aside0.mk hr1
  clear hr0 hr1
  unfold vec_Vec_Meet.f at h
  obtain ⟨b, hb, h⟩ := Option.bind_eq_some_iff.mp h
  have HG := Aside0.mk hb
  clear hb
  cases b with
  | false =>
    simp only [Bool.false_eq_true, if_false, Option.some.injEq, Prod.mk.injEq] at h
    obtain ⟨rfl, rfl⟩ := h
    go_enter Try.func20, Try.ntmps20
    go_wp2_with (go_at_call 48; (with_reducible refine (vec_Vec_goes.calls _ _ l0 _ _ l1 false _ ?s1 ?s2 ?s3 ?s4 HG.out).mono ?_); (case s1 => exact HR0.out); (case s2 => exact hc0); (case s3 => exact HR1.out); (case s4 => exact hc1); rintro e w' ⟨rfl, ⟨nd, rfl⟩⟩)
    go_ret2
    exact ⟨_, rfl, Kd.R_nil _ _ _ _ _, pw_below_drewN (Below.refl _ _) _⟩
  | true =>
    rw [if_pos rfl] at h
    split at h
    · cases h
    rename_i hp
    split at h
    · rename_i hl
      split at h
      · rename_i hm
        simp only [Option.some.injEq, Prod.mk.injEq] at h
        obtain ⟨rfl, rfl⟩ := h
        have HL := Aside0.mk hl
        have HM := Aside0.mk hm
        have HP := Aside0.mk hp
        clear hl hm hp
        go_enter Try.func20, Try.ntmps20
        go_wp2_with (first | (go_at_call 48; (with_reducible refine (vec_Vec_goes.calls _ _ l0 _ _ l1 true _ ?s1 ?s2 ?s3 ?s4 HG.out).mono ?_); (case s1 => exact HR0.out); (case s2 => exact hc0); (case s3 => exact HR1.out); (case s4 => exact hc1); rintro e w' ⟨rfl, ⟨nd, rfl⟩⟩) | (go_at_call 49; (refine (vec_Vec_Meet.zip _ _ l0 _ _ l1 _ ?s1 ?s2 ?s3 ?s4 HL.out ?s5 HM.out).mono ?_); (case s1 => exact Kd.C_drewN HR0.out _); (case s2 => exact hc0); (case s3 => exact Kd.C_drewN HR1.out _); (case s4 => exact hc1); (case s5 => have := HP.out; omega); rintro e w' ⟨v5, rfl, ho5, hb5⟩; have HO5 := Aside0.mk ho5; have HB5 := Aside0.mk hb5; clear ho5 hb5))
        go_ret2
        exact ⟨_, rfl, HO5.out, below_step (pw_below_drewN (Below.refl _ _) nd) HB5.out⟩
      · cases h
    · cases h
theorem vec_Vec_Meet.at (A0 : Option Addr) (c0 : Nat) (n0 : Nat) (l0 : List Int) (A1 : Option Addr) (c1 : Nat) (n1 : Nat) (l1 : List Int) (r1 : List Int) (r2 : Int) (w : World) (hr0 : Kd.C (Kd.int .i64) w A0 n0 l0) (hc0 : n0 ≤ c0) (hr1 : Kd.C (Kd.int .i64) w A1 n1 l1) (hc1 : n1 ≤ c1) (h : vec_Vec_Meet.f l0 l1 = some (r1, r2)) :
    Calls Try.prog 20 #[.slice A0 n0 c0, .slice A1 n1 c1] w fun e w' => ∃ v0_ : Value, e = .returned (.tuple #[v0_, .int .i64 r2]) ∧ Kd.R (Kd.int .i64) 3 w' w.heap.size (fun _ => True) v0_ r1 ∧ Below w.heap.size w w' := by
  obtain rfl : l0.length = n0 := Kd.C_len hr0
  obtain rfl : l1.length = n1 := Kd.C_len hr1
  exact vec_Vec_Meet.calls A0 c0 l0 A1 c1 l1 r1 r2 w hr0 hc0 hr1 hc1 h


end Go.Proofs.Ytpoigdkbblmpaaa.PVec
