/- Functions that the law reaches, each as a plain Lean function with the proof that the call does what it says. Conditions: none beyond those that each theorem states. Written by a program for this claim. -/
import Derived.Test.YtphdjpfdelpecaaGreatDoorPTopfx0
import Derived.Test.YtphdjpfdelpecaaGreatDoorPTopfx1
namespace Go.Proofs.YtphdjpfdelpecaaGreatDoor.PTopf
open Go.RowKit Go.Proofs.YtphdjpfdelpecaaGreatDoorW.PrintWords Go.Proofs.YtphdjpfdelpecaaGreatDoorW.PrintLast Go.Proofs.YtphdjpfdelpecaaGreatDoorW.PrintMore
attribute [local go_sem] max2_int min2_int max_two min_two max_three min_three max_four min_four   -- for this text's walks alone
set_option linter.unusedVariables false
set_option linter.unusedSimpArgs false
def mC.clk (n : Int) : Bool := decide (0 ≤ n) && decide (n ≤ 4294967295)
def mC.mayb (t s n : Int) : Bool := decide (0 < t) && (decide (t ≤ 4294967295) && (decide (0 ≤ s) && decide (s < n)))
theorem mC.isclk (n : Int) : mesg_isClock.f n = some (mC.clk n) := by
 unfold mesg_isClock.f mC.clk
 by_cases h : n ≥ 0
 ·rw [if_pos h, decide_eq_true (show 0 ≤ n from h), Bool.true_and]
 ·rw [if_neg h, decide_eq_false (show ¬ 0 ≤ n from h), Bool.false_and]
set_option maxHeartbeats 4000000 in
set_option maxRecDepth 100000 in
theorem mC.may (t s n : Int) (g : Nat) (w : World) (hn : w.heap[g]? = some (.cells #[.int .i64 n] 3 (0, 0))) :
  Calls Tryz.prog 87 #[.agg #[.int .i64 t, .int .i64 s], .pointer (some ⟨g, 0, none⟩)] w fun e w' => e = .returned (.bool (mC.mayb t s n)) ∧ Below w.heap.size w w' := by
 have hu24 := Tryz.underlying52
 have B_w := Aside0.mk (Below.refl w.heap.size w)
 have X_g_w := Aside0.mk hn
 clear hn
 by_cases c1 : 0 < t
 ·by_cases c2 : t ≤ 4294967295
  ·by_cases c3 : 0 ≤ s
   ·
    have d1 : decide (0 < t) = true := decide_eq_true c1
    have d2 : decide (t ≤ 4294967295) = true := decide_eq_true c2
    have HK : Aside0 (mesg_isClock.f t = some true) := ⟨by rw [mC.isclk, mC.clk, decide_eq_true (show 0 ≤ t by omega), d2]; rfl⟩
    have d3 : decide (0 ≤ s) = true := decide_eq_true c3
    have HE : Aside0 (mC.mayb t s n = decide (s < n)) := ⟨by unfold mC.mayb; simp only [d1, d2, d3, Bool.true_and, Bool.false_and]⟩
    rw [HE.out]
    clear c1 c2 c3
    go_enter Tryz.func87, Tryz.ntmps87
    go_wp2_with (first | ((with_reducible refine gate_dst (N := 2) rfl ?_); (try (refine gate_guard (by rfl) ?_; dsimp only)); refine box_event ?hg (N := 2) ?hd (cs := #[.int .i64 t, .int .i64 s]) (t := 52) ?hr ?_; (case hd => rfl); (case hg => rfl); (case hr => first | (go_simp; done) | (go_simp; rfl)); intro gx hg_gx w1 hbox hb; have B_w1 := Aside0.mk (below_step B_w.out hb); have GE_gx : Aside0 (w.heap.size ≤ gx) := ⟨by rw [hg_gx]; exact below_size B_w.out⟩; have X_g_w1 := Aside0.mk (blk_below X_g_w.out hb); have c_g_0_w1 := XW.cells1 (X_g_w1.out); have X_gx_w1 : Aside0 (w1.heap[gx]? = some (.cells #[.int .i64 t, .int .i64 s] 52 (0, 0))) := ⟨hbox⟩; obtain ⟨c_gx_0_w1, c_gx_1_w1⟩ := XW.cells2 (X_gx_w1.out); clear hb hbox hg_gx) | (go_at_call 88; (with_reducible refine (mesg_isClock.calls t true _ HK.out).mono ?_); rintro e w' ⟨rfl, ⟨nd, rfl⟩⟩))
    go_ret
    exact ⟨rfl, by first | exact B_w1.out | exact pw_below_drewN B_w1.out _⟩
   ·
    have d1 : decide (0 < t) = true := decide_eq_true c1
    have d2 : decide (t ≤ 4294967295) = true := decide_eq_true c2
    have HK : Aside0 (mesg_isClock.f t = some true) := ⟨by rw [mC.isclk, mC.clk, decide_eq_true (show 0 ≤ t by omega), d2]; rfl⟩
    have d3 : decide (0 ≤ s) = false := decide_eq_false c3
    have HE : Aside0 (mC.mayb t s n = false) := ⟨by unfold mC.mayb; simp only [d1, d2, d3, Bool.true_and, Bool.false_and]⟩
    rw [HE.out]
    clear c1 c2 c3
    go_enter Tryz.func87, Tryz.ntmps87
    go_wp2_with (first | ((with_reducible refine gate_dst (N := 2) rfl ?_); (try (refine gate_guard (by rfl) ?_; dsimp only)); refine box_event ?hg (N := 2) ?hd (cs := #[.int .i64 t, .int .i64 s]) (t := 52) ?hr ?_; (case hd => rfl); (case hg => rfl); (case hr => first | (go_simp; done) | (go_simp; rfl)); intro gx hg_gx w1 hbox hb; have B_w1 := Aside0.mk (below_step B_w.out hb); have GE_gx : Aside0 (w.heap.size ≤ gx) := ⟨by rw [hg_gx]; exact below_size B_w.out⟩; have X_g_w1 := Aside0.mk (blk_below X_g_w.out hb); have c_g_0_w1 := XW.cells1 (X_g_w1.out); have X_gx_w1 : Aside0 (w1.heap[gx]? = some (.cells #[.int .i64 t, .int .i64 s] 52 (0, 0))) := ⟨hbox⟩; obtain ⟨c_gx_0_w1, c_gx_1_w1⟩ := XW.cells2 (X_gx_w1.out); clear hb hbox hg_gx) | (go_at_call 88; (with_reducible refine (mesg_isClock.calls t true _ HK.out).mono ?_); rintro e w' ⟨rfl, ⟨nd, rfl⟩⟩))
    go_ret
    exact ⟨rfl, by first | exact B_w1.out | exact pw_below_drewN B_w1.out _⟩
  ·
   have d1 : decide (0 < t) = true := decide_eq_true c1
   have d2 : decide (t ≤ 4294967295) = false := decide_eq_false c2
   have HK : Aside0 (mesg_isClock.f t = some false) := ⟨by rw [mC.isclk, mC.clk, decide_eq_true (show 0 ≤ t by omega), d2]; rfl⟩
   have HE : Aside0 (mC.mayb t s n = false) := ⟨by unfold mC.mayb; simp only [d1, d2, Bool.true_and, Bool.false_and]⟩
   rw [HE.out]
   clear c1 c2
   go_enter Tryz.func87, Tryz.ntmps87
   go_wp2_with (first | ((with_reducible refine gate_dst (N := 2) rfl ?_); (try (refine gate_guard (by rfl) ?_; dsimp only)); refine box_event ?hg (N := 2) ?hd (cs := #[.int .i64 t, .int .i64 s]) (t := 52) ?hr ?_; (case hd => rfl); (case hg => rfl); (case hr => first | (go_simp; done) | (go_simp; rfl)); intro gx hg_gx w1 hbox hb; have B_w1 := Aside0.mk (below_step B_w.out hb); have GE_gx : Aside0 (w.heap.size ≤ gx) := ⟨by rw [hg_gx]; exact below_size B_w.out⟩; have X_g_w1 := Aside0.mk (blk_below X_g_w.out hb); have c_g_0_w1 := XW.cells1 (X_g_w1.out); have X_gx_w1 : Aside0 (w1.heap[gx]? = some (.cells #[.int .i64 t, .int .i64 s] 52 (0, 0))) := ⟨hbox⟩; obtain ⟨c_gx_0_w1, c_gx_1_w1⟩ := XW.cells2 (X_gx_w1.out); clear hb hbox hg_gx) | (go_at_call 88; (with_reducible refine (mesg_isClock.calls t false _ HK.out).mono ?_); rintro e w' ⟨rfl, ⟨nd, rfl⟩⟩))
   go_ret
   exact ⟨rfl, by first | exact B_w1.out | exact pw_below_drewN B_w1.out _⟩
 ·
  have d1 : decide (0 < t) = false := decide_eq_false c1
  have HE : Aside0 (mC.mayb t s n = false) := ⟨by unfold mC.mayb; simp only [d1, Bool.true_and, Bool.false_and]⟩
  rw [HE.out]
  clear c1
  go_enter Tryz.func87, Tryz.ntmps87
  go_wp2_with (first | ((with_reducible refine gate_dst (N := 2) rfl ?_); (try (refine gate_guard (by rfl) ?_; dsimp only)); refine box_event ?hg (N := 2) ?hd (cs := #[.int .i64 t, .int .i64 s]) (t := 52) ?hr ?_; (case hd => rfl); (case hg => rfl); (case hr => first | (go_simp; done) | (go_simp; rfl)); intro gx hg_gx w1 hbox hb; have B_w1 := Aside0.mk (below_step B_w.out hb); have GE_gx : Aside0 (w.heap.size ≤ gx) := ⟨by rw [hg_gx]; exact below_size B_w.out⟩; have X_g_w1 := Aside0.mk (blk_below X_g_w.out hb); have c_g_0_w1 := XW.cells1 (X_g_w1.out); have X_gx_w1 : Aside0 (w1.heap[gx]? = some (.cells #[.int .i64 t, .int .i64 s] 52 (0, 0))) := ⟨hbox⟩; obtain ⟨c_gx_0_w1, c_gx_1_w1⟩ := XW.cells2 (X_gx_w1.out); clear hb hbox hg_gx))
  go_ret
  exact ⟨rfl, by first | exact B_w1.out | exact pw_below_drewN B_w1.out _⟩
set_option maxHeartbeats 4000000 in
set_option maxRecDepth 100000 in
theorem mC.bad (k : Int) (w : World) : Calls Tryz.prog 90 #[.int .i64 k] w fun e w' => e = .returned (.bool (!mC.clk k)) ∧ ∃ nd, w.drewN nd = w' := by
 have HK : Aside0 (mesg_isClock.f k = some (mC.clk k)) := ⟨mC.isclk k⟩
 generalize mC.clk k = b at *
 cases b
 ·
  go_enter Tryz.func90, Tryz.ntmps90
  go_wp2_with ((go_at_call 88; (with_reducible refine (mesg_isClock.calls k false _ HK.out).mono ?_); rintro e w' ⟨rfl, ⟨nd, rfl⟩⟩))
  go_ret
  exact ⟨rfl, _, rfl⟩
 ·
  go_enter Tryz.func90, Tryz.ntmps90
  go_wp2_with ((go_at_call 88; (with_reducible refine (mesg_isClock.calls k true _ HK.out).mono ?_); rintro e w' ⟨rfl, ⟨nd, rfl⟩⟩))
  go_ret
  exact ⟨rfl, _, rfl⟩
set_option maxHeartbeats 4000000 in
set_option maxRecDepth 100000 in
theorem mC.idx (A0 : Option Addr) (c0 : Nat) (l0 : List Int) (w : World) (hr0 : Kd.C (Kd.int .i64) w A0 l0.length l0) (hc0 : l0.length ≤ c0) :
  Calls Tryz.prog 147 #[.slice A0 l0.length c0, .func (.func 90) #[] #[]] w fun e w' => (∃ r : Int, e = .returned (.int .i64 r) ∧ (0 ≤ r ↔ ∃ i : Nat, i < l0.length ∧ mC.clk (rd l0 i) = false)) ∧ Below w.heap.size w w' := by
 have HR0 := Aside0.mk hr0
 have HB := Aside0.mk (Below.refl w.heap.size w)
 have HL := Aside0.mk hr0.2.1
 clear hr0
 go_enter Tryz.func147, Tryz.ntmps147
 go_wp2
 go_loopw [5, 8] (fun _ x wr => ∃ j : Int, 0 ≤ j ∧ j ≤ (l0.length : Int) ∧ x = .int .i64 j ∧ Aside0 (∀ i : Nat, (i : Int) < j → mC.clk (rd l0 i) = true) ∧ Aside0 (Below w.heap.size w wr)) (fun _ x _ => l0.length - (intOf x).toNat)
 case atStart => exact ⟨0, by omega, by omega, rfl, ⟨fun i hi => by omega⟩, HB⟩
 case round =>
  obtain ⟨j, hj0, hj1, rfl, HA, HW⟩ := hrel
  by_cases hlt : j < (l0.length : Int)
  ·obtain ⟨ad0, ead0, hx0⟩ := Kd.at_int (Kd.C_below HR0.out HW.out) j hj0 hlt
   cases ead0
   have t3 : decide (j < (l0.length : Int)) = true := decide_eq_true hlt
   have t4 : (0 ≤ j) = True := eq_true (by omega)
   have t5 : (j < (l0.length : Int)) = True := eq_true hlt
   have T6 : Aside0 (j + 1 ≤ (l0.length : Int)) := ⟨by omega⟩
   have T7 : Aside0 (wrap64 (j + 1) = j + 1) := ⟨by have := HL.out; unfold wrap64; omega⟩
   clear hlt
   cases hb : mC.clk (rd l0 j) with
   | true =>
    have HB1 : Aside0 (mC.clk (rd l0 j) = true) := ⟨hb⟩
    clear hb
    go_wp2_with (go_at_call 90; (with_reducible refine (mC.bad _ _).mono ?_); rintro e w' ⟨rfl, nd, rfl⟩; rw [HB1.out])
    go_roundw
    case rel =>
     refine ⟨j + 1, by omega, T6.out, by rw [T7.out], ⟨fun i hi => ?_⟩, ⟨pw_below_drewN HW.out _⟩⟩
     by_cases hij : (i : Int) < j
     ·exact HA.out i hij
     ·have e : (i : Int) = j := by omega
      rw [e]; exact HB1.out
    case measure =>
     have := T6.out
     simp only [intOf]
     rw [T7.out]
     omega
   | false =>
    have HB1 : Aside0 (mC.clk (rd l0 j) = false) := ⟨hb⟩
    clear hb
    go_wp2_with (go_at_call 90; (with_reducible refine (mC.bad _ _).mono ?_); rintro e w' ⟨rfl, nd, rfl⟩; rw [HB1.out])
    go_ret
    have hj : j < (l0.length : Int) := of_decide_eq_true t3
    exact ⟨⟨j, rfl, fun _ => ⟨j.toNat, by omega, by rw [Int.toNat_of_nonneg hj0]; exact HB1.out⟩, fun _ => hj0⟩, pw_below_drewN HW.out _⟩
  ·have t3 : decide (j < (l0.length : Int)) = false := decide_eq_false hlt
   have HG : Aside0 (¬ j < (l0.length : Int)) := ⟨hlt⟩
   clear hlt
   go_wp2
   go_ret
   have hlt := HG.out
   exact ⟨⟨-1, rfl, fun h => by omega, fun ⟨i, hi, h⟩ => by have := HA.out i (by omega); rw [this] at h; cases h⟩, HW.out⟩
def mC.anyb (l : List Int) : Bool := l.any (fun k => !mC.clk k)
theorem mC.anyb_iff (l : List Int) : (∃ i : Nat, i < l.length ∧ mC.clk (rd l i) = false) ↔ mC.anyb l = true := by
 unfold mC.anyb
 rw [List.any_eq_true]
 constructor
 ·rintro ⟨i, hi, h⟩
  refine ⟨rd l i, ?_, by rw [h]; rfl⟩
  have : rd l i = l[i] := by simp [rd, List.getD_eq_getElem?_getD, List.getElem?_eq_getElem hi]
  rw [this]; exact List.getElem_mem hi
 ·rintro ⟨x, hx, h⟩
  obtain ⟨i, hi, rfl⟩ := List.getElem_of_mem hx
  have : rd l i = l[i] := by simp [rd, List.getD_eq_getElem?_getD, List.getElem?_eq_getElem hi]
  refine ⟨i, hi, ?_⟩
  rw [this]
  cases hc : mC.clk l[i] with
  | true => rw [hc] at h; cases h
  | false => rfl
set_option maxHeartbeats 4000000 in
set_option maxRecDepth 100000 in
theorem mC.con (A0 : Option Addr) (c0 : Nat) (l0 : List Int) (b : Bool) (h : mC.anyb l0 = b) (w : World) (hr0 : Kd.C (Kd.int .i64) w A0 l0.length l0) (hc0 : l0.length ≤ c0) :
  Calls Tryz.prog 89 #[.slice A0 l0.length c0, .func (.func 90) #[] #[]] w fun e w' => e = .returned (.bool b) ∧ Below w.heap.size w w' := by
 have HR0 := Aside0.mk hr0
 have HH := Aside0.mk h
 clear hr0 h
 cases b
 ·go_enter Tryz.func89, Tryz.ntmps89
  go_wp2_with (go_at_call 147; (with_reducible refine (mC.idx _ _ l0 _ HR0.out hc0).mono ?_); rintro e w1 ⟨⟨r, rfl, hr⟩, hb⟩; have HB := Aside0.mk hb; have hd : decide (0 ≤ r) = false := decide_eq_false (fun h => by have := (mC.anyb_iff l0).mp (hr.mp h); rw [HH.out] at this; cases this); clear hr hb)
  go_ret
  exact ⟨rfl, HB.out⟩
 ·go_enter Tryz.func89, Tryz.ntmps89
  go_wp2_with (go_at_call 147; (with_reducible refine (mC.idx _ _ l0 _ HR0.out hc0).mono ?_); rintro e w1 ⟨⟨r, rfl, hr⟩, hb⟩; have HB := Aside0.mk hb; have hd : decide (0 ≤ r) = true := decide_eq_true (hr.mpr ((mC.anyb_iff l0).mpr HH.out)); clear hr hb)
  go_ret
  exact ⟨rfl, HB.out⟩
def mC.runeb (a : Int) : Bool := decide (32 ≤ a) && (decide (a ≤ 1114111) && (!(decide (127 ≤ a) && decide (a ≤ 159)) && !(decide (55296 ≤ a) && decide (a ≤ 57343))))
theorem mC.isrune (a : Int) : mesg_Rune.f 9 a = some (mC.runeb a) := by
 unfold mesg_Rune.f mC.runeb
 by_cases h1 : a < 32
 ·rw [if_pos h1, mesg_Rune.j0, if_pos rfl, decide_eq_false (by omega)]; rfl
 ·rw [if_neg h1, decide_eq_true (show 32 ≤ a by omega), Bool.true_and, mesg_Rune.j0]
  by_cases h2 : a > 1114111
  ·rw [decide_eq_true h2, if_pos rfl, decide_eq_false (by omega)]; rfl
  ·rw [decide_eq_false h2, if_neg (by decide), decide_eq_true (show a ≤ 1114111 by omega), Bool.true_and]
   have j1 : ∀ k, mesg_Rune.j1 (k + 1) a false = some (!(decide (55296 ≤ a) && decide (a ≤ 57343))) := fun k => by
    rw [mesg_Rune.j1, if_neg (by decide)]
    by_cases h4 : a ≥ 55296
    ·rw [if_pos h4, decide_eq_true (show 55296 ≤ a from h4), Bool.true_and]
     by_cases h5 : a ≤ 57343
     ·rw [if_pos h5, decide_eq_true h5]; rfl
     ·rw [if_neg h5, decide_eq_false h5]; rfl
    ·rw [if_neg h4, decide_eq_false (show ¬ 55296 ≤ a from h4)]; rfl
   by_cases h3 : a ≥ 127
   ·rw [if_pos h3, decide_eq_true (show 127 ≤ a from h3), Bool.true_and]
    by_cases h4 : a ≤ 159
    ·rw [decide_eq_true h4, mesg_Rune.j1, if_pos rfl]; rfl
    ·rw [decide_eq_false h4, j1]; rfl
   ·rw [if_neg h3, decide_eq_false (show ¬ 127 ≤ a from h3), j1]; rfl
def mC.b1 (a0_0 a0_1 : Int) (l0_2 : List Int) (a0_3 a0_4 a0_5 a0_6 a0_7 a0_8 a0_9 : Int) : Bool := decide ((l0_2.length : Int) < 1) || (decide (16 < (l0_2.length : Int)) || (decide (a0_0 < 0) || decide ((l0_2.length : Int) ≤ a0_0)))
def mC.b2 (a0_0 a0_1 : Int) (l0_2 : List Int) (a0_3 a0_4 a0_5 a0_6 a0_7 a0_8 a0_9 : Int) : Bool := decide (a0_1 < 1) || (!mC.clk a0_1 || (rd l0_2 a0_0 != wrap64 (a0_1 - 1)))
def mC.b4 (a0_0 a0_1 : Int) (l0_2 : List Int) (a0_3 a0_4 a0_5 a0_6 a0_7 a0_8 a0_9 : Int) : Bool := decide (a0_3 < 1) || (decide (8 < a0_3) || !mC.clk a0_4)
def mC.b5 (a0_0 a0_1 : Int) (l0_2 : List Int) (a0_3 a0_4 a0_5 a0_6 a0_7 a0_8 a0_9 : Int) : Bool := if a0_3 = 1 ∨ a0_3 = 6 then (!mC.mayb a0_5 a0_6 (l0_2.length : Int) || (a0_6 != a0_0)) else !(a0_5 == 0 && a0_6 == 0)
def mC.b6 (a0_0 a0_1 : Int) (l0_2 : List Int) (a0_3 a0_4 a0_5 a0_6 a0_7 a0_8 a0_9 : Int) : Bool := if a0_3 = 1 then !mC.runeb a0_9 else (a0_9 != 0)
def mC.b7 (a0_0 a0_1 : Int) (l0_2 : List Int) (a0_3 a0_4 a0_5 a0_6 a0_7 a0_8 a0_9 : Int) : Bool := if a0_3 = 6 then !(a0_7 == 0 && a0_8 == 0) else false
def mC.b8 (a0_0 a0_1 : Int) (l0_2 : List Int) (a0_3 a0_4 a0_5 a0_6 a0_7 a0_8 a0_9 : Int) : Bool := if a0_7 = 0 ∧ a0_8 = 0 then decide (a0_3 ≠ 1 ∧ a0_3 ≠ 5 ∧ a0_3 ≠ 6) else (!mC.mayb a0_7 a0_8 (l0_2.length : Int) || decide (a0_3 = 1 ∧ a0_5 ≤ a0_7))
def mC.bad8 (a0_0 a0_1 : Int) (l0_2 : List Int) (a0_3 a0_4 a0_5 a0_6 a0_7 a0_8 a0_9 : Int) : Bool := mC.b1 a0_0 a0_1 l0_2 a0_3 a0_4 a0_5 a0_6 a0_7 a0_8 a0_9 || (mC.b2 a0_0 a0_1 l0_2 a0_3 a0_4 a0_5 a0_6 a0_7 a0_8 a0_9 || (mC.anyb l0_2 || (mC.b4 a0_0 a0_1 l0_2 a0_3 a0_4 a0_5 a0_6 a0_7 a0_8 a0_9 || (mC.b5 a0_0 a0_1 l0_2 a0_3 a0_4 a0_5 a0_6 a0_7 a0_8 a0_9 || (mC.b6 a0_0 a0_1 l0_2 a0_3 a0_4 a0_5 a0_6 a0_7 a0_8 a0_9 || (mC.b7 a0_0 a0_1 l0_2 a0_3 a0_4 a0_5 a0_6 a0_7 a0_8 a0_9 || mC.b8 a0_0 a0_1 l0_2 a0_3 a0_4 a0_5 a0_6 a0_7 a0_8 a0_9))))))
def mC.f (a0_0 a0_1 : Int) (l0_2 : List Int) (a0_3 a0_4 a0_5 a0_6 a0_7 a0_8 a0_9 : Int) : Option Int := some (if mC.bad8 a0_0 a0_1 l0_2 a0_3 a0_4 a0_5 a0_6 a0_7 a0_8 a0_9 then 1 else 0)
theorem mC.r_b1 {a0_0 a0_1 : Int} {l0_2 : List Int} {a0_3 a0_4 a0_5 a0_6 a0_7 a0_8 a0_9 r : Int} (h : mC.f a0_0 a0_1 l0_2 a0_3 a0_4 a0_5 a0_6 a0_7 a0_8 a0_9 = some r) (h0 : mC.b1 a0_0 a0_1 l0_2 a0_3 a0_4 a0_5 a0_6 a0_7 a0_8 a0_9 = true) : r = 1 := by
 unfold mC.f mC.bad8 at h
 rw [h0, Bool.true_or, if_pos rfl] at h
 exact (Option.some.inj h).symm
theorem mC.r_b2 {a0_0 a0_1 : Int} {l0_2 : List Int} {a0_3 a0_4 a0_5 a0_6 a0_7 a0_8 a0_9 r : Int} (h : mC.f a0_0 a0_1 l0_2 a0_3 a0_4 a0_5 a0_6 a0_7 a0_8 a0_9 = some r) (h0 : mC.b1 a0_0 a0_1 l0_2 a0_3 a0_4 a0_5 a0_6 a0_7 a0_8 a0_9 = false) (h1 : mC.b2 a0_0 a0_1 l0_2 a0_3 a0_4 a0_5 a0_6 a0_7 a0_8 a0_9 = true) : r = 1 := by
 unfold mC.f mC.bad8 at h
 rw [h0, Bool.false_or, h1, Bool.true_or, if_pos rfl] at h
 exact (Option.some.inj h).symm
theorem mC.r_anyb {a0_0 a0_1 : Int} {l0_2 : List Int} {a0_3 a0_4 a0_5 a0_6 a0_7 a0_8 a0_9 r : Int} (h : mC.f a0_0 a0_1 l0_2 a0_3 a0_4 a0_5 a0_6 a0_7 a0_8 a0_9 = some r) (h0 : mC.b1 a0_0 a0_1 l0_2 a0_3 a0_4 a0_5 a0_6 a0_7 a0_8 a0_9 = false) (h1 : mC.b2 a0_0 a0_1 l0_2 a0_3 a0_4 a0_5 a0_6 a0_7 a0_8 a0_9 = false) (h2 : mC.anyb l0_2 = true) : r = 1 := by
 unfold mC.f mC.bad8 at h
 rw [h0, Bool.false_or, h1, Bool.false_or, h2, Bool.true_or, if_pos rfl] at h
 exact (Option.some.inj h).symm
theorem mC.r_b4 {a0_0 a0_1 : Int} {l0_2 : List Int} {a0_3 a0_4 a0_5 a0_6 a0_7 a0_8 a0_9 r : Int} (h : mC.f a0_0 a0_1 l0_2 a0_3 a0_4 a0_5 a0_6 a0_7 a0_8 a0_9 = some r) (h0 : mC.b1 a0_0 a0_1 l0_2 a0_3 a0_4 a0_5 a0_6 a0_7 a0_8 a0_9 = false) (h1 : mC.b2 a0_0 a0_1 l0_2 a0_3 a0_4 a0_5 a0_6 a0_7 a0_8 a0_9 = false) (h2 : mC.anyb l0_2 = false) (h3 : mC.b4 a0_0 a0_1 l0_2 a0_3 a0_4 a0_5 a0_6 a0_7 a0_8 a0_9 = true) : r = 1 := by
 unfold mC.f mC.bad8 at h
 rw [h0, Bool.false_or, h1, Bool.false_or, h2, Bool.false_or, h3, Bool.true_or, if_pos rfl] at h
 exact (Option.some.inj h).symm
theorem mC.r_b5 {a0_0 a0_1 : Int} {l0_2 : List Int} {a0_3 a0_4 a0_5 a0_6 a0_7 a0_8 a0_9 r : Int} (h : mC.f a0_0 a0_1 l0_2 a0_3 a0_4 a0_5 a0_6 a0_7 a0_8 a0_9 = some r) (h0 : mC.b1 a0_0 a0_1 l0_2 a0_3 a0_4 a0_5 a0_6 a0_7 a0_8 a0_9 = false) (h1 : mC.b2 a0_0 a0_1 l0_2 a0_3 a0_4 a0_5 a0_6 a0_7 a0_8 a0_9 = false) (h2 : mC.anyb l0_2 = false) (h3 : mC.b4 a0_0 a0_1 l0_2 a0_3 a0_4 a0_5 a0_6 a0_7 a0_8 a0_9 = false) (h4 : mC.b5 a0_0 a0_1 l0_2 a0_3 a0_4 a0_5 a0_6 a0_7 a0_8 a0_9 = true) : r = 1 := by
 unfold mC.f mC.bad8 at h
 rw [h0, Bool.false_or, h1, Bool.false_or, h2, Bool.false_or, h3, Bool.false_or, h4, Bool.true_or, if_pos rfl] at h
 exact (Option.some.inj h).symm
theorem mC.r_b6 {a0_0 a0_1 : Int} {l0_2 : List Int} {a0_3 a0_4 a0_5 a0_6 a0_7 a0_8 a0_9 r : Int} (h : mC.f a0_0 a0_1 l0_2 a0_3 a0_4 a0_5 a0_6 a0_7 a0_8 a0_9 = some r) (h0 : mC.b1 a0_0 a0_1 l0_2 a0_3 a0_4 a0_5 a0_6 a0_7 a0_8 a0_9 = false) (h1 : mC.b2 a0_0 a0_1 l0_2 a0_3 a0_4 a0_5 a0_6 a0_7 a0_8 a0_9 = false) (h2 : mC.anyb l0_2 = false) (h3 : mC.b4 a0_0 a0_1 l0_2 a0_3 a0_4 a0_5 a0_6 a0_7 a0_8 a0_9 = false) (h4 : mC.b5 a0_0 a0_1 l0_2 a0_3 a0_4 a0_5 a0_6 a0_7 a0_8 a0_9 = false) (h5 : mC.b6 a0_0 a0_1 l0_2 a0_3 a0_4 a0_5 a0_6 a0_7 a0_8 a0_9 = true) : r = 1 := by
 unfold mC.f mC.bad8 at h
 rw [h0, Bool.false_or, h1, Bool.false_or, h2, Bool.false_or, h3, Bool.false_or, h4, Bool.false_or, h5, Bool.true_or, if_pos rfl] at h
 exact (Option.some.inj h).symm
theorem mC.r_b7 {a0_0 a0_1 : Int} {l0_2 : List Int} {a0_3 a0_4 a0_5 a0_6 a0_7 a0_8 a0_9 r : Int} (h : mC.f a0_0 a0_1 l0_2 a0_3 a0_4 a0_5 a0_6 a0_7 a0_8 a0_9 = some r) (h0 : mC.b1 a0_0 a0_1 l0_2 a0_3 a0_4 a0_5 a0_6 a0_7 a0_8 a0_9 = false) (h1 : mC.b2 a0_0 a0_1 l0_2 a0_3 a0_4 a0_5 a0_6 a0_7 a0_8 a0_9 = false) (h2 : mC.anyb l0_2 = false) (h3 : mC.b4 a0_0 a0_1 l0_2 a0_3 a0_4 a0_5 a0_6 a0_7 a0_8 a0_9 = false) (h4 : mC.b5 a0_0 a0_1 l0_2 a0_3 a0_4 a0_5 a0_6 a0_7 a0_8 a0_9 = false) (h5 : mC.b6 a0_0 a0_1 l0_2 a0_3 a0_4 a0_5 a0_6 a0_7 a0_8 a0_9 = false) (h6 : mC.b7 a0_0 a0_1 l0_2 a0_3 a0_4 a0_5 a0_6 a0_7 a0_8 a0_9 = true) : r = 1 := by
 unfold mC.f mC.bad8 at h
 rw [h0, Bool.false_or, h1, Bool.false_or, h2, Bool.false_or, h3, Bool.false_or, h4, Bool.false_or, h5, Bool.false_or, h6, Bool.true_or, if_pos rfl] at h
 exact (Option.some.inj h).symm
theorem mC.r_b8 {a0_0 a0_1 : Int} {l0_2 : List Int} {a0_3 a0_4 a0_5 a0_6 a0_7 a0_8 a0_9 r : Int} (h : mC.f a0_0 a0_1 l0_2 a0_3 a0_4 a0_5 a0_6 a0_7 a0_8 a0_9 = some r) (h0 : mC.b1 a0_0 a0_1 l0_2 a0_3 a0_4 a0_5 a0_6 a0_7 a0_8 a0_9 = false) (h1 : mC.b2 a0_0 a0_1 l0_2 a0_3 a0_4 a0_5 a0_6 a0_7 a0_8 a0_9 = false) (h2 : mC.anyb l0_2 = false) (h3 : mC.b4 a0_0 a0_1 l0_2 a0_3 a0_4 a0_5 a0_6 a0_7 a0_8 a0_9 = false) (h4 : mC.b5 a0_0 a0_1 l0_2 a0_3 a0_4 a0_5 a0_6 a0_7 a0_8 a0_9 = false) (h5 : mC.b6 a0_0 a0_1 l0_2 a0_3 a0_4 a0_5 a0_6 a0_7 a0_8 a0_9 = false) (h6 : mC.b7 a0_0 a0_1 l0_2 a0_3 a0_4 a0_5 a0_6 a0_7 a0_8 a0_9 = false) : r = if mC.b8 a0_0 a0_1 l0_2 a0_3 a0_4 a0_5 a0_6 a0_7 a0_8 a0_9 then 1 else 0 := by
 unfold mC.f mC.bad8 at h
 rw [h0, Bool.false_or, h1, Bool.false_or, h2, Bool.false_or, h3, Bool.false_or, h4, Bool.false_or, h5, Bool.false_or, h6, Bool.false_or] at h
 exact (Option.some.inj h).symm
def mC.M4 (w : World) (gm gn go gz : Nat) (a0_0 a0_1 : Int) (A0_2 : Option Addr) (n2 c0_2 : Nat) (a0_3 a0_4 a0_5 a0_6 a0_7 a0_8 a0_9 : Int) (x : World) : Prop := Below w.heap.size w x ∧ x.heap[gm]? = some (.cells #[.int .i64 a0_0, .int .i64 a0_1, .slice A0_2 n2 c0_2, .int .i64 a0_3, .int .i64 a0_4, .int .i64 a0_5, .int .i64 a0_6, .int .i64 a0_7, .int .i64 a0_8, .int .i64 a0_9] 56 (0, 0)) ∧ x.heap[gn]? = some (.cells #[.int .i64 (n2 : Int)] 3 (0, 0)) ∧ x.heap[go]? = some (.cells #[.int .i64 a0_3, .int .i64 a0_4, .int .i64 a0_5, .int .i64 a0_6, .int .i64 a0_7, .int .i64 a0_8, .int .i64 a0_9] 54 (0, 0)) ∧ x.heap[gz]? = some (.cells #[.int .i64 0, .int .i64 0] 52 (0, 0))
section
variable {w x y : World} {gm gn go gz : Nat} {a0_0 a0_1 : Int} {A0_2 : Option Addr} {n2 c0_2 : Nat} {a0_3 a0_4 a0_5 a0_6 a0_7 a0_8 a0_9 : Int}
theorem mC.M4.drewN (h : mC.M4 w gm gn go gz a0_0 a0_1 A0_2 n2 c0_2 a0_3 a0_4 a0_5 a0_6 a0_7 a0_8 a0_9 x) (n : Nat) : mC.M4 w gm gn go gz a0_0 a0_1 A0_2 n2 c0_2 a0_3 a0_4 a0_5 a0_6 a0_7 a0_8 a0_9 (x.drewN n) := ⟨pw_below_drewN h.1 n, blk_drewN h.2.1 n, blk_drewN h.2.2.1 n, blk_drewN h.2.2.2.1 n, blk_drewN h.2.2.2.2 n⟩
theorem mC.M4.drew (h : mC.M4 w gm gn go gz a0_0 a0_1 A0_2 n2 c0_2 a0_3 a0_4 a0_5 a0_6 a0_7 a0_8 a0_9 x) : mC.M4 w gm gn go gz a0_0 a0_1 A0_2 n2 c0_2 a0_3 a0_4 a0_5 a0_6 a0_7 a0_8 a0_9 x.drew := ⟨below_drew1 h.1, h.2.1, h.2.2.1, h.2.2.2.1, h.2.2.2.2⟩
theorem mC.M4.below (h : mC.M4 w gm gn go gz a0_0 a0_1 A0_2 n2 c0_2 a0_3 a0_4 a0_5 a0_6 a0_7 a0_8 a0_9 x) (hb : Below x.heap.size x y) : mC.M4 w gm gn go gz a0_0 a0_1 A0_2 n2 c0_2 a0_3 a0_4 a0_5 a0_6 a0_7 a0_8 a0_9 y := ⟨below_step h.1 hb, blk_below h.2.1 hb, blk_below h.2.2.1 hb, blk_below h.2.2.2.1 hb, blk_below h.2.2.2.2 hb⟩
end
theorem mC.blk_new2 (w : World) (o o' : Obj) : ((w.alloc o).alloc o').heap[w.heap.size + 1]? = some o' := by
 have h := blk_new (w.alloc o) o'
 have e : (w.alloc o).heap.size = w.heap.size + 1 := World.size_alloc _ _
 rwa [e] at h
theorem mC.has_is (a : Int) : mesg_has.f a = some (decide (a = 1 ∨ a = 6), decide (a ≠ 6), decide (a = 1)) := by
 unfold mesg_has.f
 by_cases h1 : a = 1
 ·subst h1; decide
 ·rw [if_neg h1]
  by_cases h6 : a = 6
  ·subst h6; decide
  ·rw [beq_eq_false_iff_ne.mpr h6, bne_iff_ne.mpr h6, beq_eq_false_iff_ne.mpr h1, decide_eq_false (show ¬ (a = 1 ∨ a = 6) by omega), decide_eq_true h6, decide_eq_false h1]
set_option maxHeartbeats 8000000 in
set_option maxRecDepth 100000 in
theorem mC.calls (a0_0 : Int) (a0_1 : Int) (A0_2 : Option Addr) (c0_2 : Nat) (l0_2 : List Int) (a0_3 : Int) (a0_4 : Int) (a0_5 : Int) (a0_6 : Int) (a0_7 : Int) (a0_8 : Int) (a0_9 : Int) (r : Int) (w : World) (hr0_2 : Kd.C (Kd.int .i64) w A0_2 l0_2.length l0_2) (hc0_2 : l0_2.length ≤ c0_2) (h : mC.f a0_0 a0_1 l0_2 a0_3 a0_4 a0_5 a0_6 a0_7 a0_8 a0_9 = some r) :
    Calls Tryz.prog 40 #[.agg #[.int .i64 a0_0, .int .i64 a0_1, .slice A0_2 l0_2.length c0_2, .int .i64 a0_3, .int .i64 a0_4, .int .i64 a0_5, .int .i64 a0_6, .int .i64 a0_7, .int .i64 a0_8, .int .i64 a0_9]] w fun e w' => e = .returned (.int .i64 r) ∧ Below w.heap.size w w' := by
  have hu24 := Tryz.underlying52
  have hu26 := Tryz.underlying54
  have hu28 := Tryz.underlying56
  have B_w := Aside0.mk (Below.refl w.heap.size w)
  have HR := Aside0.mk hr0_2
  have HC := Aside0.mk hc0_2
  have HH := Aside0.mk h
  clear hr0_2 hc0_2 h
  go_enter Tryz.func40, Tryz.ntmps40
  go_upto_region 1 with (((with_reducible refine gate_dst (N := 1) rfl ?_); (try (refine gate_guard (by rfl) ?_; dsimp only)); refine box_event ?hg (N := 1) ?hd (cs := #[.int .i64 a0_0, .int .i64 a0_1, .slice A0_2 l0_2.length c0_2, .int .i64 a0_3, .int .i64 a0_4, .int .i64 a0_5, .int .i64 a0_6, .int .i64 a0_7, .int .i64 a0_8, .int .i64 a0_9]) (t := 56) ?hr ?_; (case hd => rfl); (case hg => rfl); (case hr => first | (go_simp; done) | (go_simp; rfl)); intro gm hg_gm w1 hbox hb; have B_w1 := Aside0.mk (below_step B_w.out hb); have GE_gm : Aside0 (w.heap.size ≤ gm) := ⟨by rw [hg_gm]; exact below_size B_w.out⟩; have X_gm_w1 : Aside0 (w1.heap[gm]? = some (.cells #[.int .i64 a0_0, .int .i64 a0_1, .slice A0_2 l0_2.length c0_2, .int .i64 a0_3, .int .i64 a0_4, .int .i64 a0_5, .int .i64 a0_6, .int .i64 a0_7, .int .i64 a0_8, .int .i64 a0_9] 56 (0, 0))) := ⟨hbox⟩; obtain ⟨c_gm_0_w1, c_gm_1_w1, c_gm_2_w1, c_gm_3_w1, c_gm_4_w1, c_gm_5_w1, c_gm_6_w1, c_gm_7_w1, c_gm_8_w1, c_gm_9_w1⟩ := XW.cells10 (X_gm_w1.out); clear hb hbox hg_gm))
  go_cut [3, 4] (fun v3 v4 wc => ∃ gn go : Nat, v3 = .pointer (some ⟨gn, 0, none⟩) ∧ v4 = .pointer (some ⟨go, 0, none⟩) ∧ Aside0 (Below w.heap.size w wc ∧ wc.heap[gm]? = some (.cells #[.int .i64 a0_0, .int .i64 a0_1, .slice A0_2 l0_2.length c0_2, .int .i64 a0_3, .int .i64 a0_4, .int .i64 a0_5, .int .i64 a0_6, .int .i64 a0_7, .int .i64 a0_8, .int .i64 a0_9] 56 (0, 0)) ∧ wc.heap[gn]? = some (.cells #[.int .i64 (l0_2.length : Int)] 3 (0, 0)) ∧ wc.heap[go]? = some (.cells #[.int .i64 a0_3, .int .i64 a0_4, .int .i64 a0_5, .int .i64 a0_6, .int .i64 a0_7, .int .i64 a0_8, .int .i64 a0_9] 54 (0, 0))))
  case first =>
    have e1_0 : ∀ o, (w1.alloc o).cell? ⟨gm, 0, none⟩ = some (.int .i64 a0_0) := fun o => (blk_cell (blk_alloc X_gm_w1.out o) 0).trans rfl
    have e2_0 : ∀ o o', ((w1.alloc o).alloc o').cell? ⟨gm, 0, none⟩ = some (.int .i64 a0_0) := fun o o' => (blk_cell (blk_alloc (blk_alloc X_gm_w1.out o) o') 0).trans rfl
    have e1_1 : ∀ o, (w1.alloc o).cell? ⟨gm, 1, none⟩ = some (.int .i64 a0_1) := fun o => (blk_cell (blk_alloc X_gm_w1.out o) 1).trans rfl
    have e2_1 : ∀ o o', ((w1.alloc o).alloc o').cell? ⟨gm, 1, none⟩ = some (.int .i64 a0_1) := fun o o' => (blk_cell (blk_alloc (blk_alloc X_gm_w1.out o) o') 1).trans rfl
    have e1_2 : ∀ o, (w1.alloc o).cell? ⟨gm, 2, none⟩ = some (.slice A0_2 l0_2.length c0_2) := fun o => (blk_cell (blk_alloc X_gm_w1.out o) 2).trans rfl
    have e2_2 : ∀ o o', ((w1.alloc o).alloc o').cell? ⟨gm, 2, none⟩ = some (.slice A0_2 l0_2.length c0_2) := fun o o' => (blk_cell (blk_alloc (blk_alloc X_gm_w1.out o) o') 2).trans rfl
    have e1_3 : ∀ o, (w1.alloc o).cell? ⟨gm, 3, none⟩ = some (.int .i64 a0_3) := fun o => (blk_cell (blk_alloc X_gm_w1.out o) 3).trans rfl
    have e2_3 : ∀ o o', ((w1.alloc o).alloc o').cell? ⟨gm, 3, none⟩ = some (.int .i64 a0_3) := fun o o' => (blk_cell (blk_alloc (blk_alloc X_gm_w1.out o) o') 3).trans rfl
    have e1_4 : ∀ o, (w1.alloc o).cell? ⟨gm, 4, none⟩ = some (.int .i64 a0_4) := fun o => (blk_cell (blk_alloc X_gm_w1.out o) 4).trans rfl
    have e2_4 : ∀ o o', ((w1.alloc o).alloc o').cell? ⟨gm, 4, none⟩ = some (.int .i64 a0_4) := fun o o' => (blk_cell (blk_alloc (blk_alloc X_gm_w1.out o) o') 4).trans rfl
    have e1_5 : ∀ o, (w1.alloc o).cell? ⟨gm, 5, none⟩ = some (.int .i64 a0_5) := fun o => (blk_cell (blk_alloc X_gm_w1.out o) 5).trans rfl
    have e2_5 : ∀ o o', ((w1.alloc o).alloc o').cell? ⟨gm, 5, none⟩ = some (.int .i64 a0_5) := fun o o' => (blk_cell (blk_alloc (blk_alloc X_gm_w1.out o) o') 5).trans rfl
    have e1_6 : ∀ o, (w1.alloc o).cell? ⟨gm, 6, none⟩ = some (.int .i64 a0_6) := fun o => (blk_cell (blk_alloc X_gm_w1.out o) 6).trans rfl
    have e2_6 : ∀ o o', ((w1.alloc o).alloc o').cell? ⟨gm, 6, none⟩ = some (.int .i64 a0_6) := fun o o' => (blk_cell (blk_alloc (blk_alloc X_gm_w1.out o) o') 6).trans rfl
    have e1_7 : ∀ o, (w1.alloc o).cell? ⟨gm, 7, none⟩ = some (.int .i64 a0_7) := fun o => (blk_cell (blk_alloc X_gm_w1.out o) 7).trans rfl
    have e2_7 : ∀ o o', ((w1.alloc o).alloc o').cell? ⟨gm, 7, none⟩ = some (.int .i64 a0_7) := fun o o' => (blk_cell (blk_alloc (blk_alloc X_gm_w1.out o) o') 7).trans rfl
    have e1_8 : ∀ o, (w1.alloc o).cell? ⟨gm, 8, none⟩ = some (.int .i64 a0_8) := fun o => (blk_cell (blk_alloc X_gm_w1.out o) 8).trans rfl
    have e2_8 : ∀ o o', ((w1.alloc o).alloc o').cell? ⟨gm, 8, none⟩ = some (.int .i64 a0_8) := fun o o' => (blk_cell (blk_alloc (blk_alloc X_gm_w1.out o) o') 8).trans rfl
    have e1_9 : ∀ o, (w1.alloc o).cell? ⟨gm, 9, none⟩ = some (.int .i64 a0_9) := fun o => (blk_cell (blk_alloc X_gm_w1.out o) 9).trans rfl
    have e2_9 : ∀ o o', ((w1.alloc o).alloc o').cell? ⟨gm, 9, none⟩ = some (.int .i64 a0_9) := fun o o' => (blk_cell (blk_alloc (blk_alloc X_gm_w1.out o) o') 9).trans rfl
    go_big_region
    all_goals (go_wp2; go_meet; case rel => exact ⟨_, _, rfl, rfl, ⟨by repeat (first | exact B_w1.out | apply below_alloc | apply below_drew1), blk_alloc (blk_alloc X_gm_w1.out _) _, by first | exact blk_alloc (blk_new w1 _) _ | exact mC.blk_new2 w1 _ _, by first | exact blk_alloc (blk_new w1 _) _ | exact mC.blk_new2 w1 _ _⟩⟩)
  case rest =>
    obtain ⟨gn, go, rfl, rfl, HM⟩ := hcut
    have B_wc := Aside0.mk HM.out.1
    have X_gm_wc : Aside0 (wc.heap[gm]? = some (.cells #[.int .i64 a0_0, .int .i64 a0_1, .slice A0_2 l0_2.length c0_2, .int .i64 a0_3, .int .i64 a0_4, .int .i64 a0_5, .int .i64 a0_6, .int .i64 a0_7, .int .i64 a0_8, .int .i64 a0_9] 56 (0, 0))) := ⟨HM.out.2.1⟩
    obtain ⟨c_gm_0_wc, c_gm_1_wc, c_gm_2_wc, c_gm_3_wc, c_gm_4_wc, c_gm_5_wc, c_gm_6_wc, c_gm_7_wc, c_gm_8_wc, c_gm_9_wc⟩ := XW.cells10 (X_gm_wc.out)
    have X_gn_wc : Aside0 (wc.heap[gn]? = some (.cells #[.int .i64 (l0_2.length : Int)] 3 (0, 0))) := ⟨HM.out.2.2.1⟩
    have c_gn_0_wc := XW.cells1 (X_gn_wc.out)
    have X_go_wc : Aside0 (wc.heap[go]? = some (.cells #[.int .i64 a0_3, .int .i64 a0_4, .int .i64 a0_5, .int .i64 a0_6, .int .i64 a0_7, .int .i64 a0_8, .int .i64 a0_9] 54 (0, 0))) := ⟨HM.out.2.2.2⟩
    obtain ⟨c_go_0_wc, c_go_1_wc, c_go_2_wc, c_go_3_wc, c_go_4_wc, c_go_5_wc, c_go_6_wc⟩ := XW.cells7 (X_go_wc.out)
    clear HM X_gm_w1 B_w1 GE_gm
    clear c_gm_0_w1 c_gm_1_w1 c_gm_2_w1 c_gm_3_w1 c_gm_4_w1 c_gm_5_w1 c_gm_6_w1 c_gm_7_w1 c_gm_8_w1 c_gm_9_w1
    obtain ⟨ib, hib⟩ : ∃ b, b = decide (a0_3 = 1 ∨ a0_3 = 6) := ⟨_, rfl⟩
    obtain ⟨rb, hrb⟩ : ∃ b, b = decide (a0_3 ≠ 6) := ⟨_, rfl⟩
    obtain ⟨ub, hub⟩ : ∃ b, b = decide (a0_3 = 1) := ⟨_, rfl⟩
    have HS : Aside0 (mesg_has.f a0_3 = some (ib, rb, ub)) := ⟨by rw [hib, hrb, hub]; exact mC.has_is a0_3⟩
    have HIB := Aside0.mk hib; have HRB := Aside0.mk hrb; have HUB := Aside0.mk hub
    clear hib hrb hub
    go_upto_region 5 with (first | ((with_reducible refine gate_dst (N := 6) rfl ?_); (try (refine gate_guard (by rfl) ?_; dsimp only)); refine box_event ?hg (N := 6) ?hd (cs := #[.int .i64 0, .int .i64 0]) (t := 52) ?hr ?_; (case hd => rfl); (case hg => rfl); (case hr => first | (go_simp; done) | (go_simp; rfl)); intro gz hg_gz w2 hbox hb; have B_w2 := Aside0.mk (below_step B_wc.out hb); have GE_gz : Aside0 (w.heap.size ≤ gz) := ⟨by rw [hg_gz]; exact below_size B_wc.out⟩; have X_gm_w2 := Aside0.mk (blk_below X_gm_wc.out hb); obtain ⟨c_gm_0_w2, c_gm_1_w2, c_gm_2_w2, c_gm_3_w2, c_gm_4_w2, c_gm_5_w2, c_gm_6_w2, c_gm_7_w2, c_gm_8_w2, c_gm_9_w2⟩ := XW.cells10 (X_gm_w2.out); have X_gn_w2 := Aside0.mk (blk_below X_gn_wc.out hb); have c_gn_0_w2 := XW.cells1 (X_gn_w2.out); have X_go_w2 := Aside0.mk (blk_below X_go_wc.out hb); obtain ⟨c_go_0_w2, c_go_1_w2, c_go_2_w2, c_go_3_w2, c_go_4_w2, c_go_5_w2, c_go_6_w2⟩ := XW.cells7 (X_go_w2.out); have X_gz_w2 : Aside0 (w2.heap[gz]? = some (.cells #[.int .i64 0, .int .i64 0] 52 (0, 0))) := ⟨hbox⟩; obtain ⟨c_gz_0_w2, c_gz_1_w2⟩ := XW.cells2 (X_gz_w2.out); obtain ⟨z_gz_0_w2, z_gz_1_w2⟩ := XW.froz2 (X_gz_w2.out); clear hb hbox hg_gz) | ((with_reducible refine gate_store (t := 52) (p := 6) rfl ?_); go_must (refine store_event (t := 52) (p := 6) (v := ?vo_w3) (w1 := ((w2.setCell ⟨gz, 0, none⟩ (.int .i64 0)).setCell ⟨gz, 1, none⟩ (.int .i64 0))) ?hg ?ho ?hn ?hr ?_; (case ho => rfl); (case hg => rfl); (case hn => rfl); (case hr => first | (go_simp; done) | (go_simp; rfl)); intro w3 hw; have B_w3 : Aside0 (Below w.heap.size w w3) := ⟨by rw [hw]; exact below_set (j := 1) (below_set (j := 0) (B_w2.out) GE_gz.out) GE_gz.out⟩; have X_gm_w3 : Aside0 (w3.heap[gm]? = some (.cells #[.int .i64 a0_0, .int .i64 a0_1, .slice A0_2 l0_2.length c0_2, .int .i64 a0_3, .int .i64 a0_4, .int .i64 a0_5, .int .i64 a0_6, .int .i64 a0_7, .int .i64 a0_8, .int .i64 a0_9] 56 (0, 0))) := ⟨by rw [hw]; exact blk_far (blk_far (X_gm_w2.out) (p := ⟨gz, 0, none⟩) (blk_ne X_gm_w2.out X_gz_w2.out (by decide)) (.int .i64 0)) (p := ⟨gz, 1, none⟩) (blk_ne X_gm_w2.out X_gz_w2.out (by decide)) (.int .i64 0)⟩; obtain ⟨c_gm_0_w3, c_gm_1_w3, c_gm_2_w3, c_gm_3_w3, c_gm_4_w3, c_gm_5_w3, c_gm_6_w3, c_gm_7_w3, c_gm_8_w3, c_gm_9_w3⟩ := XW.cells10 (X_gm_w3.out); have X_gn_w3 : Aside0 (w3.heap[gn]? = some (.cells #[.int .i64 (l0_2.length : Int)] 3 (0, 0))) := ⟨by rw [hw]; exact blk_far (blk_far (X_gn_w2.out) (p := ⟨gz, 0, none⟩) (blk_ne X_gn_w2.out X_gz_w2.out (by decide)) (.int .i64 0)) (p := ⟨gz, 1, none⟩) (blk_ne X_gn_w2.out X_gz_w2.out (by decide)) (.int .i64 0)⟩; have c_gn_0_w3 := XW.cells1 (X_gn_w3.out); have X_go_w3 : Aside0 (w3.heap[go]? = some (.cells #[.int .i64 a0_3, .int .i64 a0_4, .int .i64 a0_5, .int .i64 a0_6, .int .i64 a0_7, .int .i64 a0_8, .int .i64 a0_9] 54 (0, 0))) := ⟨by rw [hw]; exact blk_far (blk_far (X_go_w2.out) (p := ⟨gz, 0, none⟩) (blk_ne X_go_w2.out X_gz_w2.out (by decide)) (.int .i64 0)) (p := ⟨gz, 1, none⟩) (blk_ne X_go_w2.out X_gz_w2.out (by decide)) (.int .i64 0)⟩; obtain ⟨c_go_0_w3, c_go_1_w3, c_go_2_w3, c_go_3_w3, c_go_4_w3, c_go_5_w3, c_go_6_w3⟩ := XW.cells7 (X_go_w3.out); have X_gz_w3 : Aside0 (w3.heap[gz]? = some (.cells #[.int .i64 0, .int .i64 0] 52 (0, 0))) := ⟨by rw [hw]; exact blk_put (cs' := #[.int .i64 0, .int .i64 0]) (blk_put (cs' := #[.int .i64 0, .int .i64 0]) (X_gz_w2.out) 0 (.int .i64 0) rfl) 1 (.int .i64 0) rfl⟩; obtain ⟨c_gz_0_w3, c_gz_1_w3⟩ := XW.cells2 (X_gz_w3.out); clear hw)) | (go_at_call 42; (with_reducible refine (mesg_has.calls a0_3 ib rb ub _ HS.out).mono ?_); rintro e w' ⟨rfl, ⟨nd, rfl⟩⟩))
    have HM0 : Aside0 (mC.M4 w gm gn go gz a0_0 a0_1 A0_2 l0_2.length c0_2 a0_3 a0_4 a0_5 a0_6 a0_7 a0_8 a0_9 w3) := ⟨⟨B_w3.out, X_gm_w3.out, X_gn_w3.out, X_go_w3.out, X_gz_w3.out⟩⟩
    clear X_gm_wc X_gn_wc X_go_wc B_wc c_gm_0_wc c_gm_1_wc c_gm_2_wc c_gm_3_wc c_gm_4_wc c_gm_5_wc c_gm_6_wc c_gm_7_wc c_gm_8_wc c_gm_9_wc c_gn_0_wc c_go_0_wc c_go_1_wc c_go_2_wc c_go_3_wc c_go_4_wc c_go_5_wc c_go_6_wc
    clear c_gm_0_w2 c_gm_1_w2 c_gm_2_w2 c_gm_3_w2 c_gm_4_w2 c_gm_5_w2 c_gm_6_w2 c_gm_7_w2 c_gm_8_w2 c_gm_9_w2 c_gn_0_w2 c_go_0_w2 c_go_1_w2 c_go_2_w2 c_go_3_w2 c_go_4_w2 c_go_5_w2 c_go_6_w2 c_gz_0_w2 c_gz_1_w2 X_gm_w2 X_gn_w2 X_go_w2 X_gz_w2 B_w2 z_gz_0_w2 z_gz_1_w2 GE_gz
    clear c_gm_0_w3 c_gm_1_w3 c_gm_2_w3 c_gm_3_w3 c_gm_4_w3 c_gm_5_w3 c_gm_6_w3 c_gm_7_w3 c_gm_8_w3 c_gm_9_w3 c_gn_0_w3 c_go_0_w3 c_go_1_w3 c_go_2_w3 c_go_3_w3 c_go_4_w3 c_go_5_w3 c_go_6_w3 c_gz_0_w3 c_gz_1_w3 X_gm_w3 X_gn_w3 X_go_w3 X_gz_w3 B_w3
    have HM := Aside0.mk (mC.M4.drewN HM0.out nd)
    clear HM0
    generalize w3.drewN nd = x5 at *
    obtain ⟨c_gm_0_x5, c_gm_1_x5, c_gm_2_x5, c_gm_3_x5, c_gm_4_x5, c_gm_5_x5, c_gm_6_x5, c_gm_7_x5, c_gm_8_x5, c_gm_9_x5⟩ := XW.cells10 (HM.out.2.1)
    have c_gn_0_x5 := XW.cells1 (HM.out.2.2.1)
    obtain ⟨c_go_0_x5, c_go_1_x5, c_go_2_x5, c_go_3_x5, c_go_4_x5, c_go_5_x5, c_go_6_x5⟩ := XW.cells7 (HM.out.2.2.2.1)
    obtain ⟨c_gz_0_x5, c_gz_1_x5⟩ := XW.cells2 (HM.out.2.2.2.2)
    go_cut [24] (fun v24 wc => v24 = .bool (mC.b1 a0_0 a0_1 l0_2 a0_3 a0_4 a0_5 a0_6 a0_7 a0_8 a0_9) ∧ Aside0 (mC.M4 w gm gn go gz a0_0 a0_1 A0_2 l0_2.length c0_2 a0_3 a0_4 a0_5 a0_6 a0_7 a0_8 a0_9 wc))
    case first => as_aux_lemma =>
      by_cases q0 : (l0_2.length : Int) < 1
      · have d0 : decide ((l0_2.length : Int) < 1) = true := decide_eq_true q0
        clear q0
        go_wp2_with (fail)
        go_meet
        case rel => exact ⟨congrArg Value.bool (by simp only [mC.b1, d0, Bool.true_or, Bool.false_or, Bool.or_true, Bool.not_true, Bool.not_false, Bool.or_false]), ⟨by repeat (first | exact HM.out | exact mC.M4.below HM.out HBc.out | apply mC.M4.drewN | apply mC.M4.drew)⟩⟩
      have d0 : decide ((l0_2.length : Int) < 1) = false := decide_eq_false q0
      clear q0
      by_cases q1 : (16 : Int) < (l0_2.length : Int)
      · have d1 : decide ((16 : Int) < (l0_2.length : Int)) = true := decide_eq_true q1
        clear q1
        go_wp2_with (fail)
        go_meet
        case rel => exact ⟨congrArg Value.bool (by simp only [mC.b1, d0, d1, Bool.true_or, Bool.false_or, Bool.or_true, Bool.not_true, Bool.not_false, Bool.or_false]), ⟨by repeat (first | exact HM.out | exact mC.M4.below HM.out HBc.out | apply mC.M4.drewN | apply mC.M4.drew)⟩⟩
      have d1 : decide ((16 : Int) < (l0_2.length : Int)) = false := decide_eq_false q1
      clear q1
      by_cases q2 : a0_0 < 0
      · have d2 : decide (a0_0 < 0) = true := decide_eq_true q2
        clear q2
        go_wp2_with (fail)
        go_meet
        case rel => exact ⟨congrArg Value.bool (by simp only [mC.b1, d0, d1, d2, Bool.true_or, Bool.false_or, Bool.or_true, Bool.not_true, Bool.not_false, Bool.or_false]), ⟨by repeat (first | exact HM.out | exact mC.M4.below HM.out HBc.out | apply mC.M4.drewN | apply mC.M4.drew)⟩⟩
      have d2 : decide (a0_0 < 0) = false := decide_eq_false q2
      clear q2
      go_wp2_with (fail)
      go_meet
      case rel => exact ⟨congrArg Value.bool (by simp only [mC.b1, d0, d1, d2, Bool.true_or, Bool.false_or, Bool.or_true, Bool.not_true, Bool.not_false, Bool.or_false]), ⟨by repeat (first | exact HM.out | exact mC.M4.below HM.out HBc.out | apply mC.M4.drewN | apply mC.M4.drew)⟩⟩
    case rest =>
      clear c_gm_0_x5 c_gm_1_x5 c_gm_2_x5 c_gm_3_x5 c_gm_4_x5 c_gm_5_x5 c_gm_6_x5 c_gm_7_x5 c_gm_8_x5 c_gm_9_x5 c_gn_0_x5 c_go_0_x5 c_go_1_x5 c_go_2_x5 c_go_3_x5 c_go_4_x5 c_go_5_x5 c_go_6_x5 c_gz_0_x5 c_gz_1_x5
      clear HM
      try clear HMB HMN
      obtain ⟨rfl, HM⟩ := hcut
      cases h_b1 : mC.b1 a0_0 a0_1 l0_2 a0_3 a0_4 a0_5 a0_6 a0_7 a0_8 a0_9 with
      | true =>
        have H_b1 := Aside0.mk h_b1
        have hr : r = 1 := mC.r_b1 HH.out H_b1.out
        subst hr
        go_wp2
        go_ret
        exact ⟨rfl, HM.out.1⟩
      | false =>
        have H_b1 := Aside0.mk h_b1
        have HS0 : Aside0 (0 ≤ a0_0 ∧ a0_0 < (l0_2.length : Int) ∧ (1 : Int) ≤ (l0_2.length : Int)) := ⟨by have := H_b1.out; simp only [mC.b1, Bool.or_eq_false_iff, decide_eq_false_iff_not] at this; omega⟩
        go_upto_region 6 with (fail)
        clear h_b1
        obtain ⟨ad, ead, hel0⟩ := Kd.at_int (Kd.C_below HR.out HM.out.1) a0_0 HS0.out.1 HS0.out.2.1
        subst ead
        have hs0 : (0 ≤ a0_0) = True := eq_true HS0.out.1
        have hs1 : (a0_0 < (l0_2.length : Int)) = True := eq_true HS0.out.2.1
        obtain ⟨c_gm_0_x6, c_gm_1_x6, c_gm_2_x6, c_gm_3_x6, c_gm_4_x6, c_gm_5_x6, c_gm_6_x6, c_gm_7_x6, c_gm_8_x6, c_gm_9_x6⟩ := XW.cells10 (HM.out.2.1)
        have c_gn_0_x6 := XW.cells1 (HM.out.2.2.1)
        obtain ⟨c_go_0_x6, c_go_1_x6, c_go_2_x6, c_go_3_x6, c_go_4_x6, c_go_5_x6, c_go_6_x6⟩ := XW.cells7 (HM.out.2.2.2.1)
        obtain ⟨c_gz_0_x6, c_gz_1_x6⟩ := XW.cells2 (HM.out.2.2.2.2)
        go_cut [24] (fun v24 wd => v24 = .bool (mC.b2 a0_0 a0_1 l0_2 a0_3 a0_4 a0_5 a0_6 a0_7 a0_8 a0_9) ∧ Aside0 (mC.M4 w gm gn go gz a0_0 a0_1 (some ad) l0_2.length c0_2 a0_3 a0_4 a0_5 a0_6 a0_7 a0_8 a0_9 wd))
        case first => as_aux_lemma =>
          by_cases q0 : a0_1 < 1
          · have d0 : decide (a0_1 < 1) = true := decide_eq_true q0
            clear q0
            go_quiet (fail)
            go_wp2_with (fail)
            go_meet
            case rel => exact ⟨congrArg Value.bool (by simp only [mC.b2, d0, Bool.true_or, Bool.false_or, Bool.or_true, Bool.not_true, Bool.not_false, Bool.or_false]), ⟨by repeat (first | exact HM.out | exact mC.M4.below HM.out HBc.out | apply mC.M4.drewN | apply mC.M4.drew)⟩⟩
          have d0 : decide (a0_1 < 1) = false := decide_eq_false q0
          clear q0
          cases hk : mC.clk a0_1 with
          | false =>
            have HK : Aside0 (mesg_isClock.f a0_1 = some false) := ⟨by rw [mC.isclk, hk]⟩
            have HQ := Aside0.mk hk
            clear hk
            go_quiet ((go_at_call 88; refine (mesg_isClock.calls a0_1 false _ HK.out).mono ?_; rintro e w' ⟨rfl, nd, rfl⟩; exact ⟨rfl, _, World.drewN_drewN _ _ _⟩))
            go_wp2_with (fail)
            go_meet
            case rel => exact ⟨congrArg Value.bool (by simp only [mC.b2, d0, HQ.out, Bool.true_or, Bool.false_or, Bool.or_true, Bool.not_true, Bool.not_false, Bool.or_false]), ⟨by repeat (first | exact HM.out | exact mC.M4.below HM.out HBc.out | apply mC.M4.drewN | apply mC.M4.drew)⟩⟩
          | true =>
            have HK : Aside0 (mesg_isClock.f a0_1 = some true) := ⟨by rw [mC.isclk, hk]⟩
            have HQ := Aside0.mk hk
            clear hk
            go_quiet ((go_at_call 88; refine (mesg_isClock.calls a0_1 true _ HK.out).mono ?_; rintro e w' ⟨rfl, nd, rfl⟩; exact ⟨rfl, _, World.drewN_drewN _ _ _⟩))
            go_wp2_with (fail)
            go_meet
            case rel => exact ⟨congrArg Value.bool (by simp only [mC.b2, d0, HQ.out, Bool.true_or, Bool.false_or, Bool.or_true, Bool.not_true, Bool.not_false, Bool.or_false]), ⟨by repeat (first | exact HM.out | exact mC.M4.below HM.out HBc.out | apply mC.M4.drewN | apply mC.M4.drew)⟩⟩
        case rest =>
          clear c_gm_0_x6 c_gm_1_x6 c_gm_2_x6 c_gm_3_x6 c_gm_4_x6 c_gm_5_x6 c_gm_6_x6 c_gm_7_x6 c_gm_8_x6 c_gm_9_x6 c_gn_0_x6 c_go_0_x6 c_go_1_x6 c_go_2_x6 c_go_3_x6 c_go_4_x6 c_go_5_x6 c_go_6_x6 c_gz_0_x6 c_gz_1_x6
          clear HM
          try clear HMB HMN
          obtain ⟨rfl, HM⟩ := hcut
          cases h_b2 : mC.b2 a0_0 a0_1 l0_2 a0_3 a0_4 a0_5 a0_6 a0_7 a0_8 a0_9 with
          | true =>
            have H_b2 := Aside0.mk h_b2
            have hr : r = 1 := mC.r_b2 HH.out H_b1.out H_b2.out
            subst hr
            go_wp2
            go_ret
            exact ⟨rfl, HM.out.1⟩
          | false =>
            have H_b2 := Aside0.mk h_b2
            clear hel0 hs0 hs1 h_b2
            obtain ⟨c_gm_0_x7, c_gm_1_x7, c_gm_2_x7, c_gm_3_x7, c_gm_4_x7, c_gm_5_x7, c_gm_6_x7, c_gm_7_x7, c_gm_8_x7, c_gm_9_x7⟩ := XW.cells10 (HM.out.2.1)
            have c_gn_0_x7 := XW.cells1 (HM.out.2.2.1)
            obtain ⟨c_go_0_x7, c_go_1_x7, c_go_2_x7, c_go_3_x7, c_go_4_x7, c_go_5_x7, c_go_6_x7⟩ := XW.cells7 (HM.out.2.2.2.1)
            obtain ⟨c_gz_0_x7, c_gz_1_x7⟩ := XW.cells2 (HM.out.2.2.2.2)
            have HMB := Aside0.mk HM.out.1
            have HMN : Aside0 (wc.heap[gn]? = some (.cells #[.int .i64 (l0_2.length : Int)] 3 (0, 0))) := ⟨HM.out.2.2.1⟩
            go_upto_region 7 with (fail)
            go_cut [24] (fun v24 wd => v24 = .bool (mC.anyb l0_2) ∧ Aside0 (mC.M4 w gm gn go gz a0_0 a0_1 (some ad) l0_2.length c0_2 a0_3 a0_4 a0_5 a0_6 a0_7 a0_8 a0_9 wd))
            case first => as_aux_lemma =>
              cases h_q : mC.anyb l0_2 with
              | false =>
                have Hq := Aside0.mk h_q
                clear h_q
                go_wp2_with (go_at_call 89; (with_reducible refine (mC.con _ _ l0_2 false Hq.out _ (Kd.C_below HR.out HMB.out) HC.out).mono ?_); rintro e w' ⟨rfl, hb⟩; have HBc := Aside0.mk hb; clear hb)
                go_meet
                case rel => exact ⟨congrArg Value.bool (by first | rfl | (simp only [Hq.out]; done) | (simp [Hq.out]; done)), ⟨by repeat (first | exact HM.out | exact mC.M4.below HM.out HBc.out | apply mC.M4.drewN | apply mC.M4.drew)⟩⟩
              | true =>
                have Hq := Aside0.mk h_q
                clear h_q
                go_wp2_with (go_at_call 89; (with_reducible refine (mC.con _ _ l0_2 true Hq.out _ (Kd.C_below HR.out HMB.out) HC.out).mono ?_); rintro e w' ⟨rfl, hb⟩; have HBc := Aside0.mk hb; clear hb)
                go_meet
                case rel => exact ⟨congrArg Value.bool (by first | rfl | (simp only [Hq.out]; done) | (simp [Hq.out]; done)), ⟨by repeat (first | exact HM.out | exact mC.M4.below HM.out HBc.out | apply mC.M4.drewN | apply mC.M4.drew)⟩⟩
            case rest =>
              clear c_gm_0_x7 c_gm_1_x7 c_gm_2_x7 c_gm_3_x7 c_gm_4_x7 c_gm_5_x7 c_gm_6_x7 c_gm_7_x7 c_gm_8_x7 c_gm_9_x7 c_gn_0_x7 c_go_0_x7 c_go_1_x7 c_go_2_x7 c_go_3_x7 c_go_4_x7 c_go_5_x7 c_go_6_x7 c_gz_0_x7 c_gz_1_x7
              clear HM
              try clear HMB HMN
              obtain ⟨rfl, HM⟩ := hcut
              cases h_anyb : mC.anyb l0_2 with
              | true =>
                have H_anyb := Aside0.mk h_anyb
                have hr : r = 1 := mC.r_anyb HH.out H_b1.out H_b2.out H_anyb.out
                subst hr
                go_wp2
                go_ret
                exact ⟨rfl, HM.out.1⟩
              | false =>
                have H_anyb := Aside0.mk h_anyb
                clear h_anyb
                obtain ⟨c_gm_0_x8, c_gm_1_x8, c_gm_2_x8, c_gm_3_x8, c_gm_4_x8, c_gm_5_x8, c_gm_6_x8, c_gm_7_x8, c_gm_8_x8, c_gm_9_x8⟩ := XW.cells10 (HM.out.2.1)
                have c_gn_0_x8 := XW.cells1 (HM.out.2.2.1)
                obtain ⟨c_go_0_x8, c_go_1_x8, c_go_2_x8, c_go_3_x8, c_go_4_x8, c_go_5_x8, c_go_6_x8⟩ := XW.cells7 (HM.out.2.2.2.1)
                obtain ⟨c_gz_0_x8, c_gz_1_x8⟩ := XW.cells2 (HM.out.2.2.2.2)
                have HMB := Aside0.mk HM.out.1
                have HMN : Aside0 (wc.heap[gn]? = some (.cells #[.int .i64 (l0_2.length : Int)] 3 (0, 0))) := ⟨HM.out.2.2.1⟩
                go_upto_region 8 with (fail)
                go_cut [24] (fun v24 wd => v24 = .bool (mC.b4 a0_0 a0_1 l0_2 a0_3 a0_4 a0_5 a0_6 a0_7 a0_8 a0_9) ∧ Aside0 (mC.M4 w gm gn go gz a0_0 a0_1 (some ad) l0_2.length c0_2 a0_3 a0_4 a0_5 a0_6 a0_7 a0_8 a0_9 wd))
                case first => as_aux_lemma =>
                  by_cases q0 : a0_3 < 1
                  · have d0 : decide (a0_3 < 1) = true := decide_eq_true q0
                    clear q0
                    go_wp2_with (fail)
                    go_meet
                    case rel => exact ⟨congrArg Value.bool (by simp only [mC.b4, d0, Bool.true_or, Bool.false_or, Bool.or_true, Bool.not_true, Bool.not_false, Bool.or_false]), ⟨by repeat (first | exact HM.out | exact mC.M4.below HM.out HBc.out | apply mC.M4.drewN | apply mC.M4.drew)⟩⟩
                  have d0 : decide (a0_3 < 1) = false := decide_eq_false q0
                  clear q0
                  by_cases q1 : (8 : Int) < a0_3
                  · have d1 : decide ((8 : Int) < a0_3) = true := decide_eq_true q1
                    clear q1
                    go_wp2_with (fail)
                    go_meet
                    case rel => exact ⟨congrArg Value.bool (by simp only [mC.b4, d0, d1, Bool.true_or, Bool.false_or, Bool.or_true, Bool.not_true, Bool.not_false, Bool.or_false]), ⟨by repeat (first | exact HM.out | exact mC.M4.below HM.out HBc.out | apply mC.M4.drewN | apply mC.M4.drew)⟩⟩
                  have d1 : decide ((8 : Int) < a0_3) = false := decide_eq_false q1
                  clear q1
                  cases h_q : mC.clk a0_4 with
                  | false =>
                    have Hq := Aside0.mk h_q
                    clear h_q
                    have HK : Aside0 (mesg_isClock.f a0_4 = some false) := ⟨by rw [mC.isclk, Hq.out]⟩
                    go_wp2_with ((go_at_call 88; (with_reducible refine (mesg_isClock.calls a0_4 false _ HK.out).mono ?_); rintro e w' ⟨rfl, ⟨nd, rfl⟩⟩))
                    go_meet
                    case rel => exact ⟨congrArg Value.bool (by simp only [mC.b4, d0, d1, Hq.out, Bool.true_or, Bool.false_or, Bool.or_true, Bool.not_true, Bool.not_false, Bool.or_false]), ⟨by repeat (first | exact HM.out | exact mC.M4.below HM.out HBc.out | apply mC.M4.drewN | apply mC.M4.drew)⟩⟩
                  | true =>
                    have Hq := Aside0.mk h_q
                    clear h_q
                    have HK : Aside0 (mesg_isClock.f a0_4 = some true) := ⟨by rw [mC.isclk, Hq.out]⟩
                    go_wp2_with ((go_at_call 88; (with_reducible refine (mesg_isClock.calls a0_4 true _ HK.out).mono ?_); rintro e w' ⟨rfl, ⟨nd, rfl⟩⟩))
                    go_meet
                    case rel => exact ⟨congrArg Value.bool (by simp only [mC.b4, d0, d1, Hq.out, Bool.true_or, Bool.false_or, Bool.or_true, Bool.not_true, Bool.not_false, Bool.or_false]), ⟨by repeat (first | exact HM.out | exact mC.M4.below HM.out HBc.out | apply mC.M4.drewN | apply mC.M4.drew)⟩⟩
                case rest =>
                  clear c_gm_0_x8 c_gm_1_x8 c_gm_2_x8 c_gm_3_x8 c_gm_4_x8 c_gm_5_x8 c_gm_6_x8 c_gm_7_x8 c_gm_8_x8 c_gm_9_x8 c_gn_0_x8 c_go_0_x8 c_go_1_x8 c_go_2_x8 c_go_3_x8 c_go_4_x8 c_go_5_x8 c_go_6_x8 c_gz_0_x8 c_gz_1_x8
                  clear HM
                  try clear HMB HMN
                  obtain ⟨rfl, HM⟩ := hcut
                  cases h_b4 : mC.b4 a0_0 a0_1 l0_2 a0_3 a0_4 a0_5 a0_6 a0_7 a0_8 a0_9 with
                  | true =>
                    have H_b4 := Aside0.mk h_b4
                    have hr : r = 1 := mC.r_b4 HH.out H_b1.out H_b2.out H_anyb.out H_b4.out
                    subst hr
                    go_wp2
                    go_ret
                    exact ⟨rfl, HM.out.1⟩
                  | false =>
                    have H_b4 := Aside0.mk h_b4
                    clear h_b4
                    obtain ⟨c_gm_0_x9, c_gm_1_x9, c_gm_2_x9, c_gm_3_x9, c_gm_4_x9, c_gm_5_x9, c_gm_6_x9, c_gm_7_x9, c_gm_8_x9, c_gm_9_x9⟩ := XW.cells10 (HM.out.2.1)
                    have c_gn_0_x9 := XW.cells1 (HM.out.2.2.1)
                    obtain ⟨c_go_0_x9, c_go_1_x9, c_go_2_x9, c_go_3_x9, c_go_4_x9, c_go_5_x9, c_go_6_x9⟩ := XW.cells7 (HM.out.2.2.2.1)
                    obtain ⟨c_gz_0_x9, c_gz_1_x9⟩ := XW.cells2 (HM.out.2.2.2.2)
                    have HMB := Aside0.mk HM.out.1
                    have HMN : Aside0 (wc.heap[gn]? = some (.cells #[.int .i64 (l0_2.length : Int)] 3 (0, 0))) := ⟨HM.out.2.2.1⟩
                    go_upto_region 9 with (fail)
                    go_cut [24] (fun v24 wd => v24 = .bool (mC.b5 a0_0 a0_1 l0_2 a0_3 a0_4 a0_5 a0_6 a0_7 a0_8 a0_9) ∧ Aside0 (mC.M4 w gm gn go gz a0_0 a0_1 (some ad) l0_2.length c0_2 a0_3 a0_4 a0_5 a0_6 a0_7 a0_8 a0_9 wd))
                    case first => as_aux_lemma =>
                      cases ib with
                      | true =>
                        have HE : Aside0 (a0_3 = 1 ∨ a0_3 = 6) := ⟨of_decide_eq_true HIB.out.symm⟩
                        cases h_q : mC.mayb a0_5 a0_6 (l0_2.length : Int) with
                        | false =>
                          have Hq := Aside0.mk h_q
                          clear h_q
                          go_wp2_with ((go_at_call 87; (with_reducible refine (mC.may a0_5 a0_6 (l0_2.length : Int) gn _ HMN.out).mono ?_); rintro e w' ⟨rfl, hb⟩; rw [Hq.out]; have HBc := Aside0.mk hb; have HMq := Aside0.mk (mC.M4.below HM.out hb); obtain ⟨c_gm_0_q, c_gm_1_q, c_gm_2_q, c_gm_3_q, c_gm_4_q, c_gm_5_q, c_gm_6_q, c_gm_7_q, c_gm_8_q, c_gm_9_q⟩ := XW.cells10 (HMq.out.2.1); have c_gn_0_q := XW.cells1 (HMq.out.2.2.1); obtain ⟨c_go_0_q, c_go_1_q, c_go_2_q, c_go_3_q, c_go_4_q, c_go_5_q, c_go_6_q⟩ := XW.cells7 (HMq.out.2.2.2.1); obtain ⟨c_gz_0_q, c_gz_1_q⟩ := XW.cells2 (HMq.out.2.2.2.2); clear hb))
                          go_meet
                          case rel => exact ⟨congrArg Value.bool (by first | rfl | (simp only [mC.b5, if_pos HE.out, Hq.out, Bool.not_true, Bool.not_false, Bool.true_or, Bool.false_or]; done) | (simp [mC.b5, if_pos HE.out, Hq.out, Bool.not_true, Bool.not_false, Bool.true_or, Bool.false_or]; done)), ⟨by repeat (first | exact HM.out | exact mC.M4.below HM.out HBc.out | apply mC.M4.drewN | apply mC.M4.drew)⟩⟩
                        | true =>
                          have Hq := Aside0.mk h_q
                          clear h_q
                          go_wp2_with ((go_at_call 87; (with_reducible refine (mC.may a0_5 a0_6 (l0_2.length : Int) gn _ HMN.out).mono ?_); rintro e w' ⟨rfl, hb⟩; rw [Hq.out]; have HBc := Aside0.mk hb; have HMq := Aside0.mk (mC.M4.below HM.out hb); obtain ⟨c_gm_0_q, c_gm_1_q, c_gm_2_q, c_gm_3_q, c_gm_4_q, c_gm_5_q, c_gm_6_q, c_gm_7_q, c_gm_8_q, c_gm_9_q⟩ := XW.cells10 (HMq.out.2.1); have c_gn_0_q := XW.cells1 (HMq.out.2.2.1); obtain ⟨c_go_0_q, c_go_1_q, c_go_2_q, c_go_3_q, c_go_4_q, c_go_5_q, c_go_6_q⟩ := XW.cells7 (HMq.out.2.2.2.1); obtain ⟨c_gz_0_q, c_gz_1_q⟩ := XW.cells2 (HMq.out.2.2.2.2); clear hb))
                          · have e : a0_6 = a0_0 := by assumption
                            subst e
                            go_meet
                            case rel => exact ⟨congrArg Value.bool (by simp [mC.b5, if_pos HE.out, Hq.out, Bool.not_true, Bool.not_false, Bool.true_or, Bool.false_or]), ⟨by repeat (first | exact HM.out | exact mC.M4.below HM.out HBc.out | apply mC.M4.drewN | apply mC.M4.drew)⟩⟩
                          · go_meet
                            case rel => exact ⟨congrArg Value.bool (by have e : ¬ a0_6 = a0_0 := by assumption
                                                                       simp [mC.b5, if_pos HE.out, Hq.out, Bool.not_true, Bool.not_false, Bool.true_or, Bool.false_or, e]), ⟨by repeat (first | exact HM.out | exact mC.M4.below HM.out HBc.out | apply mC.M4.drewN | apply mC.M4.drew)⟩⟩
                      | false =>
                        have HE : Aside0 (¬ (a0_3 = 1 ∨ a0_3 = 6)) := ⟨of_decide_eq_false HIB.out.symm⟩
                        go_wp2
                        · have e0 : a0_5 = 0 := (by assumption); subst e0; have e1 : a0_6 = 0 := (by assumption); subst e1
                          go_meet
                          case rel => exact ⟨congrArg Value.bool (by simp [mC.b5, if_neg HE.out]), ⟨by repeat (first | exact HM.out | exact mC.M4.below HM.out HBc.out | apply mC.M4.drewN | apply mC.M4.drew)⟩⟩
                        · have e0 : a0_5 = 0 := (by assumption); subst e0; have e1 : ¬ a0_6 = 0 := (by assumption)
                          go_meet
                          case rel => exact ⟨congrArg Value.bool (by simp [mC.b5, if_neg HE.out, e1]), ⟨by repeat (first | exact HM.out | exact mC.M4.below HM.out HBc.out | apply mC.M4.drewN | apply mC.M4.drew)⟩⟩
                        · have e0 : ¬ a0_5 = 0 := (by assumption)
                          go_meet
                          case rel => exact ⟨congrArg Value.bool (by simp [mC.b5, if_neg HE.out, e0]), ⟨by repeat (first | exact HM.out | exact mC.M4.below HM.out HBc.out | apply mC.M4.drewN | apply mC.M4.drew)⟩⟩
                    case rest =>
                      clear c_gm_0_x9 c_gm_1_x9 c_gm_2_x9 c_gm_3_x9 c_gm_4_x9 c_gm_5_x9 c_gm_6_x9 c_gm_7_x9 c_gm_8_x9 c_gm_9_x9 c_gn_0_x9 c_go_0_x9 c_go_1_x9 c_go_2_x9 c_go_3_x9 c_go_4_x9 c_go_5_x9 c_go_6_x9 c_gz_0_x9 c_gz_1_x9
                      clear HM
                      try clear HMB HMN
                      obtain ⟨rfl, HM⟩ := hcut
                      cases h_b5 : mC.b5 a0_0 a0_1 l0_2 a0_3 a0_4 a0_5 a0_6 a0_7 a0_8 a0_9 with
                      | true =>
                        have H_b5 := Aside0.mk h_b5
                        have hr : r = 1 := mC.r_b5 HH.out H_b1.out H_b2.out H_anyb.out H_b4.out H_b5.out
                        subst hr
                        go_wp2
                        go_ret
                        exact ⟨rfl, HM.out.1⟩
                      | false =>
                        have H_b5 := Aside0.mk h_b5
                        clear h_b5
                        obtain ⟨c_gm_0_x10, c_gm_1_x10, c_gm_2_x10, c_gm_3_x10, c_gm_4_x10, c_gm_5_x10, c_gm_6_x10, c_gm_7_x10, c_gm_8_x10, c_gm_9_x10⟩ := XW.cells10 (HM.out.2.1)
                        have c_gn_0_x10 := XW.cells1 (HM.out.2.2.1)
                        obtain ⟨c_go_0_x10, c_go_1_x10, c_go_2_x10, c_go_3_x10, c_go_4_x10, c_go_5_x10, c_go_6_x10⟩ := XW.cells7 (HM.out.2.2.2.1)
                        obtain ⟨c_gz_0_x10, c_gz_1_x10⟩ := XW.cells2 (HM.out.2.2.2.2)
                        have HMB := Aside0.mk HM.out.1
                        have HMN : Aside0 (wc.heap[gn]? = some (.cells #[.int .i64 (l0_2.length : Int)] 3 (0, 0))) := ⟨HM.out.2.2.1⟩
                        go_upto_region 10 with (fail)
                        go_cut [24] (fun v24 wd => v24 = .bool (mC.b6 a0_0 a0_1 l0_2 a0_3 a0_4 a0_5 a0_6 a0_7 a0_8 a0_9) ∧ Aside0 (mC.M4 w gm gn go gz a0_0 a0_1 (some ad) l0_2.length c0_2 a0_3 a0_4 a0_5 a0_6 a0_7 a0_8 a0_9 wd))
                        case first => as_aux_lemma =>
                          cases ub with
                          | true =>
                            have HE : Aside0 (a0_3 = 1) := ⟨of_decide_eq_true HUB.out.symm⟩
                            cases h_q : mC.runeb a0_9 with
                            | false =>
                              have Hq := Aside0.mk h_q
                              clear h_q
                              have HK : Aside0 (mesg_Rune.f 9 a0_9 = some false) := ⟨by rw [mC.isrune, Hq.out]⟩
                              go_wp2_with (go_at_call 91; (with_reducible refine (mesg_Rune.calls 9 a0_9 false _ HK.out).mono ?_); first | rintro e w' ⟨rfl, ⟨nd, rfl⟩⟩ | (rintro e w' ⟨rfl, hb⟩; have HBc := Aside0.mk hb; have HMq := Aside0.mk (mC.M4.below HM.out hb); clear hb))
                              go_meet
                              case rel => exact ⟨congrArg Value.bool (by first | rfl | (simp only [mC.b6, if_pos HE.out, Hq.out, Bool.not_true, Bool.not_false]; done) | (simp [mC.b6, if_pos HE.out, Hq.out, Bool.not_true, Bool.not_false]; done)), ⟨by repeat (first | exact HM.out | exact mC.M4.below HM.out HBc.out | apply mC.M4.drewN | apply mC.M4.drew)⟩⟩
                            | true =>
                              have Hq := Aside0.mk h_q
                              clear h_q
                              have HK : Aside0 (mesg_Rune.f 9 a0_9 = some true) := ⟨by rw [mC.isrune, Hq.out]⟩
                              go_wp2_with (go_at_call 91; (with_reducible refine (mesg_Rune.calls 9 a0_9 true _ HK.out).mono ?_); first | rintro e w' ⟨rfl, ⟨nd, rfl⟩⟩ | (rintro e w' ⟨rfl, hb⟩; have HBc := Aside0.mk hb; have HMq := Aside0.mk (mC.M4.below HM.out hb); clear hb))
                              go_meet
                              case rel => exact ⟨congrArg Value.bool (by first | rfl | (simp only [mC.b6, if_pos HE.out, Hq.out, Bool.not_true, Bool.not_false]; done) | (simp [mC.b6, if_pos HE.out, Hq.out, Bool.not_true, Bool.not_false]; done)), ⟨by repeat (first | exact HM.out | exact mC.M4.below HM.out HBc.out | apply mC.M4.drewN | apply mC.M4.drew)⟩⟩
                          | false =>
                            have HE : Aside0 (¬ a0_3 = 1) := ⟨of_decide_eq_false HUB.out.symm⟩
                            go_wp2
                            go_meet
                            case rel => exact ⟨congrArg Value.bool (by first | rfl | (simp only [mC.b6, if_neg HE.out]; done) | (simp [mC.b6, if_neg HE.out]; done)), ⟨by repeat (first | exact HM.out | exact mC.M4.below HM.out HBc.out | apply mC.M4.drewN | apply mC.M4.drew)⟩⟩
                        case rest =>
                          clear c_gm_0_x10 c_gm_1_x10 c_gm_2_x10 c_gm_3_x10 c_gm_4_x10 c_gm_5_x10 c_gm_6_x10 c_gm_7_x10 c_gm_8_x10 c_gm_9_x10 c_gn_0_x10 c_go_0_x10 c_go_1_x10 c_go_2_x10 c_go_3_x10 c_go_4_x10 c_go_5_x10 c_go_6_x10 c_gz_0_x10 c_gz_1_x10
                          clear HM
                          try clear HMB HMN
                          obtain ⟨rfl, HM⟩ := hcut
                          cases h_b6 : mC.b6 a0_0 a0_1 l0_2 a0_3 a0_4 a0_5 a0_6 a0_7 a0_8 a0_9 with
                          | true =>
                            have H_b6 := Aside0.mk h_b6
                            have hr : r = 1 := mC.r_b6 HH.out H_b1.out H_b2.out H_anyb.out H_b4.out H_b5.out H_b6.out
                            subst hr
                            go_wp2
                            go_ret
                            exact ⟨rfl, HM.out.1⟩
                          | false =>
                            have H_b6 := Aside0.mk h_b6
                            clear h_b6
                            obtain ⟨c_gm_0_x11, c_gm_1_x11, c_gm_2_x11, c_gm_3_x11, c_gm_4_x11, c_gm_5_x11, c_gm_6_x11, c_gm_7_x11, c_gm_8_x11, c_gm_9_x11⟩ := XW.cells10 (HM.out.2.1)
                            have c_gn_0_x11 := XW.cells1 (HM.out.2.2.1)
                            obtain ⟨c_go_0_x11, c_go_1_x11, c_go_2_x11, c_go_3_x11, c_go_4_x11, c_go_5_x11, c_go_6_x11⟩ := XW.cells7 (HM.out.2.2.2.1)
                            obtain ⟨c_gz_0_x11, c_gz_1_x11⟩ := XW.cells2 (HM.out.2.2.2.2)
                            have HMB := Aside0.mk HM.out.1
                            have HMN : Aside0 (wc.heap[gn]? = some (.cells #[.int .i64 (l0_2.length : Int)] 3 (0, 0))) := ⟨HM.out.2.2.1⟩
                            go_upto_region 11 with (fail)
                            go_cut [24] (fun v24 wd => v24 = .bool (mC.b7 a0_0 a0_1 l0_2 a0_3 a0_4 a0_5 a0_6 a0_7 a0_8 a0_9) ∧ Aside0 (mC.M4 w gm gn go gz a0_0 a0_1 (some ad) l0_2.length c0_2 a0_3 a0_4 a0_5 a0_6 a0_7 a0_8 a0_9 wd))
                            case first => as_aux_lemma =>
                              cases rb with
                              | true =>
                                have HE : Aside0 (¬ a0_3 = 6) := ⟨of_decide_eq_true HRB.out.symm⟩
                                go_wp2
                                go_meet
                                case rel => exact ⟨congrArg Value.bool (by first | rfl | (simp only [mC.b7, if_neg HE.out]; done) | (simp [mC.b7, if_neg HE.out]; done)), ⟨by repeat (first | exact HM.out | exact mC.M4.below HM.out HBc.out | apply mC.M4.drewN | apply mC.M4.drew)⟩⟩
                              | false =>
                                have HE : Aside0 (a0_3 = 6) := ⟨by have := of_decide_eq_false HRB.out.symm; omega⟩
                                go_wp2
                                · have e0 : a0_7 = 0 := (by assumption); subst e0; have e1 : a0_8 = 0 := (by assumption); subst e1
                                  go_meet
                                  case rel => exact ⟨congrArg Value.bool (by simp [mC.b7, if_pos HE.out]), ⟨by repeat (first | exact HM.out | exact mC.M4.below HM.out HBc.out | apply mC.M4.drewN | apply mC.M4.drew)⟩⟩
                                · have e0 : a0_7 = 0 := (by assumption); subst e0; have e1 : ¬ a0_8 = 0 := (by assumption)
                                  go_meet
                                  case rel => exact ⟨congrArg Value.bool (by simp [mC.b7, if_pos HE.out, e1]), ⟨by repeat (first | exact HM.out | exact mC.M4.below HM.out HBc.out | apply mC.M4.drewN | apply mC.M4.drew)⟩⟩
                                · have e0 : ¬ a0_7 = 0 := (by assumption)
                                  go_meet
                                  case rel => exact ⟨congrArg Value.bool (by simp [mC.b7, if_pos HE.out, e0]), ⟨by repeat (first | exact HM.out | exact mC.M4.below HM.out HBc.out | apply mC.M4.drewN | apply mC.M4.drew)⟩⟩
                            case rest =>
                              clear c_gm_0_x11 c_gm_1_x11 c_gm_2_x11 c_gm_3_x11 c_gm_4_x11 c_gm_5_x11 c_gm_6_x11 c_gm_7_x11 c_gm_8_x11 c_gm_9_x11 c_gn_0_x11 c_go_0_x11 c_go_1_x11 c_go_2_x11 c_go_3_x11 c_go_4_x11 c_go_5_x11 c_go_6_x11 c_gz_0_x11 c_gz_1_x11
                              clear HM
                              try clear HMB HMN
                              obtain ⟨rfl, HM⟩ := hcut
                              cases h_b7 : mC.b7 a0_0 a0_1 l0_2 a0_3 a0_4 a0_5 a0_6 a0_7 a0_8 a0_9 with
                              | true =>
                                have H_b7 := Aside0.mk h_b7
                                have hr : r = 1 := mC.r_b7 HH.out H_b1.out H_b2.out H_anyb.out H_b4.out H_b5.out H_b6.out H_b7.out
                                subst hr
                                go_wp2
                                go_ret
                                exact ⟨rfl, HM.out.1⟩
                              | false =>
                                have H_b7 := Aside0.mk h_b7
                                clear h_b7
                                have HR8 := Aside0.mk (mC.r_b8 HH.out H_b1.out H_b2.out H_anyb.out H_b4.out H_b5.out H_b6.out H_b7.out)
                                clear H_b1 H_b2 H_anyb H_b4 H_b5 H_b6 H_b7 HH HS HIB HUB
                                obtain ⟨c_gm_0_x12, c_gm_1_x12, c_gm_2_x12, c_gm_3_x12, c_gm_4_x12, c_gm_5_x12, c_gm_6_x12, c_gm_7_x12, c_gm_8_x12, c_gm_9_x12⟩ := XW.cells10 (HM.out.2.1)
                                have c_gn_0_x12 := XW.cells1 (HM.out.2.2.1)
                                obtain ⟨c_go_0_x12, c_go_1_x12, c_go_2_x12, c_go_3_x12, c_go_4_x12, c_go_5_x12, c_go_6_x12⟩ := XW.cells7 (HM.out.2.2.2.1)
                                obtain ⟨c_gz_0_x12, c_gz_1_x12⟩ := XW.cells2 (HM.out.2.2.2.2)
                                have HMB := Aside0.mk HM.out.1
                                have HMN : Aside0 (wc.heap[gn]? = some (.cells #[.int .i64 (l0_2.length : Int)] 3 (0, 0))) := ⟨HM.out.2.2.1⟩
                                by_cases k1 : a0_3 = 1
                                · subst k1
                                  have hrb : rb = true := HRB.out
                                  subst hrb
                                  as_aux_lemma =>
                                    go_wp2_with (fail)
                                    · have e7 : a0_7 = 0 := (by assumption); have e8 : a0_8 = 0 := (by assumption); subst e7; subst e8
                                      have hr : r = 0 := HR8.out.trans (by simp [mC.b8])
                                      subst hr
                                      go_ret
                                      exact ⟨rfl, HM.out.1⟩
                                    · have e7 : a0_7 = 0 := (by assumption); have e8 : ¬ a0_8 = 0 := (by assumption); have E8 := Aside0.mk e8; subst e7
                                      cases h_q : mC.mayb 0 a0_8 (l0_2.length : Int) with
                                      | false =>
                                        have Hq := Aside0.mk h_q
                                        clear h_q
                                        (go_at_call 87; (with_reducible refine (mC.may 0 a0_8 (l0_2.length : Int) gn _ HMN.out).mono ?_); rintro e w' ⟨rfl, hb⟩; rw [Hq.out]; have HBc := Aside0.mk hb; have HMq := Aside0.mk (mC.M4.below HM.out hb); obtain ⟨c_gm_0_q, c_gm_1_q, c_gm_2_q, c_gm_3_q, c_gm_4_q, c_gm_5_q, c_gm_6_q, c_gm_7_q, c_gm_8_q, c_gm_9_q⟩ := XW.cells10 (HMq.out.2.1); have c_gn_0_q := XW.cells1 (HMq.out.2.2.1); obtain ⟨c_go_0_q, c_go_1_q, c_go_2_q, c_go_3_q, c_go_4_q, c_go_5_q, c_go_6_q⟩ := XW.cells7 (HMq.out.2.2.2.1); obtain ⟨c_gz_0_q, c_gz_1_q⟩ := XW.cells2 (HMq.out.2.2.2.2); clear hb)
                                        go_wp2_with (fail)
                                        have hr : r = 1 := HR8.out.trans (by simp [mC.b8, E8.out, Hq.out])
                                        subst hr
                                        go_ret
                                        exact ⟨rfl, (mC.M4.below HM.out HBc.out).1⟩
                                      | true =>
                                        have Hq := Aside0.mk h_q
                                        clear h_q
                                        (go_at_call 87; (with_reducible refine (mC.may 0 a0_8 (l0_2.length : Int) gn _ HMN.out).mono ?_); rintro e w' ⟨rfl, hb⟩; rw [Hq.out]; have HBc := Aside0.mk hb; have HMq := Aside0.mk (mC.M4.below HM.out hb); obtain ⟨c_gm_0_q, c_gm_1_q, c_gm_2_q, c_gm_3_q, c_gm_4_q, c_gm_5_q, c_gm_6_q, c_gm_7_q, c_gm_8_q, c_gm_9_q⟩ := XW.cells10 (HMq.out.2.1); have c_gn_0_q := XW.cells1 (HMq.out.2.2.1); obtain ⟨c_go_0_q, c_go_1_q, c_go_2_q, c_go_3_q, c_go_4_q, c_go_5_q, c_go_6_q⟩ := XW.cells7 (HMq.out.2.2.2.1); obtain ⟨c_gz_0_q, c_gz_1_q⟩ := XW.cells2 (HMq.out.2.2.2.2); clear hb)
                                        go_wp2
                                        · have e5 : a0_5 ≤ 0 := (by assumption)
                                          have hr : r = 1 := HR8.out.trans (by simp [mC.b8, E8.out, Hq.out, e5])
                                          subst hr
                                          go_ret
                                          exact ⟨rfl, (mC.M4.below HM.out HBc.out).1⟩
                                        · have e5 : 0 < a0_5 := (by assumption)
                                          have hr : r = 0 := HR8.out.trans (by simp [mC.b8, E8.out, Hq.out, e5])
                                          subst hr
                                          go_ret
                                          exact ⟨rfl, (mC.M4.below HM.out HBc.out).1⟩
                                    · have e7 : ¬ a0_7 = 0 := (by assumption); have E7 := Aside0.mk e7
                                      cases h_q : mC.mayb a0_7 a0_8 (l0_2.length : Int) with
                                      | false =>
                                        have Hq := Aside0.mk h_q
                                        clear h_q
                                        (go_at_call 87; (with_reducible refine (mC.may a0_7 a0_8 (l0_2.length : Int) gn _ HMN.out).mono ?_); rintro e w' ⟨rfl, hb⟩; rw [Hq.out]; have HBc := Aside0.mk hb; have HMq := Aside0.mk (mC.M4.below HM.out hb); obtain ⟨c_gm_0_q, c_gm_1_q, c_gm_2_q, c_gm_3_q, c_gm_4_q, c_gm_5_q, c_gm_6_q, c_gm_7_q, c_gm_8_q, c_gm_9_q⟩ := XW.cells10 (HMq.out.2.1); have c_gn_0_q := XW.cells1 (HMq.out.2.2.1); obtain ⟨c_go_0_q, c_go_1_q, c_go_2_q, c_go_3_q, c_go_4_q, c_go_5_q, c_go_6_q⟩ := XW.cells7 (HMq.out.2.2.2.1); obtain ⟨c_gz_0_q, c_gz_1_q⟩ := XW.cells2 (HMq.out.2.2.2.2); clear hb)
                                        go_wp2_with (fail)
                                        have hr : r = 1 := HR8.out.trans (by simp [mC.b8, E7.out, Hq.out])
                                        subst hr
                                        go_ret
                                        exact ⟨rfl, (mC.M4.below HM.out HBc.out).1⟩
                                      | true =>
                                        have Hq := Aside0.mk h_q
                                        clear h_q
                                        (go_at_call 87; (with_reducible refine (mC.may a0_7 a0_8 (l0_2.length : Int) gn _ HMN.out).mono ?_); rintro e w' ⟨rfl, hb⟩; rw [Hq.out]; have HBc := Aside0.mk hb; have HMq := Aside0.mk (mC.M4.below HM.out hb); obtain ⟨c_gm_0_q, c_gm_1_q, c_gm_2_q, c_gm_3_q, c_gm_4_q, c_gm_5_q, c_gm_6_q, c_gm_7_q, c_gm_8_q, c_gm_9_q⟩ := XW.cells10 (HMq.out.2.1); have c_gn_0_q := XW.cells1 (HMq.out.2.2.1); obtain ⟨c_go_0_q, c_go_1_q, c_go_2_q, c_go_3_q, c_go_4_q, c_go_5_q, c_go_6_q⟩ := XW.cells7 (HMq.out.2.2.2.1); obtain ⟨c_gz_0_q, c_gz_1_q⟩ := XW.cells2 (HMq.out.2.2.2.2); clear hb)
                                        go_wp2
                                        · have e5 : a0_5 ≤ a0_7 := (by assumption)
                                          have hr : r = 1 := HR8.out.trans (by simp [mC.b8, E7.out, Hq.out, e5])
                                          subst hr
                                          go_ret
                                          exact ⟨rfl, (mC.M4.below HM.out HBc.out).1⟩
                                        · have e5 : a0_7 < a0_5 := (by assumption)
                                          have hr : r = 0 := HR8.out.trans (by simp [mC.b8, E7.out, Hq.out, e5])
                                          subst hr
                                          go_ret
                                          exact ⟨rfl, (mC.M4.below HM.out HBc.out).1⟩
                                by_cases k5 : a0_3 = 5
                                · subst k5
                                  have hrb : rb = true := HRB.out
                                  subst hrb
                                  as_aux_lemma =>
                                    go_wp2_with (fail)
                                    · have e7 : a0_7 = 0 := (by assumption); have e8 : a0_8 = 0 := (by assumption); subst e7; subst e8
                                      have hr : r = 0 := HR8.out.trans (by simp [mC.b8])
                                      subst hr
                                      go_ret
                                      exact ⟨rfl, HM.out.1⟩
                                    · have e7 : a0_7 = 0 := (by assumption); have e8 : ¬ a0_8 = 0 := (by assumption); have E8 := Aside0.mk e8; subst e7
                                      cases h_q : mC.mayb 0 a0_8 (l0_2.length : Int) with
                                      | false =>
                                        have Hq := Aside0.mk h_q
                                        clear h_q
                                        (go_at_call 87; (with_reducible refine (mC.may 0 a0_8 (l0_2.length : Int) gn _ HMN.out).mono ?_); rintro e w' ⟨rfl, hb⟩; rw [Hq.out]; have HBc := Aside0.mk hb; have HMq := Aside0.mk (mC.M4.below HM.out hb); obtain ⟨c_gm_0_q, c_gm_1_q, c_gm_2_q, c_gm_3_q, c_gm_4_q, c_gm_5_q, c_gm_6_q, c_gm_7_q, c_gm_8_q, c_gm_9_q⟩ := XW.cells10 (HMq.out.2.1); have c_gn_0_q := XW.cells1 (HMq.out.2.2.1); obtain ⟨c_go_0_q, c_go_1_q, c_go_2_q, c_go_3_q, c_go_4_q, c_go_5_q, c_go_6_q⟩ := XW.cells7 (HMq.out.2.2.2.1); obtain ⟨c_gz_0_q, c_gz_1_q⟩ := XW.cells2 (HMq.out.2.2.2.2); clear hb)
                                        go_wp2_with (fail)
                                        have hr : r = 1 := HR8.out.trans (by simp [mC.b8, E8.out, Hq.out])
                                        subst hr
                                        go_ret
                                        exact ⟨rfl, (mC.M4.below HM.out HBc.out).1⟩
                                      | true =>
                                        have Hq := Aside0.mk h_q
                                        clear h_q
                                        (go_at_call 87; (with_reducible refine (mC.may 0 a0_8 (l0_2.length : Int) gn _ HMN.out).mono ?_); rintro e w' ⟨rfl, hb⟩; rw [Hq.out]; have HBc := Aside0.mk hb; have HMq := Aside0.mk (mC.M4.below HM.out hb); obtain ⟨c_gm_0_q, c_gm_1_q, c_gm_2_q, c_gm_3_q, c_gm_4_q, c_gm_5_q, c_gm_6_q, c_gm_7_q, c_gm_8_q, c_gm_9_q⟩ := XW.cells10 (HMq.out.2.1); have c_gn_0_q := XW.cells1 (HMq.out.2.2.1); obtain ⟨c_go_0_q, c_go_1_q, c_go_2_q, c_go_3_q, c_go_4_q, c_go_5_q, c_go_6_q⟩ := XW.cells7 (HMq.out.2.2.2.1); obtain ⟨c_gz_0_q, c_gz_1_q⟩ := XW.cells2 (HMq.out.2.2.2.2); clear hb)
                                        go_wp2
                                        have hr : r = 0 := HR8.out.trans (by simp [mC.b8, E8.out, Hq.out])
                                        subst hr
                                        go_ret
                                        exact ⟨rfl, (mC.M4.below HM.out HBc.out).1⟩
                                    · have e7 : ¬ a0_7 = 0 := (by assumption); have E7 := Aside0.mk e7
                                      cases h_q : mC.mayb a0_7 a0_8 (l0_2.length : Int) with
                                      | false =>
                                        have Hq := Aside0.mk h_q
                                        clear h_q
                                        (go_at_call 87; (with_reducible refine (mC.may a0_7 a0_8 (l0_2.length : Int) gn _ HMN.out).mono ?_); rintro e w' ⟨rfl, hb⟩; rw [Hq.out]; have HBc := Aside0.mk hb; have HMq := Aside0.mk (mC.M4.below HM.out hb); obtain ⟨c_gm_0_q, c_gm_1_q, c_gm_2_q, c_gm_3_q, c_gm_4_q, c_gm_5_q, c_gm_6_q, c_gm_7_q, c_gm_8_q, c_gm_9_q⟩ := XW.cells10 (HMq.out.2.1); have c_gn_0_q := XW.cells1 (HMq.out.2.2.1); obtain ⟨c_go_0_q, c_go_1_q, c_go_2_q, c_go_3_q, c_go_4_q, c_go_5_q, c_go_6_q⟩ := XW.cells7 (HMq.out.2.2.2.1); obtain ⟨c_gz_0_q, c_gz_1_q⟩ := XW.cells2 (HMq.out.2.2.2.2); clear hb)
                                        go_wp2_with (fail)
                                        have hr : r = 1 := HR8.out.trans (by simp [mC.b8, E7.out, Hq.out])
                                        subst hr
                                        go_ret
                                        exact ⟨rfl, (mC.M4.below HM.out HBc.out).1⟩
                                      | true =>
                                        have Hq := Aside0.mk h_q
                                        clear h_q
                                        (go_at_call 87; (with_reducible refine (mC.may a0_7 a0_8 (l0_2.length : Int) gn _ HMN.out).mono ?_); rintro e w' ⟨rfl, hb⟩; rw [Hq.out]; have HBc := Aside0.mk hb; have HMq := Aside0.mk (mC.M4.below HM.out hb); obtain ⟨c_gm_0_q, c_gm_1_q, c_gm_2_q, c_gm_3_q, c_gm_4_q, c_gm_5_q, c_gm_6_q, c_gm_7_q, c_gm_8_q, c_gm_9_q⟩ := XW.cells10 (HMq.out.2.1); have c_gn_0_q := XW.cells1 (HMq.out.2.2.1); obtain ⟨c_go_0_q, c_go_1_q, c_go_2_q, c_go_3_q, c_go_4_q, c_go_5_q, c_go_6_q⟩ := XW.cells7 (HMq.out.2.2.2.1); obtain ⟨c_gz_0_q, c_gz_1_q⟩ := XW.cells2 (HMq.out.2.2.2.2); clear hb)
                                        go_wp2
                                        have hr : r = 0 := HR8.out.trans (by simp [mC.b8, E7.out, Hq.out])
                                        subst hr
                                        go_ret
                                        exact ⟨rfl, (mC.M4.below HM.out HBc.out).1⟩
                                by_cases k6 : a0_3 = 6
                                · subst k6
                                  have hrb : rb = false := HRB.out
                                  subst hrb
                                  as_aux_lemma =>
                                    go_wp2_with (fail)
                                    · have e7 : a0_7 = 0 := (by assumption); have e8 : a0_8 = 0 := (by assumption); subst e7; subst e8
                                      have hr : r = 0 := HR8.out.trans (by simp [mC.b8])
                                      subst hr
                                      go_ret
                                      exact ⟨rfl, HM.out.1⟩
                                    · have e7 : a0_7 = 0 := (by assumption); have e8 : ¬ a0_8 = 0 := (by assumption); have E8 := Aside0.mk e8; subst e7
                                      cases h_q : mC.mayb 0 a0_8 (l0_2.length : Int) with
                                      | false =>
                                        have Hq := Aside0.mk h_q
                                        clear h_q
                                        (go_at_call 87; (with_reducible refine (mC.may 0 a0_8 (l0_2.length : Int) gn _ HMN.out).mono ?_); rintro e w' ⟨rfl, hb⟩; rw [Hq.out]; have HBc := Aside0.mk hb; have HMq := Aside0.mk (mC.M4.below HM.out hb); obtain ⟨c_gm_0_q, c_gm_1_q, c_gm_2_q, c_gm_3_q, c_gm_4_q, c_gm_5_q, c_gm_6_q, c_gm_7_q, c_gm_8_q, c_gm_9_q⟩ := XW.cells10 (HMq.out.2.1); have c_gn_0_q := XW.cells1 (HMq.out.2.2.1); obtain ⟨c_go_0_q, c_go_1_q, c_go_2_q, c_go_3_q, c_go_4_q, c_go_5_q, c_go_6_q⟩ := XW.cells7 (HMq.out.2.2.2.1); obtain ⟨c_gz_0_q, c_gz_1_q⟩ := XW.cells2 (HMq.out.2.2.2.2); clear hb)
                                        go_wp2_with (fail)
                                        have hr : r = 1 := HR8.out.trans (by simp [mC.b8, E8.out, Hq.out])
                                        subst hr
                                        go_ret
                                        exact ⟨rfl, (mC.M4.below HM.out HBc.out).1⟩
                                      | true =>
                                        have Hq := Aside0.mk h_q
                                        clear h_q
                                        (go_at_call 87; (with_reducible refine (mC.may 0 a0_8 (l0_2.length : Int) gn _ HMN.out).mono ?_); rintro e w' ⟨rfl, hb⟩; rw [Hq.out]; have HBc := Aside0.mk hb; have HMq := Aside0.mk (mC.M4.below HM.out hb); obtain ⟨c_gm_0_q, c_gm_1_q, c_gm_2_q, c_gm_3_q, c_gm_4_q, c_gm_5_q, c_gm_6_q, c_gm_7_q, c_gm_8_q, c_gm_9_q⟩ := XW.cells10 (HMq.out.2.1); have c_gn_0_q := XW.cells1 (HMq.out.2.2.1); obtain ⟨c_go_0_q, c_go_1_q, c_go_2_q, c_go_3_q, c_go_4_q, c_go_5_q, c_go_6_q⟩ := XW.cells7 (HMq.out.2.2.2.1); obtain ⟨c_gz_0_q, c_gz_1_q⟩ := XW.cells2 (HMq.out.2.2.2.2); clear hb)
                                        go_wp2
                                        have hr : r = 0 := HR8.out.trans (by simp [mC.b8, E8.out, Hq.out])
                                        subst hr
                                        go_ret
                                        exact ⟨rfl, (mC.M4.below HM.out HBc.out).1⟩
                                    · have e7 : ¬ a0_7 = 0 := (by assumption); have E7 := Aside0.mk e7
                                      cases h_q : mC.mayb a0_7 a0_8 (l0_2.length : Int) with
                                      | false =>
                                        have Hq := Aside0.mk h_q
                                        clear h_q
                                        (go_at_call 87; (with_reducible refine (mC.may a0_7 a0_8 (l0_2.length : Int) gn _ HMN.out).mono ?_); rintro e w' ⟨rfl, hb⟩; rw [Hq.out]; have HBc := Aside0.mk hb; have HMq := Aside0.mk (mC.M4.below HM.out hb); obtain ⟨c_gm_0_q, c_gm_1_q, c_gm_2_q, c_gm_3_q, c_gm_4_q, c_gm_5_q, c_gm_6_q, c_gm_7_q, c_gm_8_q, c_gm_9_q⟩ := XW.cells10 (HMq.out.2.1); have c_gn_0_q := XW.cells1 (HMq.out.2.2.1); obtain ⟨c_go_0_q, c_go_1_q, c_go_2_q, c_go_3_q, c_go_4_q, c_go_5_q, c_go_6_q⟩ := XW.cells7 (HMq.out.2.2.2.1); obtain ⟨c_gz_0_q, c_gz_1_q⟩ := XW.cells2 (HMq.out.2.2.2.2); clear hb)
                                        go_wp2_with (fail)
                                        have hr : r = 1 := HR8.out.trans (by simp [mC.b8, E7.out, Hq.out])
                                        subst hr
                                        go_ret
                                        exact ⟨rfl, (mC.M4.below HM.out HBc.out).1⟩
                                      | true =>
                                        have Hq := Aside0.mk h_q
                                        clear h_q
                                        (go_at_call 87; (with_reducible refine (mC.may a0_7 a0_8 (l0_2.length : Int) gn _ HMN.out).mono ?_); rintro e w' ⟨rfl, hb⟩; rw [Hq.out]; have HBc := Aside0.mk hb; have HMq := Aside0.mk (mC.M4.below HM.out hb); obtain ⟨c_gm_0_q, c_gm_1_q, c_gm_2_q, c_gm_3_q, c_gm_4_q, c_gm_5_q, c_gm_6_q, c_gm_7_q, c_gm_8_q, c_gm_9_q⟩ := XW.cells10 (HMq.out.2.1); have c_gn_0_q := XW.cells1 (HMq.out.2.2.1); obtain ⟨c_go_0_q, c_go_1_q, c_go_2_q, c_go_3_q, c_go_4_q, c_go_5_q, c_go_6_q⟩ := XW.cells7 (HMq.out.2.2.2.1); obtain ⟨c_gz_0_q, c_gz_1_q⟩ := XW.cells2 (HMq.out.2.2.2.2); clear hb)
                                        go_wp2
                                        have hr : r = 0 := HR8.out.trans (by simp [mC.b8, E7.out, Hq.out])
                                        subst hr
                                        go_ret
                                        exact ⟨rfl, (mC.M4.below HM.out HBc.out).1⟩
                                have KK := Aside0.mk (And.intro k1 (And.intro k5 k6))
                                have hrb : rb = true := by rw [HRB.out]; exact decide_eq_true k6
                                have q1 : (a0_3 != 1) = true := bne_iff_ne.mpr k1
                                have q5 : (a0_3 != 5) = true := bne_iff_ne.mpr k5
                                have q1d : (a0_3 == 1) = false := beq_eq_false_iff_ne.mpr k1
                                clear k1 k5 k6
                                subst hrb
                                as_aux_lemma =>
                                  go_wp2_with (fail)
                                  · have e7 : a0_7 = 0 := (by assumption); have e8 : a0_8 = 0 := (by assumption); subst e7; subst e8
                                    have hr : r = 1 := HR8.out.trans (by simp [mC.b8, KK.out.1, KK.out.2.1, KK.out.2.2])
                                    subst hr
                                    go_ret
                                    exact ⟨rfl, HM.out.1⟩
                                  · have e7 : a0_7 = 0 := (by assumption); have e8 : ¬ a0_8 = 0 := (by assumption); have E8 := Aside0.mk e8; subst e7
                                    cases h_q : mC.mayb 0 a0_8 (l0_2.length : Int) with
                                    | false =>
                                      have Hq := Aside0.mk h_q
                                      clear h_q
                                      (go_at_call 87; (with_reducible refine (mC.may 0 a0_8 (l0_2.length : Int) gn _ HMN.out).mono ?_); rintro e w' ⟨rfl, hb⟩; rw [Hq.out]; have HBc := Aside0.mk hb; have HMq := Aside0.mk (mC.M4.below HM.out hb); obtain ⟨c_gm_0_q, c_gm_1_q, c_gm_2_q, c_gm_3_q, c_gm_4_q, c_gm_5_q, c_gm_6_q, c_gm_7_q, c_gm_8_q, c_gm_9_q⟩ := XW.cells10 (HMq.out.2.1); have c_gn_0_q := XW.cells1 (HMq.out.2.2.1); obtain ⟨c_go_0_q, c_go_1_q, c_go_2_q, c_go_3_q, c_go_4_q, c_go_5_q, c_go_6_q⟩ := XW.cells7 (HMq.out.2.2.2.1); obtain ⟨c_gz_0_q, c_gz_1_q⟩ := XW.cells2 (HMq.out.2.2.2.2); clear hb)
                                      go_wp2_with (fail)
                                      have hr : r = 1 := HR8.out.trans (by simp [mC.b8, E8.out, Hq.out])
                                      subst hr
                                      go_ret
                                      exact ⟨rfl, (mC.M4.below HM.out HBc.out).1⟩
                                    | true =>
                                      have Hq := Aside0.mk h_q
                                      clear h_q
                                      (go_at_call 87; (with_reducible refine (mC.may 0 a0_8 (l0_2.length : Int) gn _ HMN.out).mono ?_); rintro e w' ⟨rfl, hb⟩; rw [Hq.out]; have HBc := Aside0.mk hb; have HMq := Aside0.mk (mC.M4.below HM.out hb); obtain ⟨c_gm_0_q, c_gm_1_q, c_gm_2_q, c_gm_3_q, c_gm_4_q, c_gm_5_q, c_gm_6_q, c_gm_7_q, c_gm_8_q, c_gm_9_q⟩ := XW.cells10 (HMq.out.2.1); have c_gn_0_q := XW.cells1 (HMq.out.2.2.1); obtain ⟨c_go_0_q, c_go_1_q, c_go_2_q, c_go_3_q, c_go_4_q, c_go_5_q, c_go_6_q⟩ := XW.cells7 (HMq.out.2.2.2.1); obtain ⟨c_gz_0_q, c_gz_1_q⟩ := XW.cells2 (HMq.out.2.2.2.2); clear hb)
                                      go_wp2
                                      have hr : r = 0 := HR8.out.trans (by simp [mC.b8, E8.out, Hq.out, KK.out.1])
                                      subst hr
                                      go_ret
                                      exact ⟨rfl, (mC.M4.below HM.out HBc.out).1⟩
                                  · have e7 : ¬ a0_7 = 0 := (by assumption); have E7 := Aside0.mk e7
                                    cases h_q : mC.mayb a0_7 a0_8 (l0_2.length : Int) with
                                    | false =>
                                      have Hq := Aside0.mk h_q
                                      clear h_q
                                      (go_at_call 87; (with_reducible refine (mC.may a0_7 a0_8 (l0_2.length : Int) gn _ HMN.out).mono ?_); rintro e w' ⟨rfl, hb⟩; rw [Hq.out]; have HBc := Aside0.mk hb; have HMq := Aside0.mk (mC.M4.below HM.out hb); obtain ⟨c_gm_0_q, c_gm_1_q, c_gm_2_q, c_gm_3_q, c_gm_4_q, c_gm_5_q, c_gm_6_q, c_gm_7_q, c_gm_8_q, c_gm_9_q⟩ := XW.cells10 (HMq.out.2.1); have c_gn_0_q := XW.cells1 (HMq.out.2.2.1); obtain ⟨c_go_0_q, c_go_1_q, c_go_2_q, c_go_3_q, c_go_4_q, c_go_5_q, c_go_6_q⟩ := XW.cells7 (HMq.out.2.2.2.1); obtain ⟨c_gz_0_q, c_gz_1_q⟩ := XW.cells2 (HMq.out.2.2.2.2); clear hb)
                                      go_wp2_with (fail)
                                      have hr : r = 1 := HR8.out.trans (by simp [mC.b8, E7.out, Hq.out])
                                      subst hr
                                      go_ret
                                      exact ⟨rfl, (mC.M4.below HM.out HBc.out).1⟩
                                    | true =>
                                      have Hq := Aside0.mk h_q
                                      clear h_q
                                      (go_at_call 87; (with_reducible refine (mC.may a0_7 a0_8 (l0_2.length : Int) gn _ HMN.out).mono ?_); rintro e w' ⟨rfl, hb⟩; rw [Hq.out]; have HBc := Aside0.mk hb; have HMq := Aside0.mk (mC.M4.below HM.out hb); obtain ⟨c_gm_0_q, c_gm_1_q, c_gm_2_q, c_gm_3_q, c_gm_4_q, c_gm_5_q, c_gm_6_q, c_gm_7_q, c_gm_8_q, c_gm_9_q⟩ := XW.cells10 (HMq.out.2.1); have c_gn_0_q := XW.cells1 (HMq.out.2.2.1); obtain ⟨c_go_0_q, c_go_1_q, c_go_2_q, c_go_3_q, c_go_4_q, c_go_5_q, c_go_6_q⟩ := XW.cells7 (HMq.out.2.2.2.1); obtain ⟨c_gz_0_q, c_gz_1_q⟩ := XW.cells2 (HMq.out.2.2.2.2); clear hb)
                                      go_wp2
                                      have hr : r = 0 := HR8.out.trans (by simp [mC.b8, E7.out, Hq.out, KK.out.1])
                                      subst hr
                                      go_ret
                                      exact ⟨rfl, (mC.M4.below HM.out HBc.out).1⟩
theorem mC.at (a0_0 : Int) (a0_1 : Int) (A0_2 : Option Addr) (c0_2 : Nat) (n0_2 : Nat) (l0_2 : List Int) (a0_3 : Int) (a0_4 : Int) (a0_5 : Int) (a0_6 : Int) (a0_7 : Int) (a0_8 : Int) (a0_9 : Int) (r : Int) (w : World) (hr0_2 : Kd.C (Kd.int .i64) w A0_2 n0_2 l0_2) (hc0_2 : n0_2 ≤ c0_2) (h : mC.f a0_0 a0_1 l0_2 a0_3 a0_4 a0_5 a0_6 a0_7 a0_8 a0_9 = some r) :
  Calls Tryz.prog 40 #[.agg #[.int .i64 a0_0, .int .i64 a0_1, .slice A0_2 n0_2 c0_2, .int .i64 a0_3, .int .i64 a0_4, .int .i64 a0_5, .int .i64 a0_6, .int .i64 a0_7, .int .i64 a0_8, .int .i64 a0_9]] w fun e w' => e = .returned (.int .i64 r) ∧ Below w.heap.size w w' := by
 obtain rfl : l0_2.length = n0_2 := Kd.C_len hr0_2
 exact mC.calls a0_0 a0_1 A0_2 c0_2 l0_2 a0_3 a0_4 a0_5 a0_6 a0_7 a0_8 a0_9 r w hr0_2 hc0_2 h
end Go.Proofs.YtphdjpfdelpecaaGreatDoor.PTopf
