/- Functions that the law reaches, each as a plain Lean function with the proof that the call does what it says. Conditions: none beyond those that each theorem states. Written by a program for this claim. -/
import Derived.Test.YtpoigdkbblmpaaaPPackx0
import Derived.Test.YtpoigdkbblmpaaaPPackx1
import Derived.Test.YtpoigdkbblmpaaaPPackx2
namespace Go.Proofs.Ytpoigdkbblmpaaa.PPack
open Go.RowKit Go.Proofs.YtpoigdkbblmpaaaW.PrintWords Go.Proofs.YtpoigdkbblmpaaaW.PrintLast Go.Proofs.YtpoigdkbblmpaaaW.PrintMore
attribute [local go_sem] max2_int min2_int max_two min_two max_three min_three max_four min_four   -- for this text's walks alone
set_option linter.unusedVariables false
set_option linter.unusedSimpArgs false

/-! ### duetref01_List: function 40 -/
def duetref01_List.l0 : Nat → List Int → ByteArray → Int → Option (ByteArray × Int)
  | 0, _, _, _ => none
  | k + 1, x0, x4, x6 => if x6 < (x0.length : Int) then (if 0 ≤ x6 then ((duetref01_Num.f k (rd x0 x6)).bind fun bt203 => (if bt203.2 = 0 then (if x4.size + bt203.1.size ≤ 9223372036854775807 then (duetref01_List.l0 k x0 (x4 ++ bt203.1) (wrap64 (x6 + 1))) else (none)) else (some ((⟨#[]⟩ : ByteArray), bt203.2)))) else (none)) else (some (x4, 0))
def duetref01_List.f (k : Nat) (l0 : List Int) : Option (ByteArray × Int) := if (l0.length : Int) > 1000 then (some ((⟨#[]⟩ : ByteArray), 1)) else ((duetref01_Num.f k (l0.length : Int)).bind fun bt200 => (duetref01_List.l0 k l0 bt200.1 0))
theorem duetref01_List.mono_l : ∀ k, (∀ y0 y1 y2, LeO (duetref01_List.l0 k y0 y1 y2) (duetref01_List.l0 (k + 1) y0 y1 y2))
  | 0 => fun _ _ _ r h => by simp [duetref01_List.l0] at h
  | k + 1 => by
    have ih0 := duetref01_List.mono_l k
    · intro y0 y1 y2
      unfold duetref01_List.l0
      repeat' first
      | (with_reducible exact ih0 _ _ _)
      | (with_reducible exact duetref01_Num.mono _ _)
      | (with_reducible exact LeO.refl _)
      | (with_reducible exact LeO.none _)
      | (with_reducible refine LeO.ite ?_ ?_)
      | (with_reducible refine LeO.bind ?_ (fun _ => ?_))
      | exact ih0 _ _ _
      | exact duetref01_Num.mono _ _
      | exact LeO.none _
      | refine LeO.ite ?_ ?_
      | refine LeO.bind ?_ (fun _ => ?_)
theorem duetref01_List.mono : ∀ a0 k, LeO (duetref01_List.f k a0) (duetref01_List.f (k + 1) a0) := by
  intro a0 k
  have ih0 := duetref01_List.mono_l k
  unfold duetref01_List.f
  repeat' first
      | (with_reducible exact ih0 _ _ _)
      | (with_reducible exact duetref01_Num.mono _ _)
      | (with_reducible exact LeO.refl _)
      | (with_reducible exact LeO.none _)
      | (with_reducible refine LeO.ite ?_ ?_)
      | (with_reducible refine LeO.bind ?_ (fun _ => ?_))
      | exact ih0 _ _ _
      | exact duetref01_Num.mono _ _
      | exact LeO.none _
      | refine LeO.ite ?_ ?_
      | refine LeO.bind ?_ (fun _ => ?_)
set_option maxHeartbeats 8000000 in
set_option maxRecDepth 100000 in
theorem duetref01_List.calls (k : Nat) (A0 : Option Addr) (c0 : Nat) (l0 : List Int) (r1 : ByteArray) (r2 : Int) (w : World) (hr0 : Kd.C (Kd.int .i64) w A0 l0.length l0) (hc0 : l0.length ≤ c0) (h : duetref01_List.f k l0 = some (r1, r2)) :
    Calls Try.prog 40 #[.slice A0 l0.length c0] w fun e w' => e = .returned (.tuple #[.string r1, .int .i64 r2]) ∧ Below w.heap.size w w' := by
  have HR0 := Aside0.mk hr0
  have HC0 := Aside0.mk hc0
  clear hr0 hc0
  have HB := Aside0.mk (Below.refl w.heap.size w)
  have H : (if (l0.length : Int) > 1000 then (some ((⟨#[]⟩ : ByteArray), 1)) else ((duetref01_Num.f k (l0.length : Int)).bind fun bt200 => (duetref01_List.l0 k l0 bt200.1 0))) = some (r1, r2) := h
  clear h
  by_cases c2 : (l0.length : Int) > 1000
  · rw [if_pos c2] at H
    have c2b0 : decide (1000 < (l0.length : Int)) = true := decide_eq_true c2
    have c2b1 : decide (1000 < l0.length) = true := decide_eq_true (by omega)
    clear c2
    simp only [Option.some.injEq, Prod.mk.injEq] at H
    obtain ⟨rfl, rfl⟩ := H
    go_enter Try.func40, Try.ntmps40
    go_wp2
    go_ret2
    exact ⟨by first | rfl | (simp [errW_none, errW_some] <;> rfl) | (simp [*, errW_none, errW_some] <;> rfl), by repeat (first | (with_reducible first | exact HB.out | apply below_alloc | apply pw_below_drewN | apply below_drew1) | exact HB.out)⟩
  · rw [if_neg c2] at H
    have c2b0 : decide (1000 < (l0.length : Int)) = false := decide_eq_false c2
    have c2b1 : decide (1000 < l0.length) = false := decide_eq_false (by omega)
    clear c2
    replace H := Option.bind_eq_some_iff.mp H
    obtain ⟨⟨t200, t201⟩, A30, H⟩ := H
    replace H : (duetref01_List.l0 k l0 t200 0) = some (r1, r2) := H
    have A3 := Aside0.mk A30
    clear A30
    have H' := Aside0.mk H
    clear H
    go_enter Try.func40, Try.ntmps40
    go_wp2_with (first | ((with_reducible refine gate_callee (f := 36) rfl ?_); refine goesL_ (some 15) rfl rfl Try.func36 (by kernel_rfl) rfl #[.int .i64 (l0.length : Int)] rfl (by (try simp only [List.map_toArray, List.map_cons, List.map_nil]); first | done | rfl | (simp only [List.length_drop, List.length_take]; rfl)) ?_; (with_reducible refine (duetref01_Num.calls k (l0.length : Int) t200 t201 _ A3.out).mono ?_); rintro e w4 ⟨rfl, hb⟩; refine ⟨_, rfl, ?_⟩; have n0_ := Aside0.mk (below_step (by repeat (first | (with_reducible first | exact HB.out | apply below_alloc | apply pw_below_drewN | apply below_drew1) | exact HB.out)) hb); clear HB; have HB := n0_; clear n0_; (try clear hb); (try clear hb2); (try clear hk); (try clear hi)))
    go_loopg [4, 6] k (fun kq v4 v6 w' => ∃ (x4_1 : ByteArray) (x6_1 : Int), v4 = .string x4_1 ∧ v6 = .int .i64 x6_1 ∧ Aside0 (duetref01_List.l0 kq l0 x4_1 x6_1 = some (r1, r2)) ∧ Aside0 (kq ≤ k) ∧ Aside0 (Below w.heap.size w w'))
    case atStart => exact ⟨(t200), (0), (by first | rfl | (simp; done) | (simp [*]; done)), (by first | rfl | (simp; done) | (simp [*]; done)), H', ⟨Nat.le_refl _⟩, ⟨by repeat (first | (with_reducible first | exact HB.out | apply below_alloc | apply pw_below_drewN | apply below_drew1) | exact HB.out)⟩⟩
    case round =>
      clear H'
      try clear c2
      try clear c2b0
      try clear c2b1
      try clear p2
      try clear c3
      try clear c4
      obtain ⟨x4_1, x6_1, rfl, rfl, HA, HK1, HB⟩ := hrel
      cases gk with
      | zero => exact absurd HA.out (by simp [duetref01_List.l0])
      | succ k1 =>
        have H := HA.out
        clear HA
        simp only [duetref01_List.l0] at H
        by_cases c5 : x6_1 < (l0.length : Int)
        · rw [if_pos c5] at H
          have c5b0 : decide (x6_1 < (l0.length : Int)) = true := decide_eq_true c5
          clear c5
          by_cases c6 : 0 ≤ x6_1
          · rw [if_pos c6] at H
            have c6b0 : decide (0 ≤ x6_1) = true := decide_eq_true c6
            clear c6
            replace H := Option.bind_eq_some_iff.mp H
            obtain ⟨⟨t203, t204⟩, A70, H⟩ := H
            replace H : (if t204 = 0 then (if x4_1.size + t203.size ≤ 9223372036854775807 then (duetref01_List.l0 k1 l0 (x4_1 ++ t203) (wrap64 (x6_1 + 1))) else (none)) else (some ((⟨#[]⟩ : ByteArray), t204))) = some (r1, r2) := H
            have A7 := Aside0.mk A70
            clear A70
            by_cases c8 : t204 = 0
            · rw [if_pos c8] at H
              have c8b0 : (t204 == 0) = true := beq_iff_eq.mpr c8
              have c8b1 : (t204 != 0) = false := bne_eq_false_iff_eq.mpr c8
              clear c8
              by_cases c9 : x4_1.size + t203.size ≤ 9223372036854775807
              · rw [if_pos c9] at H
                have c9b0 := eq_true c9
                have c9b1 : decide (x4_1.size + t203.size ≤ 9223372036854775807) = true := decide_eq_true c9
                try have c9b2 : (9223372036854775807 < x4_1.size + t203.size) = False := eq_false (Nat.not_lt.2 c9)
                have H' := Aside0.mk H
                clear H
                have p202 : 0 ≤ (x6_1 : Int) := of_decide_eq_true (by first | (with_reducible assumption) | assumption)
                have q202 : x6_1 < (l0.length : Int) := of_decide_eq_true (by first | (with_reducible assumption) | assumption)
                obtain ⟨ad202, e202, hx202_0⟩ := Kd.at_int HR0.out x6_1 p202 q202
                cases e202
                replace hx202_0 := (HB.out.cell (World.block_lt_of_cell? w _ hx202_0)).trans hx202_0
                replace p202 := eq_true p202
                replace q202 := eq_true q202
                go_wp2_with (first | ((with_reducible refine gate_callee (f := 36) rfl ?_); refine goesL_ (some 29) rfl rfl Try.func36 (by kernel_rfl) rfl #[.int .i64 (rd l0 x6_1)] rfl (by (try simp only [List.map_toArray, List.map_cons, List.map_nil]); first | done | rfl | (simp only [List.length_drop, List.length_take]; rfl)) ?_; (with_reducible refine (duetref01_Num.calls k1 (rd l0 x6_1) t203 t204 _ A7.out).mono ?_); rintro e w10 ⟨rfl, hb⟩; refine ⟨_, rfl, ?_⟩; have n0_ := Aside0.mk (below_step (by repeat (first | (with_reducible first | exact HB.out | apply below_alloc | apply pw_below_drewN | apply below_drew1) | exact HB.out)) hb); clear HB; have HB := n0_; clear n0_; (try clear hb); (try clear hb2); (try clear hk); (try clear hi)))
                go_roundg k1
                case measure => have := HK1.out; omega
                case rel => exact ⟨(x4_1 ++ t203), (wrap64 (x6_1 + 1)), (by first | rfl | (simp; done) | (simp [*]; done)), (by first | rfl | (simp; done) | (simp [*]; done)), H', ⟨by have := HK1.out; omega⟩, ⟨by repeat (first | (with_reducible first | exact HB.out | apply below_alloc | apply pw_below_drewN | apply below_drew1) | exact HB.out)⟩⟩
              · rw [if_neg c9] at H
                exact absurd H (by simp)
            · rw [if_neg c8] at H
              have c8b0 : (t204 == 0) = false := beq_eq_false_iff_ne.mpr c8
              have c8b1 : (t204 != 0) = true := bne_iff_ne.mpr c8
              simp only [Option.some.injEq, Prod.mk.injEq] at H
              obtain ⟨rfl, rfl⟩ := H
              have p202 : 0 ≤ (x6_1 : Int) := of_decide_eq_true (by first | (with_reducible assumption) | assumption)
              have q202 : x6_1 < (l0.length : Int) := of_decide_eq_true (by first | (with_reducible assumption) | assumption)
              obtain ⟨ad202, e202, hx202_0⟩ := Kd.at_int HR0.out x6_1 p202 q202
              cases e202
              replace hx202_0 := (HB.out.cell (World.block_lt_of_cell? w _ hx202_0)).trans hx202_0
              replace p202 := eq_true p202
              replace q202 := eq_true q202
              go_wp2_with (first | ((with_reducible refine gate_callee (f := 36) rfl ?_); refine goesL_ (some 29) rfl rfl Try.func36 (by kernel_rfl) rfl #[.int .i64 (rd l0 x6_1)] rfl (by (try simp only [List.map_toArray, List.map_cons, List.map_nil]); first | done | rfl | (simp only [List.length_drop, List.length_take]; rfl)) ?_; (with_reducible refine (duetref01_Num.calls k1 (rd l0 x6_1) t203 t204 _ A7.out).mono ?_); rintro e w11 ⟨rfl, hb⟩; refine ⟨_, rfl, ?_⟩; have n0_ := Aside0.mk (below_step (by repeat (first | (with_reducible first | exact HB.out | apply below_alloc | apply pw_below_drewN | apply below_drew1) | exact HB.out)) hb); clear HB; have HB := n0_; clear n0_; (try clear hb); (try clear hb2); (try clear hk); (try clear hi)))
              go_ret2
              exact ⟨by first | rfl | (simp [errW_none, errW_some] <;> rfl) | (simp [*, errW_none, errW_some] <;> rfl), by repeat (first | (with_reducible first | exact HB.out | apply below_alloc | apply pw_below_drewN | apply below_drew1) | exact HB.out)⟩
          · rw [if_neg c6] at H
            exact absurd H (by simp)
        · rw [if_neg c5] at H
          have c5b0 : decide (x6_1 < (l0.length : Int)) = false := decide_eq_false c5
          clear c5
          simp only [Option.some.injEq, Prod.mk.injEq] at H
          obtain ⟨rfl, rfl⟩ := H
          go_wp2
          go_ret2
          exact ⟨by first | rfl | (simp [errW_none, errW_some] <;> rfl) | (simp [*, errW_none, errW_some] <;> rfl), by repeat (first | (with_reducible first | exact HB.out | apply below_alloc | apply pw_below_drewN | apply below_drew1) | exact HB.out)⟩

/-! ### duetlaw01_PackWrites: function 9 -/
def duetlaw01_PackWrites.j0 : Nat → Int → ByteArray → List Int → Bool → Option (Bool)
  | 0, _, _, _, _ => none
  | k + 1, x0, x1, x2, x26 => if x26 = true then ((duetlaw01_live.f k).bind fun t206 => (some t206)) else ((pack_Num.f k x0).bind fun bt207 => ((duetref01_Num.f k x0).bind fun bt209 => ((pack_Text.f k x1).bind fun bt211 => ((duetref01_Text.f k x1).bind fun bt213 => ((pack_List.f x2).bind fun bt215 => ((duetref01_List.f k x2).bind fun bt217 => (if bt207.1.toList = bt209.1.toList then (if bt207.2 = bt209.2 then (if bt211.1.toList = bt213.1.toList then (if bt211.2 = bt213.2 then (if bt215.1.toList = bt217.1.toList then (if bt215.2 = bt217.2 then ((duetlaw01_live.f k).bind fun t219 => (some t219)) else (none)) else (none)) else (none)) else (none)) else (none)) else (none))))))))
def duetlaw01_PackWrites.f (k : Nat) (a0 : Int) (a1 : ByteArray) (l2 : List Int) : Option (Bool) := (duetlaw01_short.f a1).bind fun t205 => (if t205 = true then (duetlaw01_PackWrites.j0 k a0 a1 l2 (decide ((l2.length : Int) > 1100))) else (duetlaw01_PackWrites.j0 k a0 a1 l2 true))
theorem duetlaw01_PackWrites.mono_l : ∀ k, (∀ y0 y1 y2 y3, LeO (duetlaw01_PackWrites.j0 k y0 y1 y2 y3) (duetlaw01_PackWrites.j0 (k + 1) y0 y1 y2 y3))
  | 0 => fun _ _ _ _ r h => by simp [duetlaw01_PackWrites.j0] at h
  | k + 1 => by
    have ih0 := duetlaw01_PackWrites.mono_l k
    · intro y0 y1 y2 y3
      unfold duetlaw01_PackWrites.j0
      repeat' first
      | (with_reducible exact ih0 _ _ _ _)
      | (with_reducible exact duetlaw01_live.mono _)
      | (with_reducible exact duetref01_List.mono _ _)
      | (with_reducible exact duetref01_Num.mono _ _)
      | (with_reducible exact duetref01_Text.mono _ _)
      | (with_reducible exact pack_Num.mono _ _)
      | (with_reducible exact pack_Text.mono _ _)
      | (with_reducible exact LeO.refl _)
      | (with_reducible exact LeO.none _)
      | (with_reducible refine LeO.ite ?_ ?_)
      | (with_reducible refine LeO.bind ?_ (fun _ => ?_))
      | exact ih0 _ _ _ _
      | exact duetlaw01_live.mono _
      | exact duetref01_List.mono _ _
      | exact duetref01_Num.mono _ _
      | exact duetref01_Text.mono _ _
      | exact pack_Num.mono _ _
      | exact pack_Text.mono _ _
      | exact LeO.none _
      | refine LeO.ite ?_ ?_
      | refine LeO.bind ?_ (fun _ => ?_)
theorem duetlaw01_PackWrites.mono : ∀ a0 a1 a2 k, LeO (duetlaw01_PackWrites.f k a0 a1 a2) (duetlaw01_PackWrites.f (k + 1) a0 a1 a2) := by
  intro a0 a1 a2 k
  have ih0 := duetlaw01_PackWrites.mono_l k
  unfold duetlaw01_PackWrites.f
  repeat' first
      | (with_reducible exact ih0 _ _ _ _)
      | (with_reducible exact duetlaw01_live.mono _)
      | (with_reducible exact duetref01_List.mono _ _)
      | (with_reducible exact duetref01_Num.mono _ _)
      | (with_reducible exact duetref01_Text.mono _ _)
      | (with_reducible exact pack_Num.mono _ _)
      | (with_reducible exact pack_Text.mono _ _)
      | (with_reducible exact LeO.refl _)
      | (with_reducible exact LeO.none _)
      | (with_reducible refine LeO.ite ?_ ?_)
      | (with_reducible refine LeO.bind ?_ (fun _ => ?_))
      | exact ih0 _ _ _ _
      | exact duetlaw01_live.mono _
      | exact duetref01_List.mono _ _
      | exact duetref01_Num.mono _ _
      | exact duetref01_Text.mono _ _
      | exact pack_Num.mono _ _
      | exact pack_Text.mono _ _
      | exact LeO.none _
      | refine LeO.ite ?_ ?_
      | refine LeO.bind ?_ (fun _ => ?_)
set_option maxHeartbeats 8000000 in
set_option maxRecDepth 100000 in
theorem duetlaw01_PackWrites.calls (k : Nat) (a0 : Int) (a1 : ByteArray) (A2 : Option Addr) (c2 : Nat) (l2 : List Int) (r : Bool) (w : World) (hr2 : Kd.C (Kd.int .i64) w A2 l2.length l2) (hc2 : l2.length ≤ c2) (h : duetlaw01_PackWrites.f k a0 a1 l2 = some r) :
    Calls Try.prog 9 #[.int .i64 a0, .string a1, .slice A2 l2.length c2] w fun e w' => e = .returned (.bool r) ∧ Below w.heap.size w w' := by
  have HR2 := Aside0.mk hr2
  have HC2 := Aside0.mk hc2
  clear hr2 hc2
  have HB := Aside0.mk (Below.refl w.heap.size w)
  have H : ((duetlaw01_short.f a1).bind fun t205 => (if t205 = true then (duetlaw01_PackWrites.j0 k a0 a1 l2 (decide ((l2.length : Int) > 1100))) else (duetlaw01_PackWrites.j0 k a0 a1 l2 true))) = some r := h
  clear h
  have HC4 := Aside0.mk H
  clear H
  go_enter Try.func9, Try.ntmps9
  go_upto_region 1 with (fail)
  go_cut [26] (fun v26 wc => ∃ (kq : Nat) (x26_3 : Bool), v26 = .bool x26_3 ∧ Aside0 (duetlaw01_PackWrites.j0 kq a0 a1 l2 x26_3 = some r) ∧ Aside0 (kq ≤ k) ∧ Aside0 (Below w.heap.size w wc))
  case first =>
    have H := HC4.out
    clear HC4
    replace H := Option.bind_eq_some_iff.mp H
    obtain ⟨t205, A50, H⟩ := H
    replace H : (if t205 = true then (duetlaw01_PackWrites.j0 k a0 a1 l2 (decide ((l2.length : Int) > 1100))) else (duetlaw01_PackWrites.j0 k a0 a1 l2 true)) = some r := H
    have A5 := Aside0.mk A50
    clear A50
    by_cases c6 : t205 = true
    · subst c6
      have H1 : (duetlaw01_PackWrites.j0 k a0 a1 l2 (decide ((l2.length : Int) > 1100))) = some r := by rw [if_pos rfl] at H; exact H
      clear H
      have H := H1
      clear H1
      have H' := Aside0.mk H
      clear H
      go_wp2_with (first | ((with_reducible refine gate_callee (f := 33) rfl ?_); refine goesL_ (some 20) rfl rfl Try.func33 (by kernel_rfl) rfl #[.string a1] rfl (by (try simp only [List.map_toArray, List.map_cons, List.map_nil]); first | done | rfl | (simp only [List.length_drop, List.length_take]; rfl)) ?_; (with_reducible refine (duetlaw01_short.calls a1 true _ A5.out).mono ?_); rintro e w' ⟨rfl, ⟨nd, rfl⟩⟩; refine ⟨_, rfl, ?_⟩))
      go_meet
      case rel => exact ⟨_, (decide ((l2.length : Int) > 1100)), (by first | rfl | (simp; done) | (simp [*]; done)), H', ⟨by first | omega | exact Nat.le_refl _⟩, ⟨by repeat (first | (with_reducible first | exact HB.out | apply below_alloc | apply pw_below_drewN | apply below_drew1) | exact HB.out)⟩⟩
    · replace c6 := Bool.eq_false_iff.mpr c6
      subst c6
      have H1 : (duetlaw01_PackWrites.j0 k a0 a1 l2 true) = some r := by rw [if_neg (show ¬ (false = true) by decide)] at H; exact H
      clear H
      have H := H1
      clear H1
      have H' := Aside0.mk H
      clear H
      go_wp2_with (first | ((with_reducible refine gate_callee (f := 33) rfl ?_); refine goesL_ (some 20) rfl rfl Try.func33 (by kernel_rfl) rfl #[.string a1] rfl (by (try simp only [List.map_toArray, List.map_cons, List.map_nil]); first | done | rfl | (simp only [List.length_drop, List.length_take]; rfl)) ?_; (with_reducible refine (duetlaw01_short.calls a1 false _ A5.out).mono ?_); rintro e w' ⟨rfl, ⟨nd, rfl⟩⟩; refine ⟨_, rfl, ?_⟩))
      go_meet
      case rel => exact ⟨_, (true), (by first | rfl | (simp; done) | (simp [*]; done)), H', ⟨by first | omega | exact Nat.le_refl _⟩, ⟨by repeat (first | (with_reducible first | exact HB.out | apply below_alloc | apply pw_below_drewN | apply below_drew1) | exact HB.out)⟩⟩
  case rest =>
    clear HC4
    try clear c2
    try clear p2
    try clear c3
    try clear c6
    obtain ⟨kq, x26_3, rfl, HA, HJ3, HB⟩ := hcut
    cases kq with
    | zero => exact absurd HA.out (by simp [duetlaw01_PackWrites.j0])
    | succ kj3 =>
      have H := HA.out
      clear HA
      simp only [duetlaw01_PackWrites.j0] at H
      by_cases c7 : x26_3 = true
      · subst c7
        have H1 : ((duetlaw01_live.f kj3).bind fun t206 => (some t206)) = some r := by rw [if_pos rfl] at H; exact H
        clear H
        have H := H1
        clear H1
        replace H := Option.bind_eq_some_iff.mp H
        obtain ⟨t206, A80, H⟩ := H
        replace H : (some t206) = some r := H
        have A8 := Aside0.mk A80
        clear A80
        obtain rfl := Option.some.inj H
        go_wp2_with (first | ((with_reducible refine gate_callee (f := 34) rfl ?_); refine goesL_ (some 27) rfl rfl Try.func34 (by kernel_rfl) rfl #[] rfl (by (try simp only [List.map_toArray, List.map_cons, List.map_nil]); first | done | rfl | (simp only [List.length_drop, List.length_take]; rfl)) ?_; (with_reducible refine (duetlaw01_live.calls kj3  t206 _ A8.out).mono ?_); rintro e w9 ⟨rfl, hb⟩; refine ⟨_, rfl, ?_⟩; have n0_ := Aside0.mk (below_step (by repeat (first | (with_reducible first | exact HB.out | apply below_alloc | apply pw_below_drewN | apply below_drew1) | exact HB.out)) hb); clear HB; have HB := n0_; clear n0_; (try clear hb); (try clear hb2); (try clear hk); (try clear hi)))
        go_ret
        exact ⟨by first | rfl | (simp [errW_none, errW_some] <;> rfl) | (simp [*, errW_none, errW_some] <;> rfl), by repeat (first | (with_reducible first | exact HB.out | apply below_alloc | apply pw_below_drewN | apply below_drew1) | exact HB.out)⟩
      · replace c7 := Bool.eq_false_iff.mpr c7
        subst c7
        have H1 : ((pack_Num.f kj3 a0).bind fun bt207 => ((duetref01_Num.f kj3 a0).bind fun bt209 => ((pack_Text.f kj3 a1).bind fun bt211 => ((duetref01_Text.f kj3 a1).bind fun bt213 => ((pack_List.f l2).bind fun bt215 => ((duetref01_List.f kj3 l2).bind fun bt217 => (if bt207.1.toList = bt209.1.toList then (if bt207.2 = bt209.2 then (if bt211.1.toList = bt213.1.toList then (if bt211.2 = bt213.2 then (if bt215.1.toList = bt217.1.toList then (if bt215.2 = bt217.2 then ((duetlaw01_live.f kj3).bind fun t219 => (some t219)) else (none)) else (none)) else (none)) else (none)) else (none)) else (none)))))))) = some r := by rw [if_neg (show ¬ (false = true) by decide)] at H; exact H
        clear H
        have H := H1
        clear H1
        replace H := Option.bind_eq_some_iff.mp H
        obtain ⟨⟨t207, t208⟩, A100, H⟩ := H
        replace H : ((duetref01_Num.f kj3 a0).bind fun bt209 => ((pack_Text.f kj3 a1).bind fun bt211 => ((duetref01_Text.f kj3 a1).bind fun bt213 => ((pack_List.f l2).bind fun bt215 => ((duetref01_List.f kj3 l2).bind fun bt217 => (if t207.toList = bt209.1.toList then (if t208 = bt209.2 then (if bt211.1.toList = bt213.1.toList then (if bt211.2 = bt213.2 then (if bt215.1.toList = bt217.1.toList then (if bt215.2 = bt217.2 then ((duetlaw01_live.f kj3).bind fun t219 => (some t219)) else (none)) else (none)) else (none)) else (none)) else (none)) else (none))))))) = some r := H
        have A10 := Aside0.mk A100
        clear A100
        replace H := Option.bind_eq_some_iff.mp H
        obtain ⟨⟨t209, t210⟩, A110, H⟩ := H
        replace H : ((pack_Text.f kj3 a1).bind fun bt211 => ((duetref01_Text.f kj3 a1).bind fun bt213 => ((pack_List.f l2).bind fun bt215 => ((duetref01_List.f kj3 l2).bind fun bt217 => (if t207.toList = t209.toList then (if t208 = t210 then (if bt211.1.toList = bt213.1.toList then (if bt211.2 = bt213.2 then (if bt215.1.toList = bt217.1.toList then (if bt215.2 = bt217.2 then ((duetlaw01_live.f kj3).bind fun t219 => (some t219)) else (none)) else (none)) else (none)) else (none)) else (none)) else (none)))))) = some r := H
        have A11 := Aside0.mk A110
        clear A110
        replace H := Option.bind_eq_some_iff.mp H
        obtain ⟨⟨t211, t212⟩, A120, H⟩ := H
        replace H : ((duetref01_Text.f kj3 a1).bind fun bt213 => ((pack_List.f l2).bind fun bt215 => ((duetref01_List.f kj3 l2).bind fun bt217 => (if t207.toList = t209.toList then (if t208 = t210 then (if t211.toList = bt213.1.toList then (if t212 = bt213.2 then (if bt215.1.toList = bt217.1.toList then (if bt215.2 = bt217.2 then ((duetlaw01_live.f kj3).bind fun t219 => (some t219)) else (none)) else (none)) else (none)) else (none)) else (none)) else (none))))) = some r := H
        have A12 := Aside0.mk A120
        clear A120
        replace H := Option.bind_eq_some_iff.mp H
        obtain ⟨⟨t213, t214⟩, A130, H⟩ := H
        replace H : ((pack_List.f l2).bind fun bt215 => ((duetref01_List.f kj3 l2).bind fun bt217 => (if t207.toList = t209.toList then (if t208 = t210 then (if t211.toList = t213.toList then (if t212 = t214 then (if bt215.1.toList = bt217.1.toList then (if bt215.2 = bt217.2 then ((duetlaw01_live.f kj3).bind fun t219 => (some t219)) else (none)) else (none)) else (none)) else (none)) else (none)) else (none)))) = some r := H
        have A13 := Aside0.mk A130
        clear A130
        replace H := Option.bind_eq_some_iff.mp H
        obtain ⟨⟨t215, t216⟩, A140, H⟩ := H
        replace H : ((duetref01_List.f kj3 l2).bind fun bt217 => (if t207.toList = t209.toList then (if t208 = t210 then (if t211.toList = t213.toList then (if t212 = t214 then (if t215.toList = bt217.1.toList then (if t216 = bt217.2 then ((duetlaw01_live.f kj3).bind fun t219 => (some t219)) else (none)) else (none)) else (none)) else (none)) else (none)) else (none))) = some r := H
        have A14 := Aside0.mk A140
        clear A140
        replace H := Option.bind_eq_some_iff.mp H
        obtain ⟨⟨t217, t218⟩, A150, H⟩ := H
        replace H : (if t207.toList = t209.toList then (if t208 = t210 then (if t211.toList = t213.toList then (if t212 = t214 then (if t215.toList = t217.toList then (if t216 = t218 then ((duetlaw01_live.f kj3).bind fun t219 => (some t219)) else (none)) else (none)) else (none)) else (none)) else (none)) else (none)) = some r := H
        have A15 := Aside0.mk A150
        clear A150
        by_cases c16 : t207.toList = t209.toList
        · rw [if_pos c16] at H
          have c16b0 : (t207.toList == t209.toList) = true := beq_iff_eq.mpr c16
          have c16b1 : (t207.toList != t209.toList) = false := bne_eq_false_iff_eq.mpr c16
          clear c16
          by_cases c17 : t208 = t210
          · rw [if_pos c17] at H
            have c17b0 : (t208 == t210) = true := beq_iff_eq.mpr c17
            have c17b1 : (t208 != t210) = false := bne_eq_false_iff_eq.mpr c17
            clear c17
            by_cases c18 : t211.toList = t213.toList
            · rw [if_pos c18] at H
              have c18b0 : (t211.toList == t213.toList) = true := beq_iff_eq.mpr c18
              have c18b1 : (t211.toList != t213.toList) = false := bne_eq_false_iff_eq.mpr c18
              clear c18
              by_cases c19 : t212 = t214
              · rw [if_pos c19] at H
                have c19b0 : (t212 == t214) = true := beq_iff_eq.mpr c19
                have c19b1 : (t212 != t214) = false := bne_eq_false_iff_eq.mpr c19
                clear c19
                by_cases c20 : t215.toList = t217.toList
                · rw [if_pos c20] at H
                  have c20b0 : (t215.toList == t217.toList) = true := beq_iff_eq.mpr c20
                  have c20b1 : (t215.toList != t217.toList) = false := bne_eq_false_iff_eq.mpr c20
                  clear c20
                  by_cases c21 : t216 = t218
                  · rw [if_pos c21] at H
                    have c21b0 : (t216 == t218) = true := beq_iff_eq.mpr c21
                    have c21b1 : (t216 != t218) = false := bne_eq_false_iff_eq.mpr c21
                    clear c21
                    replace H := Option.bind_eq_some_iff.mp H
                    obtain ⟨t219, A220, H⟩ := H
                    replace H : (some t219) = some r := H
                    have A22 := Aside0.mk A220
                    clear A220
                    obtain rfl := Option.some.inj H
                    go_wp2_with (first | ((with_reducible refine gate_callee (f := 35) rfl ?_); refine goesL_ (some 30) rfl rfl Try.func35 (by kernel_rfl) rfl #[.int .i64 a0] rfl (by (try simp only [List.map_toArray, List.map_cons, List.map_nil]); first | done | rfl | (simp only [List.length_drop, List.length_take]; rfl)) ?_; (with_reducible refine (pack_Num.calls kj3 a0 t207 t208 _ A10.out).mono ?_); rintro e w23 ⟨rfl, hb⟩; refine ⟨_, rfl, ?_⟩; have n0_ := Aside0.mk (below_step (by repeat (first | (with_reducible first | exact HB.out | apply below_alloc | apply pw_below_drewN | apply below_drew1) | exact HB.out)) hb); clear HB; have HB := n0_; clear n0_; (try clear hb); (try clear hb2); (try clear hk); (try clear hi)) | ((with_reducible refine gate_callee (f := 36) rfl ?_); refine goesL_ (some 35) rfl rfl Try.func36 (by kernel_rfl) rfl #[.int .i64 a0] rfl (by (try simp only [List.map_toArray, List.map_cons, List.map_nil]); first | done | rfl | (simp only [List.length_drop, List.length_take]; rfl)) ?_; (with_reducible refine (duetref01_Num.calls kj3 a0 t209 t210 _ A11.out).mono ?_); rintro e w24 ⟨rfl, hb⟩; refine ⟨_, rfl, ?_⟩; have n0_ := Aside0.mk (below_step (by repeat (first | (with_reducible first | exact HB.out | apply below_alloc | apply pw_below_drewN | apply below_drew1) | exact HB.out)) hb); clear HB; have HB := n0_; clear n0_; (try clear hb); (try clear hb2); (try clear hk); (try clear hi)) | ((with_reducible refine gate_callee (f := 37) rfl ?_); refine goesL_ (some 40) rfl rfl Try.func37 (by kernel_rfl) rfl #[.string a1] rfl (by (try simp only [List.map_toArray, List.map_cons, List.map_nil]); first | done | rfl | (simp only [List.length_drop, List.length_take]; rfl)) ?_; (with_reducible refine (pack_Text.calls kj3 a1 t211 t212 _ A12.out).mono ?_); rintro e w25 ⟨rfl, hb⟩; refine ⟨_, rfl, ?_⟩; have n0_ := Aside0.mk (below_step (by repeat (first | (with_reducible first | exact HB.out | apply below_alloc | apply pw_below_drewN | apply below_drew1) | exact HB.out)) hb); clear HB; have HB := n0_; clear n0_; (try clear hb); (try clear hb2); (try clear hk); (try clear hi)) | ((with_reducible refine gate_callee (f := 38) rfl ?_); refine goesL_ (some 45) rfl rfl Try.func38 (by kernel_rfl) rfl #[.string a1] rfl (by (try simp only [List.map_toArray, List.map_cons, List.map_nil]); first | done | rfl | (simp only [List.length_drop, List.length_take]; rfl)) ?_; (with_reducible refine (duetref01_Text.calls kj3 a1 t213 t214 _ A13.out).mono ?_); rintro e w26 ⟨rfl, hb⟩; refine ⟨_, rfl, ?_⟩; have n0_ := Aside0.mk (below_step (by repeat (first | (with_reducible first | exact HB.out | apply below_alloc | apply pw_below_drewN | apply below_drew1) | exact HB.out)) hb); clear HB; have HB := n0_; clear n0_; (try clear hb); (try clear hb2); (try clear hk); (try clear hi)) | ((with_reducible refine gate_callee (f := 39) rfl ?_); refine goesL_ (some 50) rfl rfl Try.func39 (by kernel_rfl) rfl #[.slice A2 l2.length c2] rfl (by (try simp only [List.map_toArray, List.map_cons, List.map_nil]); first | done | rfl | (simp only [List.length_drop, List.length_take]; rfl)) ?_; (with_reducible refine (pack_List.calls _ _ l2 t215 t216 _ ?side1 ?side2 A14.out).mono ?_); (case side1 => repeat (first | exact (Kd.C_below HR2.out HB.out) | (with_reducible refine Kd.C_alloc ?_ _) | (with_reducible refine Kd.C_drewN ?_ _) | (with_reducible refine Kd.C_drew ?_))); (case side2 => exact HC2.out); rintro e w27 ⟨rfl, hb⟩; refine ⟨_, rfl, ?_⟩; have n0_ := Aside0.mk (below_step (by repeat (first | (with_reducible first | exact HB.out | apply below_alloc | apply pw_below_drewN | apply below_drew1) | exact HB.out)) hb); clear HB; have HB := n0_; clear n0_; (try clear hb); (try clear hb2); (try clear hk); (try clear hi)) | ((with_reducible refine gate_callee (f := 40) rfl ?_); refine goesL_ (some 55) rfl rfl Try.func40 (by kernel_rfl) rfl #[.slice A2 l2.length c2] rfl (by (try simp only [List.map_toArray, List.map_cons, List.map_nil]); first | done | rfl | (simp only [List.length_drop, List.length_take]; rfl)) ?_; (with_reducible refine (duetref01_List.calls kj3 _ _ l2 t217 t218 _ ?side1 ?side2 A15.out).mono ?_); (case side1 => repeat (first | exact (Kd.C_below HR2.out HB.out) | (with_reducible refine Kd.C_alloc ?_ _) | (with_reducible refine Kd.C_drewN ?_ _) | (with_reducible refine Kd.C_drew ?_))); (case side2 => exact HC2.out); rintro e w28 ⟨rfl, hb⟩; refine ⟨_, rfl, ?_⟩; have n0_ := Aside0.mk (below_step (by repeat (first | (with_reducible first | exact HB.out | apply below_alloc | apply pw_below_drewN | apply below_drew1) | exact HB.out)) hb); clear HB; have HB := n0_; clear n0_; (try clear hb); (try clear hb2); (try clear hk); (try clear hi)) | (go_at_call 34; (with_reducible refine (duetlaw01_live.calls kj3  t219 _ A22.out).mono ?_); rintro e w29 ⟨rfl, hb⟩; have n0_ := Aside0.mk (below_step (by repeat (first | (with_reducible first | exact HB.out | apply below_alloc | apply pw_below_drewN | apply below_drew1) | exact HB.out)) hb); clear HB; have HB := n0_; clear n0_; (try clear hb); (try clear hb2); (try clear hk); (try clear hi)))
                    go_ret
                    exact ⟨by first | rfl | (simp [errW_none, errW_some] <;> rfl) | (simp [*, errW_none, errW_some] <;> rfl), by repeat (first | (with_reducible first | exact HB.out | apply below_alloc | apply pw_below_drewN | apply below_drew1) | exact HB.out)⟩
                  · rw [if_neg c21] at H
                    exact absurd H (by simp)
                · rw [if_neg c20] at H
                  exact absurd H (by simp)
              · rw [if_neg c19] at H
                exact absurd H (by simp)
            · rw [if_neg c18] at H
              exact absurd H (by simp)
          · rw [if_neg c17] at H
            exact absurd H (by simp)
        · rw [if_neg c16] at H
          exact absurd H (by simp)

/-- THE ONE PURE STATEMENT of duetlaw01_PackWrites: yours. -/
def duetlaw01_PackWrites.Pure : Prop := ∀ (a0 : Int) (a1 : ByteArray) (l2 : List Int), (Lit.int .i64 a0).wf = true → a1.size ≤ 140737488351232 → l2.length ≤ maxLen → l2.length * 8 ≤ 140737488351232 → (∀ x ∈ l2, (Lit.int .i64 x).wf = true) → ∃ k, duetlaw01_PackWrites.f k a0 a1 l2 = some true
theorem duetlaw01_PackWrites.walk (P : duetlaw01_PackWrites.Pure) (a0 : Int) (a1 : ByteArray) (a2 : Option Addr) (len2 cap2 : Nat) (z2 : List Int) (w : World) (w0 : (Lit.int .i64 a0).wf = true) (w1 : a1.size ≤ 140737488351232) (w2 : (a2 = none ∧ len2 = 0 ∧ cap2 = 0 ∧ z2 = []) ∨ ∃ x, a2 = some x ∧ len2 ≤ cap2 ∧ cap2 ≤ maxLen ∧ z2.length = cap2 ∧ (∀ i, i < z2.length → w.cell? (x.add i) = some (.int .i64 (z2.getD i 0))) ∧ ∀ n ∈ z2, (Lit.int .i64 n).wf = true) (y2 : len2 * 8 ≤ 140737488351232) :
    Calls Try.prog 9 #[.int .i64 a0, .string a1, .slice a2 len2 cap2] w fun e w' => e = .returned (.bool true) ∧ Below w.heap.size w w' := by
  obtain ⟨l2, rfl, hr2, hm2, hw2, hc2⟩ := ReadsInt.ofRowC w2
  obtain ⟨k, h⟩ := P a0 a1 l2 w0 w1 hm2 y2 hw2
  refine (duetlaw01_PackWrites.calls k a0 a1 _ _ l2 true w (Kd.C_of_reads (d := (0 : Int)) (h1 := fun _ => rfl) hr2) hc2 h).mono ?_
  rintro e w' ⟨rfl, hd⟩
  exact ⟨rfl, hd⟩

/-! ### duetref01_Take: function 42 -/
def duetref01_Take.l0 : Nat → ByteArray → Int → Int → Int → Option (Int × ByteArray × Int)
  | 0, _, _, _, _ => none
  | k + 1, x0, x6, x7, x8 => if x8 ≤ x6 then (if 0 ≤ x8 then (if x8 < (x0.size : Int) then (duetref01_Take.l0 k x0 x6 (wrap64 ((wrap64 (256 * x7)) + (wrap64 (bt x0 x8)))) (wrap64 (x8 + 1))) else (none)) else (none)) else ((duetref01_Num.f k x7).bind fun bt220 => (if 0 ≤ (wrap64 (1 + x6)) then (if (wrap64 (1 + x6)) ≤ (x0.size : Int) then (if bt220.1.toList = (x0.extract 0 ((wrap64 (1 + x6)) : Int).toNat).toList then (some (x7, x0.extract ((wrap64 (1 + x6)) : Int).toNat x0.size, 0)) else (some (0, (⟨#[]⟩ : ByteArray), 2))) else (none)) else (none)))
def duetref01_Take.f (k : Nat) (a0 : ByteArray) : Option (Int × ByteArray × Int) := if a0.toList = ([] : List UInt8) then (some (0, (⟨#[]⟩ : ByteArray), 3)) else (if 0 < (a0.size : Int) then (if (wrap64 (bt a0 0)) < 248 then (if 1 ≤ (a0.size : Int) then (some (wrap64 (bt a0 0), a0.extract 1 a0.size, 0)) else (none)) else (if (wrap64 ((wrap64 (bt a0 0)) - 247)) > 4 then (some (0, (⟨#[]⟩ : ByteArray), 2)) else (if (a0.size : Int) < (wrap64 (1 + (wrap64 ((wrap64 (bt a0 0)) - 247)))) then (some (0, (⟨#[]⟩ : ByteArray), 3)) else (duetref01_Take.l0 k a0 (wrap64 ((wrap64 (bt a0 0)) - 247)) 0 1)))) else (none))
theorem duetref01_Take.mono_l : ∀ k, (∀ y0 y1 y2 y3, LeO (duetref01_Take.l0 k y0 y1 y2 y3) (duetref01_Take.l0 (k + 1) y0 y1 y2 y3))
  | 0 => fun _ _ _ _ r h => by simp [duetref01_Take.l0] at h
  | k + 1 => by
    have ih0 := duetref01_Take.mono_l k
    · intro y0 y1 y2 y3
      unfold duetref01_Take.l0
      repeat' first
      | (with_reducible exact ih0 _ _ _ _)
      | (with_reducible exact duetref01_Num.mono _ _)
      | (with_reducible exact LeO.refl _)
      | (with_reducible exact LeO.none _)
      | (with_reducible refine LeO.ite ?_ ?_)
      | (with_reducible refine LeO.bind ?_ (fun _ => ?_))
      | exact ih0 _ _ _ _
      | exact duetref01_Num.mono _ _
      | exact LeO.none _
      | refine LeO.ite ?_ ?_
      | refine LeO.bind ?_ (fun _ => ?_)
theorem duetref01_Take.mono : ∀ a0 k, LeO (duetref01_Take.f k a0) (duetref01_Take.f (k + 1) a0) := by
  intro a0 k
  have ih0 := duetref01_Take.mono_l k
  unfold duetref01_Take.f
  repeat' first
      | (with_reducible exact ih0 _ _ _ _)
      | (with_reducible exact duetref01_Num.mono _ _)
      | (with_reducible exact LeO.refl _)
      | (with_reducible exact LeO.none _)
      | (with_reducible refine LeO.ite ?_ ?_)
      | (with_reducible refine LeO.bind ?_ (fun _ => ?_))
      | exact ih0 _ _ _ _
      | exact duetref01_Num.mono _ _
      | exact LeO.none _
      | refine LeO.ite ?_ ?_
      | refine LeO.bind ?_ (fun _ => ?_)
set_option maxHeartbeats 8000000 in
set_option maxRecDepth 100000 in
theorem duetref01_Take.calls (k : Nat) (a0 : ByteArray) (r1 : Int) (r2 : ByteArray) (r3 : Int) (w : World) (h : duetref01_Take.f k a0 = some (r1, r2, r3)) :
    Calls Try.prog 42 #[.string a0] w fun e w' => e = .returned (.tuple #[.int .i64 r1, .string r2, .int .i64 r3]) ∧ Below w.heap.size w w' := by
  have HB := Aside0.mk (Below.refl w.heap.size w)
  have H : (if a0.toList = ([] : List UInt8) then (some (0, (⟨#[]⟩ : ByteArray), 3)) else (if 0 < (a0.size : Int) then (if (wrap64 (bt a0 0)) < 248 then (if 1 ≤ (a0.size : Int) then (some (wrap64 (bt a0 0), a0.extract 1 a0.size, 0)) else (none)) else (if (wrap64 ((wrap64 (bt a0 0)) - 247)) > 4 then (some (0, (⟨#[]⟩ : ByteArray), 2)) else (if (a0.size : Int) < (wrap64 (1 + (wrap64 ((wrap64 (bt a0 0)) - 247)))) then (some (0, (⟨#[]⟩ : ByteArray), 3)) else (duetref01_Take.l0 k a0 (wrap64 ((wrap64 (bt a0 0)) - 247)) 0 1)))) else (none))) = some (r1, r2, r3) := h
  clear h
  by_cases c2 : a0.toList = ([] : List UInt8)
  · rw [if_pos c2] at H
    have c2b0 : (a0.toList == ([] : List UInt8)) = true := beq_iff_eq.mpr c2
    have c2b1 : (a0.toList != ([] : List UInt8)) = false := bne_eq_false_iff_eq.mpr c2
    clear c2
    simp only [Option.some.injEq, Prod.mk.injEq] at H
    obtain ⟨rfl, rfl, rfl⟩ := H
    go_enter Try.func42, Try.ntmps42
    go_wp2
    repeat (go_quiet (fail); try go_wp2)
    go_ret3
    exact ⟨by first | rfl | (simp [errW_none, errW_some] <;> rfl) | (simp [*, errW_none, errW_some] <;> rfl), by repeat (first | (with_reducible first | exact HB.out | apply below_alloc | apply pw_below_drewN | apply below_drew1) | exact HB.out)⟩
  · rw [if_neg c2] at H
    have c2b0 : (a0.toList == ([] : List UInt8)) = false := beq_eq_false_iff_ne.mpr c2
    have c2b1 : (a0.toList != ([] : List UInt8)) = true := bne_iff_ne.mpr c2
    by_cases c3 : 0 < (a0.size : Int)
    · rw [if_pos c3] at H
      have c3b0 : decide (0 < (a0.size : Int)) = true := decide_eq_true c3
      have c3b1 : decide (0 < a0.size) = true := decide_eq_true (by omega)
      clear c3
      by_cases c5 : (wrap64 (bt a0 0)) < 248
      · rw [if_pos c5] at H
        have c5b0 : decide ((wrap64 (bt a0 0)) < 248) = true := decide_eq_true c5
        clear c5
        by_cases c6 : 1 ≤ (a0.size : Int)
        · rw [if_pos c6] at H
          have c6b0 := eq_true c6
          have c6b1 : decide (1 ≤ (a0.size : Int)) = true := decide_eq_true c6
          clear c6
          simp only [Option.some.injEq, Prod.mk.injEq] at H
          obtain ⟨rfl, rfl, rfl⟩ := H
          have p4 : 0 ≤ (0 : Int) := (by omega)
          have q4 : 0 < a0.size := (by have : (0 : Int) < (a0.size : Int) := of_decide_eq_true (by first | (with_reducible assumption) | assumption); omega)
          have hx4 : ∀ h : 0 < a0.size, ((a0[0]'h).toNat : Int) = bt a0 0 := bt_at a0 0
          clear p4
          have qi4 : (0 < (a0.size : Int)) = True := eq_true (of_decide_eq_true (by first | (with_reducible assumption) | assumption))
          replace q4 := eq_true q4
          go_enter Try.func42, Try.ntmps42
          go_wp2
          repeat (go_quiet (fail); try go_wp2)
          go_ret3
          exact ⟨by first | rfl | (simp [errW_none, errW_some] <;> rfl) | (simp [*, errW_none, errW_some] <;> rfl), by repeat (first | (with_reducible first | exact HB.out | apply below_alloc | apply pw_below_drewN | apply below_drew1) | exact HB.out)⟩
        · rw [if_neg c6] at H
          exact absurd H (by simp)
      · rw [if_neg c5] at H
        have c5b0 : decide ((wrap64 (bt a0 0)) < 248) = false := decide_eq_false c5
        clear c5
        by_cases c7 : (wrap64 ((wrap64 (bt a0 0)) - 247)) > 4
        · rw [if_pos c7] at H
          have c7b0 : decide (4 < (wrap64 ((wrap64 (bt a0 0)) - 247))) = true := decide_eq_true c7
          clear c7
          simp only [Option.some.injEq, Prod.mk.injEq] at H
          obtain ⟨rfl, rfl, rfl⟩ := H
          have p4 : 0 ≤ (0 : Int) := (by omega)
          have q4 : 0 < a0.size := (by have : (0 : Int) < (a0.size : Int) := of_decide_eq_true (by first | (with_reducible assumption) | assumption); omega)
          have hx4 : ∀ h : 0 < a0.size, ((a0[0]'h).toNat : Int) = bt a0 0 := bt_at a0 0
          clear p4
          have qi4 : (0 < (a0.size : Int)) = True := eq_true (of_decide_eq_true (by first | (with_reducible assumption) | assumption))
          replace q4 := eq_true q4
          go_enter Try.func42, Try.ntmps42
          go_wp2
          repeat (go_quiet (fail); try go_wp2)
          go_ret3
          exact ⟨by first | rfl | (simp [errW_none, errW_some] <;> rfl) | (simp [*, errW_none, errW_some] <;> rfl), by repeat (first | (with_reducible first | exact HB.out | apply below_alloc | apply pw_below_drewN | apply below_drew1) | exact HB.out)⟩
        · rw [if_neg c7] at H
          have c7b0 : decide (4 < (wrap64 ((wrap64 (bt a0 0)) - 247))) = false := decide_eq_false c7
          clear c7
          by_cases c8 : (a0.size : Int) < (wrap64 (1 + (wrap64 ((wrap64 (bt a0 0)) - 247))))
          · rw [if_pos c8] at H
            have c8b0 : decide ((a0.size : Int) < (wrap64 (1 + (wrap64 ((wrap64 (bt a0 0)) - 247))))) = true := decide_eq_true c8
            clear c8
            simp only [Option.some.injEq, Prod.mk.injEq] at H
            obtain ⟨rfl, rfl, rfl⟩ := H
            have p4 : 0 ≤ (0 : Int) := (by omega)
            have q4 : 0 < a0.size := (by have : (0 : Int) < (a0.size : Int) := of_decide_eq_true (by first | (with_reducible assumption) | assumption); omega)
            have hx4 : ∀ h : 0 < a0.size, ((a0[0]'h).toNat : Int) = bt a0 0 := bt_at a0 0
            clear p4
            have qi4 : (0 < (a0.size : Int)) = True := eq_true (of_decide_eq_true (by first | (with_reducible assumption) | assumption))
            replace q4 := eq_true q4
            go_enter Try.func42, Try.ntmps42
            go_wp2
            repeat (go_quiet (fail); try go_wp2)
            go_ret3
            exact ⟨by first | rfl | (simp [errW_none, errW_some] <;> rfl) | (simp [*, errW_none, errW_some] <;> rfl), by repeat (first | (with_reducible first | exact HB.out | apply below_alloc | apply pw_below_drewN | apply below_drew1) | exact HB.out)⟩
          · rw [if_neg c8] at H
            have c8b0 : decide ((a0.size : Int) < (wrap64 (1 + (wrap64 ((wrap64 (bt a0 0)) - 247))))) = false := decide_eq_false c8
            clear c8
            have H' := Aside0.mk H
            clear H
            have p4 : 0 ≤ (0 : Int) := (by omega)
            have q4 : 0 < a0.size := (by have : (0 : Int) < (a0.size : Int) := of_decide_eq_true (by first | (with_reducible assumption) | assumption); omega)
            have hx4 : ∀ h : 0 < a0.size, ((a0[0]'h).toNat : Int) = bt a0 0 := bt_at a0 0
            clear p4
            have qi4 : (0 < (a0.size : Int)) = True := eq_true (of_decide_eq_true (by first | (with_reducible assumption) | assumption))
            replace q4 := eq_true q4
            go_enter Try.func42, Try.ntmps42
            go_wp2
            repeat (go_quiet (fail); try go_wp2)
            go_loopg [7, 8] k (fun kq v7 v8 w' => ∃ (x7_1 : Int) (x8_1 : Int), v7 = .int .i64 x7_1 ∧ v8 = .int .i64 x8_1 ∧ Aside0 (duetref01_Take.l0 kq a0 (wrap64 ((wrap64 (bt a0 0)) - 247)) x7_1 x8_1 = some (r1, r2, r3)) ∧ Aside0 (kq ≤ k) ∧ Aside0 (Below w.heap.size w w'))
            case atStart => exact ⟨(0), (1), (by first | rfl | (simp; done) | (simp [*]; done)), (by first | rfl | (simp; done) | (simp [*]; done)), H', ⟨Nat.le_refl _⟩, ⟨by repeat (first | (with_reducible first | exact HB.out | apply below_alloc | apply pw_below_drewN | apply below_drew1) | exact HB.out)⟩⟩
            case round =>
              clear H'
              try clear c2
              try clear c2b0
              try clear c2b1
              try clear p2
              try clear c3
              try clear c3b0
              try clear c3b1
              try clear c4
              try clear p4
              try clear q4
              try clear hx4
              try clear qi4
              try clear c5
              try clear c5b0
              try clear c6
              try clear c6b0
              try clear c6b1
              try clear p6
              try clear c7
              try clear c7b0
              try clear c8
              try clear c8b0
              try clear p4
              try clear q4
              obtain ⟨x7_1, x8_1, rfl, rfl, HA, HK1, HB⟩ := hrel
              cases gk with
              | zero => exact absurd HA.out (by simp [duetref01_Take.l0])
              | succ k1 =>
                have H := HA.out
                clear HA
                simp only [duetref01_Take.l0] at H
                by_cases c9 : x8_1 ≤ (wrap64 ((wrap64 (bt a0 0)) - 247))
                · rw [if_pos c9] at H
                  have c9b0 : decide (x8_1 ≤ (wrap64 ((wrap64 (bt a0 0)) - 247))) = true := decide_eq_true c9
                  clear c9
                  by_cases c10 : 0 ≤ x8_1
                  · rw [if_pos c10] at H
                    have c10b0 : decide (0 ≤ x8_1) = true := decide_eq_true c10
                    clear c10
                    by_cases c11 : x8_1 < (a0.size : Int)
                    · rw [if_pos c11] at H
                      have c11b0 : decide (x8_1 < (a0.size : Int)) = true := decide_eq_true c11
                      clear c11
                      have H' := Aside0.mk H
                      clear H
                      have p12 : 0 ≤ (x8_1 : Int) := of_decide_eq_true (by first | (with_reducible assumption) | assumption)
                      have q12 : x8_1 < (a0.size : Int) := of_decide_eq_true (by first | (with_reducible assumption) | assumption)
                      have hx12 := bt_at a0 x8_1
                      replace p12 := eq_true p12
                      replace q12 := eq_true q12
                      go_wp2
                      repeat (go_quiet (fail); try go_wp2)
                      go_roundg k1
                      case measure => have := HK1.out; omega
                      case rel => exact ⟨(wrap64 ((wrap64 (256 * x7_1)) + (wrap64 (bt a0 x8_1)))), (wrap64 (x8_1 + 1)), (by first | rfl | (simp; done) | (simp [*]; done)), (by first | rfl | (simp; done) | (simp [*]; done)), H', ⟨by have := HK1.out; omega⟩, ⟨by repeat (first | (with_reducible first | exact HB.out | apply below_alloc | apply pw_below_drewN | apply below_drew1) | exact HB.out)⟩⟩
                    · rw [if_neg c11] at H
                      exact absurd H (by simp)
                  · rw [if_neg c10] at H
                    exact absurd H (by simp)
                · rw [if_neg c9] at H
                  have c9b0 : decide (x8_1 ≤ (wrap64 ((wrap64 (bt a0 0)) - 247))) = false := decide_eq_false c9
                  clear c9
                  replace H := Option.bind_eq_some_iff.mp H
                  obtain ⟨⟨t220, t221⟩, A130, H⟩ := H
                  replace H : (if 0 ≤ (wrap64 (1 + (wrap64 ((wrap64 (bt a0 0)) - 247)))) then (if (wrap64 (1 + (wrap64 ((wrap64 (bt a0 0)) - 247)))) ≤ (a0.size : Int) then (if t220.toList = (a0.extract 0 ((wrap64 (1 + (wrap64 ((wrap64 (bt a0 0)) - 247)))) : Int).toNat).toList then (some (x7_1, a0.extract ((wrap64 (1 + (wrap64 ((wrap64 (bt a0 0)) - 247)))) : Int).toNat a0.size, 0)) else (some (0, (⟨#[]⟩ : ByteArray), 2))) else (none)) else (none)) = some (r1, r2, r3) := H
                  have A13 := Aside0.mk A130
                  clear A130
                  obtain ⟨ji14, hji14⟩ : ∃ j_ : Int, (wrap64 (1 + (wrap64 ((wrap64 (bt a0 0)) - 247)))) = j_ := ⟨_, rfl⟩
                  replace H : (if 0 ≤ (ji14) then (if (ji14) ≤ (a0.size : Int) then (if t220.toList = (a0.extract 0 ((ji14) : Int).toNat).toList then (some (x7_1, a0.extract ((ji14) : Int).toNat a0.size, 0)) else (some (0, (⟨#[]⟩ : ByteArray), 2))) else (none)) else (none)) = some (r1, r2, r3) := by first | (rw [hji14] at H; exact H) | (simp only [hji14] at H ⊢; exact H)
                  (try rw [hji14] at c8b0)
                  (try rw [hji14] at A13)
                  have hji14w : (IntKind.i64.wrap (1 + (wrap64 ((wrap64 (bt a0 0)) - 247)))) = ji14 := (i64_w _).trans hji14
                  by_cases c15 : 0 ≤ (ji14)
                  · rw [if_pos c15] at H
                    have c15b0 := eq_true c15
                    have c15b1 : decide (0 ≤ (ji14)) = true := decide_eq_true c15
                    clear c15
                    by_cases c16 : (ji14) ≤ (a0.size : Int)
                    · rw [if_pos c16] at H
                      have c16b0 := eq_true c16
                      have c16b1 : decide ((ji14) ≤ (a0.size : Int)) = true := decide_eq_true c16
                      clear c16
                      by_cases c17 : t220.toList = (a0.extract 0 ((ji14) : Int).toNat).toList
                      · rw [if_pos c17] at H
                        have c17b0 : (t220.toList == (a0.extract 0 ((ji14) : Int).toNat).toList) = true := beq_iff_eq.mpr c17
                        have c17b1 : (t220.toList != (a0.extract 0 ((ji14) : Int).toNat).toList) = false := bne_eq_false_iff_eq.mpr c17
                        clear c17
                        have c18b0 := eq_true (of_decide_eq_true (by first | (with_reducible assumption) | assumption) : 0 ≤ (ji14))
                        have c19b0 := eq_true (of_decide_eq_true (by first | (with_reducible assumption) | assumption) : (ji14) ≤ (a0.size : Int))
                        simp only [Option.some.injEq, Prod.mk.injEq] at H
                        obtain ⟨rfl, rfl, rfl⟩ := H
                        go_wp2_with (first | (go_at_call 36; (with_reducible refine (duetref01_Num.calls k1 x7_1 t220 t221 _ A13.out).mono ?_); rintro e w20 ⟨rfl, hb⟩; have n0_ := Aside0.mk (below_step (by repeat (first | (with_reducible first | exact HB.out | apply below_alloc | apply pw_below_drewN | apply below_drew1) | exact HB.out)) hb); clear HB; have HB := n0_; clear n0_; (try clear hb); (try clear hb2); (try clear hk); (try clear hi)))
                        repeat (go_quiet (first | (go_at_call 36; (with_reducible refine (duetref01_Num.calls k1 x7_1 t220 t221 _ A13.out).mono ?_); rintro e w20 ⟨rfl, hb⟩; have n0_ := Aside0.mk (below_step (by repeat (first | (with_reducible first | exact HB.out | apply below_alloc | apply pw_below_drewN | apply below_drew1) | exact HB.out)) hb); clear HB; have HB := n0_; clear n0_; (try clear hb); (try clear hb2); (try clear hk); (try clear hi))); try go_wp2_with (first | (go_at_call 36; (with_reducible refine (duetref01_Num.calls k1 x7_1 t220 t221 _ A13.out).mono ?_); rintro e w20 ⟨rfl, hb⟩; have n0_ := Aside0.mk (below_step (by repeat (first | (with_reducible first | exact HB.out | apply below_alloc | apply pw_below_drewN | apply below_drew1) | exact HB.out)) hb); clear HB; have HB := n0_; clear n0_; (try clear hb); (try clear hb2); (try clear hk); (try clear hi))))
                        go_ret3
                        exact ⟨by first | rfl | (simp [errW_none, errW_some] <;> rfl) | (simp only [← hji14]; first | rfl | (simp [errW_none, errW_some] <;> rfl)) | (simp [*, errW_none, errW_some] <;> rfl), by repeat (first | (with_reducible first | exact HB.out | apply below_alloc | apply pw_below_drewN | apply below_drew1) | exact HB.out)⟩
                      · rw [if_neg c17] at H
                        have c17b0 : (t220.toList == (a0.extract 0 ((ji14) : Int).toNat).toList) = false := beq_eq_false_iff_ne.mpr c17
                        have c17b1 : (t220.toList != (a0.extract 0 ((ji14) : Int).toNat).toList) = true := bne_iff_ne.mpr c17
                        simp only [Option.some.injEq, Prod.mk.injEq] at H
                        obtain ⟨rfl, rfl, rfl⟩ := H
                        go_wp2_with (first | (go_at_call 36; (with_reducible refine (duetref01_Num.calls k1 x7_1 t220 t221 _ A13.out).mono ?_); rintro e w21 ⟨rfl, hb⟩; have n0_ := Aside0.mk (below_step (by repeat (first | (with_reducible first | exact HB.out | apply below_alloc | apply pw_below_drewN | apply below_drew1) | exact HB.out)) hb); clear HB; have HB := n0_; clear n0_; (try clear hb); (try clear hb2); (try clear hk); (try clear hi)))
                        repeat (go_quiet (first | (go_at_call 36; (with_reducible refine (duetref01_Num.calls k1 x7_1 t220 t221 _ A13.out).mono ?_); rintro e w21 ⟨rfl, hb⟩; have n0_ := Aside0.mk (below_step (by repeat (first | (with_reducible first | exact HB.out | apply below_alloc | apply pw_below_drewN | apply below_drew1) | exact HB.out)) hb); clear HB; have HB := n0_; clear n0_; (try clear hb); (try clear hb2); (try clear hk); (try clear hi))); try go_wp2_with (first | (go_at_call 36; (with_reducible refine (duetref01_Num.calls k1 x7_1 t220 t221 _ A13.out).mono ?_); rintro e w21 ⟨rfl, hb⟩; have n0_ := Aside0.mk (below_step (by repeat (first | (with_reducible first | exact HB.out | apply below_alloc | apply pw_below_drewN | apply below_drew1) | exact HB.out)) hb); clear HB; have HB := n0_; clear n0_; (try clear hb); (try clear hb2); (try clear hk); (try clear hi))))
                        go_ret3
                        exact ⟨by first | rfl | (simp [errW_none, errW_some] <;> rfl) | (simp only [← hji14]; first | rfl | (simp [errW_none, errW_some] <;> rfl)) | (simp [*, errW_none, errW_some] <;> rfl), by repeat (first | (with_reducible first | exact HB.out | apply below_alloc | apply pw_below_drewN | apply below_drew1) | exact HB.out)⟩
                    · rw [if_neg c16] at H
                      exact absurd H (by simp)
                  · rw [if_neg c15] at H
                    exact absurd H (by simp)
    · rw [if_neg c3] at H
      exact absurd H (by simp)

/-! ### duetref01_Cut: function 44 -/
def duetref01_Cut.f (k : Nat) (a0 : ByteArray) : Option (ByteArray × ByteArray × Int) := (duetref01_Take.f k a0).bind fun bt222 => (if bt222.2.2 = 0 then (if bt222.1 > 65535 then (some ((⟨#[]⟩ : ByteArray), (⟨#[]⟩ : ByteArray), 2)) else (if bt222.1 > (bt222.2.1.size : Int) then (some ((⟨#[]⟩ : ByteArray), (⟨#[]⟩ : ByteArray), 3)) else (if 0 ≤ bt222.1 then (if bt222.1 ≤ (bt222.2.1.size : Int) then (some (bt222.2.1.extract 0 (bt222.1 : Int).toNat, bt222.2.1.extract (bt222.1 : Int).toNat bt222.2.1.size, 0)) else (none)) else (none)))) else (some ((⟨#[]⟩ : ByteArray), (⟨#[]⟩ : ByteArray), bt222.2.2)))
theorem duetref01_Cut.mono : ∀ a0 k, LeO (duetref01_Cut.f k a0) (duetref01_Cut.f (k + 1) a0) := by
  intro a0 k
  unfold duetref01_Cut.f
  repeat' first
      | (with_reducible exact duetref01_Take.mono _ _)
      | (with_reducible exact LeO.refl _)
      | (with_reducible exact LeO.none _)
      | (with_reducible refine LeO.ite ?_ ?_)
      | (with_reducible refine LeO.bind ?_ (fun _ => ?_))
      | exact duetref01_Take.mono _ _
      | exact LeO.none _
      | refine LeO.ite ?_ ?_
      | refine LeO.bind ?_ (fun _ => ?_)
set_option maxHeartbeats 8000000 in
set_option maxRecDepth 100000 in
theorem duetref01_Cut.calls (k : Nat) (a0 : ByteArray) (r1 : ByteArray) (r2 : ByteArray) (r3 : Int) (w : World) (h : duetref01_Cut.f k a0 = some (r1, r2, r3)) :
    Calls Try.prog 44 #[.string a0] w fun e w' => e = .returned (.tuple #[.string r1, .string r2, .int .i64 r3]) ∧ Below w.heap.size w w' := by
  have HB := Aside0.mk (Below.refl w.heap.size w)
  have H : ((duetref01_Take.f k a0).bind fun bt222 => (if bt222.2.2 = 0 then (if bt222.1 > 65535 then (some ((⟨#[]⟩ : ByteArray), (⟨#[]⟩ : ByteArray), 2)) else (if bt222.1 > (bt222.2.1.size : Int) then (some ((⟨#[]⟩ : ByteArray), (⟨#[]⟩ : ByteArray), 3)) else (if 0 ≤ bt222.1 then (if bt222.1 ≤ (bt222.2.1.size : Int) then (some (bt222.2.1.extract 0 (bt222.1 : Int).toNat, bt222.2.1.extract (bt222.1 : Int).toNat bt222.2.1.size, 0)) else (none)) else (none)))) else (some ((⟨#[]⟩ : ByteArray), (⟨#[]⟩ : ByteArray), bt222.2.2)))) = some (r1, r2, r3) := h
  clear h
  replace H := Option.bind_eq_some_iff.mp H
  obtain ⟨⟨t222, t223, t224⟩, A20, H⟩ := H
  replace H : (if t224 = 0 then (if t222 > 65535 then (some ((⟨#[]⟩ : ByteArray), (⟨#[]⟩ : ByteArray), 2)) else (if t222 > (t223.size : Int) then (some ((⟨#[]⟩ : ByteArray), (⟨#[]⟩ : ByteArray), 3)) else (if 0 ≤ t222 then (if t222 ≤ (t223.size : Int) then (some (t223.extract 0 (t222 : Int).toNat, t223.extract (t222 : Int).toNat t223.size, 0)) else (none)) else (none)))) else (some ((⟨#[]⟩ : ByteArray), (⟨#[]⟩ : ByteArray), t224))) = some (r1, r2, r3) := H
  have A2 := Aside0.mk A20
  clear A20
  by_cases c3 : t224 = 0
  · rw [if_pos c3] at H
    have c3b0 : (t224 == 0) = true := beq_iff_eq.mpr c3
    have c3b1 : (t224 != 0) = false := bne_eq_false_iff_eq.mpr c3
    clear c3
    by_cases c4 : t222 > 65535
    · rw [if_pos c4] at H
      have c4b0 : decide (65535 < t222) = true := decide_eq_true c4
      clear c4
      simp only [Option.some.injEq, Prod.mk.injEq] at H
      obtain ⟨rfl, rfl, rfl⟩ := H
      go_enter Try.func44, Try.ntmps44
      go_wp2_with (first | (go_at_call 42; (with_reducible refine (duetref01_Take.calls k a0 t222 t223 t224 _ A2.out).mono ?_); rintro e w5 ⟨rfl, hb⟩; have n0_ := Aside0.mk (below_step (by repeat (first | (with_reducible first | exact HB.out | apply below_alloc | apply pw_below_drewN | apply below_drew1) | exact HB.out)) hb); clear HB; have HB := n0_; clear n0_; (try clear hb); (try clear hb2); (try clear hk); (try clear hi)))
      repeat (go_quiet (first | (go_at_call 42; (with_reducible refine (duetref01_Take.calls k a0 t222 t223 t224 _ A2.out).mono ?_); rintro e w5 ⟨rfl, hb⟩; have n0_ := Aside0.mk (below_step (by repeat (first | (with_reducible first | exact HB.out | apply below_alloc | apply pw_below_drewN | apply below_drew1) | exact HB.out)) hb); clear HB; have HB := n0_; clear n0_; (try clear hb); (try clear hb2); (try clear hk); (try clear hi))); try go_wp2_with (first | (go_at_call 42; (with_reducible refine (duetref01_Take.calls k a0 t222 t223 t224 _ A2.out).mono ?_); rintro e w5 ⟨rfl, hb⟩; have n0_ := Aside0.mk (below_step (by repeat (first | (with_reducible first | exact HB.out | apply below_alloc | apply pw_below_drewN | apply below_drew1) | exact HB.out)) hb); clear HB; have HB := n0_; clear n0_; (try clear hb); (try clear hb2); (try clear hk); (try clear hi))))
      go_ret3
      exact ⟨by first | rfl | (simp [errW_none, errW_some] <;> rfl) | (simp [*, errW_none, errW_some] <;> rfl), by repeat (first | (with_reducible first | exact HB.out | apply below_alloc | apply pw_below_drewN | apply below_drew1) | exact HB.out)⟩
    · rw [if_neg c4] at H
      have c4b0 : decide (65535 < t222) = false := decide_eq_false c4
      clear c4
      by_cases c6 : t222 > (t223.size : Int)
      · rw [if_pos c6] at H
        have c6b0 : decide ((t223.size : Int) < t222) = true := decide_eq_true c6
        clear c6
        simp only [Option.some.injEq, Prod.mk.injEq] at H
        obtain ⟨rfl, rfl, rfl⟩ := H
        go_enter Try.func44, Try.ntmps44
        go_wp2_with (first | (go_at_call 42; (with_reducible refine (duetref01_Take.calls k a0 t222 t223 t224 _ A2.out).mono ?_); rintro e w7 ⟨rfl, hb⟩; have n0_ := Aside0.mk (below_step (by repeat (first | (with_reducible first | exact HB.out | apply below_alloc | apply pw_below_drewN | apply below_drew1) | exact HB.out)) hb); clear HB; have HB := n0_; clear n0_; (try clear hb); (try clear hb2); (try clear hk); (try clear hi)))
        repeat (go_quiet (first | (go_at_call 42; (with_reducible refine (duetref01_Take.calls k a0 t222 t223 t224 _ A2.out).mono ?_); rintro e w7 ⟨rfl, hb⟩; have n0_ := Aside0.mk (below_step (by repeat (first | (with_reducible first | exact HB.out | apply below_alloc | apply pw_below_drewN | apply below_drew1) | exact HB.out)) hb); clear HB; have HB := n0_; clear n0_; (try clear hb); (try clear hb2); (try clear hk); (try clear hi))); try go_wp2_with (first | (go_at_call 42; (with_reducible refine (duetref01_Take.calls k a0 t222 t223 t224 _ A2.out).mono ?_); rintro e w7 ⟨rfl, hb⟩; have n0_ := Aside0.mk (below_step (by repeat (first | (with_reducible first | exact HB.out | apply below_alloc | apply pw_below_drewN | apply below_drew1) | exact HB.out)) hb); clear HB; have HB := n0_; clear n0_; (try clear hb); (try clear hb2); (try clear hk); (try clear hi))))
        go_ret3
        exact ⟨by first | rfl | (simp [errW_none, errW_some] <;> rfl) | (simp [*, errW_none, errW_some] <;> rfl), by repeat (first | (with_reducible first | exact HB.out | apply below_alloc | apply pw_below_drewN | apply below_drew1) | exact HB.out)⟩
      · rw [if_neg c6] at H
        have c6b0 : decide ((t223.size : Int) < t222) = false := decide_eq_false c6
        clear c6
        by_cases c8 : 0 ≤ t222
        · rw [if_pos c8] at H
          have c8b0 := eq_true c8
          have c8b1 : decide (0 ≤ t222) = true := decide_eq_true c8
          clear c8
          by_cases c9 : t222 ≤ (t223.size : Int)
          · rw [if_pos c9] at H
            have c9b0 := eq_true c9
            have c9b1 : decide (t222 ≤ (t223.size : Int)) = true := decide_eq_true c9
            clear c9
            have c10b0 := eq_true (of_decide_eq_true (by first | (with_reducible assumption) | assumption) : 0 ≤ t222)
            have c11b0 := eq_true (of_decide_eq_true (by first | (with_reducible assumption) | assumption) : t222 ≤ (t223.size : Int))
            simp only [Option.some.injEq, Prod.mk.injEq] at H
            obtain ⟨rfl, rfl, rfl⟩ := H
            go_enter Try.func44, Try.ntmps44
            go_wp2_with (first | (go_at_call 42; (with_reducible refine (duetref01_Take.calls k a0 t222 t223 t224 _ A2.out).mono ?_); rintro e w12 ⟨rfl, hb⟩; have n0_ := Aside0.mk (below_step (by repeat (first | (with_reducible first | exact HB.out | apply below_alloc | apply pw_below_drewN | apply below_drew1) | exact HB.out)) hb); clear HB; have HB := n0_; clear n0_; (try clear hb); (try clear hb2); (try clear hk); (try clear hi)))
            repeat (go_quiet (first | (go_at_call 42; (with_reducible refine (duetref01_Take.calls k a0 t222 t223 t224 _ A2.out).mono ?_); rintro e w12 ⟨rfl, hb⟩; have n0_ := Aside0.mk (below_step (by repeat (first | (with_reducible first | exact HB.out | apply below_alloc | apply pw_below_drewN | apply below_drew1) | exact HB.out)) hb); clear HB; have HB := n0_; clear n0_; (try clear hb); (try clear hb2); (try clear hk); (try clear hi))); try go_wp2_with (first | (go_at_call 42; (with_reducible refine (duetref01_Take.calls k a0 t222 t223 t224 _ A2.out).mono ?_); rintro e w12 ⟨rfl, hb⟩; have n0_ := Aside0.mk (below_step (by repeat (first | (with_reducible first | exact HB.out | apply below_alloc | apply pw_below_drewN | apply below_drew1) | exact HB.out)) hb); clear HB; have HB := n0_; clear n0_; (try clear hb); (try clear hb2); (try clear hk); (try clear hi))))
            go_ret3
            exact ⟨by first | rfl | (simp [errW_none, errW_some] <;> rfl) | (simp [*, errW_none, errW_some] <;> rfl), by repeat (first | (with_reducible first | exact HB.out | apply below_alloc | apply pw_below_drewN | apply below_drew1) | exact HB.out)⟩
          · rw [if_neg c9] at H
            exact absurd H (by simp)
        · rw [if_neg c8] at H
          exact absurd H (by simp)
  · rw [if_neg c3] at H
    have c3b0 : (t224 == 0) = false := beq_eq_false_iff_ne.mpr c3
    have c3b1 : (t224 != 0) = true := bne_iff_ne.mpr c3
    simp only [Option.some.injEq, Prod.mk.injEq] at H
    obtain ⟨rfl, rfl, rfl⟩ := H
    go_enter Try.func44, Try.ntmps44
    go_wp2_with (first | (go_at_call 42; (with_reducible refine (duetref01_Take.calls k a0 t222 t223 t224 _ A2.out).mono ?_); rintro e w13 ⟨rfl, hb⟩; have n0_ := Aside0.mk (below_step (by repeat (first | (with_reducible first | exact HB.out | apply below_alloc | apply pw_below_drewN | apply below_drew1) | exact HB.out)) hb); clear HB; have HB := n0_; clear n0_; (try clear hb); (try clear hb2); (try clear hk); (try clear hi)))
    repeat (go_quiet (first | (go_at_call 42; (with_reducible refine (duetref01_Take.calls k a0 t222 t223 t224 _ A2.out).mono ?_); rintro e w13 ⟨rfl, hb⟩; have n0_ := Aside0.mk (below_step (by repeat (first | (with_reducible first | exact HB.out | apply below_alloc | apply pw_below_drewN | apply below_drew1) | exact HB.out)) hb); clear HB; have HB := n0_; clear n0_; (try clear hb); (try clear hb2); (try clear hk); (try clear hi))); try go_wp2_with (first | (go_at_call 42; (with_reducible refine (duetref01_Take.calls k a0 t222 t223 t224 _ A2.out).mono ?_); rintro e w13 ⟨rfl, hb⟩; have n0_ := Aside0.mk (below_step (by repeat (first | (with_reducible first | exact HB.out | apply below_alloc | apply pw_below_drewN | apply below_drew1) | exact HB.out)) hb); clear HB; have HB := n0_; clear n0_; (try clear hb); (try clear hb2); (try clear hk); (try clear hi))))
    go_ret3
    exact ⟨by first | rfl | (simp [errW_none, errW_some] <;> rfl) | (simp [*, errW_none, errW_some] <;> rfl), by repeat (first | (with_reducible first | exact HB.out | apply below_alloc | apply pw_below_drewN | apply below_drew1) | exact HB.out)⟩

/-! ### duetref01_Each: function 46 -/
def duetref01_Each.l0 : Nat → Int → ByteArray → List Int → Int → Option (List Int × ByteArray × Int)
  | 0, _, _, _, _ => none
  | k + 1, x5, x6, x8, x9 => if x9 < x5 then ((duetref01_Take.f k x6).bind fun bt228 => (if bt228.2.2 = 0 then (if x8.length < 17592186044416 then (duetref01_Each.l0 k x5 bt228.2.1 (x8 ++ [bt228.1]) (wrap64 (x9 + 1))) else (none)) else (some (([] : List Int), (⟨#[]⟩ : ByteArray), bt228.2.2)))) else (some (x8, x6, 0))
def duetref01_Each.f (k : Nat) (a0 : ByteArray) : Option (List Int × ByteArray × Int) := (duetref01_Take.f k a0).bind fun bt225 => (if bt225.2.2 = 0 then (if bt225.1 > 1000 then (some (([] : List Int), (⟨#[]⟩ : ByteArray), 2)) else (duetref01_Each.l0 k bt225.1 bt225.2.1 ([] : List Int) 0)) else (some (([] : List Int), (⟨#[]⟩ : ByteArray), bt225.2.2)))
theorem duetref01_Each.mono_l : ∀ k, (∀ y0 y1 y2 y3, LeO (duetref01_Each.l0 k y0 y1 y2 y3) (duetref01_Each.l0 (k + 1) y0 y1 y2 y3))
  | 0 => fun _ _ _ _ r h => by simp [duetref01_Each.l0] at h
  | k + 1 => by
    have ih0 := duetref01_Each.mono_l k
    · intro y0 y1 y2 y3
      unfold duetref01_Each.l0
      repeat' first
      | (with_reducible exact ih0 _ _ _ _)
      | (with_reducible exact duetref01_Take.mono _ _)
      | (with_reducible exact LeO.refl _)
      | (with_reducible exact LeO.none _)
      | (with_reducible refine LeO.ite ?_ ?_)
      | (with_reducible refine LeO.bind ?_ (fun _ => ?_))
      | exact ih0 _ _ _ _
      | exact duetref01_Take.mono _ _
      | exact LeO.none _
      | refine LeO.ite ?_ ?_
      | refine LeO.bind ?_ (fun _ => ?_)
theorem duetref01_Each.mono : ∀ a0 k, LeO (duetref01_Each.f k a0) (duetref01_Each.f (k + 1) a0) := by
  intro a0 k
  have ih0 := duetref01_Each.mono_l k
  unfold duetref01_Each.f
  repeat' first
      | (with_reducible exact ih0 _ _ _ _)
      | (with_reducible exact duetref01_Take.mono _ _)
      | (with_reducible exact LeO.refl _)
      | (with_reducible exact LeO.none _)
      | (with_reducible refine LeO.ite ?_ ?_)
      | (with_reducible refine LeO.bind ?_ (fun _ => ?_))
      | exact ih0 _ _ _ _
      | exact duetref01_Take.mono _ _
      | exact LeO.none _
      | refine LeO.ite ?_ ?_
      | refine LeO.bind ?_ (fun _ => ?_)
set_option maxHeartbeats 8000000 in
set_option maxRecDepth 100000 in
theorem duetref01_Each.calls (k : Nat) (a0 : ByteArray) (r1 : List Int) (r2 : ByteArray) (r3 : Int) (w : World) (h : duetref01_Each.f k a0 = some (r1, r2, r3)) :
    Calls Try.prog 46 #[.string a0] w fun e w' => ∃ v0_ : Value, e = .returned (.tuple #[v0_, .string r2, .int .i64 r3]) ∧ Kd.R (Kd.int .i64) 3 w' w.heap.size (fun _ => True) v0_ r1 ∧ Below w.heap.size w w' := by
  have HB := Aside0.mk (Below.refl w.heap.size w)
  have H : ((duetref01_Take.f k a0).bind fun bt225 => (if bt225.2.2 = 0 then (if bt225.1 > 1000 then (some (([] : List Int), (⟨#[]⟩ : ByteArray), 2)) else (duetref01_Each.l0 k bt225.1 bt225.2.1 ([] : List Int) 0)) else (some (([] : List Int), (⟨#[]⟩ : ByteArray), bt225.2.2)))) = some (r1, r2, r3) := h
  clear h
  replace H := Option.bind_eq_some_iff.mp H
  obtain ⟨⟨t225, t226, t227⟩, A20, H⟩ := H
  replace H : (if t227 = 0 then (if t225 > 1000 then (some (([] : List Int), (⟨#[]⟩ : ByteArray), 2)) else (duetref01_Each.l0 k t225 t226 ([] : List Int) 0)) else (some (([] : List Int), (⟨#[]⟩ : ByteArray), t227))) = some (r1, r2, r3) := H
  have A2 := Aside0.mk A20
  clear A20
  by_cases c3 : t227 = 0
  · rw [if_pos c3] at H
    have c3b0 : (t227 == 0) = true := beq_iff_eq.mpr c3
    have c3b1 : (t227 != 0) = false := bne_eq_false_iff_eq.mpr c3
    clear c3
    by_cases c4 : t225 > 1000
    · rw [if_pos c4] at H
      have c4b0 : decide (1000 < t225) = true := decide_eq_true c4
      clear c4
      simp only [Option.some.injEq, Prod.mk.injEq] at H
      obtain ⟨rfl, rfl, rfl⟩ := H
      go_enter Try.func46, Try.ntmps46
      go_wp2_with (first | ((with_reducible refine gate_callee (f := 42) rfl ?_); refine goesL_ (some 15) rfl rfl Try.func42 (by kernel_rfl) rfl #[.string a0] rfl (by (try simp only [List.map_toArray, List.map_cons, List.map_nil]); first | done | rfl | (simp only [List.length_drop, List.length_take]; rfl)) ?_; (with_reducible refine (duetref01_Take.calls k a0 t225 t226 t227 _ A2.out).mono ?_); rintro e w5 ⟨rfl, hb⟩; refine ⟨_, rfl, ?_⟩; have n0_ := Aside0.mk (below_step (by repeat (first | (with_reducible first | exact HB.out | apply below_alloc | apply pw_below_drewN | apply below_drew1) | exact HB.out)) hb); clear HB; have HB := n0_; clear n0_; (try clear hb); (try clear hb2); (try clear hk); (try clear hi)))
      go_ret3
      exact ⟨_, by first | rfl | (simp [errW_none, errW_some] <;> rfl) | (simp [*, errW_none, errW_some] <;> rfl), by first | exact Kd.R_nil _ _ _ _ _ | exact Kd.N_nil _ _ _ _ _ | exact Kd.V_nil _ _ _ _ _ | exact Kd.Q_nil _ _ _ _ _ | exact Kd.S_nil _ _ _ _ _, by repeat (first | (with_reducible first | exact HB.out | apply below_alloc | apply pw_below_drewN | apply below_drew1) | exact HB.out)⟩
    · rw [if_neg c4] at H
      have c4b0 : decide (1000 < t225) = false := decide_eq_false c4
      clear c4
      have H' := Aside0.mk H
      clear H
      go_enter Try.func46, Try.ntmps46
      go_wp2_with (first | ((with_reducible refine gate_callee (f := 42) rfl ?_); refine goesL_ (some 15) rfl rfl Try.func42 (by kernel_rfl) rfl #[.string a0] rfl (by (try simp only [List.map_toArray, List.map_cons, List.map_nil]); first | done | rfl | (simp only [List.length_drop, List.length_take]; rfl)) ?_; (with_reducible refine (duetref01_Take.calls k a0 t225 t226 t227 _ A2.out).mono ?_); rintro e w6 ⟨rfl, hb⟩; refine ⟨_, rfl, ?_⟩; have n0_ := Aside0.mk (below_step (by repeat (first | (with_reducible first | exact HB.out | apply below_alloc | apply pw_below_drewN | apply below_drew1) | exact HB.out)) hb); clear HB; have HB := n0_; clear n0_; (try clear hb); (try clear hb2); (try clear hk); (try clear hi)))
      go_loopg [6, 8, 9] k (fun kq v6 v8 v9 w' => ∃ (x6_1 : ByteArray) (x8_1 : List Int) (x9_1 : Int), v6 = .string x6_1 ∧ v9 = .int .i64 x9_1 ∧ Aside0 (duetref01_Each.l0 kq t225 x6_1 x8_1 x9_1 = some (r1, r2, r3)) ∧ Aside0 (kq ≤ k) ∧ Aside0 (Kd.R (Kd.int .i64) 3 w' w.heap.size (fun _ => True) v8 x8_1) ∧ Aside0 (Below w.heap.size w w'))
      case atStart => exact ⟨(t226), (([] : List Int)), (0), (by first | rfl | (simp; done) | (simp [*]; done)), (by first | rfl | (simp; done) | (simp [*]; done)), H', ⟨Nat.le_refl _⟩, ⟨by first | exact Kd.R_nil _ _ _ _ _ | exact Kd.N_nil _ _ _ _ _ | exact Kd.V_nil _ _ _ _ _ | exact Kd.Q_nil _ _ _ _ _ | exact Kd.S_nil _ _ _ _ _⟩, ⟨by repeat (first | (with_reducible first | exact HB.out | apply below_alloc | apply pw_below_drewN | apply below_drew1) | exact HB.out)⟩⟩
      case round =>
        clear H'
        try clear p2
        try clear c3
        try clear c3b0
        try clear c3b1
        try clear c4
        try clear c4b0
        obtain ⟨x6_1, x8_1, x9_1, rfl, rfl, HA, HK1, HO_8, HB⟩ := hrel
        cases gk with
        | zero => exact absurd HA.out (by simp [duetref01_Each.l0])
        | succ k1 =>
          have H := HA.out
          clear HA
          simp only [duetref01_Each.l0] at H
          by_cases c7 : x9_1 < t225
          · rw [if_pos c7] at H
            have c7b0 : decide (x9_1 < t225) = true := decide_eq_true c7
            clear c7
            replace H := Option.bind_eq_some_iff.mp H
            obtain ⟨⟨t228, t229, t230⟩, A80, H⟩ := H
            replace H : (if t230 = 0 then (if x8_1.length < 17592186044416 then (duetref01_Each.l0 k1 t225 t229 (x8_1 ++ [t228]) (wrap64 (x9_1 + 1))) else (none)) else (some (([] : List Int), (⟨#[]⟩ : ByteArray), t230))) = some (r1, r2, r3) := H
            have A8 := Aside0.mk A80
            clear A80
            by_cases c9 : t230 = 0
            · rw [if_pos c9] at H
              have c9b0 : (t230 == 0) = true := beq_iff_eq.mpr c9
              have c9b1 : (t230 != 0) = false := bne_eq_false_iff_eq.mpr c9
              clear c9
              by_cases c10 : x8_1.length < 17592186044416
              · rw [if_pos c10] at H
                have LMc10 := Aside0.mk c10
                clear c10
                obtain ⟨y231, hy231⟩ : ∃ y_ : List Int, y_ = (x8_1 ++ [t228]) := ⟨_, rfl⟩
                replace H : (duetref01_Each.l0 k1 t225 t229 y231 (wrap64 (x9_1 + 1))) = some (r1, r2, r3) := by first | (rw [hy231]; with_reducible exact H) | (have H2_ := (Option.bind_some _ _).symm.trans H; rw [hy231]; with_reducible exact H2_) | (have H2_ := (Option.bind_some _ _).symm.trans H; with_reducible exact H2_) | with_reducible exact H | (rw [hy231]; exact H) | exact H
                have Ny231 := Aside0.mk hy231
                clear hy231
                have H' := Aside0.mk H
                clear H
                go_wp2_with (first | ((with_reducible refine gate_callee (f := 42) rfl ?_); refine goesL_ (some 31) rfl rfl Try.func42 (by kernel_rfl) rfl #[.string x6_1] rfl (by (try simp only [List.map_toArray, List.map_cons, List.map_nil]); first | done | rfl | (simp only [List.length_drop, List.length_take]; rfl)) ?_; (with_reducible refine (duetref01_Take.calls k1 x6_1 t228 t229 t230 _ A8.out).mono ?_); rintro e w11 ⟨rfl, hb⟩; refine ⟨_, rfl, ?_⟩; have n0_ := Aside0.mk (Kd.R_below (by (with_reducible repeat (first | apply Kd.R_alloc | apply Kd.R_drewN | apply Kd.R_drew)); exact HO_8.out) hb); have n1_ := Aside0.mk (below_step (by repeat (first | (with_reducible first | exact HB.out | apply below_alloc | apply pw_below_drewN | apply below_drew1) | exact HB.out)) hb); clear HO_8; clear HB; have HO_8 := n0_; have HB := n1_; clear n0_ n1_; (try clear hb); (try clear hb2); (try clear hk); (try clear hi)) | ((with_reducible refine gate_builtin (b := .append) (xs := #[.tmp 38, .tmp 40]) rfl ?_); at_builtin; refine Kd.R_append (Kd.int .i64) (w0 := w) w.heap.size rfl (.tmp 38) (.tmp 40) 22 3 (.int .i64 0) 8 rfl Try.underlying22 info3 rfl (by decide) (by omega) u8 x8_1 t228 [.int .i64 t228] (fun _ => True) (fun _ => False) rfl rfl ?aP (fun _ hk => hk.elim) ?aF ?aO ?aB ?aS ?aL ?_; (case aP => exact rfl); (case aB => exact (by repeat (first | (with_reducible first | exact HB.out | apply below_alloc | apply pw_below_drewN | apply below_drew1) | exact HB.out))); (case aF => exact (fun _ _ => trivial)); (case aO => exact (by (with_reducible repeat (first | apply Kd.R_alloc | apply Kd.R_drewN | apply Kd.R_drew)); exact HO_8.out)); (case aS => exact (below_size (by repeat (first | (with_reducible first | exact HB.out | apply below_alloc | apply pw_below_drewN | apply below_drew1) | exact HB.out)))); (case aL => have := LMc10.out; omega); intro v232 w12 ho hb hg hat; rw [← Ny231.out] at ho; have n0_ := Aside0.mk (hb); have n1_ := Aside0.mk (ho); clear HB; clear HO_8; have HB := n0_; have HO233 := n1_; clear n0_ n1_; clear ho hb hg hat))
                go_roundg k1
                case measure => have := HK1.out; omega
                case rel => exact ⟨(t229), (y231), (wrap64 (x9_1 + 1)), (by first | rfl | (simp; done) | (simp [*]; done)), (by first | rfl | (simp; done) | (simp [*]; done)), H', ⟨by have := HK1.out; omega⟩, ⟨by (with_reducible repeat (first | apply Kd.R_alloc | apply Kd.R_drewN | apply Kd.R_drew)); exact HO233.out⟩, ⟨by repeat (first | (with_reducible first | exact HB.out | apply below_alloc | apply pw_below_drewN | apply below_drew1) | exact HB.out)⟩⟩
              · rw [if_neg c10] at H
                exact absurd H (by simp)
            · rw [if_neg c9] at H
              have c9b0 : (t230 == 0) = false := beq_eq_false_iff_ne.mpr c9
              have c9b1 : (t230 != 0) = true := bne_iff_ne.mpr c9
              simp only [Option.some.injEq, Prod.mk.injEq] at H
              obtain ⟨rfl, rfl, rfl⟩ := H
              go_wp2_with (first | ((with_reducible refine gate_callee (f := 42) rfl ?_); refine goesL_ (some 31) rfl rfl Try.func42 (by kernel_rfl) rfl #[.string x6_1] rfl (by (try simp only [List.map_toArray, List.map_cons, List.map_nil]); first | done | rfl | (simp only [List.length_drop, List.length_take]; rfl)) ?_; (with_reducible refine (duetref01_Take.calls k1 x6_1 t228 t229 t230 _ A8.out).mono ?_); rintro e w13 ⟨rfl, hb⟩; refine ⟨_, rfl, ?_⟩; have n0_ := Aside0.mk (Kd.R_below (by (with_reducible repeat (first | apply Kd.R_alloc | apply Kd.R_drewN | apply Kd.R_drew)); exact HO_8.out) hb); have n1_ := Aside0.mk (below_step (by repeat (first | (with_reducible first | exact HB.out | apply below_alloc | apply pw_below_drewN | apply below_drew1) | exact HB.out)) hb); clear HO_8; clear HB; have HO_8 := n0_; have HB := n1_; clear n0_ n1_; (try clear hb); (try clear hb2); (try clear hk); (try clear hi)))
              go_ret3
              exact ⟨_, by first | rfl | (simp [errW_none, errW_some] <;> rfl) | (simp [*, errW_none, errW_some] <;> rfl), by first | exact Kd.R_nil _ _ _ _ _ | exact Kd.N_nil _ _ _ _ _ | exact Kd.V_nil _ _ _ _ _ | exact Kd.Q_nil _ _ _ _ _ | exact Kd.S_nil _ _ _ _ _, by repeat (first | (with_reducible first | exact HB.out | apply below_alloc | apply pw_below_drewN | apply below_drew1) | exact HB.out)⟩
          · rw [if_neg c7] at H
            have c7b0 : decide (x9_1 < t225) = false := decide_eq_false c7
            clear c7
            simp only [Option.some.injEq, Prod.mk.injEq] at H
            obtain ⟨rfl, rfl, rfl⟩ := H
            go_wp2
            go_ret3
            exact ⟨_, by first | rfl | (simp [errW_none, errW_some] <;> rfl) | (simp [*, errW_none, errW_some] <;> rfl), by (with_reducible repeat (first | apply Kd.R_alloc | apply Kd.R_drewN | apply Kd.R_drew)); exact HO_8.out, by repeat (first | (with_reducible first | exact HB.out | apply below_alloc | apply pw_below_drewN | apply below_drew1) | exact HB.out)⟩
  · rw [if_neg c3] at H
    have c3b0 : (t227 == 0) = false := beq_eq_false_iff_ne.mpr c3
    have c3b1 : (t227 != 0) = true := bne_iff_ne.mpr c3
    simp only [Option.some.injEq, Prod.mk.injEq] at H
    obtain ⟨rfl, rfl, rfl⟩ := H
    go_enter Try.func46, Try.ntmps46
    go_wp2_with (first | ((with_reducible refine gate_callee (f := 42) rfl ?_); refine goesL_ (some 15) rfl rfl Try.func42 (by kernel_rfl) rfl #[.string a0] rfl (by (try simp only [List.map_toArray, List.map_cons, List.map_nil]); first | done | rfl | (simp only [List.length_drop, List.length_take]; rfl)) ?_; (with_reducible refine (duetref01_Take.calls k a0 t225 t226 t227 _ A2.out).mono ?_); rintro e w14 ⟨rfl, hb⟩; refine ⟨_, rfl, ?_⟩; have n0_ := Aside0.mk (below_step (by repeat (first | (with_reducible first | exact HB.out | apply below_alloc | apply pw_below_drewN | apply below_drew1) | exact HB.out)) hb); clear HB; have HB := n0_; clear n0_; (try clear hb); (try clear hb2); (try clear hk); (try clear hi)))
    go_ret3
    exact ⟨_, by first | rfl | (simp [errW_none, errW_some] <;> rfl) | (simp [*, errW_none, errW_some] <;> rfl), by first | exact Kd.R_nil _ _ _ _ _ | exact Kd.N_nil _ _ _ _ _ | exact Kd.V_nil _ _ _ _ _ | exact Kd.Q_nil _ _ _ _ _ | exact Kd.S_nil _ _ _ _ _, by repeat (first | (with_reducible first | exact HB.out | apply below_alloc | apply pw_below_drewN | apply below_drew1) | exact HB.out)⟩

end Go.Proofs.Ytpoigdkbblmpaaa.PPack
