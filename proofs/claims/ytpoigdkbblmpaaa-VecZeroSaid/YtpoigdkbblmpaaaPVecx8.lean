/- Functions that the law reaches, each as a plain Lean function with the proof that the call does what it says. Conditions: none beyond those that each theorem states. Written by a program for this claim. -/
import Derived.Test.YtpoigdkbblmpaaaPVecx0
import Derived.Test.YtpoigdkbblmpaaaPVecx1
import Derived.Test.YtpoigdkbblmpaaaPVecx2
import Derived.Test.YtpoigdkbblmpaaaPVecx4
namespace Go.Proofs.Ytpoigdkbblmpaaa.PVec
open Go.RowKit Go.Proofs.YtpoigdkbblmpaaaW.PrintWords Go.Proofs.YtpoigdkbblmpaaaW.PrintLast Go.Proofs.YtpoigdkbblmpaaaW.PrintMore
attribute [local go_sem] max2_int min2_int max_two min_two max_three min_three max_four min_four   -- for this text's walks alone
set_option linter.unusedVariables false
set_option linter.unusedSimpArgs false

/-! ### duetlaw06_VecZero: function 8 -/
def duetlaw06_VecZero.j0 : Nat → List Int → List Int → Int → List Int → List Int → Bool → Option (Bool)
  | 0, _, _, _, _, _, _ => none
  | k + 1, x0, x3, x6, x8, x10, x54 => if x54 = true then (none) else (if x6 = 1 then ((duetref01_Same.f k x8 x0).bind fun t325 => (if t325 = true then ((duetref01_Same.f k x10 x3).bind fun t326 => (if t326 = true then ((duetref06_Zero.f k (x0.length : Int)).bind fun t327 => ((duetref01_Same.f k x3 t327).bind fun t330 => (if t330 = true then ((duetlaw06_live.f).bind fun t331 => (some t331)) else (none)))) else (none))) else (none))) else (if x6 = 0 then ((duetref01_Same.f k x0 x3).bind fun t332 => (if t332 = true then ((duetref01_Same.f k x8 x0).bind fun t333 => (if t333 = true then ((duetref01_Same.f k x10 x3).bind fun t334 => (if t334 = true then ((duetref06_Zero.f k (x0.length : Int)).bind fun t335 => ((duetref01_Same.f k x3 t335).bind fun t338 => (if t338 = true then ((duetlaw06_live.f).bind fun t339 => (some t339)) else (none)))) else (none))) else (none))) else (none))) else (none)))
def duetlaw06_VecZero.f (k : Nat) (l0 : List Int) : Option (Bool) := (duetref06_May.f k l0).bind fun t309 => (if t309 = true then ((vec_New.f (l0.length : Int)).bind fun bt311 => ((vec_Vec_Compare.f k bt311.1 l0).bind fun bt315 => ((vec_Vec_Join.f bt311.1 l0).bind fun bt317 => ((vec_Vec_Meet.f l0 bt311.1).bind fun bt321 => (if bt311.2 = 0 then (if bt315.2 = 0 then (if bt317.2 = 0 then (duetlaw06_VecZero.j0 k l0 bt311.1 bt315.1 bt317.1 bt321.1 (bt321.2 != 0)) else (duetlaw06_VecZero.j0 k l0 bt311.1 bt315.1 bt317.1 bt321.1 true)) else (duetlaw06_VecZero.j0 k l0 bt311.1 bt315.1 bt317.1 bt321.1 true)) else (duetlaw06_VecZero.j0 k l0 bt311.1 bt315.1 bt317.1 bt321.1 true)))))) else ((duetlaw06_live.f).bind fun t310 => (some t310)))
theorem duetlaw06_VecZero.mono_l : ∀ k, (∀ y0 y1 y2 y3 y4 y5, LeO (duetlaw06_VecZero.j0 k y0 y1 y2 y3 y4 y5) (duetlaw06_VecZero.j0 (k + 1) y0 y1 y2 y3 y4 y5))
  | 0 => fun _ _ _ _ _ _ r h => by simp [duetlaw06_VecZero.j0] at h
  | k + 1 => by
    have ih0 := duetlaw06_VecZero.mono_l k
    · intro y0 y1 y2 y3 y4 y5
      unfold duetlaw06_VecZero.j0
      repeat' first
      | (with_reducible exact ih0 _ _ _ _ _ _)
      | (with_reducible exact duetref01_Same.mono _ _ _)
      | (with_reducible exact duetref06_May.mono _ _)
      | (with_reducible exact duetref06_Zero.mono _ _)
      | (with_reducible exact vec_Vec_Compare.mono _ _ _)
      | (with_reducible exact LeO.refl _)
      | (with_reducible exact LeO.none _)
      | (with_reducible refine LeO.ite ?_ ?_)
      | (with_reducible refine LeO.bind ?_ (fun _ => ?_))
      | exact ih0 _ _ _ _ _ _
      | exact duetref01_Same.mono _ _ _
      | exact duetref06_May.mono _ _
      | exact duetref06_Zero.mono _ _
      | exact vec_Vec_Compare.mono _ _ _
      | exact LeO.none _
      | refine LeO.ite ?_ ?_
      | refine LeO.bind ?_ (fun _ => ?_)
theorem duetlaw06_VecZero.mono : ∀ a0 k, LeO (duetlaw06_VecZero.f k a0) (duetlaw06_VecZero.f (k + 1) a0) := by
  intro a0 k
  have ih0 := duetlaw06_VecZero.mono_l k
  unfold duetlaw06_VecZero.f
  repeat' first
      | (with_reducible exact ih0 _ _ _ _ _ _)
      | (with_reducible exact duetref01_Same.mono _ _ _)
      | (with_reducible exact duetref06_May.mono _ _)
      | (with_reducible exact duetref06_Zero.mono _ _)
      | (with_reducible exact vec_Vec_Compare.mono _ _ _)
      | (with_reducible exact LeO.refl _)
      | (with_reducible exact LeO.none _)
      | (with_reducible refine LeO.ite ?_ ?_)
      | (with_reducible refine LeO.bind ?_ (fun _ => ?_))
      | exact ih0 _ _ _ _ _ _
      | exact duetref01_Same.mono _ _ _
      | exact duetref06_May.mono _ _
      | exact duetref06_Zero.mono _ _
      | exact vec_Vec_Compare.mono _ _ _
      | exact LeO.none _
      | refine LeO.ite ?_ ?_
      | refine LeO.bind ?_ (fun _ => ?_)
set_option maxHeartbeats 8000000 in
set_option maxRecDepth 100000 in
theorem duetlaw06_VecZero.calls (k : Nat) (A0 : Option Addr) (c0 : Nat) (l0 : List Int) (r : Bool) (w : World) (hr0 : Kd.C (Kd.int .i64) w A0 l0.length l0) (hc0 : l0.length ≤ c0) (h : duetlaw06_VecZero.f k l0 = some r) :
    Calls Try.prog 8 #[.slice A0 l0.length c0] w fun e w' => e = .returned (.bool r) ∧ Below w.heap.size w w' := by
  have HR0 := Aside0.mk hr0
  have HC0 := Aside0.mk hc0
  clear hr0 hc0
  have HB := Aside0.mk (Below.refl w.heap.size w)
  have H : ((duetref06_May.f k l0).bind fun t309 => (if t309 = true then ((vec_New.f (l0.length : Int)).bind fun bt311 => ((vec_Vec_Compare.f k bt311.1 l0).bind fun bt315 => ((vec_Vec_Join.f bt311.1 l0).bind fun bt317 => ((vec_Vec_Meet.f l0 bt311.1).bind fun bt321 => (if bt311.2 = 0 then (if bt315.2 = 0 then (if bt317.2 = 0 then (duetlaw06_VecZero.j0 k l0 bt311.1 bt315.1 bt317.1 bt321.1 (bt321.2 != 0)) else (duetlaw06_VecZero.j0 k l0 bt311.1 bt315.1 bt317.1 bt321.1 true)) else (duetlaw06_VecZero.j0 k l0 bt311.1 bt315.1 bt317.1 bt321.1 true)) else (duetlaw06_VecZero.j0 k l0 bt311.1 bt315.1 bt317.1 bt321.1 true)))))) else ((duetlaw06_live.f).bind fun t310 => (some t310)))) = some r := h
  clear h
  replace H := Option.bind_eq_some_iff.mp H
  obtain ⟨t309, A20, H⟩ := H
  replace H : (if t309 = true then ((vec_New.f (l0.length : Int)).bind fun bt311 => ((vec_Vec_Compare.f k bt311.1 l0).bind fun bt315 => ((vec_Vec_Join.f bt311.1 l0).bind fun bt317 => ((vec_Vec_Meet.f l0 bt311.1).bind fun bt321 => (if bt311.2 = 0 then (if bt315.2 = 0 then (if bt317.2 = 0 then (duetlaw06_VecZero.j0 k l0 bt311.1 bt315.1 bt317.1 bt321.1 (bt321.2 != 0)) else (duetlaw06_VecZero.j0 k l0 bt311.1 bt315.1 bt317.1 bt321.1 true)) else (duetlaw06_VecZero.j0 k l0 bt311.1 bt315.1 bt317.1 bt321.1 true)) else (duetlaw06_VecZero.j0 k l0 bt311.1 bt315.1 bt317.1 bt321.1 true)))))) else ((duetlaw06_live.f).bind fun t310 => (some t310))) = some r := H
  have A2 := Aside0.mk A20
  clear A20
  by_cases c3 : t309 = true
  · subst c3
    have H1 : ((vec_New.f (l0.length : Int)).bind fun bt311 => ((vec_Vec_Compare.f k bt311.1 l0).bind fun bt315 => ((vec_Vec_Join.f bt311.1 l0).bind fun bt317 => ((vec_Vec_Meet.f l0 bt311.1).bind fun bt321 => (if bt311.2 = 0 then (if bt315.2 = 0 then (if bt317.2 = 0 then (duetlaw06_VecZero.j0 k l0 bt311.1 bt315.1 bt317.1 bt321.1 (bt321.2 != 0)) else (duetlaw06_VecZero.j0 k l0 bt311.1 bt315.1 bt317.1 bt321.1 true)) else (duetlaw06_VecZero.j0 k l0 bt311.1 bt315.1 bt317.1 bt321.1 true)) else (duetlaw06_VecZero.j0 k l0 bt311.1 bt315.1 bt317.1 bt321.1 true)))))) = some r := by rw [if_pos rfl] at H; exact H
    clear H
    have H := H1
    clear H1
    replace H := Option.bind_eq_some_iff.mp H
    obtain ⟨⟨t311, t312⟩, A40, H⟩ := H
    replace H : ((vec_Vec_Compare.f k t311 l0).bind fun bt315 => ((vec_Vec_Join.f t311 l0).bind fun bt317 => ((vec_Vec_Meet.f l0 t311).bind fun bt321 => (if t312 = 0 then (if bt315.2 = 0 then (if bt317.2 = 0 then (duetlaw06_VecZero.j0 k l0 t311 bt315.1 bt317.1 bt321.1 (bt321.2 != 0)) else (duetlaw06_VecZero.j0 k l0 t311 bt315.1 bt317.1 bt321.1 true)) else (duetlaw06_VecZero.j0 k l0 t311 bt315.1 bt317.1 bt321.1 true)) else (duetlaw06_VecZero.j0 k l0 t311 bt315.1 bt317.1 bt321.1 true))))) = some r := H
    have A4 := Aside0.mk A40
    clear A40
    replace H := Option.bind_eq_some_iff.mp H
    obtain ⟨⟨t315, t316⟩, A50, H⟩ := H
    replace H : ((vec_Vec_Join.f t311 l0).bind fun bt317 => ((vec_Vec_Meet.f l0 t311).bind fun bt321 => (if t312 = 0 then (if t316 = 0 then (if bt317.2 = 0 then (duetlaw06_VecZero.j0 k l0 t311 t315 bt317.1 bt321.1 (bt321.2 != 0)) else (duetlaw06_VecZero.j0 k l0 t311 t315 bt317.1 bt321.1 true)) else (duetlaw06_VecZero.j0 k l0 t311 t315 bt317.1 bt321.1 true)) else (duetlaw06_VecZero.j0 k l0 t311 t315 bt317.1 bt321.1 true)))) = some r := H
    have A5 := Aside0.mk A50
    clear A50
    replace H := Option.bind_eq_some_iff.mp H
    obtain ⟨⟨t317, t318⟩, A60, H⟩ := H
    replace H : ((vec_Vec_Meet.f l0 t311).bind fun bt321 => (if t312 = 0 then (if t316 = 0 then (if t318 = 0 then (duetlaw06_VecZero.j0 k l0 t311 t315 t317 bt321.1 (bt321.2 != 0)) else (duetlaw06_VecZero.j0 k l0 t311 t315 t317 bt321.1 true)) else (duetlaw06_VecZero.j0 k l0 t311 t315 t317 bt321.1 true)) else (duetlaw06_VecZero.j0 k l0 t311 t315 t317 bt321.1 true))) = some r := H
    have A6 := Aside0.mk A60
    clear A60
    replace H := Option.bind_eq_some_iff.mp H
    obtain ⟨⟨t321, t322⟩, A70, H⟩ := H
    replace H : (if t312 = 0 then (if t316 = 0 then (if t318 = 0 then (duetlaw06_VecZero.j0 k l0 t311 t315 t317 t321 (t322 != 0)) else (duetlaw06_VecZero.j0 k l0 t311 t315 t317 t321 true)) else (duetlaw06_VecZero.j0 k l0 t311 t315 t317 t321 true)) else (duetlaw06_VecZero.j0 k l0 t311 t315 t317 t321 true)) = some r := H
    have A7 := Aside0.mk A70
    clear A70
    have HC8 := Aside0.mk H
    clear H
    go_enter Try.func8, Try.ntmps8
    go_upto_region 8 with (first | ((with_reducible refine gate_callee (f := 30) rfl ?_); refine goesL_ (some 13) rfl rfl Try.func30 (by kernel_rfl) rfl #[.slice A0 l0.length c0] rfl (by (try simp only [List.map_toArray, List.map_cons, List.map_nil]); first | done | rfl | (simp only [List.length_drop, List.length_take]; rfl)) ?_; (with_reducible refine (duetref06_May.calls k _ _ l0 true _ ?side1 ?side2 A2.out).mono ?_); (case side1 => repeat (first | exact HR0.out | (with_reducible refine Kd.C_alloc ?_ _) | (with_reducible refine Kd.C_drewN ?_ _) | (with_reducible refine Kd.C_drew ?_))); (case side2 => exact HC0.out); rintro e w' ⟨rfl, ⟨nd, rfl⟩⟩; refine ⟨_, rfl, ?_⟩) | ((with_reducible refine gate_callee (f := 25) rfl ?_); refine goesL_ (some 19) rfl rfl Try.func25 (by kernel_rfl) rfl #[.int .i64 (l0.length : Int)] rfl (by (try simp only [List.map_toArray, List.map_cons, List.map_nil]); first | done | rfl | (simp only [List.length_drop, List.length_take]; rfl)) ?_; (with_reducible refine (vec_New.calls (l0.length : Int) t311 t312 _ A4.out).mono ?_); rintro e w9 ⟨v313, rfl, ho0, hb⟩; refine ⟨_, rfl, ?_⟩; have n0_ := Aside0.mk (Kd.R_lower ho0 (below_size (by repeat (first | (with_reducible first | exact HB.out | apply below_alloc | apply pw_below_drewN | apply below_drew1) | exact HB.out)))); have n1_ := Aside0.mk (below_step (by repeat (first | (with_reducible first | exact HB.out | apply below_alloc | apply pw_below_drewN | apply below_drew1) | exact HB.out)) hb); clear HB; have HO314 := n0_; have HB := n1_; clear n0_ n1_; (try clear hb); (try clear hb2); (try clear hk); (try clear hi); (try clear ho0); obtain ⟨Ao10, co10, eo10⟩ := Kd.R_slice HO314.out; subst eo10) | ((with_reducible refine gate_callee (f := 22) rfl ?_); refine goesL_ (some 26) rfl rfl Try.func22 (by kernel_rfl) rfl #[.slice Ao10 t311.length co10, .slice A0 l0.length c0] rfl (by (try simp only [List.map_toArray, List.map_cons, List.map_nil]); first | done | rfl | (simp only [List.length_drop, List.length_take]; rfl)) ?_; (with_reducible refine (vec_Vec_Compare.calls k _ _ t311 _ _ l0 t315 t316 _ ?side1 ?side2 ?side3 ?side4 A5.out).mono ?_); (case side1 => repeat (first | exact (Kd.R_reads' HO314.out).2.2 | (with_reducible refine Kd.C_alloc ?_ _) | (with_reducible refine Kd.C_drewN ?_ _) | (with_reducible refine Kd.C_drew ?_))); (case side2 => exact (Kd.R_reads' HO314.out).2.1); (case side3 => repeat (first | exact (Kd.C_below HR0.out HB.out) | (with_reducible refine Kd.C_alloc ?_ _) | (with_reducible refine Kd.C_drewN ?_ _) | (with_reducible refine Kd.C_drew ?_))); (case side4 => exact HC0.out); rintro e w' ⟨rfl, ⟨nd, rfl⟩⟩; refine ⟨_, rfl, ?_⟩) | ((with_reducible refine gate_callee (f := 18) rfl ?_); refine goesL_ (some 32) rfl rfl Try.func18 (by kernel_rfl) rfl #[.slice Ao10 t311.length co10, .slice A0 l0.length c0] rfl (by (try simp only [List.map_toArray, List.map_cons, List.map_nil]); first | done | rfl | (simp only [List.length_drop, List.length_take]; rfl)) ?_; (with_reducible refine (vec_Vec_Join.calls _ _ t311 _ _ l0 t317 t318 _ ?side1 ?side2 ?side3 ?side4 A6.out).mono ?_); (case side1 => repeat (first | exact (Kd.R_reads' HO314.out).2.2 | (with_reducible refine Kd.C_alloc ?_ _) | (with_reducible refine Kd.C_drewN ?_ _) | (with_reducible refine Kd.C_drew ?_))); (case side2 => exact (Kd.R_reads' HO314.out).2.1); (case side3 => repeat (first | exact (Kd.C_below HR0.out (by repeat (first | (with_reducible first | exact HB.out | apply below_alloc | apply pw_below_drewN | apply below_drew1) | exact HB.out))) | (with_reducible refine Kd.C_alloc ?_ _) | (with_reducible refine Kd.C_drewN ?_ _) | (with_reducible refine Kd.C_drew ?_))); (case side4 => exact HC0.out); rintro e w11 ⟨v319, rfl, ho0, hb⟩; refine ⟨_, rfl, ?_⟩; have n0_ := Aside0.mk (Kd.R_elder' (by (with_reducible repeat (first | apply Kd.R_alloc | apply Kd.R_drewN | apply Kd.R_drew)); exact HO314.out) (Kd.R_base ho0) hb); have n1_ := Aside0.mk (Kd.R_lower (Kd.R_new' ho0 (Kd.R_lt (by (with_reducible repeat (first | apply Kd.R_alloc | apply Kd.R_drewN | apply Kd.R_drew)); exact HO314.out))) (below_size (by repeat (first | (with_reducible first | exact HB.out | apply below_alloc | apply pw_below_drewN | apply below_drew1) | exact HB.out)))); have n2_ := Aside0.mk (below_step (by repeat (first | (with_reducible first | exact HB.out | apply below_alloc | apply pw_below_drewN | apply below_drew1) | exact HB.out)) hb); clear HO314; clear HB; have HO314 := n0_; have HO320 := n1_; have HB := n2_; clear n0_ n1_ n2_; (try clear hb); (try clear hb2); (try clear hk); (try clear hi); (try clear ho0)) | ((with_reducible refine gate_callee (f := 20) rfl ?_); refine goesL_ (some 38) rfl rfl Try.func20 (by kernel_rfl) rfl #[.slice A0 l0.length c0, .slice Ao10 t311.length co10] rfl (by (try simp only [List.map_toArray, List.map_cons, List.map_nil]); first | done | rfl | (simp only [List.length_drop, List.length_take]; rfl)) ?_; (with_reducible refine (vec_Vec_Meet.calls _ _ l0 _ _ t311 t321 t322 _ ?side1 ?side2 ?side3 ?side4 A7.out).mono ?_); (case side1 => repeat (first | exact (Kd.C_below HR0.out HB.out) | (with_reducible refine Kd.C_alloc ?_ _) | (with_reducible refine Kd.C_drewN ?_ _) | (with_reducible refine Kd.C_drew ?_))); (case side2 => exact HC0.out); (case side3 => repeat (first | exact (Kd.R_reads' HO314.out).2.2 | (with_reducible refine Kd.C_alloc ?_ _) | (with_reducible refine Kd.C_drewN ?_ _) | (with_reducible refine Kd.C_drew ?_))); (case side4 => exact (Kd.R_reads' HO314.out).2.1); rintro e w12 ⟨v323, rfl, ho0, hb⟩; refine ⟨_, rfl, ?_⟩; have n0_ := Aside0.mk (Kd.R_elder' (by (with_reducible repeat (first | apply Kd.R_alloc | apply Kd.R_drewN | apply Kd.R_drew)); exact HO314.out) (Kd.R_base ho0) hb); have n1_ := Aside0.mk (Kd.R_elder' (by (with_reducible repeat (first | apply Kd.R_alloc | apply Kd.R_drewN | apply Kd.R_drew)); exact HO320.out) (Kd.R_base ho0) hb); have n2_ := Aside0.mk (Kd.R_lower (Kd.R_new' (Kd.R_new' ho0 (Kd.R_lt (by (with_reducible repeat (first | apply Kd.R_alloc | apply Kd.R_drewN | apply Kd.R_drew)); exact HO314.out))) (Kd.R_lt (by (with_reducible repeat (first | apply Kd.R_alloc | apply Kd.R_drewN | apply Kd.R_drew)); exact HO320.out))) (below_size (by repeat (first | (with_reducible first | exact HB.out | apply below_alloc | apply pw_below_drewN | apply below_drew1) | exact HB.out)))); have n3_ := Aside0.mk (below_step (by repeat (first | (with_reducible first | exact HB.out | apply below_alloc | apply pw_below_drewN | apply below_drew1) | exact HB.out)) hb); clear HO314; clear HO320; clear HB; have HO314 := n0_; have HO320 := n1_; have HO324 := n2_; have HB := n3_; clear n0_ n1_ n2_ n3_; (try clear hb); (try clear hb2); (try clear hk); (try clear hi); (try clear ho0)))
    (try simp only [Act.put, List.setIfInBounds_toArray, List.set_cons_zero, List.set_cons_succ])
    go_cut [54] (fun v54 wc => ∃ (kq : Nat) (x54_7 : Bool), v54 = .bool x54_7 ∧ Aside0 (duetlaw06_VecZero.j0 kq l0 t311 t315 t317 t321 x54_7 = some r) ∧ Aside0 (kq ≤ k) ∧ Aside0 (Kd.R (Kd.int .i64) 3 wc w.heap.size (fun k_ => some k_ ≠ (v319 : Value).ownBlock ∧ some k_ ≠ (v323 : Value).ownBlock) (.slice Ao10 t311.length co10) t311) ∧ Aside0 (Kd.R (Kd.int .i64) 3 wc w.heap.size (fun k_ => some k_ ≠ ((.slice Ao10 t311.length co10) : Value).ownBlock ∧ some k_ ≠ (v323 : Value).ownBlock) v319 t317) ∧ Aside0 (Kd.R (Kd.int .i64) 3 wc w.heap.size (fun k_ => some k_ ≠ ((.slice Ao10 t311.length co10) : Value).ownBlock ∧ some k_ ≠ (v319 : Value).ownBlock) v323 t321) ∧ Aside0 (Below w.heap.size w wc))
    case first =>
      have H := HC8.out
      clear HC8
      by_cases c13 : t312 = 0
      · rw [if_pos c13] at H
        have c13b0 : (t312 == 0) = true := beq_iff_eq.mpr c13
        have c13b1 : (t312 != 0) = false := bne_eq_false_iff_eq.mpr c13
        clear c13
        (first | rw [c13b0] | (simp only [i64_w, i32_w]; rw [c13b0]) | skip)
        by_cases c14 : t316 = 0
        · rw [if_pos c14] at H
          have c14b0 : (t316 == 0) = true := beq_iff_eq.mpr c14
          have c14b1 : (t316 != 0) = false := bne_eq_false_iff_eq.mpr c14
          clear c14
          by_cases c15 : t318 = 0
          · rw [if_pos c15] at H
            have c15b0 : (t318 == 0) = true := beq_iff_eq.mpr c15
            have c15b1 : (t318 != 0) = false := bne_eq_false_iff_eq.mpr c15
            clear c15
            have H' := Aside0.mk H
            clear H
            go_wp2
            go_meet
            case rel => exact ⟨_, ((t322 != 0)), (by first | rfl | (simp; done) | (simp [*]; done)), H', ⟨by first | omega | exact Nat.le_refl _⟩, ⟨by (with_reducible repeat (first | apply Kd.R_alloc | apply Kd.R_drewN | apply Kd.R_drew)); exact Kd.R_mono HO314.out (fun _ hk => ⟨hk.1.2, hk.2⟩)⟩, ⟨by (with_reducible repeat (first | apply Kd.R_alloc | apply Kd.R_drewN | apply Kd.R_drew)); exact Kd.R_mono HO320.out (fun _ hk => ⟨hk.1.2, hk.2⟩)⟩, ⟨by (with_reducible repeat (first | apply Kd.R_alloc | apply Kd.R_drewN | apply Kd.R_drew)); exact Kd.R_mono HO324.out (fun _ hk => ⟨hk.1.2, hk.2⟩)⟩, ⟨by repeat (first | (with_reducible first | exact HB.out | apply below_alloc | apply pw_below_drewN | apply below_drew1) | exact HB.out)⟩⟩
          · rw [if_neg c15] at H
            have c15b0 : (t318 == 0) = false := beq_eq_false_iff_ne.mpr c15
            have c15b1 : (t318 != 0) = true := bne_iff_ne.mpr c15
            have H' := Aside0.mk H
            clear H
            go_wp2
            go_meet
            case rel => exact ⟨_, (true), (by first | rfl | (simp; done) | (simp [*]; done)), H', ⟨by first | omega | exact Nat.le_refl _⟩, ⟨by (with_reducible repeat (first | apply Kd.R_alloc | apply Kd.R_drewN | apply Kd.R_drew)); exact Kd.R_mono HO314.out (fun _ hk => ⟨hk.1.2, hk.2⟩)⟩, ⟨by (with_reducible repeat (first | apply Kd.R_alloc | apply Kd.R_drewN | apply Kd.R_drew)); exact Kd.R_mono HO320.out (fun _ hk => ⟨hk.1.2, hk.2⟩)⟩, ⟨by (with_reducible repeat (first | apply Kd.R_alloc | apply Kd.R_drewN | apply Kd.R_drew)); exact Kd.R_mono HO324.out (fun _ hk => ⟨hk.1.2, hk.2⟩)⟩, ⟨by repeat (first | (with_reducible first | exact HB.out | apply below_alloc | apply pw_below_drewN | apply below_drew1) | exact HB.out)⟩⟩
        · rw [if_neg c14] at H
          have c14b0 : (t316 == 0) = false := beq_eq_false_iff_ne.mpr c14
          have c14b1 : (t316 != 0) = true := bne_iff_ne.mpr c14
          have H' := Aside0.mk H
          clear H
          go_wp2
          go_meet
          case rel => exact ⟨_, (true), (by first | rfl | (simp; done) | (simp [*]; done)), H', ⟨by first | omega | exact Nat.le_refl _⟩, ⟨by (with_reducible repeat (first | apply Kd.R_alloc | apply Kd.R_drewN | apply Kd.R_drew)); exact Kd.R_mono HO314.out (fun _ hk => ⟨hk.1.2, hk.2⟩)⟩, ⟨by (with_reducible repeat (first | apply Kd.R_alloc | apply Kd.R_drewN | apply Kd.R_drew)); exact Kd.R_mono HO320.out (fun _ hk => ⟨hk.1.2, hk.2⟩)⟩, ⟨by (with_reducible repeat (first | apply Kd.R_alloc | apply Kd.R_drewN | apply Kd.R_drew)); exact Kd.R_mono HO324.out (fun _ hk => ⟨hk.1.2, hk.2⟩)⟩, ⟨by repeat (first | (with_reducible first | exact HB.out | apply below_alloc | apply pw_below_drewN | apply below_drew1) | exact HB.out)⟩⟩
      · rw [if_neg c13] at H
        have c13b0 : (t312 == 0) = false := beq_eq_false_iff_ne.mpr c13
        have c13b1 : (t312 != 0) = true := bne_iff_ne.mpr c13
        (first | rw [c13b0] | (simp only [i64_w, i32_w]; rw [c13b0]) | skip)
        have H' := Aside0.mk H
        clear H
        go_wp2
        go_meet
        case rel => exact ⟨_, (true), (by first | rfl | (simp; done) | (simp [*]; done)), H', ⟨by first | omega | exact Nat.le_refl _⟩, ⟨by (with_reducible repeat (first | apply Kd.R_alloc | apply Kd.R_drewN | apply Kd.R_drew)); exact Kd.R_mono HO314.out (fun _ hk => ⟨hk.1.2, hk.2⟩)⟩, ⟨by (with_reducible repeat (first | apply Kd.R_alloc | apply Kd.R_drewN | apply Kd.R_drew)); exact Kd.R_mono HO320.out (fun _ hk => ⟨hk.1.2, hk.2⟩)⟩, ⟨by (with_reducible repeat (first | apply Kd.R_alloc | apply Kd.R_drewN | apply Kd.R_drew)); exact Kd.R_mono HO324.out (fun _ hk => ⟨hk.1.2, hk.2⟩)⟩, ⟨by repeat (first | (with_reducible first | exact HB.out | apply below_alloc | apply pw_below_drewN | apply below_drew1) | exact HB.out)⟩⟩
    case rest =>
      clear HC8
      try clear c1
      try clear c2
      try clear p2
      try clear c3
      try clear c8
      try clear c13
      try clear c13b0
      try clear c13b1
      try clear c14
      try clear c14b0
      try clear c14b1
      try clear c15
      try clear c15b0
      try clear c15b1
      obtain ⟨kq, x54_7, rfl, HA, HJ7, HO_3, HO_8, HO_10, HB⟩ := hcut
      cases kq with
      | zero => exact absurd HA.out (by simp [duetlaw06_VecZero.j0])
      | succ kj7 =>
        have H := HA.out
        clear HA
        simp only [duetlaw06_VecZero.j0] at H
        by_cases c16 : x54_7 = true
        · subst c16
          have H1 : (none) = some r := by rw [if_pos rfl] at H; exact H
          clear H
          have H := H1
          clear H1
          exact absurd H (by simp)
        · replace c16 := Bool.eq_false_iff.mpr c16
          subst c16
          have H1 : (if t315 = 1 then ((duetref01_Same.f kj7 t317 l0).bind fun t325 => (if t325 = true then ((duetref01_Same.f kj7 t321 t311).bind fun t326 => (if t326 = true then ((duetref06_Zero.f kj7 (l0.length : Int)).bind fun t327 => ((duetref01_Same.f kj7 t311 t327).bind fun t330 => (if t330 = true then ((duetlaw06_live.f).bind fun t331 => (some t331)) else (none)))) else (none))) else (none))) else (if t315 = 0 then ((duetref01_Same.f kj7 l0 t311).bind fun t332 => (if t332 = true then ((duetref01_Same.f kj7 t317 l0).bind fun t333 => (if t333 = true then ((duetref01_Same.f kj7 t321 t311).bind fun t334 => (if t334 = true then ((duetref06_Zero.f kj7 (l0.length : Int)).bind fun t335 => ((duetref01_Same.f kj7 t311 t335).bind fun t338 => (if t338 = true then ((duetlaw06_live.f).bind fun t339 => (some t339)) else (none)))) else (none))) else (none))) else (none))) else (none))) = some r := by rw [if_neg (show ¬ (false = true) by decide)] at H; exact H
          clear H
          have H := H1
          clear H1
          by_cases c17 : t315 = 1
          · rw [if_pos c17] at H
            have c17b0 : (t315 == 1) = true := beq_iff_eq.mpr c17
            have c17b1 : (t315 != 1) = false := bne_eq_false_iff_eq.mpr c17
            clear c17
            replace H := Option.bind_eq_some_iff.mp H
            obtain ⟨t325, A180, H⟩ := H
            replace H : (if t325 = true then ((duetref01_Same.f kj7 t321 t311).bind fun t326 => (if t326 = true then ((duetref06_Zero.f kj7 (l0.length : Int)).bind fun t327 => ((duetref01_Same.f kj7 t311 t327).bind fun t330 => (if t330 = true then ((duetlaw06_live.f).bind fun t331 => (some t331)) else (none)))) else (none))) else (none)) = some r := H
            have A18 := Aside0.mk A180
            clear A180
            by_cases c19 : t325 = true
            · subst c19
              have H1 : ((duetref01_Same.f kj7 t321 t311).bind fun t326 => (if t326 = true then ((duetref06_Zero.f kj7 (l0.length : Int)).bind fun t327 => ((duetref01_Same.f kj7 t311 t327).bind fun t330 => (if t330 = true then ((duetlaw06_live.f).bind fun t331 => (some t331)) else (none)))) else (none))) = some r := by rw [if_pos rfl] at H; exact H
              clear H
              have H := H1
              clear H1
              replace H := Option.bind_eq_some_iff.mp H
              obtain ⟨t326, A200, H⟩ := H
              replace H : (if t326 = true then ((duetref06_Zero.f kj7 (l0.length : Int)).bind fun t327 => ((duetref01_Same.f kj7 t311 t327).bind fun t330 => (if t330 = true then ((duetlaw06_live.f).bind fun t331 => (some t331)) else (none)))) else (none)) = some r := H
              have A20 := Aside0.mk A200
              clear A200
              by_cases c21 : t326 = true
              · subst c21
                have H1 : ((duetref06_Zero.f kj7 (l0.length : Int)).bind fun t327 => ((duetref01_Same.f kj7 t311 t327).bind fun t330 => (if t330 = true then ((duetlaw06_live.f).bind fun t331 => (some t331)) else (none)))) = some r := by rw [if_pos rfl] at H; exact H
                clear H
                have H := H1
                clear H1
                replace H := Option.bind_eq_some_iff.mp H
                obtain ⟨t327, A220, H⟩ := H
                replace H : ((duetref01_Same.f kj7 t311 t327).bind fun t330 => (if t330 = true then ((duetlaw06_live.f).bind fun t331 => (some t331)) else (none))) = some r := H
                have A22 := Aside0.mk A220
                clear A220
                replace H := Option.bind_eq_some_iff.mp H
                obtain ⟨t330, A230, H⟩ := H
                replace H : (if t330 = true then ((duetlaw06_live.f).bind fun t331 => (some t331)) else (none)) = some r := H
                have A23 := Aside0.mk A230
                clear A230
                by_cases c24 : t330 = true
                · subst c24
                  have H1 : ((duetlaw06_live.f).bind fun t331 => (some t331)) = some r := by rw [if_pos rfl] at H; exact H
                  clear H
                  have H := H1
                  clear H1
                  replace H := Option.bind_eq_some_iff.mp H
                  obtain ⟨t331, A250, H⟩ := H
                  replace H : (some t331) = some r := H
                  have A25 := Aside0.mk A250
                  clear A250
                  obtain rfl := Option.some.inj H
                  obtain ⟨Ao26, co26, eo26⟩ := Kd.R_slice HO_8.out
                  subst eo26
                  go_wp2_with (first | (go_at_call 24; (with_reducible refine (duetref01_Same.calls kj7 _ _ t317 _ _ l0 true _ ?side1 ?side2 ?side3 ?side4 A18.out).mono ?_); (case side1 => repeat (first | exact (Kd.R_reads' HO_8.out).2.2 | (with_reducible refine Kd.C_alloc ?_ _) | (with_reducible refine Kd.C_drewN ?_ _) | (with_reducible refine Kd.C_drew ?_))); (case side2 => exact (Kd.R_reads' HO_8.out).2.1); (case side3 => repeat (first | exact (Kd.C_below HR0.out HB.out) | (with_reducible refine Kd.C_alloc ?_ _) | (with_reducible refine Kd.C_drewN ?_ _) | (with_reducible refine Kd.C_drew ?_))); (case side4 => exact HC0.out); rintro e w' ⟨rfl, ⟨nd, rfl⟩⟩; obtain ⟨Ao27, co27, eo27⟩ := Kd.R_slice HO_10.out; subst eo27) | (go_at_call 24; (with_reducible refine (duetref01_Same.calls kj7 _ _ t321 _ _ t311 true _ ?side1 ?side2 ?side3 ?side4 A20.out).mono ?_); (case side1 => repeat (first | exact (Kd.R_reads' HO_10.out).2.2 | (with_reducible refine Kd.C_alloc ?_ _) | (with_reducible refine Kd.C_drewN ?_ _) | (with_reducible refine Kd.C_drew ?_))); (case side2 => exact (Kd.R_reads' HO_10.out).2.1); (case side3 => repeat (first | exact (Kd.R_reads' HO_3.out).2.2 | (with_reducible refine Kd.C_alloc ?_ _) | (with_reducible refine Kd.C_drewN ?_ _) | (with_reducible refine Kd.C_drew ?_))); (case side4 => exact (Kd.R_reads' HO_3.out).2.1); rintro e w' ⟨rfl, ⟨nd, rfl⟩⟩) | (go_at_call 32; (with_reducible refine (duetref06_Zero.calls kj7 (l0.length : Int) t327 _ A22.out).mono ?_); rintro e w28 ⟨v328, rfl, ho0, hb⟩; have n0_ := Aside0.mk (Kd.R_elder' (by (with_reducible repeat (first | apply Kd.R_alloc | apply Kd.R_drewN | apply Kd.R_drew)); exact HO_3.out) (Kd.R_base ho0) hb); have n1_ := Aside0.mk (Kd.R_elder' (by (with_reducible repeat (first | apply Kd.R_alloc | apply Kd.R_drewN | apply Kd.R_drew)); exact HO_8.out) (Kd.R_base ho0) hb); have n2_ := Aside0.mk (Kd.R_elder' (by (with_reducible repeat (first | apply Kd.R_alloc | apply Kd.R_drewN | apply Kd.R_drew)); exact HO_10.out) (Kd.R_base ho0) hb); have n3_ := Aside0.mk (Kd.R_lower (Kd.R_new' (Kd.R_new' (Kd.R_new' ho0 (Kd.R_lt (by (with_reducible repeat (first | apply Kd.R_alloc | apply Kd.R_drewN | apply Kd.R_drew)); exact HO_3.out))) (Kd.R_lt (by (with_reducible repeat (first | apply Kd.R_alloc | apply Kd.R_drewN | apply Kd.R_drew)); exact HO_8.out))) (Kd.R_lt (by (with_reducible repeat (first | apply Kd.R_alloc | apply Kd.R_drewN | apply Kd.R_drew)); exact HO_10.out))) (below_size (by repeat (first | (with_reducible first | exact HB.out | apply below_alloc | apply pw_below_drewN | apply below_drew1) | exact HB.out)))); have n4_ := Aside0.mk (below_step (by repeat (first | (with_reducible first | exact HB.out | apply below_alloc | apply pw_below_drewN | apply below_drew1) | exact HB.out)) hb); clear HO_3; clear HO_8; clear HO_10; clear HB; have HO_3 := n0_; have HO_8 := n1_; have HO_10 := n2_; have HO329 := n3_; have HB := n4_; clear n0_ n1_ n2_ n3_ n4_; (try clear hb); (try clear hb2); (try clear hk); (try clear hi); (try clear ho0); obtain ⟨Ao29, co29, eo29⟩ := Kd.R_slice HO329.out; subst eo29) | (go_at_call 24; (with_reducible refine (duetref01_Same.calls kj7 _ _ t311 _ _ t327 true _ ?side1 ?side2 ?side3 ?side4 A23.out).mono ?_); (case side1 => repeat (first | exact (Kd.R_reads' HO_3.out).2.2 | (with_reducible refine Kd.C_alloc ?_ _) | (with_reducible refine Kd.C_drewN ?_ _) | (with_reducible refine Kd.C_drew ?_))); (case side2 => exact (Kd.R_reads' HO_3.out).2.1); (case side3 => repeat (first | exact (Kd.R_reads' HO329.out).2.2 | (with_reducible refine Kd.C_alloc ?_ _) | (with_reducible refine Kd.C_drewN ?_ _) | (with_reducible refine Kd.C_drew ?_))); (case side4 => exact (Kd.R_reads' HO329.out).2.1); rintro e w' ⟨rfl, ⟨nd, rfl⟩⟩) | (go_at_call 15; (with_reducible refine (duetlaw06_live.calls  t331 _ A25.out).mono ?_); rintro e w30 ⟨rfl, hb⟩; have n0_ := Aside0.mk (Kd.R_below (by (with_reducible repeat (first | apply Kd.R_alloc | apply Kd.R_drewN | apply Kd.R_drew)); exact HO_3.out) hb); have n1_ := Aside0.mk (Kd.R_below (by (with_reducible repeat (first | apply Kd.R_alloc | apply Kd.R_drewN | apply Kd.R_drew)); exact HO_8.out) hb); have n2_ := Aside0.mk (Kd.R_below (by (with_reducible repeat (first | apply Kd.R_alloc | apply Kd.R_drewN | apply Kd.R_drew)); exact HO_10.out) hb); have n3_ := Aside0.mk (Kd.R_below (by (with_reducible repeat (first | apply Kd.R_alloc | apply Kd.R_drewN | apply Kd.R_drew)); exact HO329.out) hb); have n4_ := Aside0.mk (below_step (by repeat (first | (with_reducible first | exact HB.out | apply below_alloc | apply pw_below_drewN | apply below_drew1) | exact HB.out)) hb); clear HO_3; clear HO_8; clear HO_10; clear HO329; clear HB; have HO_3 := n0_; have HO_8 := n1_; have HO_10 := n2_; have HO329 := n3_; have HB := n4_; clear n0_ n1_ n2_ n3_ n4_; (try clear hb); (try clear hb2); (try clear hk); (try clear hi)))
                  go_ret
                  exact ⟨by first | rfl | (simp [errW_none, errW_some] <;> rfl) | (simp [*, errW_none, errW_some] <;> rfl), by repeat (first | (with_reducible first | exact HB.out | apply below_alloc | apply pw_below_drewN | apply below_drew1) | exact HB.out)⟩
                · replace c24 := Bool.eq_false_iff.mpr c24
                  subst c24
                  have H1 : (none) = some r := by rw [if_neg (show ¬ (false = true) by decide)] at H; exact H
                  clear H
                  have H := H1
                  clear H1
                  exact absurd H (by simp)
              · replace c21 := Bool.eq_false_iff.mpr c21
                subst c21
                have H1 : (none) = some r := by rw [if_neg (show ¬ (false = true) by decide)] at H; exact H
                clear H
                have H := H1
                clear H1
                exact absurd H (by simp)
            · replace c19 := Bool.eq_false_iff.mpr c19
              subst c19
              have H1 : (none) = some r := by rw [if_neg (show ¬ (false = true) by decide)] at H; exact H
              clear H
              have H := H1
              clear H1
              exact absurd H (by simp)
          · rw [if_neg c17] at H
            have c17b0 : (t315 == 1) = false := beq_eq_false_iff_ne.mpr c17
            have c17b1 : (t315 != 1) = true := bne_iff_ne.mpr c17
            by_cases c31 : t315 = 0
            · rw [if_pos c31] at H
              have c31b0 : (t315 == 0) = true := beq_iff_eq.mpr c31
              have c31b1 : (t315 != 0) = false := bne_eq_false_iff_eq.mpr c31
              clear c31
              replace H := Option.bind_eq_some_iff.mp H
              obtain ⟨t332, A320, H⟩ := H
              replace H : (if t332 = true then ((duetref01_Same.f kj7 t317 l0).bind fun t333 => (if t333 = true then ((duetref01_Same.f kj7 t321 t311).bind fun t334 => (if t334 = true then ((duetref06_Zero.f kj7 (l0.length : Int)).bind fun t335 => ((duetref01_Same.f kj7 t311 t335).bind fun t338 => (if t338 = true then ((duetlaw06_live.f).bind fun t339 => (some t339)) else (none)))) else (none))) else (none))) else (none)) = some r := H
              have A32 := Aside0.mk A320
              clear A320
              by_cases c33 : t332 = true
              · subst c33
                have H1 : ((duetref01_Same.f kj7 t317 l0).bind fun t333 => (if t333 = true then ((duetref01_Same.f kj7 t321 t311).bind fun t334 => (if t334 = true then ((duetref06_Zero.f kj7 (l0.length : Int)).bind fun t335 => ((duetref01_Same.f kj7 t311 t335).bind fun t338 => (if t338 = true then ((duetlaw06_live.f).bind fun t339 => (some t339)) else (none)))) else (none))) else (none))) = some r := by rw [if_pos rfl] at H; exact H
                clear H
                have H := H1
                clear H1
                replace H := Option.bind_eq_some_iff.mp H
                obtain ⟨t333, A340, H⟩ := H
                replace H : (if t333 = true then ((duetref01_Same.f kj7 t321 t311).bind fun t334 => (if t334 = true then ((duetref06_Zero.f kj7 (l0.length : Int)).bind fun t335 => ((duetref01_Same.f kj7 t311 t335).bind fun t338 => (if t338 = true then ((duetlaw06_live.f).bind fun t339 => (some t339)) else (none)))) else (none))) else (none)) = some r := H
                have A34 := Aside0.mk A340
                clear A340
                by_cases c35 : t333 = true
                · subst c35
                  have H1 : ((duetref01_Same.f kj7 t321 t311).bind fun t334 => (if t334 = true then ((duetref06_Zero.f kj7 (l0.length : Int)).bind fun t335 => ((duetref01_Same.f kj7 t311 t335).bind fun t338 => (if t338 = true then ((duetlaw06_live.f).bind fun t339 => (some t339)) else (none)))) else (none))) = some r := by rw [if_pos rfl] at H; exact H
                  clear H
                  have H := H1
                  clear H1
                  replace H := Option.bind_eq_some_iff.mp H
                  obtain ⟨t334, A360, H⟩ := H
                  replace H : (if t334 = true then ((duetref06_Zero.f kj7 (l0.length : Int)).bind fun t335 => ((duetref01_Same.f kj7 t311 t335).bind fun t338 => (if t338 = true then ((duetlaw06_live.f).bind fun t339 => (some t339)) else (none)))) else (none)) = some r := H
                  have A36 := Aside0.mk A360
                  clear A360
                  by_cases c37 : t334 = true
                  · subst c37
                    have H1 : ((duetref06_Zero.f kj7 (l0.length : Int)).bind fun t335 => ((duetref01_Same.f kj7 t311 t335).bind fun t338 => (if t338 = true then ((duetlaw06_live.f).bind fun t339 => (some t339)) else (none)))) = some r := by rw [if_pos rfl] at H; exact H
                    clear H
                    have H := H1
                    clear H1
                    replace H := Option.bind_eq_some_iff.mp H
                    obtain ⟨t335, A380, H⟩ := H
                    replace H : ((duetref01_Same.f kj7 t311 t335).bind fun t338 => (if t338 = true then ((duetlaw06_live.f).bind fun t339 => (some t339)) else (none))) = some r := H
                    have A38 := Aside0.mk A380
                    clear A380
                    replace H := Option.bind_eq_some_iff.mp H
                    obtain ⟨t338, A390, H⟩ := H
                    replace H : (if t338 = true then ((duetlaw06_live.f).bind fun t339 => (some t339)) else (none)) = some r := H
                    have A39 := Aside0.mk A390
                    clear A390
                    by_cases c40 : t338 = true
                    · subst c40
                      have H1 : ((duetlaw06_live.f).bind fun t339 => (some t339)) = some r := by rw [if_pos rfl] at H; exact H
                      clear H
                      have H := H1
                      clear H1
                      replace H := Option.bind_eq_some_iff.mp H
                      obtain ⟨t339, A410, H⟩ := H
                      replace H : (some t339) = some r := H
                      have A41 := Aside0.mk A410
                      clear A410
                      obtain rfl := Option.some.inj H
                      go_wp2_with (first | (go_at_call 24; (with_reducible refine (duetref01_Same.calls kj7 _ _ l0 _ _ t311 true _ ?side1 ?side2 ?side3 ?side4 A32.out).mono ?_); (case side1 => repeat (first | exact (Kd.C_below HR0.out HB.out) | (with_reducible refine Kd.C_alloc ?_ _) | (with_reducible refine Kd.C_drewN ?_ _) | (with_reducible refine Kd.C_drew ?_))); (case side2 => exact HC0.out); (case side3 => repeat (first | exact (Kd.R_reads' HO_3.out).2.2 | (with_reducible refine Kd.C_alloc ?_ _) | (with_reducible refine Kd.C_drewN ?_ _) | (with_reducible refine Kd.C_drew ?_))); (case side4 => exact (Kd.R_reads' HO_3.out).2.1); rintro e w' ⟨rfl, ⟨nd, rfl⟩⟩; obtain ⟨Ao42, co42, eo42⟩ := Kd.R_slice HO_8.out; subst eo42) | (go_at_call 24; (with_reducible refine (duetref01_Same.calls kj7 _ _ t317 _ _ l0 true _ ?side1 ?side2 ?side3 ?side4 A34.out).mono ?_); (case side1 => repeat (first | exact (Kd.R_reads' HO_8.out).2.2 | (with_reducible refine Kd.C_alloc ?_ _) | (with_reducible refine Kd.C_drewN ?_ _) | (with_reducible refine Kd.C_drew ?_))); (case side2 => exact (Kd.R_reads' HO_8.out).2.1); (case side3 => repeat (first | exact (Kd.C_below HR0.out (by repeat (first | (with_reducible first | exact HB.out | apply below_alloc | apply pw_below_drewN | apply below_drew1) | exact HB.out))) | (with_reducible refine Kd.C_alloc ?_ _) | (with_reducible refine Kd.C_drewN ?_ _) | (with_reducible refine Kd.C_drew ?_))); (case side4 => exact HC0.out); rintro e w' ⟨rfl, ⟨nd, rfl⟩⟩; obtain ⟨Ao43, co43, eo43⟩ := Kd.R_slice HO_10.out; subst eo43) | (go_at_call 24; (with_reducible refine (duetref01_Same.calls kj7 _ _ t321 _ _ t311 true _ ?side1 ?side2 ?side3 ?side4 A36.out).mono ?_); (case side1 => repeat (first | exact (Kd.R_reads' HO_10.out).2.2 | (with_reducible refine Kd.C_alloc ?_ _) | (with_reducible refine Kd.C_drewN ?_ _) | (with_reducible refine Kd.C_drew ?_))); (case side2 => exact (Kd.R_reads' HO_10.out).2.1); (case side3 => repeat (first | exact (Kd.R_reads' HO_3.out).2.2 | (with_reducible refine Kd.C_alloc ?_ _) | (with_reducible refine Kd.C_drewN ?_ _) | (with_reducible refine Kd.C_drew ?_))); (case side4 => exact (Kd.R_reads' HO_3.out).2.1); rintro e w' ⟨rfl, ⟨nd, rfl⟩⟩) | (go_at_call 32; (with_reducible refine (duetref06_Zero.calls kj7 (l0.length : Int) t335 _ A38.out).mono ?_); rintro e w44 ⟨v336, rfl, ho0, hb⟩; have n0_ := Aside0.mk (Kd.R_elder' (by (with_reducible repeat (first | apply Kd.R_alloc | apply Kd.R_drewN | apply Kd.R_drew)); exact HO_3.out) (Kd.R_base ho0) hb); have n1_ := Aside0.mk (Kd.R_elder' (by (with_reducible repeat (first | apply Kd.R_alloc | apply Kd.R_drewN | apply Kd.R_drew)); exact HO_8.out) (Kd.R_base ho0) hb); have n2_ := Aside0.mk (Kd.R_elder' (by (with_reducible repeat (first | apply Kd.R_alloc | apply Kd.R_drewN | apply Kd.R_drew)); exact HO_10.out) (Kd.R_base ho0) hb); have n3_ := Aside0.mk (Kd.R_lower (Kd.R_new' (Kd.R_new' (Kd.R_new' ho0 (Kd.R_lt (by (with_reducible repeat (first | apply Kd.R_alloc | apply Kd.R_drewN | apply Kd.R_drew)); exact HO_3.out))) (Kd.R_lt (by (with_reducible repeat (first | apply Kd.R_alloc | apply Kd.R_drewN | apply Kd.R_drew)); exact HO_8.out))) (Kd.R_lt (by (with_reducible repeat (first | apply Kd.R_alloc | apply Kd.R_drewN | apply Kd.R_drew)); exact HO_10.out))) (below_size (by repeat (first | (with_reducible first | exact HB.out | apply below_alloc | apply pw_below_drewN | apply below_drew1) | exact HB.out)))); have n4_ := Aside0.mk (below_step (by repeat (first | (with_reducible first | exact HB.out | apply below_alloc | apply pw_below_drewN | apply below_drew1) | exact HB.out)) hb); clear HO_3; clear HO_8; clear HO_10; clear HB; have HO_3 := n0_; have HO_8 := n1_; have HO_10 := n2_; have HO337 := n3_; have HB := n4_; clear n0_ n1_ n2_ n3_ n4_; (try clear hb); (try clear hb2); (try clear hk); (try clear hi); (try clear ho0); obtain ⟨Ao45, co45, eo45⟩ := Kd.R_slice HO337.out; subst eo45) | (go_at_call 24; (with_reducible refine (duetref01_Same.calls kj7 _ _ t311 _ _ t335 true _ ?side1 ?side2 ?side3 ?side4 A39.out).mono ?_); (case side1 => repeat (first | exact (Kd.R_reads' HO_3.out).2.2 | (with_reducible refine Kd.C_alloc ?_ _) | (with_reducible refine Kd.C_drewN ?_ _) | (with_reducible refine Kd.C_drew ?_))); (case side2 => exact (Kd.R_reads' HO_3.out).2.1); (case side3 => repeat (first | exact (Kd.R_reads' HO337.out).2.2 | (with_reducible refine Kd.C_alloc ?_ _) | (with_reducible refine Kd.C_drewN ?_ _) | (with_reducible refine Kd.C_drew ?_))); (case side4 => exact (Kd.R_reads' HO337.out).2.1); rintro e w' ⟨rfl, ⟨nd, rfl⟩⟩) | (go_at_call 15; (with_reducible refine (duetlaw06_live.calls  t339 _ A41.out).mono ?_); rintro e w46 ⟨rfl, hb⟩; have n0_ := Aside0.mk (Kd.R_below (by (with_reducible repeat (first | apply Kd.R_alloc | apply Kd.R_drewN | apply Kd.R_drew)); exact HO_3.out) hb); have n1_ := Aside0.mk (Kd.R_below (by (with_reducible repeat (first | apply Kd.R_alloc | apply Kd.R_drewN | apply Kd.R_drew)); exact HO_8.out) hb); have n2_ := Aside0.mk (Kd.R_below (by (with_reducible repeat (first | apply Kd.R_alloc | apply Kd.R_drewN | apply Kd.R_drew)); exact HO_10.out) hb); have n3_ := Aside0.mk (Kd.R_below (by (with_reducible repeat (first | apply Kd.R_alloc | apply Kd.R_drewN | apply Kd.R_drew)); exact HO337.out) hb); have n4_ := Aside0.mk (below_step (by repeat (first | (with_reducible first | exact HB.out | apply below_alloc | apply pw_below_drewN | apply below_drew1) | exact HB.out)) hb); clear HO_3; clear HO_8; clear HO_10; clear HO337; clear HB; have HO_3 := n0_; have HO_8 := n1_; have HO_10 := n2_; have HO337 := n3_; have HB := n4_; clear n0_ n1_ n2_ n3_ n4_; (try clear hb); (try clear hb2); (try clear hk); (try clear hi)))
                      go_ret
                      exact ⟨by first | rfl | (simp [errW_none, errW_some] <;> rfl) | (simp [*, errW_none, errW_some] <;> rfl), by repeat (first | (with_reducible first | exact HB.out | apply below_alloc | apply pw_below_drewN | apply below_drew1) | exact HB.out)⟩
                    · replace c40 := Bool.eq_false_iff.mpr c40
                      subst c40
                      have H1 : (none) = some r := by rw [if_neg (show ¬ (false = true) by decide)] at H; exact H
                      clear H
                      have H := H1
                      clear H1
                      exact absurd H (by simp)
                  · replace c37 := Bool.eq_false_iff.mpr c37
                    subst c37
                    have H1 : (none) = some r := by rw [if_neg (show ¬ (false = true) by decide)] at H; exact H
                    clear H
                    have H := H1
                    clear H1
                    exact absurd H (by simp)
                · replace c35 := Bool.eq_false_iff.mpr c35
                  subst c35
                  have H1 : (none) = some r := by rw [if_neg (show ¬ (false = true) by decide)] at H; exact H
                  clear H
                  have H := H1
                  clear H1
                  exact absurd H (by simp)
              · replace c33 := Bool.eq_false_iff.mpr c33
                subst c33
                have H1 : (none) = some r := by rw [if_neg (show ¬ (false = true) by decide)] at H; exact H
                clear H
                have H := H1
                clear H1
                exact absurd H (by simp)
            · rw [if_neg c31] at H
              exact absurd H (by simp)
  · replace c3 := Bool.eq_false_iff.mpr c3
    subst c3
    have H1 : ((duetlaw06_live.f).bind fun t310 => (some t310)) = some r := by rw [if_neg (show ¬ (false = true) by decide)] at H; exact H
    clear H
    have H := H1
    clear H1
    replace H := Option.bind_eq_some_iff.mp H
    obtain ⟨t310, A470, H⟩ := H
    replace H : (some t310) = some r := H
    have A47 := Aside0.mk A470
    clear A470
    obtain rfl := Option.some.inj H
    go_enter Try.func8, Try.ntmps8
    go_wp2_with (first | ((with_reducible refine gate_callee (f := 30) rfl ?_); refine goesL_ (some 13) rfl rfl Try.func30 (by kernel_rfl) rfl #[.slice A0 l0.length c0] rfl (by (try simp only [List.map_toArray, List.map_cons, List.map_nil]); first | done | rfl | (simp only [List.length_drop, List.length_take]; rfl)) ?_; (with_reducible refine (duetref06_May.calls k _ _ l0 false _ ?side1 ?side2 A2.out).mono ?_); (case side1 => repeat (first | exact HR0.out | (with_reducible refine Kd.C_alloc ?_ _) | (with_reducible refine Kd.C_drewN ?_ _) | (with_reducible refine Kd.C_drew ?_))); (case side2 => exact HC0.out); rintro e w' ⟨rfl, ⟨nd, rfl⟩⟩; refine ⟨_, rfl, ?_⟩) | ((with_reducible refine gate_callee (f := 15) rfl ?_); refine goesL_ (some 15) rfl rfl Try.func15 (by kernel_rfl) rfl #[] rfl (by (try simp only [List.map_toArray, List.map_cons, List.map_nil]); first | done | rfl | (simp only [List.length_drop, List.length_take]; rfl)) ?_; (with_reducible refine (duetlaw06_live.calls  t310 _ A47.out).mono ?_); rintro e w48 ⟨rfl, hb⟩; refine ⟨_, rfl, ?_⟩; have n0_ := Aside0.mk (below_step (by repeat (first | (with_reducible first | exact HB.out | apply below_alloc | apply pw_below_drewN | apply below_drew1) | exact HB.out)) hb); clear HB; have HB := n0_; clear n0_; (try clear hb); (try clear hb2); (try clear hk); (try clear hi)))
    go_ret
    exact ⟨by first | rfl | (simp [errW_none, errW_some] <;> rfl) | (simp [*, errW_none, errW_some] <;> rfl), by repeat (first | (with_reducible first | exact HB.out | apply below_alloc | apply pw_below_drewN | apply below_drew1) | exact HB.out)⟩

/-- THE ONE PURE STATEMENT of duetlaw06_VecZero: yours. -/
def duetlaw06_VecZero.Pure : Prop := ∀ (l0 : List Int), l0.length ≤ maxLen → l0.length * 8 ≤ 140737488351232 → (∀ x ∈ l0, (Lit.int .i64 x).wf = true) → ∃ k, duetlaw06_VecZero.f k l0 = some true
theorem duetlaw06_VecZero.walk (P : duetlaw06_VecZero.Pure) (a0 : Option Addr) (len0 cap0 : Nat) (z0 : List Int) (w : World) (w0 : (a0 = none ∧ len0 = 0 ∧ cap0 = 0 ∧ z0 = []) ∨ ∃ x, a0 = some x ∧ len0 ≤ cap0 ∧ cap0 ≤ maxLen ∧ z0.length = cap0 ∧ (∀ i, i < z0.length → w.cell? (x.add i) = some (.int .i64 (z0.getD i 0))) ∧ ∀ n ∈ z0, (Lit.int .i64 n).wf = true) (y0 : len0 * 8 ≤ 140737488351232) :
    Calls Try.prog 8 #[.slice a0 len0 cap0] w fun e w' => e = .returned (.bool true) ∧ Below w.heap.size w w' := by
  obtain ⟨l0, rfl, hr0, hm0, hw0, hc0⟩ := ReadsInt.ofRowC w0
  obtain ⟨k, h⟩ := P l0 hm0 y0 hw0
  refine (duetlaw06_VecZero.calls k _ _ l0 true w (Kd.C_of_reads (d := (0 : Int)) (h1 := fun _ => rfl) hr0) hc0 h).mono ?_
  rintro e w' ⟨rfl, hd⟩
  exact ⟨rfl, hd⟩
theorem duetlaw06_VecZero.at (k : Nat) (A0 : Option Addr) (c0 : Nat) (n0 : Nat) (l0 : List Int) (r : Bool) (w : World) (hr0 : Kd.C (Kd.int .i64) w A0 n0 l0) (hc0 : n0 ≤ c0) (h : duetlaw06_VecZero.f k l0 = some r) :
    Calls Try.prog 8 #[.slice A0 n0 c0] w fun e w' => e = .returned (.bool r) ∧ Below w.heap.size w w' := by
  obtain rfl : l0.length = n0 := Kd.C_len hr0
  exact duetlaw06_VecZero.calls k A0 c0 l0 r w hr0 hc0 h

end Go.Proofs.Ytpoigdkbblmpaaa.PVec
