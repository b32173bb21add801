/- Functions that the law reaches, each as a plain Lean function with the proof that the call does what it says. Conditions: none beyond those that each theorem states. Written by a program for this claim. -/
import Derived.Test.YtphdjpfdelpecaaGreatDoorPTopfx0
import Derived.Test.YtphdjpfdelpecaaGreatDoorPTopfx1
import Derived.Test.YtphdjpfdelpecaaGreatDoorPTopfx2
import Derived.Test.YtphdjpfdelpecaaGreatDoorPTopfx3
namespace Go.Proofs.YtphdjpfdelpecaaGreatDoor.PTopf
open Go.RowKit Go.Proofs.YtphdjpfdelpecaaGreatDoorW.PrintWords Go.Proofs.YtphdjpfdelpecaaGreatDoorW.PrintLast Go.Proofs.YtphdjpfdelpecaaGreatDoorW.PrintMore
attribute [local go_sem] max2_int min2_int max_two min_two max_three min_three max_four min_four   -- for this text's walks alone
set_option linter.unusedVariables false
set_option linter.unusedSimpArgs false
def mE.j0 : Nat → Bool → Bool → ByteArray → Int → Int → List Int → Int → Int → Int → Int → Int → Int → Int → Option (ByteArray × Int)
 | 0, _, _, _, _, _, _, _, _, _, _, _, _, _ => none
 | k + 1, x8, x9, x10, x148000, x148001, x148002, x148003, x148004, x148005, x148006, x148007, x148008, x148009 => if x8 = true then ((mN.f k (([x148007, x148008] : List Int))).bind fun t169 => (if x10.size + t169.size ≤ 9223372036854775807 then (if x9 = true then ((mN.f k (([x148009] : List Int))).bind fun t173 => (if (x10 ++ t169).size + t173.size ≤ 9223372036854775807 then (some ((x10 ++ t169) ++ t173, 0)) else (none))) else (some (x10 ++ t169, 0))) else (none))) else (if x9 = true then ((mN.f k (([x148009] : List Int))).bind fun t177 => (if x10.size + t177.size ≤ 9223372036854775807 then (some (x10 ++ t177, 0)) else (none))) else (some (x10, 0)))
def mE.f (k : Nat) (a0_0 : Int) (a0_1 : Int) (l0_2 : List Int) (a0_3 : Int) (a0_4 : Int) (a0_5 : Int) (a0_6 : Int) (a0_7 : Int) (a0_8 : Int) (a0_9 : Int) : Option (ByteArray × Int) := (mC.f a0_0 a0_1 l0_2 a0_3 a0_4 a0_5 a0_6 a0_7 a0_8 a0_9).bind fun t148 => (if t148 = 0 then ((pack_List.f l0_2).bind fun bt149 => ((mesg_has.f a0_3).bind fun bt151 => ((mN.f k (([a0_0, a0_1] : List Int))).bind fun t157 => (if t157.size + bt149.1.size ≤ 9223372036854775807 then ((mN.f k (([a0_3, a0_4] : List Int))).bind fun t161 => (if (t157 ++ bt149.1).size + t161.size ≤ 9223372036854775807 then (if bt151.1 = true then ((mN.f k (([a0_5, a0_6] : List Int))).bind fun t165 => (if ((t157 ++ bt149.1) ++ t161).size + t165.size ≤ 9223372036854775807 then (mE.j0 k bt151.2.1 bt151.2.2 (((t157 ++ bt149.1) ++ t161) ++ t165) a0_0 a0_1 l0_2 a0_3 a0_4 a0_5 a0_6 a0_7 a0_8 a0_9) else (none))) else (mE.j0 k bt151.2.1 bt151.2.2 ((t157 ++ bt149.1) ++ t161) a0_0 a0_1 l0_2 a0_3 a0_4 a0_5 a0_6 a0_7 a0_8 a0_9)) else (none))) else (none))))) else (some ((⟨#[]⟩ : ByteArray), t148)))
theorem mE.mono_l : ∀ k, (∀ y0 y1 y2 y3 y4 y5 y6 y7 y8 y9 y10 y11 y12, LeO (mE.j0 k y0 y1 y2 y3 y4 y5 y6 y7 y8 y9 y10 y11 y12) (mE.j0 (k + 1) y0 y1 y2 y3 y4 y5 y6 y7 y8 y9 y10 y11 y12))
 | 0 => fun _ _ _ _ _ _ _ _ _ _ _ _ _ r h => by simp [mE.j0] at h
 | k + 1 => by
  have ih0 := mE.mono_l k
  ·intro y0 y1 y2 y3 y4 y5 y6 y7 y8 y9 y10 y11 y12
   unfold mE.j0
   repeat' first
   | (with_reducible exact ih0 _ _ _ _ _ _ _ _ _ _ _ _ _)
   | (with_reducible exact mN.mono _ _)
   | (with_reducible exact LeO.refl _)
   | (with_reducible exact LeO.none _)
   | (with_reducible refine LeO.ite ?_ ?_)
   | (with_reducible refine LeO.bind ?_ (fun _ => ?_))
   | exact ih0 _ _ _ _ _ _ _ _ _ _ _ _ _
   | exact mN.mono _ _
   | exact LeO.none _
   | refine LeO.ite ?_ ?_
   | refine LeO.bind ?_ (fun _ => ?_)
theorem mE.mono : ∀ a0 a1 a2 a3 a4 a5 a6 a7 a8 a9 k, LeO (mE.f k a0 a1 a2 a3 a4 a5 a6 a7 a8 a9) (mE.f (k + 1) a0 a1 a2 a3 a4 a5 a6 a7 a8 a9) := by
 intro a0 a1 a2 a3 a4 a5 a6 a7 a8 a9 k
 have ih0 := mE.mono_l k
 unfold mE.f
 repeat' first
   | (with_reducible exact ih0 _ _ _ _ _ _ _ _ _ _ _ _ _)
   | (with_reducible exact mN.mono _ _)
   | (with_reducible exact LeO.refl _)
   | (with_reducible exact LeO.none _)
   | (with_reducible refine LeO.ite ?_ ?_)
   | (with_reducible refine LeO.bind ?_ (fun _ => ?_))
   | exact ih0 _ _ _ _ _ _ _ _ _ _ _ _ _
   | exact mN.mono _ _
   | exact LeO.none _
   | refine LeO.ite ?_ ?_
   | refine LeO.bind ?_ (fun _ => ?_)
def mE.T6 : Bool × List (List Nat × List Nat) := (true, [([], []), ([0], [0]), ([], []), ([2], [2]), ([1, 3], [1, 3]), ([4], [4]), ([], []), ([5, 6], [5, 6]), ([], []), ([8], [8]), ([9], [9]), ([], []), ([11], [11]), ([12], [12]), ([10, 13], [10, 13]), ([14, 5], [14]), ([7, 15], [7, 15]), ([16, 15, 0, 1, 2, 3, 4, 5, 6, 7, 8, 9, 10, 11, 12, 13, 14, 15, 16], [16])])
def mE.B6 : List Nat := [0, 1, 0, 4, 15, 31, 0, 127, 0, 256, 768, 0, 2048, 6144, 16128, 32575, 65535, 131071]
theorem mE.tab6 : rtab .any (opsOf Tryz.f19 6) = mE.T6 := by kernel_rfl
theorem mE.bits6 : waitsOk mE.T6.2 mE.B6 = true := by kernel_rfl
set_option maxHeartbeats 8000000 in
set_option maxRecDepth 100000 in
theorem mE.calls (k : Nat) (a0_0 : Int) (a0_1 : Int) (A0_2 : Option Addr) (c0_2 : Nat) (l0_2 : List Int) (a0_3 : Int) (a0_4 : Int) (a0_5 : Int) (a0_6 : Int) (a0_7 : Int) (a0_8 : Int) (a0_9 : Int) (r1 : ByteArray) (r2 : Int) (w : World) (hr0_2 : Kd.C (Kd.int .i64) w A0_2 l0_2.length l0_2) (hc0_2 : l0_2.length ≤ c0_2) (h : mE.f k a0_0 a0_1 l0_2 a0_3 a0_4 a0_5 a0_6 a0_7 a0_8 a0_9 = some (r1, r2)) :
  Calls Tryz.prog 19 #[.agg #[.int .i64 a0_0, .int .i64 a0_1, .slice A0_2 l0_2.length c0_2, .int .i64 a0_3, .int .i64 a0_4, .int .i64 a0_5, .int .i64 a0_6, .int .i64 a0_7, .int .i64 a0_8, .int .i64 a0_9]] w fun e w' => e = .returned (.tuple #[.string r1, .int .i64 r2]) ∧ Below w.heap.size w w' := by
 have hu56 := Tryz.underlying56
 have HR0_2 := Aside0.mk hr0_2
 have HC0_2 := Aside0.mk hc0_2
 clear hr0_2 hc0_2
 have HB := Aside0.mk (Below.refl w.heap.size w)
 have H : ((mC.f a0_0 a0_1 l0_2 a0_3 a0_4 a0_5 a0_6 a0_7 a0_8 a0_9).bind fun t148 => (if t148 = 0 then ((pack_List.f l0_2).bind fun bt149 => ((mesg_has.f a0_3).bind fun bt151 => ((mN.f k (([a0_0, a0_1] : List Int))).bind fun t157 => (if t157.size + bt149.1.size ≤ 9223372036854775807 then ((mN.f k (([a0_3, a0_4] : List Int))).bind fun t161 => (if (t157 ++ bt149.1).size + t161.size ≤ 9223372036854775807 then (if bt151.1 = true then ((mN.f k (([a0_5, a0_6] : List Int))).bind fun t165 => (if ((t157 ++ bt149.1) ++ t161).size + t165.size ≤ 9223372036854775807 then (mE.j0 k bt151.2.1 bt151.2.2 (((t157 ++ bt149.1) ++ t161) ++ t165) a0_0 a0_1 l0_2 a0_3 a0_4 a0_5 a0_6 a0_7 a0_8 a0_9) else (none))) else (mE.j0 k bt151.2.1 bt151.2.2 ((t157 ++ bt149.1) ++ t161) a0_0 a0_1 l0_2 a0_3 a0_4 a0_5 a0_6 a0_7 a0_8 a0_9)) else (none))) else (none))))) else (some ((⟨#[]⟩ : ByteArray), t148)))) = some (r1, r2) := h
 clear h
 replace H := Option.bind_eq_some_iff.mp H
 obtain ⟨t148, A20, H⟩ := H
 replace H : (if t148 = 0 then ((pack_List.f l0_2).bind fun bt149 => ((mesg_has.f a0_3).bind fun bt151 => ((mN.f k (([a0_0, a0_1] : List Int))).bind fun t157 => (if t157.size + bt149.1.size ≤ 9223372036854775807 then ((mN.f k (([a0_3, a0_4] : List Int))).bind fun t161 => (if (t157 ++ bt149.1).size + t161.size ≤ 9223372036854775807 then (if bt151.1 = true then ((mN.f k (([a0_5, a0_6] : List Int))).bind fun t165 => (if ((t157 ++ bt149.1) ++ t161).size + t165.size ≤ 9223372036854775807 then (mE.j0 k bt151.2.1 bt151.2.2 (((t157 ++ bt149.1) ++ t161) ++ t165) a0_0 a0_1 l0_2 a0_3 a0_4 a0_5 a0_6 a0_7 a0_8 a0_9) else (none))) else (mE.j0 k bt151.2.1 bt151.2.2 ((t157 ++ bt149.1) ++ t161) a0_0 a0_1 l0_2 a0_3 a0_4 a0_5 a0_6 a0_7 a0_8 a0_9)) else (none))) else (none))))) else (some ((⟨#[]⟩ : ByteArray), t148))) = some (r1, r2) := H
 have A2 := Aside0.mk A20
 clear A20
 by_cases c3 : t148 = 0
 ·rw [if_pos c3] at H
  have c3b0 : (t148 == 0) = true := beq_iff_eq.mpr c3
  have c3b1 : (t148 != 0) = false := bne_eq_false_iff_eq.mpr c3
  clear c3
  replace H := Option.bind_eq_some_iff.mp H
  obtain ⟨⟨t149, t150⟩, A40, H⟩ := H
  replace H : ((mesg_has.f a0_3).bind fun bt151 => ((mN.f k (([a0_0, a0_1] : List Int))).bind fun t157 => (if t157.size + t149.size ≤ 9223372036854775807 then ((mN.f k (([a0_3, a0_4] : List Int))).bind fun t161 => (if (t157 ++ t149).size + t161.size ≤ 9223372036854775807 then (if bt151.1 = true then ((mN.f k (([a0_5, a0_6] : List Int))).bind fun t165 => (if ((t157 ++ t149) ++ t161).size + t165.size ≤ 9223372036854775807 then (mE.j0 k bt151.2.1 bt151.2.2 (((t157 ++ t149) ++ t161) ++ t165) a0_0 a0_1 l0_2 a0_3 a0_4 a0_5 a0_6 a0_7 a0_8 a0_9) else (none))) else (mE.j0 k bt151.2.1 bt151.2.2 ((t157 ++ t149) ++ t161) a0_0 a0_1 l0_2 a0_3 a0_4 a0_5 a0_6 a0_7 a0_8 a0_9)) else (none))) else (none)))) = some (r1, r2) := H
  have A4 := Aside0.mk A40
  clear A40
  replace H := Option.bind_eq_some_iff.mp H
  obtain ⟨⟨t151, t152, t153⟩, A50, H⟩ := H
  replace H : ((mN.f k (([a0_0, a0_1] : List Int))).bind fun t157 => (if t157.size + t149.size ≤ 9223372036854775807 then ((mN.f k (([a0_3, a0_4] : List Int))).bind fun t161 => (if (t157 ++ t149).size + t161.size ≤ 9223372036854775807 then (if t151 = true then ((mN.f k (([a0_5, a0_6] : List Int))).bind fun t165 => (if ((t157 ++ t149) ++ t161).size + t165.size ≤ 9223372036854775807 then (mE.j0 k t152 t153 (((t157 ++ t149) ++ t161) ++ t165) a0_0 a0_1 l0_2 a0_3 a0_4 a0_5 a0_6 a0_7 a0_8 a0_9) else (none))) else (mE.j0 k t152 t153 ((t157 ++ t149) ++ t161) a0_0 a0_1 l0_2 a0_3 a0_4 a0_5 a0_6 a0_7 a0_8 a0_9)) else (none))) else (none))) = some (r1, r2) := H
  have A5 := Aside0.mk A50
  clear A50
  obtain ⟨y154, hy154⟩ : ∃ y_ : List Int, y_ = (([a0_0, a0_1] : List Int)) := ⟨_, rfl⟩
  replace H : ((mN.f k y154).bind fun t157 => (if t157.size + t149.size ≤ 9223372036854775807 then ((mN.f k (([a0_3, a0_4] : List Int))).bind fun t161 => (if (t157 ++ t149).size + t161.size ≤ 9223372036854775807 then (if t151 = true then ((mN.f k (([a0_5, a0_6] : List Int))).bind fun t165 => (if ((t157 ++ t149) ++ t161).size + t165.size ≤ 9223372036854775807 then (mE.j0 k t152 t153 (((t157 ++ t149) ++ t161) ++ t165) a0_0 a0_1 l0_2 a0_3 a0_4 a0_5 a0_6 a0_7 a0_8 a0_9) else (none))) else (mE.j0 k t152 t153 ((t157 ++ t149) ++ t161) a0_0 a0_1 l0_2 a0_3 a0_4 a0_5 a0_6 a0_7 a0_8 a0_9)) else (none))) else (none))) = some (r1, r2) := by first | (rw [hy154]; with_reducible exact H) | (have H2_ := (Option.bind_some _ _).symm.trans H; rw [hy154]; with_reducible exact H2_) | (have H2_ := (Option.bind_some _ _).symm.trans H; with_reducible exact H2_) | with_reducible exact H | (rw [hy154]; exact H) | exact H
  have Ny154 := Aside0.mk hy154
  clear hy154
  replace H := Option.bind_eq_some_iff.mp H
  obtain ⟨t157, A60, H⟩ := H
  replace H : (if t157.size + t149.size ≤ 9223372036854775807 then ((mN.f k (([a0_3, a0_4] : List Int))).bind fun t161 => (if (t157 ++ t149).size + t161.size ≤ 9223372036854775807 then (if t151 = true then ((mN.f k (([a0_5, a0_6] : List Int))).bind fun t165 => (if ((t157 ++ t149) ++ t161).size + t165.size ≤ 9223372036854775807 then (mE.j0 k t152 t153 (((t157 ++ t149) ++ t161) ++ t165) a0_0 a0_1 l0_2 a0_3 a0_4 a0_5 a0_6 a0_7 a0_8 a0_9) else (none))) else (mE.j0 k t152 t153 ((t157 ++ t149) ++ t161) a0_0 a0_1 l0_2 a0_3 a0_4 a0_5 a0_6 a0_7 a0_8 a0_9)) else (none))) else (none)) = some (r1, r2) := H
  have A6 := Aside0.mk A60
  clear A60
  by_cases c7 : t157.size + t149.size ≤ 9223372036854775807
  ·rw [if_pos c7] at H
   have c7b0 := eq_true c7
   have c7b1 : decide (t157.size + t149.size ≤ 9223372036854775807) = true := decide_eq_true c7
   try have c7b2 : (9223372036854775807 < t157.size + t149.size) = False := eq_false (Nat.not_lt.2 c7)
   obtain ⟨y158, hy158⟩ : ∃ y_ : List Int, y_ = (([a0_3, a0_4] : List Int)) := ⟨_, rfl⟩
   replace H : ((mN.f k y158).bind fun t161 => (if (t157 ++ t149).size + t161.size ≤ 9223372036854775807 then (if t151 = true then ((mN.f k (([a0_5, a0_6] : List Int))).bind fun t165 => (if ((t157 ++ t149) ++ t161).size + t165.size ≤ 9223372036854775807 then (mE.j0 k t152 t153 (((t157 ++ t149) ++ t161) ++ t165) a0_0 a0_1 l0_2 a0_3 a0_4 a0_5 a0_6 a0_7 a0_8 a0_9) else (none))) else (mE.j0 k t152 t153 ((t157 ++ t149) ++ t161) a0_0 a0_1 l0_2 a0_3 a0_4 a0_5 a0_6 a0_7 a0_8 a0_9)) else (none))) = some (r1, r2) := by first | (rw [hy158]; with_reducible exact H) | (have H2_ := (Option.bind_some _ _).symm.trans H; rw [hy158]; with_reducible exact H2_) | (have H2_ := (Option.bind_some _ _).symm.trans H; with_reducible exact H2_) | with_reducible exact H | (rw [hy158]; exact H) | exact H
   have Ny158 := Aside0.mk hy158
   clear hy158
   replace H := Option.bind_eq_some_iff.mp H
   obtain ⟨t161, A80, H⟩ := H
   replace H : (if (t157 ++ t149).size + t161.size ≤ 9223372036854775807 then (if t151 = true then ((mN.f k (([a0_5, a0_6] : List Int))).bind fun t165 => (if ((t157 ++ t149) ++ t161).size + t165.size ≤ 9223372036854775807 then (mE.j0 k t152 t153 (((t157 ++ t149) ++ t161) ++ t165) a0_0 a0_1 l0_2 a0_3 a0_4 a0_5 a0_6 a0_7 a0_8 a0_9) else (none))) else (mE.j0 k t152 t153 ((t157 ++ t149) ++ t161) a0_0 a0_1 l0_2 a0_3 a0_4 a0_5 a0_6 a0_7 a0_8 a0_9)) else (none)) = some (r1, r2) := H
   have A8 := Aside0.mk A80
   clear A80
   by_cases c9 : (t157 ++ t149).size + t161.size ≤ 9223372036854775807
   ·rw [if_pos c9] at H
    have c9b0 := eq_true c9
    have c9b1 : decide ((t157 ++ t149).size + t161.size ≤ 9223372036854775807) = true := decide_eq_true c9
    try have c9b2 : (9223372036854775807 < (t157 ++ t149).size + t161.size) = False := eq_false (Nat.not_lt.2 c9)
    have c9x : t157.size + t149.size + t161.size ≤ 9223372036854775807 := by have hx_ := of_decide_eq_true c9b1; simp only [ByteArray.size_append] at hx_; omega
    have c9b3 := eq_true c9x
    have c9b4 : decide (t157.size + t149.size + t161.size ≤ 9223372036854775807) = true := decide_eq_true c9x
    have c9b5 : (9223372036854775807 < t157.size + t149.size + t161.size) = False := eq_false (Nat.not_lt.2 c9x)
    clear c9x
    have HC10 := Aside0.mk H
    clear H
    go_enter Tryz.func19, Tryz.ntmps19
    try go_wp2_with (first | ((with_reducible refine gate_dst (N := 1) rfl ?_); refine box_event ?hg (N := 1) ?hd (cs := #[.int .i64 a0_0, .int .i64 a0_1, .slice A0_2 l0_2.length c0_2, .int .i64 a0_3, .int .i64 a0_4, .int .i64 a0_5, .int .i64 a0_6, .int .i64 a0_7, .int .i64 a0_8, .int .i64 a0_9]) (t := 56) ?hr ?_; (case hd => rfl); (case hg => rfl); (case hr => first | (go_simp; done) | (go_simp; rfl)); intro gb147 hg w11 hbox hb; have n0_ := Aside0.mk (below_step (by repeat (first | (with_reducible first | exact HB.out | apply below_alloc | apply pw_below_drewN | apply below_drew1) | exact HB.out)) hb); have n1_ := Aside0.mk (hbox); have n2_ := Aside0.mk ((by rw [hg]; exact (below_size (by repeat (first | (with_reducible first | exact HB.out | apply below_alloc | apply pw_below_drewN | apply below_drew1) | exact HB.out))) : w.heap.size ≤ gb147)); have n3_ := Aside0.mk ((by rw [hg]; exact (below_size (by repeat (first | (with_reducible first | exact HB.out | apply below_alloc | apply pw_below_drewN | apply below_drew1) | exact HB.out))) : w.heap.size ≤ gb147)); clear HB; have HB := n0_; have BK147 := n1_; have GW147 := n2_; have GE147 := n3_; clear n0_ n1_ n2_ n3_; clear hb hbox hg; have hcz12_0 : w11.cell? ⟨gb147, 0, none⟩ = some (.int .i64 a0_0) := (blk_cell BK147.out 0).trans rfl; have hcz12_1 : w11.cell? ⟨gb147, 1, none⟩ = some (.int .i64 a0_1) := (blk_cell BK147.out 1).trans rfl; have hcz12_2 : w11.cell? ⟨gb147, 2, none⟩ = some (.slice A0_2 l0_2.length c0_2) := (blk_cell BK147.out 2).trans rfl; have hcz12_3 : w11.cell? ⟨gb147, 3, none⟩ = some (.int .i64 a0_3) := (blk_cell BK147.out 3).trans rfl; have hcz12_4 : w11.cell? ⟨gb147, 4, none⟩ = some (.int .i64 a0_4) := (blk_cell BK147.out 4).trans rfl; have hcz12_5 : w11.cell? ⟨gb147, 5, none⟩ = some (.int .i64 a0_5) := (blk_cell BK147.out 5).trans rfl; have hcz12_6 : w11.cell? ⟨gb147, 6, none⟩ = some (.int .i64 a0_6) := (blk_cell BK147.out 6).trans rfl; have hcz12_7 : w11.cell? ⟨gb147, 7, none⟩ = some (.int .i64 a0_7) := (blk_cell BK147.out 7).trans rfl; have hcz12_8 : w11.cell? ⟨gb147, 8, none⟩ = some (.int .i64 a0_8) := (blk_cell BK147.out 8).trans rfl; have hcz12_9 : w11.cell? ⟨gb147, 9, none⟩ = some (.int .i64 a0_9) := (blk_cell BK147.out 9).trans rfl; have hfz12_0 := blk_frozen BK147.out 0; have hfz12_1 := blk_frozen BK147.out 1; have hfz12_2 := blk_frozen BK147.out 2; have hfz12_3 := blk_frozen BK147.out 3; have hfz12_4 := blk_frozen BK147.out 4; have hfz12_5 := blk_frozen BK147.out 5; have hfz12_6 := blk_frozen BK147.out 6; have hfz12_7 := blk_frozen BK147.out 7; have hfz12_8 := blk_frozen BK147.out 8; have hfz12_9 := blk_frozen BK147.out 9) | ((with_reducible refine gate_callee (f := 40) rfl ?_); refine goesL_ (some 12) rfl rfl Tryz.func40 (by kernel_rfl) rfl #[.agg #[.int .i64 a0_0, .int .i64 a0_1, .slice A0_2 l0_2.length c0_2, .int .i64 a0_3, .int .i64 a0_4, .int .i64 a0_5, .int .i64 a0_6, .int .i64 a0_7, .int .i64 a0_8, .int .i64 a0_9]] rfl (by (try simp only [List.map_toArray, List.map_cons, List.map_nil]); first | done | rfl | (simp only [List.length_drop, List.length_take]; rfl)) ?_; (with_reducible refine (mC.calls a0_0 a0_1 _ _ l0_2 a0_3 a0_4 a0_5 a0_6 a0_7 a0_8 a0_9 t148 _ ?side1 ?side2 A2.out).mono ?_); (case side1 => repeat (first | exact (Kd.C_below HR0_2.out HB.out) | (with_reducible refine Kd.C_alloc ?_ _) | (with_reducible refine Kd.C_drewN ?_ _) | (with_reducible refine Kd.C_drew ?_))); (case side2 => exact HC0_2.out); rintro e w13 ⟨rfl, hb⟩; refine ⟨_, rfl, ?_⟩; have n0_ := Aside0.mk (blk_below (g := gb147) (o := .cells #[.int .i64 a0_0, .int .i64 a0_1, .slice A0_2 l0_2.length c0_2, .int .i64 a0_3, .int .i64 a0_4, .int .i64 a0_5, .int .i64 a0_6, .int .i64 a0_7, .int .i64 a0_8, .int .i64 a0_9] 56 (0, 0)) (by (with_reducible repeat (first | refine blk_drewN ?_ _ | refine blk_drew ?_ | refine blk_alloc ?_ _)); exact BK147.out) hb); have n1_ := Aside0.mk (below_step (by repeat (first | (with_reducible first | exact HB.out | apply below_alloc | apply pw_below_drewN | apply below_drew1 | refine below_set ?_ GE147.out) | exact HB.out)) hb); clear BK147; clear HB; have BK147 := n0_; have HB := n1_; clear n0_ n1_; (try clear hb); (try clear hb2); (try clear hk); (try clear hi); have hcz14_0 : w13.cell? ⟨gb147, 0, none⟩ = some (.int .i64 a0_0) := (blk_cell BK147.out 0).trans rfl; have hcz14_1 : w13.cell? ⟨gb147, 1, none⟩ = some (.int .i64 a0_1) := (blk_cell BK147.out 1).trans rfl; have hcz14_2 : w13.cell? ⟨gb147, 2, none⟩ = some (.slice A0_2 l0_2.length c0_2) := (blk_cell BK147.out 2).trans rfl; have hcz14_3 : w13.cell? ⟨gb147, 3, none⟩ = some (.int .i64 a0_3) := (blk_cell BK147.out 3).trans rfl; have hcz14_4 : w13.cell? ⟨gb147, 4, none⟩ = some (.int .i64 a0_4) := (blk_cell BK147.out 4).trans rfl; have hcz14_5 : w13.cell? ⟨gb147, 5, none⟩ = some (.int .i64 a0_5) := (blk_cell BK147.out 5).trans rfl; have hcz14_6 : w13.cell? ⟨gb147, 6, none⟩ = some (.int .i64 a0_6) := (blk_cell BK147.out 6).trans rfl; have hcz14_7 : w13.cell? ⟨gb147, 7, none⟩ = some (.int .i64 a0_7) := (blk_cell BK147.out 7).trans rfl; have hcz14_8 : w13.cell? ⟨gb147, 8, none⟩ = some (.int .i64 a0_8) := (blk_cell BK147.out 8).trans rfl; have hcz14_9 : w13.cell? ⟨gb147, 9, none⟩ = some (.int .i64 a0_9) := (blk_cell BK147.out 9).trans rfl; have hfz14_0 := blk_frozen BK147.out 0; have hfz14_1 := blk_frozen BK147.out 1; have hfz14_2 := blk_frozen BK147.out 2; have hfz14_3 := blk_frozen BK147.out 3; have hfz14_4 := blk_frozen BK147.out 4; have hfz14_5 := blk_frozen BK147.out 5; have hfz14_6 := blk_frozen BK147.out 6; have hfz14_7 := blk_frozen BK147.out 7; have hfz14_8 := blk_frozen BK147.out 8; have hfz14_9 := blk_frozen BK147.out 9) | ((with_reducible refine gate_callee (f := 41) rfl ?_); refine goesL_ (some 19) rfl rfl Tryz.func41 (by kernel_rfl) rfl #[.slice A0_2 l0_2.length c0_2] rfl (by (try simp only [List.map_toArray, List.map_cons, List.map_nil]); first | done | rfl | (simp only [List.length_drop, List.length_take]; rfl)) ?_; (with_reducible refine (pack_List.calls _ _ l0_2 t149 t150 _ ?side1 ?side2 A4.out).mono ?_); (case side1 => repeat (first | exact (Kd.C_below HR0_2.out HB.out) | (with_reducible refine Kd.C_alloc ?_ _) | (with_reducible refine Kd.C_drewN ?_ _) | (with_reducible refine Kd.C_drew ?_))); (case side2 => exact HC0_2.out); rintro e w15 ⟨rfl, hb⟩; refine ⟨_, rfl, ?_⟩; have n0_ := Aside0.mk (blk_below (g := gb147) (o := .cells #[.int .i64 a0_0, .int .i64 a0_1, .slice A0_2 l0_2.length c0_2, .int .i64 a0_3, .int .i64 a0_4, .int .i64 a0_5, .int .i64 a0_6, .int .i64 a0_7, .int .i64 a0_8, .int .i64 a0_9] 56 (0, 0)) (by (with_reducible repeat (first | refine blk_drewN ?_ _ | refine blk_drew ?_ | refine blk_alloc ?_ _)); exact BK147.out) hb); have n1_ := Aside0.mk (below_step (by repeat (first | (with_reducible first | exact HB.out | apply below_alloc | apply pw_below_drewN | apply below_drew1 | refine below_set ?_ GE147.out) | exact HB.out)) hb); clear BK147; clear HB; have BK147 := n0_; have HB := n1_; clear n0_ n1_; (try clear hb); (try clear hb2); (try clear hk); (try clear hi); have hcz16_0 : w15.cell? ⟨gb147, 0, none⟩ = some (.int .i64 a0_0) := (blk_cell BK147.out 0).trans rfl; have hcz16_1 : w15.cell? ⟨gb147, 1, none⟩ = some (.int .i64 a0_1) := (blk_cell BK147.out 1).trans rfl; have hcz16_2 : w15.cell? ⟨gb147, 2, none⟩ = some (.slice A0_2 l0_2.length c0_2) := (blk_cell BK147.out 2).trans rfl; have hcz16_3 : w15.cell? ⟨gb147, 3, none⟩ = some (.int .i64 a0_3) := (blk_cell BK147.out 3).trans rfl; have hcz16_4 : w15.cell? ⟨gb147, 4, none⟩ = some (.int .i64 a0_4) := (blk_cell BK147.out 4).trans rfl; have hcz16_5 : w15.cell? ⟨gb147, 5, none⟩ = some (.int .i64 a0_5) := (blk_cell BK147.out 5).trans rfl; have hcz16_6 : w15.cell? ⟨gb147, 6, none⟩ = some (.int .i64 a0_6) := (blk_cell BK147.out 6).trans rfl; have hcz16_7 : w15.cell? ⟨gb147, 7, none⟩ = some (.int .i64 a0_7) := (blk_cell BK147.out 7).trans rfl; have hcz16_8 : w15.cell? ⟨gb147, 8, none⟩ = some (.int .i64 a0_8) := (blk_cell BK147.out 8).trans rfl; have hcz16_9 : w15.cell? ⟨gb147, 9, none⟩ = some (.int .i64 a0_9) := (blk_cell BK147.out 9).trans rfl; have hfz16_0 := blk_frozen BK147.out 0; have hfz16_1 := blk_frozen BK147.out 1; have hfz16_2 := blk_frozen BK147.out 2; have hfz16_3 := blk_frozen BK147.out 3; have hfz16_4 := blk_frozen BK147.out 4; have hfz16_5 := blk_frozen BK147.out 5; have hfz16_6 := blk_frozen BK147.out 6; have hfz16_7 := blk_frozen BK147.out 7; have hfz16_8 := blk_frozen BK147.out 8; have hfz16_9 := blk_frozen BK147.out 9) | ((with_reducible refine gate_callee (f := 42) rfl ?_); refine goesL_ (some 26) rfl rfl Tryz.func42 (by kernel_rfl) rfl #[.int .i64 a0_3] rfl (by (try simp only [List.map_toArray, List.map_cons, List.map_nil]); first | done | rfl | (simp only [List.length_drop, List.length_take]; rfl)) ?_; (with_reducible refine (mesg_has.calls a0_3 t151 t152 t153 _ A5.out).mono ?_); rintro e w' ⟨rfl, ⟨nd, rfl⟩⟩; refine ⟨_, rfl, ?_⟩))
    (try (rw [drewN_self w15]; generalize hq_ : World.drewN w15 _ = w15; have n0_ : Aside0 (w15.heap[gb147]? = some (.cells #[.int .i64 a0_0, .int .i64 a0_1, .slice A0_2 l0_2.length c0_2, .int .i64 a0_3, .int .i64 a0_4, .int .i64 a0_5, .int .i64 a0_6, .int .i64 a0_7, .int .i64 a0_8, .int .i64 a0_9] 56 (0, 0))) := ⟨by rw [← hq_]; exact (by (with_reducible repeat (first | refine blk_drewN ?_ _ | refine blk_drew ?_ | refine blk_alloc ?_ _)); exact BK147.out)⟩; have n1_ : Aside0 (Below w.heap.size w w15) := ⟨by rw [← hq_]; exact (by repeat (first | (with_reducible first | exact HB.out | apply below_alloc | apply pw_below_drewN | apply below_drew1 | refine below_set ?_ GE147.out) | exact HB.out))⟩; clear BK147 HB hq_; have BK147 := n0_; have HB := n1_; clear n0_ n1_))
    have n0_ := Aside0.mk (blk_drew BK147.out)
    have n1_ := Aside0.mk (below_drew1 HB.out)
    clear BK147
    clear HB
    have BK147 := n0_
    have HB := n1_
    clear n0_ n1_
    refine start_ (n := 18) (S := fun w' => True) (ds := []) #[false, false, false, false, false, false, false, false, false, false, false, false, false, false, false, false, false, false] (by kernel_rfl) rfl rfl trivial (fun hHeld => ?_); refine with_tabW mE.tab6 mE.bits6 (fun HT_ HW_ => ?_)
    generalize w15.drew = w17 at BK147 HB hHeld ⊢
    refine pure_ (i := 0) (N := some 30) (v := ?_) (a' := ?_) #[true, false, false, false, false, false, false, false, false, false, false, false, false, false, false, false, false, false] rfl rfl (any_of HT_.out (by kernel_rfl)) (fun _ _ _ h => h) (Or.inl ⟨by rfl, ?_⟩) ?_ ?_
    rotate_left
    ·intro w'
     go_simp
     with_reducible rfl
    rotate_left
    ·simp only [Act.put, List.setIfInBounds_toArray, List.set_cons_zero, List.set_cons_succ, i64_w, i32_w]
     rfl
    refine pure_ (i := 2) (N := some 32) (v := ?_) (a' := ?_) #[true, false, true, false, false, false, false, false, false, false, false, false, false, false, false, false, false, false] rfl rfl (any_of HT_.out (by kernel_rfl)) (fun _ _ _ h => h) (Or.inl ⟨by rfl, ?_⟩) ?_ ?_
    rotate_left
    ·intro w'
     go_simp
     with_reducible rfl
    rotate_left
    ·simp only [Act.put, List.setIfInBounds_toArray, List.set_cons_zero, List.set_cons_succ, i64_w, i32_w]
     rfl
    refine pure_ (i := 6) (N := some 36) (v := ?_) (a' := ?_) #[true, false, true, false, false, false, true, false, false, false, false, false, false, false, false, false, false, false] rfl rfl (any_of HT_.out (by kernel_rfl)) (fun _ _ _ h => h) (Or.inl ⟨by rfl, ?_⟩) ?_ ?_
    rotate_left
    ·intro w'
     go_simp
     with_reducible rfl
    rotate_left
    ·simp only [Act.put, List.setIfInBounds_toArray, List.set_cons_zero, List.set_cons_succ, i64_w, i32_w]
     rfl
    refine pure_ (i := 8) (N := some 38) (v := ?_) (a' := ?_) #[true, false, true, false, false, false, true, false, true, false, false, false, false, false, false, false, false, false] rfl rfl (any_of HT_.out (by kernel_rfl)) (fun _ _ _ h => h) (Or.inl ⟨by rfl, ?_⟩) ?_ ?_
    rotate_left
    ·intro w'
     go_simp
     with_reducible rfl
    rotate_left
    ·simp only [Act.put, List.setIfInBounds_toArray, List.set_cons_zero, List.set_cons_succ, i64_w, i32_w]
     rfl
    refine pure_ (i := 9) (N := some 39) (v := ?_) (a' := ?_) #[true, false, true, false, false, false, true, false, true, true, false, false, false, false, false, false, false, false] rfl rfl (any_of HT_.out (by kernel_rfl)) (fun _ _ _ h => h) (Or.inl ⟨by rfl, ?_⟩) ?_ ?_
    rotate_left
    ·intro w'
     go_simp
     with_reducible rfl
    rotate_left
    ·simp only [Act.put, List.setIfInBounds_toArray, List.set_cons_zero, List.set_cons_succ, i64_w, i32_w]
     rfl
    refine pure_ (i := 11) (N := some 41) (v := ?_) (a' := ?_) #[true, false, true, false, false, false, true, false, true, true, false, true, false, false, false, false, false, false] rfl rfl (any_of HT_.out (by kernel_rfl)) (fun _ _ _ h => h) (Or.inl ⟨by rfl, ?_⟩) ?_ ?_
    rotate_left
    ·intro w'
     go_simp
     with_reducible rfl
    rotate_left
    ·simp only [Act.put, List.setIfInBounds_toArray, List.set_cons_zero, List.set_cons_succ, i64_w, i32_w]
     rfl
    refine pure_ (i := 12) (N := some 42) (v := ?_) (a' := ?_) #[true, false, true, false, false, false, true, false, true, true, false, true, true, false, false, false, false, false] rfl rfl (any_of HT_.out (by kernel_rfl)) (fun _ _ _ h => h) (Or.inl ⟨by rfl, ?_⟩) ?_ ?_
    rotate_left
    ·intro w'
     go_simp
     with_reducible rfl
    rotate_left
    ·simp only [Act.put, List.setIfInBounds_toArray, List.set_cons_zero, List.set_cons_succ, i64_w, i32_w]
     rfl
    refine inv_at [1, 3, 4, 5, 7, 10, 13, 14, 15, 16, 17] (fun a0_ b a w' => ∃ (v155 : Value) (v159 : Value), a = putSel a0_ b [(1, 31, .int .i64 a0_0), (3, 33, .int .i64 a0_1), (4, 34, v155), (5, 35, .string t157), (7, 37, .string (t157 ++ t149)), (10, 40, .int .i64 a0_3), (13, 43, .int .i64 a0_4), (14, 44, v159), (15, 45, .string t161), (16, 46, .string ((t157 ++ t149) ++ t161)), (17, 10, .string ((t157 ++ t149) ++ t161))] ∧ (w'.heap[gb147]? = some (.cells #[.int .i64 a0_0, .int .i64 a0_1, .slice A0_2 l0_2.length c0_2, .int .i64 a0_3, .int .i64 a0_4, .int .i64 a0_5, .int .i64 a0_6, .int .i64 a0_7, .int .i64 a0_8, .int .i64 a0_9] 56 (0, 0))) ∧ (Below w.heap.size w w') ∧ (b 4 = true → Kd.R (Kd.int .i64) 3 w' w.heap.size (fun _ => True) v155 y154) ∧ (b 14 = true → Kd.R (Kd.int .i64) 3 w' w.heap.size (fun _ => True) v159 y158)) HT_.out HW_.out (by kernel_rfl) (by kernel_rfl) ?_ ?_ ?_
    ·exact ⟨.bool false, .bool false, by simp only [putSel, Bool.false_eq_true, if_false], BK147.out, HB.out, fun h_ => absurd h_ (by decide), fun h_ => absurd h_ (by decide)⟩
    ·skip
     clear BK147 HB
     refine steps_cons ?_ ?_
     ·rintro b a w' ⟨v155, v159, ha, Q_BK147, Q_HB, Q_HO156, Q_HO160⟩ hb_ hon hoff
      refine ⟨_, rfl, fun K hK => ?_⟩
      have e30 : a.tmps[30]? = some (.pointer (some ⟨gb147, 0, none⟩)) := by rw [ha]; exact (putSel_off rfl).trans rfl
      replace ha := Aside0.mk ha
      have BK147 := Aside0.mk Q_BK147
      have HB := Aside0.mk Q_HB
      have hc0_ : w'.cell? ⟨gb147, 0, none⟩ = some (.int .i64 a0_0) := (blk_cell BK147.out 0).trans rfl
      have hc1_ : w'.cell? ⟨gb147, 1, none⟩ = some (.int .i64 a0_1) := (blk_cell BK147.out 1).trans rfl
      have hc2_ : w'.cell? ⟨gb147, 2, none⟩ = some (.slice A0_2 l0_2.length c0_2) := (blk_cell BK147.out 2).trans rfl
      have hc3_ : w'.cell? ⟨gb147, 3, none⟩ = some (.int .i64 a0_3) := (blk_cell BK147.out 3).trans rfl
      have hc4_ : w'.cell? ⟨gb147, 4, none⟩ = some (.int .i64 a0_4) := (blk_cell BK147.out 4).trans rfl
      have hc5_ : w'.cell? ⟨gb147, 5, none⟩ = some (.int .i64 a0_5) := (blk_cell BK147.out 5).trans rfl
      have hc6_ : w'.cell? ⟨gb147, 6, none⟩ = some (.int .i64 a0_6) := (blk_cell BK147.out 6).trans rfl
      have hc7_ : w'.cell? ⟨gb147, 7, none⟩ = some (.int .i64 a0_7) := (blk_cell BK147.out 7).trans rfl
      have hc8_ : w'.cell? ⟨gb147, 8, none⟩ = some (.int .i64 a0_8) := (blk_cell BK147.out 8).trans rfl
      have hc9_ : w'.cell? ⟨gb147, 9, none⟩ = some (.int .i64 a0_9) := (blk_cell BK147.out 9).trans rfl
      refine value_ (w1 := w') (v := .int .i64 a0_0) (by rfl) rfl ?_ ?_
      ·go_simp
       (try simp only [i64_w])
       try rfl
      refine hK.out _ _ ⟨v155, v159, (by rw [ha.out]; exact putSel_upk 0 hb_ rfl rfl rfl), Q_BK147, Q_HB, fun h0_ => absurd ((hoff 4 (by kernel_rfl)).symm.trans h0_) (by decide), Q_HO160⟩
     refine steps_cons ?_ ?_
     ·rintro b a w' ⟨v155, v159, ha, Q_BK147, Q_HB, Q_HO156, Q_HO160⟩ hb_ hon hoff
      refine ⟨_, rfl, fun K hK => ?_⟩
      have e32 : a.tmps[32]? = some (.pointer (some ⟨gb147, 1, none⟩)) := by rw [ha]; exact (putSel_off rfl).trans rfl
      replace ha := Aside0.mk ha
      have BK147 := Aside0.mk Q_BK147
      have HB := Aside0.mk Q_HB
      have hc0_ : w'.cell? ⟨gb147, 0, none⟩ = some (.int .i64 a0_0) := (blk_cell BK147.out 0).trans rfl
      have hc1_ : w'.cell? ⟨gb147, 1, none⟩ = some (.int .i64 a0_1) := (blk_cell BK147.out 1).trans rfl
      have hc2_ : w'.cell? ⟨gb147, 2, none⟩ = some (.slice A0_2 l0_2.length c0_2) := (blk_cell BK147.out 2).trans rfl
      have hc3_ : w'.cell? ⟨gb147, 3, none⟩ = some (.int .i64 a0_3) := (blk_cell BK147.out 3).trans rfl
      have hc4_ : w'.cell? ⟨gb147, 4, none⟩ = some (.int .i64 a0_4) := (blk_cell BK147.out 4).trans rfl
      have hc5_ : w'.cell? ⟨gb147, 5, none⟩ = some (.int .i64 a0_5) := (blk_cell BK147.out 5).trans rfl
      have hc6_ : w'.cell? ⟨gb147, 6, none⟩ = some (.int .i64 a0_6) := (blk_cell BK147.out 6).trans rfl
      have hc7_ : w'.cell? ⟨gb147, 7, none⟩ = some (.int .i64 a0_7) := (blk_cell BK147.out 7).trans rfl
      have hc8_ : w'.cell? ⟨gb147, 8, none⟩ = some (.int .i64 a0_8) := (blk_cell BK147.out 8).trans rfl
      have hc9_ : w'.cell? ⟨gb147, 9, none⟩ = some (.int .i64 a0_9) := (blk_cell BK147.out 9).trans rfl
      refine value_ (w1 := w') (v := .int .i64 a0_1) (by rfl) rfl ?_ ?_
      ·go_simp
       (try simp only [i64_w])
       try rfl
      refine hK.out _ _ ⟨v155, v159, (by rw [ha.out]; exact putSel_upk 1 hb_ rfl rfl rfl), Q_BK147, Q_HB, fun h0_ => absurd ((hoff 4 (by kernel_rfl)).symm.trans h0_) (by decide), Q_HO160⟩
     refine steps_cons ?_ ?_
     ·rintro b a w' ⟨v155, v159, ha, Q_BK147, Q_HB, Q_HO156, Q_HO160⟩ hb_ hon hoff
      refine ⟨_, rfl, fun K hK => ?_⟩
      have e31 : a.tmps[31]? = some (.int .i64 a0_0) := by rw [ha]; exact putSel_on (e := (1, 31, .int .i64 a0_0)) 0 rfl rfl (hon 1 (by kernel_rfl)) rfl
      have e33 : a.tmps[33]? = some (.int .i64 a0_1) := by rw [ha]; exact putSel_on (e := (3, 33, .int .i64 a0_1)) 1 rfl rfl (hon 3 (by kernel_rfl)) rfl
      replace ha := Aside0.mk ha
      have BK147 := Aside0.mk Q_BK147
      have HB := Aside0.mk Q_HB
      refine Kd.R_lit_step (Kd.int .i64) _ 3 ?hg (N := 34) ?hd (xs := ([a0_0, a0_1] : List Int)) (inner := [.int .i64 a0_0, .int .i64 a0_1]) (ok := fun _ => True) (okp := fun _ => True) ?hr ?hp (fun _ hk => hk) trivial (Below.refl _ _) (Nat.le_refl _) (by simp) ?_; (case hd => rfl); (case hg => rfl); (case hr => first | (go_simp; done) | (go_simp; rfl)); (case hp => exact (Reps.one (show Kd.M (Kd.int .i64) _ _ _ a0_0 [.int .i64 a0_0] from rfl) (Reps.one (show Kd.M (Kd.int .i64) _ _ _ a0_1 [.int .i64 a0_1] from rfl) (Reps.none _ _))))
      intro v155 w18 ho19 hb hg_ hnew_
      clear hg_ hnew_
      (first | rw [← Ny154.out] at ho19 | (simp only [Int.reduceToNat] at ho19; rw [← Ny154.out] at ho19))
      have n0_ := Aside0.mk (Kd.R_lower ho19 (below_size (by repeat (first | (with_reducible first | exact HB.out | apply below_alloc | apply pw_below_drewN | apply below_drew1 | refine below_set ?_ GE147.out) | exact HB.out))))
      have n1_ := Aside0.mk (blk_below (g := gb147) (o := .cells #[.int .i64 a0_0, .int .i64 a0_1, .slice A0_2 l0_2.length c0_2, .int .i64 a0_3, .int .i64 a0_4, .int .i64 a0_5, .int .i64 a0_6, .int .i64 a0_7, .int .i64 a0_8, .int .i64 a0_9] 56 (0, 0)) (by (with_reducible repeat (first | refine blk_drewN ?_ _ | refine blk_drew ?_ | refine blk_alloc ?_ _)); exact BK147.out) hb)
      have n2_ := Aside0.mk (below_step (by repeat (first | (with_reducible first | exact HB.out | apply below_alloc | apply pw_below_drewN | apply below_drew1 | refine below_set ?_ GE147.out) | exact HB.out)) hb)
      have z_HO160 := fun (h0_ : b 14 = true) => (show Kd.R (Kd.int .i64) 3 w18 w.heap.size (fun _ => True) v159 y158 from by first | exact (Kd.R_elder' (by (with_reducible repeat (first | apply Kd.R_alloc | apply Kd.R_drewN | apply Kd.R_drew)); exact (Q_HO160 h0_)) (Kd.R_base ho19) hb) | exact Kd.R_mono (Kd.R_elder' (by (with_reducible repeat (first | apply Kd.R_alloc | apply Kd.R_drewN | apply Kd.R_drew)); exact (Q_HO160 h0_)) (Kd.R_base ho19) hb) (fun _ h_ => by first | trivial | exact h_ | exact h_.1))
      clear BK147
      clear HB
      have HO156 := n0_
      have BK147 := n1_
      have HB := n2_
      clear n0_ n1_ n2_
      clear hb ho19
      refine hK.out _ _ ⟨v155, v159, (by rw [ha.out]; exact putSel_upk 2 hb_ rfl rfl rfl), (by (with_reducible repeat (first | refine blk_drewN ?_ _ | refine blk_drew ?_ | refine blk_alloc ?_ _)); exact BK147.out), (by repeat (first | (with_reducible first | exact HB.out | apply below_alloc | apply pw_below_drewN | apply below_drew1 | refine below_set ?_ GE147.out) | exact HB.out)), fun _ => (by (with_reducible repeat (first | apply Kd.R_alloc | apply Kd.R_drewN | apply Kd.R_drew)); exact HO156.out), z_HO160⟩
     refine steps_cons ?_ ?_
     ·rintro b a w' ⟨v155, v159, ha, Q_BK147, Q_HB, Q_HO156, Q_HO160⟩ hb_ hon hoff
      refine ⟨_, rfl, fun K hK => ?_⟩
      have e34 : a.tmps[34]? = some (v155) := by rw [ha]; exact putSel_on (e := (4, 34, v155)) 2 rfl rfl (hon 4 (by kernel_rfl)) rfl
      replace ha := Aside0.mk ha
      have BK147 := Aside0.mk Q_BK147
      have HB := Aside0.mk Q_HB
      have HO156 := Aside0.mk (Q_HO156 (hon 4 (by kernel_rfl)))
      obtain ⟨Ao21, co21, eo21⟩ := Kd.R_slice HO156.out
      (first | subst eo21 | (injection eo21 with f1_ f2_ f3_; have f4_ := f1_.symm; have f5_ := f3_.symm; clear f1_ f2_ f3_; subst f4_; subst f5_))
      refine goes_ Tryz.func43 (by kernel_rfl) rfl #[.slice Ao21 y154.length co21] (by rfl) rfl rfl (by first | (simp only [List.map_toArray, List.map_cons, List.map_nil, Act.eval, Array.getD_eq_getD_getElem?, Option.getD_some, e34]; done) | (simp only [List.map_toArray, List.map_cons, List.map_nil, Act.eval, Array.getD_eq_getD_getElem?, Option.getD_some, e34]; rfl)) ?_
      with_reducible refine (mN.calls k _ _ y154 t157 _ ?side1 ?side2 A6.out).mono ?_
      (case side1 => repeat (first | exact (Kd.R_reads' HO156.out).2.2 | (with_reducible refine Kd.C_alloc ?_ _) | (with_reducible refine Kd.C_drewN ?_ _) | (with_reducible refine Kd.C_drew ?_)))
      (case side2 => exact (Kd.R_reads' HO156.out).2.1)
      rintro e w22 ⟨rfl, hb⟩
      refine ⟨_, rfl, ?_⟩
      have n0_ := Aside0.mk (Kd.R_below (by (with_reducible repeat (first | apply Kd.R_alloc | apply Kd.R_drewN | apply Kd.R_drew)); exact HO156.out) hb)
      have n1_ := Aside0.mk (blk_below (g := gb147) (o := .cells #[.int .i64 a0_0, .int .i64 a0_1, .slice A0_2 l0_2.length c0_2, .int .i64 a0_3, .int .i64 a0_4, .int .i64 a0_5, .int .i64 a0_6, .int .i64 a0_7, .int .i64 a0_8, .int .i64 a0_9] 56 (0, 0)) (by (with_reducible repeat (first | refine blk_drewN ?_ _ | refine blk_drew ?_ | refine blk_alloc ?_ _)); exact BK147.out) hb)
      have n2_ := Aside0.mk (below_step (by repeat (first | (with_reducible first | exact HB.out | apply below_alloc | apply pw_below_drewN | apply below_drew1 | refine below_set ?_ GE147.out) | exact HB.out)) hb)
      have z_HO160 := fun (h0_ : b 14 = true) => (show Kd.R (Kd.int .i64) 3 w22 w.heap.size (fun _ => True) v159 y158 from by first | exact (Kd.R_below (by (with_reducible repeat (first | apply Kd.R_alloc | apply Kd.R_drewN | apply Kd.R_drew)); exact (Q_HO160 h0_)) hb) | exact Kd.R_mono (Kd.R_below (by (with_reducible repeat (first | apply Kd.R_alloc | apply Kd.R_drewN | apply Kd.R_drew)); exact (Q_HO160 h0_)) hb) (fun _ h_ => by first | trivial | exact h_ | exact h_.1))
      clear HO156
      clear BK147
      clear HB
      have HO156 := n0_
      have BK147 := n1_
      have HB := n2_
      clear n0_ n1_ n2_
      (try clear hb)
      (try clear hb2)
      (try clear hk)
      (try clear hi)
      refine hK.out _ _ ⟨.slice Ao21 y154.length co21, v159, (by rw [ha.out]; exact putSel_upk 3 hb_ rfl rfl rfl), (by (with_reducible repeat (first | refine blk_drewN ?_ _ | refine blk_drew ?_ | refine blk_alloc ?_ _)); exact BK147.out), (by repeat (first | (with_reducible first | exact HB.out | apply below_alloc | apply pw_below_drewN | apply below_drew1 | refine below_set ?_ GE147.out) | exact HB.out)), fun _ => (by (with_reducible repeat (first | apply Kd.R_alloc | apply Kd.R_drewN | apply Kd.R_drew)); exact HO156.out), z_HO160⟩
     refine steps_cons ?_ ?_
     ·rintro b a w' ⟨v155, v159, ha, Q_BK147, Q_HB, Q_HO156, Q_HO160⟩ hb_ hon hoff
      refine ⟨_, rfl, fun K hK => ?_⟩
      have e35 : a.tmps[35]? = some (.string t157) := by rw [ha]; exact putSel_on (e := (5, 35, .string t157)) 3 rfl rfl (hon 5 (by kernel_rfl)) rfl
      have e36 : a.tmps[36]? = some (.string t149) := by rw [ha]; exact (putSel_off rfl).trans rfl
      replace ha := Aside0.mk ha
      have BK147 := Aside0.mk Q_BK147
      have HB := Aside0.mk Q_HB
      have HO156 := Aside0.mk (Q_HO156 (hon 4 (by kernel_rfl)))
      refine value_ (w1 := w') (v := .string (t157 ++ t149)) (by rfl) rfl ?_ ?_
      ·go_simp
       (try simp only [i64_w])
       try rfl
      refine hK.out _ _ ⟨v155, v159, (by rw [ha.out]; exact putSel_upk 4 hb_ rfl rfl rfl), Q_BK147, Q_HB, Q_HO156, Q_HO160⟩
     refine steps_cons ?_ ?_
     ·rintro b a w' ⟨v155, v159, ha, Q_BK147, Q_HB, Q_HO156, Q_HO160⟩ hb_ hon hoff
      refine ⟨_, rfl, fun K hK => ?_⟩
      have e39 : a.tmps[39]? = some (.pointer (some ⟨gb147, 3, none⟩)) := by rw [ha]; exact (putSel_off rfl).trans rfl
      replace ha := Aside0.mk ha
      have BK147 := Aside0.mk Q_BK147
      have HB := Aside0.mk Q_HB
      have hc0_ : w'.cell? ⟨gb147, 0, none⟩ = some (.int .i64 a0_0) := (blk_cell BK147.out 0).trans rfl
      have hc1_ : w'.cell? ⟨gb147, 1, none⟩ = some (.int .i64 a0_1) := (blk_cell BK147.out 1).trans rfl
      have hc2_ : w'.cell? ⟨gb147, 2, none⟩ = some (.slice A0_2 l0_2.length c0_2) := (blk_cell BK147.out 2).trans rfl
      have hc3_ : w'.cell? ⟨gb147, 3, none⟩ = some (.int .i64 a0_3) := (blk_cell BK147.out 3).trans rfl
      have hc4_ : w'.cell? ⟨gb147, 4, none⟩ = some (.int .i64 a0_4) := (blk_cell BK147.out 4).trans rfl
      have hc5_ : w'.cell? ⟨gb147, 5, none⟩ = some (.int .i64 a0_5) := (blk_cell BK147.out 5).trans rfl
      have hc6_ : w'.cell? ⟨gb147, 6, none⟩ = some (.int .i64 a0_6) := (blk_cell BK147.out 6).trans rfl
      have hc7_ : w'.cell? ⟨gb147, 7, none⟩ = some (.int .i64 a0_7) := (blk_cell BK147.out 7).trans rfl
      have hc8_ : w'.cell? ⟨gb147, 8, none⟩ = some (.int .i64 a0_8) := (blk_cell BK147.out 8).trans rfl
      have hc9_ : w'.cell? ⟨gb147, 9, none⟩ = some (.int .i64 a0_9) := (blk_cell BK147.out 9).trans rfl
      refine value_ (w1 := w') (v := .int .i64 a0_3) (by rfl) rfl ?_ ?_
      ·go_simp
       (try simp only [i64_w])
       try rfl
      refine hK.out _ _ ⟨v155, v159, (by rw [ha.out]; exact putSel_upk 5 hb_ rfl rfl rfl), Q_BK147, Q_HB, Q_HO156, fun h0_ => absurd ((hoff 14 (by kernel_rfl)).symm.trans h0_) (by decide)⟩
     refine steps_cons ?_ ?_
     ·rintro b a w' ⟨v155, v159, ha, Q_BK147, Q_HB, Q_HO156, Q_HO160⟩ hb_ hon hoff
      refine ⟨_, rfl, fun K hK => ?_⟩
      have e42 : a.tmps[42]? = some (.pointer (some ⟨gb147, 4, none⟩)) := by rw [ha]; exact (putSel_off rfl).trans rfl
      replace ha := Aside0.mk ha
      have BK147 := Aside0.mk Q_BK147
      have HB := Aside0.mk Q_HB
      have hc0_ : w'.cell? ⟨gb147, 0, none⟩ = some (.int .i64 a0_0) := (blk_cell BK147.out 0).trans rfl
      have hc1_ : w'.cell? ⟨gb147, 1, none⟩ = some (.int .i64 a0_1) := (blk_cell BK147.out 1).trans rfl
      have hc2_ : w'.cell? ⟨gb147, 2, none⟩ = some (.slice A0_2 l0_2.length c0_2) := (blk_cell BK147.out 2).trans rfl
      have hc3_ : w'.cell? ⟨gb147, 3, none⟩ = some (.int .i64 a0_3) := (blk_cell BK147.out 3).trans rfl
      have hc4_ : w'.cell? ⟨gb147, 4, none⟩ = some (.int .i64 a0_4) := (blk_cell BK147.out 4).trans rfl
      have hc5_ : w'.cell? ⟨gb147, 5, none⟩ = some (.int .i64 a0_5) := (blk_cell BK147.out 5).trans rfl
      have hc6_ : w'.cell? ⟨gb147, 6, none⟩ = some (.int .i64 a0_6) := (blk_cell BK147.out 6).trans rfl
      have hc7_ : w'.cell? ⟨gb147, 7, none⟩ = some (.int .i64 a0_7) := (blk_cell BK147.out 7).trans rfl
      have hc8_ : w'.cell? ⟨gb147, 8, none⟩ = some (.int .i64 a0_8) := (blk_cell BK147.out 8).trans rfl
      have hc9_ : w'.cell? ⟨gb147, 9, none⟩ = some (.int .i64 a0_9) := (blk_cell BK147.out 9).trans rfl
      refine value_ (w1 := w') (v := .int .i64 a0_4) (by rfl) rfl ?_ ?_
      ·go_simp
       (try simp only [i64_w])
       try rfl
      refine hK.out _ _ ⟨v155, v159, (by rw [ha.out]; exact putSel_upk 6 hb_ rfl rfl rfl), Q_BK147, Q_HB, Q_HO156, fun h0_ => absurd ((hoff 14 (by kernel_rfl)).symm.trans h0_) (by decide)⟩
     refine steps_cons ?_ ?_
     ·rintro b a w' ⟨v155, v159, ha, Q_BK147, Q_HB, Q_HO156, Q_HO160⟩ hb_ hon hoff
      refine ⟨_, rfl, fun K hK => ?_⟩
      have e40 : a.tmps[40]? = some (.int .i64 a0_3) := by rw [ha]; exact putSel_on (e := (10, 40, .int .i64 a0_3)) 5 rfl rfl (hon 10 (by kernel_rfl)) rfl
      have e43 : a.tmps[43]? = some (.int .i64 a0_4) := by rw [ha]; exact putSel_on (e := (13, 43, .int .i64 a0_4)) 6 rfl rfl (hon 13 (by kernel_rfl)) rfl
      replace ha := Aside0.mk ha
      have BK147 := Aside0.mk Q_BK147
      have HB := Aside0.mk Q_HB
      refine Kd.R_lit_step (Kd.int .i64) _ 3 ?hg (N := 44) ?hd (xs := ([a0_3, a0_4] : List Int)) (inner := [.int .i64 a0_3, .int .i64 a0_4]) (ok := fun _ => True) (okp := fun _ => True) ?hr ?hp (fun _ hk => hk) trivial (Below.refl _ _) (Nat.le_refl _) (by simp) ?_; (case hd => rfl); (case hg => rfl); (case hr => first | (go_simp; done) | (go_simp; rfl)); (case hp => exact (Reps.one (show Kd.M (Kd.int .i64) _ _ _ a0_3 [.int .i64 a0_3] from rfl) (Reps.one (show Kd.M (Kd.int .i64) _ _ _ a0_4 [.int .i64 a0_4] from rfl) (Reps.none _ _))))
      intro v159 w18 ho19 hb hg_ hnew_
      clear hg_ hnew_
      (first | rw [← Ny158.out] at ho19 | (simp only [Int.reduceToNat] at ho19; rw [← Ny158.out] at ho19))
      have n0_ := Aside0.mk (Kd.R_lower ho19 (below_size (by repeat (first | (with_reducible first | exact HB.out | apply below_alloc | apply pw_below_drewN | apply below_drew1 | refine below_set ?_ GE147.out) | exact HB.out))))
      have n1_ := Aside0.mk (blk_below (g := gb147) (o := .cells #[.int .i64 a0_0, .int .i64 a0_1, .slice A0_2 l0_2.length c0_2, .int .i64 a0_3, .int .i64 a0_4, .int .i64 a0_5, .int .i64 a0_6, .int .i64 a0_7, .int .i64 a0_8, .int .i64 a0_9] 56 (0, 0)) (by (with_reducible repeat (first | refine blk_drewN ?_ _ | refine blk_drew ?_ | refine blk_alloc ?_ _)); exact BK147.out) hb)
      have n2_ := Aside0.mk (below_step (by repeat (first | (with_reducible first | exact HB.out | apply below_alloc | apply pw_below_drewN | apply below_drew1 | refine below_set ?_ GE147.out) | exact HB.out)) hb)
      have z_HO156 := fun (h0_ : b 4 = true) => (show Kd.R (Kd.int .i64) 3 w18 w.heap.size (fun _ => True) v155 y154 from by first | exact (Kd.R_elder' (by (with_reducible repeat (first | apply Kd.R_alloc | apply Kd.R_drewN | apply Kd.R_drew)); exact (Q_HO156 h0_)) (Kd.R_base ho19) hb) | exact Kd.R_mono (Kd.R_elder' (by (with_reducible repeat (first | apply Kd.R_alloc | apply Kd.R_drewN | apply Kd.R_drew)); exact (Q_HO156 h0_)) (Kd.R_base ho19) hb) (fun _ h_ => by first | trivial | exact h_ | exact h_.1))
      clear BK147
      clear HB
      have HO160 := n0_
      have BK147 := n1_
      have HB := n2_
      clear n0_ n1_ n2_
      clear hb ho19
      refine hK.out _ _ ⟨v155, v159, (by rw [ha.out]; exact putSel_upk 7 hb_ rfl rfl rfl), (by (with_reducible repeat (first | refine blk_drewN ?_ _ | refine blk_drew ?_ | refine blk_alloc ?_ _)); exact BK147.out), (by repeat (first | (with_reducible first | exact HB.out | apply below_alloc | apply pw_below_drewN | apply below_drew1 | refine below_set ?_ GE147.out) | exact HB.out)), z_HO156, fun _ => (by (with_reducible repeat (first | apply Kd.R_alloc | apply Kd.R_drewN | apply Kd.R_drew)); exact HO160.out)⟩
     refine steps_cons ?_ ?_
     ·rintro b a w' ⟨v155, v159, ha, Q_BK147, Q_HB, Q_HO156, Q_HO160⟩ hb_ hon hoff
      refine ⟨_, rfl, fun K hK => ?_⟩
      have e44 : a.tmps[44]? = some (v159) := by rw [ha]; exact putSel_on (e := (14, 44, v159)) 7 rfl rfl (hon 14 (by kernel_rfl)) rfl
      replace ha := Aside0.mk ha
      have BK147 := Aside0.mk Q_BK147
      have HB := Aside0.mk Q_HB
      have HO156 := Aside0.mk (Q_HO156 (hon 4 (by kernel_rfl)))
      have HO160 := Aside0.mk (Q_HO160 (hon 14 (by kernel_rfl)))
      obtain ⟨Ao25, co25, eo25⟩ := Kd.R_slice HO160.out
      (first | subst eo25 | (injection eo25 with f1_ f2_ f3_; have f4_ := f1_.symm; have f5_ := f3_.symm; clear f1_ f2_ f3_; subst f4_; subst f5_))
      refine goes_ Tryz.func43 (by kernel_rfl) rfl #[.slice Ao25 y158.length co25] (by rfl) rfl rfl (by first | (simp only [List.map_toArray, List.map_cons, List.map_nil, Act.eval, Array.getD_eq_getD_getElem?, Option.getD_some, e44]; done) | (simp only [List.map_toArray, List.map_cons, List.map_nil, Act.eval, Array.getD_eq_getD_getElem?, Option.getD_some, e44]; rfl)) ?_
      with_reducible refine (mN.calls k _ _ y158 t161 _ ?side1 ?side2 A8.out).mono ?_
      (case side1 => repeat (first | exact (Kd.R_reads' HO160.out).2.2 | (with_reducible refine Kd.C_alloc ?_ _) | (with_reducible refine Kd.C_drewN ?_ _) | (with_reducible refine Kd.C_drew ?_)))
      (case side2 => exact (Kd.R_reads' HO160.out).2.1)
      rintro e w26 ⟨rfl, hb⟩
      refine ⟨_, rfl, ?_⟩
      have n0_ := Aside0.mk (Kd.R_below (by (with_reducible repeat (first | apply Kd.R_alloc | apply Kd.R_drewN | apply Kd.R_drew)); exact HO156.out) hb)
      have n1_ := Aside0.mk (Kd.R_below (by (with_reducible repeat (first | apply Kd.R_alloc | apply Kd.R_drewN | apply Kd.R_drew)); exact HO160.out) hb)
      have n2_ := Aside0.mk (blk_below (g := gb147) (o := .cells #[.int .i64 a0_0, .int .i64 a0_1, .slice A0_2 l0_2.length c0_2, .int .i64 a0_3, .int .i64 a0_4, .int .i64 a0_5, .int .i64 a0_6, .int .i64 a0_7, .int .i64 a0_8, .int .i64 a0_9] 56 (0, 0)) (by (with_reducible repeat (first | refine blk_drewN ?_ _ | refine blk_drew ?_ | refine blk_alloc ?_ _)); exact BK147.out) hb)
      have n3_ := Aside0.mk (below_step (by repeat (first | (with_reducible first | exact HB.out | apply below_alloc | apply pw_below_drewN | apply below_drew1 | refine below_set ?_ GE147.out) | exact HB.out)) hb)
      clear HO156
      clear HO160
      clear BK147
      clear HB
      have HO156 := n0_
      have HO160 := n1_
      have BK147 := n2_
      have HB := n3_
      clear n0_ n1_ n2_ n3_
      (try clear hb)
      (try clear hb2)
      (try clear hk)
      (try clear hi)
      refine hK.out _ _ ⟨v155, .slice Ao25 y158.length co25, (by rw [ha.out]; exact putSel_upk 8 hb_ rfl rfl rfl), (by (with_reducible repeat (first | refine blk_drewN ?_ _ | refine blk_drew ?_ | refine blk_alloc ?_ _)); exact BK147.out), (by repeat (first | (with_reducible first | exact HB.out | apply below_alloc | apply pw_below_drewN | apply below_drew1 | refine below_set ?_ GE147.out) | exact HB.out)), fun _ => (by (with_reducible repeat (first | apply Kd.R_alloc | apply Kd.R_drewN | apply Kd.R_drew)); exact HO156.out), fun _ => (by (with_reducible repeat (first | apply Kd.R_alloc | apply Kd.R_drewN | apply Kd.R_drew)); exact HO160.out)⟩
     refine steps_cons ?_ ?_
     ·rintro b a w' ⟨v155, v159, ha, Q_BK147, Q_HB, Q_HO156, Q_HO160⟩ hb_ hon hoff
      refine ⟨_, rfl, fun K hK => ?_⟩
      have e37 : a.tmps[37]? = some (.string (t157 ++ t149)) := by rw [ha]; exact putSel_on (e := (7, 37, .string (t157 ++ t149))) 4 rfl rfl (hon 7 (by kernel_rfl)) rfl
      have e45 : a.tmps[45]? = some (.string t161) := by rw [ha]; exact putSel_on (e := (15, 45, .string t161)) 8 rfl rfl (hon 15 (by kernel_rfl)) rfl
      replace ha := Aside0.mk ha
      have BK147 := Aside0.mk Q_BK147
      have HB := Aside0.mk Q_HB
      have HO156 := Aside0.mk (Q_HO156 (hon 4 (by kernel_rfl)))
      have HO160 := Aside0.mk (Q_HO160 (hon 14 (by kernel_rfl)))
      refine value_ (w1 := w') (v := .string ((t157 ++ t149) ++ t161)) (by rfl) rfl ?_ ?_
      ·go_simp
       (try simp only [i64_w])
       try rfl
      refine hK.out _ _ ⟨v155, v159, (by rw [ha.out]; exact putSel_upk 9 hb_ rfl rfl rfl), Q_BK147, Q_HB, Q_HO156, Q_HO160⟩
     refine steps_cons ?_ ?_
     ·rintro b a w' ⟨v155, v159, ha, Q_BK147, Q_HB, Q_HO156, Q_HO160⟩ hb_ hon hoff
      refine ⟨_, rfl, fun K hK => ?_⟩
      have e46 : a.tmps[46]? = some (.string ((t157 ++ t149) ++ t161)) := by rw [ha]; exact putSel_on (e := (16, 46, .string ((t157 ++ t149) ++ t161))) 9 rfl rfl (hon 16 (by kernel_rfl)) rfl
      replace ha := Aside0.mk ha
      have BK147 := Aside0.mk Q_BK147
      have HB := Aside0.mk Q_HB
      have HO156 := Aside0.mk (Q_HO156 (hon 4 (by kernel_rfl)))
      have HO160 := Aside0.mk (Q_HO160 (hon 14 (by kernel_rfl)))
      refine value_ (w1 := w') (v := .string ((t157 ++ t149) ++ t161)) (by rfl) rfl ?_ ?_
      ·go_simp
       (try simp only [i64_w])
       try rfl
      refine hK.out _ _ ⟨v155, v159, (by rw [ha.out]; exact putSel_upk 10 hb_ rfl rfl rfl), Q_BK147, Q_HB, Q_HO156, Q_HO160⟩
     exact steps_nil
    rintro b a w26 hall ⟨v155, v159, ha, Q_BK147, Q_HB, Q_HO156, Q_HO160⟩
    clear BK147 HB
    have hb1_ := hall 1 (by kernel_rfl)
    have hb3_ := hall 3 (by kernel_rfl)
    have hb4_ := hall 4 (by kernel_rfl)
    have hb5_ := hall 5 (by kernel_rfl)
    have hb7_ := hall 7 (by kernel_rfl)
    have hb10_ := hall 10 (by kernel_rfl)
    have hb13_ := hall 13 (by kernel_rfl)
    have hb14_ := hall 14 (by kernel_rfl)
    have hb15_ := hall 15 (by kernel_rfl)
    have hb16_ := hall 16 (by kernel_rfl)
    have hb17_ := hall 17 (by kernel_rfl)
    subst ha
    simp only [putSel, hb1_, hb3_, hb4_, hb5_, hb7_, hb10_, hb13_, hb14_, hb15_, hb16_, hb17_, if_true, Act.put, List.setIfInBounds_toArray, List.set_cons_zero, List.set_cons_succ]
    have BK147 := Aside0.mk Q_BK147
    clear Q_BK147
    have HB := Aside0.mk Q_HB
    clear Q_HB
    have HO156 := Aside0.mk (Q_HO156 hb4_)
    clear Q_HO156
    have HO160 := Aside0.mk (Q_HO160 hb14_)
    clear Q_HO160
    clear hall hb1_ hb3_ hb4_ hb5_ hb7_ hb10_ hb13_ hb14_ hb15_ hb16_ hb17_
    go_upto_if 47 with (fail)
    go_cut [10] (fun v10 wc => ∃ (kq : Nat) (x10_9 : ByteArray), v10 = .string x10_9 ∧ Aside0 (mE.j0 kq t152 t153 x10_9 a0_0 a0_1 l0_2 a0_3 a0_4 a0_5 a0_6 a0_7 a0_8 a0_9 = some (r1, r2)) ∧ Aside0 (kq ≤ k) ∧ Aside0 (wc.heap[gb147]? = some (.cells #[.int .i64 a0_0, .int .i64 a0_1, (.slice A0_2 l0_2.length c0_2), .int .i64 a0_3, .int .i64 a0_4, .int .i64 a0_5, .int .i64 a0_6, .int .i64 a0_7, .int .i64 a0_8, .int .i64 a0_9] 56 (0, 0))) ∧ Aside0 (Below w.heap.size w wc))
    case first =>
     have H := HC10.out
     clear HC10
     by_cases c27 : t151 = true
     ·subst c27
      have H1 : ((mN.f k (([a0_5, a0_6] : List Int))).bind fun t165 => (if ((t157 ++ t149) ++ t161).size + t165.size ≤ 9223372036854775807 then (mE.j0 k t152 t153 (((t157 ++ t149) ++ t161) ++ t165) a0_0 a0_1 l0_2 a0_3 a0_4 a0_5 a0_6 a0_7 a0_8 a0_9) else (none))) = some (r1, r2) := by rw [if_pos rfl] at H; exact H
      clear H
      have H := H1
      clear H1
      obtain ⟨y162, hy162⟩ : ∃ y_ : List Int, y_ = (([a0_5, a0_6] : List Int)) := ⟨_, rfl⟩
      replace H : ((mN.f k y162).bind fun t165 => (if ((t157 ++ t149) ++ t161).size + t165.size ≤ 9223372036854775807 then (mE.j0 k t152 t153 (((t157 ++ t149) ++ t161) ++ t165) a0_0 a0_1 l0_2 a0_3 a0_4 a0_5 a0_6 a0_7 a0_8 a0_9) else (none))) = some (r1, r2) := by first | (rw [hy162]; with_reducible exact H) | (have H2_ := (Option.bind_some _ _).symm.trans H; rw [hy162]; with_reducible exact H2_) | (have H2_ := (Option.bind_some _ _).symm.trans H; with_reducible exact H2_) | with_reducible exact H | (rw [hy162]; exact H) | exact H
      have Ny162 := Aside0.mk hy162
      clear hy162
      replace H := Option.bind_eq_some_iff.mp H
      obtain ⟨t165, A280, H⟩ := H
      replace H : (if ((t157 ++ t149) ++ t161).size + t165.size ≤ 9223372036854775807 then (mE.j0 k t152 t153 (((t157 ++ t149) ++ t161) ++ t165) a0_0 a0_1 l0_2 a0_3 a0_4 a0_5 a0_6 a0_7 a0_8 a0_9) else (none)) = some (r1, r2) := H
      have A28 := Aside0.mk A280
      clear A280
      by_cases c29 : ((t157 ++ t149) ++ t161).size + t165.size ≤ 9223372036854775807
      ·rw [if_pos c29] at H
       have c29b0 := eq_true c29
       have c29b1 : decide (((t157 ++ t149) ++ t161).size + t165.size ≤ 9223372036854775807) = true := decide_eq_true c29
       try have c29b2 : (9223372036854775807 < ((t157 ++ t149) ++ t161).size + t165.size) = False := eq_false (Nat.not_lt.2 c29)
       have c29x : t157.size + t149.size + t161.size + t165.size ≤ 9223372036854775807 := by have hx_ := of_decide_eq_true c29b1; simp only [ByteArray.size_append] at hx_; omega
       have c29b3 := eq_true c29x
       have c29b4 : decide (t157.size + t149.size + t161.size + t165.size ≤ 9223372036854775807) = true := decide_eq_true c29x
       have c29b5 : (9223372036854775807 < t157.size + t149.size + t161.size + t165.size) = False := eq_false (Nat.not_lt.2 c29x)
       clear c29x
       have H' := Aside0.mk H
       clear H
       have hcz30_0 : w26.cell? ⟨gb147, 0, none⟩ = some (.int .i64 a0_0) := (blk_cell BK147.out 0).trans rfl
       have hcz30_1 : w26.cell? ⟨gb147, 1, none⟩ = some (.int .i64 a0_1) := (blk_cell BK147.out 1).trans rfl
       have hcz30_2 : w26.cell? ⟨gb147, 2, none⟩ = some (.slice A0_2 l0_2.length c0_2) := (blk_cell BK147.out 2).trans rfl
       have hcz30_3 : w26.cell? ⟨gb147, 3, none⟩ = some (.int .i64 a0_3) := (blk_cell BK147.out 3).trans rfl
       have hcz30_4 : w26.cell? ⟨gb147, 4, none⟩ = some (.int .i64 a0_4) := (blk_cell BK147.out 4).trans rfl
       have hcz30_5 : w26.cell? ⟨gb147, 5, none⟩ = some (.int .i64 a0_5) := (blk_cell BK147.out 5).trans rfl
       have hcz30_6 : w26.cell? ⟨gb147, 6, none⟩ = some (.int .i64 a0_6) := (blk_cell BK147.out 6).trans rfl
       have hcz30_7 : w26.cell? ⟨gb147, 7, none⟩ = some (.int .i64 a0_7) := (blk_cell BK147.out 7).trans rfl
       have hcz30_8 : w26.cell? ⟨gb147, 8, none⟩ = some (.int .i64 a0_8) := (blk_cell BK147.out 8).trans rfl
       have hcz30_9 : w26.cell? ⟨gb147, 9, none⟩ = some (.int .i64 a0_9) := (blk_cell BK147.out 9).trans rfl
       have hfz30_0 := blk_frozen BK147.out 0
       have hfz30_1 := blk_frozen BK147.out 1
       have hfz30_2 := blk_frozen BK147.out 2
       have hfz30_3 := blk_frozen BK147.out 3
       have hfz30_4 := blk_frozen BK147.out 4
       have hfz30_5 := blk_frozen BK147.out 5
       have hfz30_6 := blk_frozen BK147.out 6
       have hfz30_7 := blk_frozen BK147.out 7
       have hfz30_8 := blk_frozen BK147.out 8
       have hfz30_9 := blk_frozen BK147.out 9
       go_wp2_with (first | ((with_reducible refine gate_dst (N := 57) rfl ?_); refine Kd.R_lit (Kd.int .i64) _ 3 ?hg (N := 57) ?hd (xs := ([a0_5, a0_6] : List Int)) (inner := [.int .i64 a0_5, .int .i64 a0_6]) (ok := fun _ => True) (okp := fun _ => True) ?hr ?hp (fun _ hk => hk) trivial (Below.refl _ _) (Nat.le_refl _) (by simp) ?_; (case hd => rfl); (case hg => rfl); (case hr => first | (go_simp; done) | (go_simp; rfl)); (case hp => exact (Reps.one (show Kd.M (Kd.int .i64) _ _ _ a0_5 [.int .i64 a0_5] from rfl) (Reps.one (show Kd.M (Kd.int .i64) _ _ _ a0_6 [.int .i64 a0_6] from rfl) (Reps.none _ _)))); intro v163 w31 ho32 hb hg_ hnew_; clear hg_ hnew_; (first | rw [← Ny162.out] at ho32 | (simp only [Int.reduceToNat] at ho32; rw [← Ny162.out] at ho32)); have n0_ := Aside0.mk (Kd.R_elder' (by (with_reducible repeat (first | apply Kd.R_alloc | apply Kd.R_drewN | apply Kd.R_drew)); exact HO156.out) (Kd.R_base ho32) hb); have n1_ := Aside0.mk (Kd.R_elder' (by (with_reducible repeat (first | apply Kd.R_alloc | apply Kd.R_drewN | apply Kd.R_drew)); exact HO160.out) (Kd.R_base ho32) hb); have n2_ := Aside0.mk (Kd.R_lower (Kd.R_new' (Kd.R_new' ho32 (Kd.R_lt (by (with_reducible repeat (first | apply Kd.R_alloc | apply Kd.R_drewN | apply Kd.R_drew)); exact HO156.out))) (Kd.R_lt (by (with_reducible repeat (first | apply Kd.R_alloc | apply Kd.R_drewN | apply Kd.R_drew)); exact HO160.out))) (below_size (by repeat (first | (with_reducible first | exact HB.out | apply below_alloc | apply pw_below_drewN | apply below_drew1 | refine below_set ?_ GE147.out) | exact HB.out)))); have n3_ := Aside0.mk (blk_below (g := gb147) (o := .cells #[.int .i64 a0_0, .int .i64 a0_1, .slice A0_2 l0_2.length c0_2, .int .i64 a0_3, .int .i64 a0_4, .int .i64 a0_5, .int .i64 a0_6, .int .i64 a0_7, .int .i64 a0_8, .int .i64 a0_9] 56 (0, 0)) (by (with_reducible repeat (first | refine blk_drewN ?_ _ | refine blk_drew ?_ | refine blk_alloc ?_ _)); exact BK147.out) hb); have n4_ := Aside0.mk (below_step (by repeat (first | (with_reducible first | exact HB.out | apply below_alloc | apply pw_below_drewN | apply below_drew1 | refine below_set ?_ GE147.out) | exact HB.out)) hb); clear HO156; clear HO160; clear BK147; clear HB; have HO156 := n0_; have HO160 := n1_; have HO164 := n2_; have BK147 := n3_; have HB := n4_; clear n0_ n1_ n2_ n3_ n4_; clear hb ho32; obtain ⟨Ao33, co33, eo33⟩ := Kd.R_slice HO164.out; subst eo33) | ((with_reducible refine gate_callee (f := 43) rfl ?_); refine goesL_ (some 58) rfl rfl Tryz.func43 (by kernel_rfl) rfl #[.slice Ao33 y162.length co33] rfl (by (try simp only [List.map_toArray, List.map_cons, List.map_nil]); first | done | rfl | (simp only [List.length_drop, List.length_take]; rfl)) ?_; (with_reducible refine (mN.calls k _ _ y162 t165 _ ?side1 ?side2 A28.out).mono ?_); (case side1 => repeat (first | exact (Kd.R_reads' HO164.out).2.2 | (with_reducible refine Kd.C_alloc ?_ _) | (with_reducible refine Kd.C_drewN ?_ _) | (with_reducible refine Kd.C_drew ?_))); (case side2 => exact (Kd.R_reads' HO164.out).2.1); rintro e w34 ⟨rfl, hb⟩; refine ⟨_, rfl, ?_⟩; have n0_ := Aside0.mk (Kd.R_below (by (with_reducible repeat (first | apply Kd.R_alloc | apply Kd.R_drewN | apply Kd.R_drew)); exact HO156.out) hb); have n1_ := Aside0.mk (Kd.R_below (by (with_reducible repeat (first | apply Kd.R_alloc | apply Kd.R_drewN | apply Kd.R_drew)); exact HO160.out) hb); have n2_ := Aside0.mk (Kd.R_below (by (with_reducible repeat (first | apply Kd.R_alloc | apply Kd.R_drewN | apply Kd.R_drew)); exact HO164.out) hb); have n3_ := Aside0.mk (blk_below (g := gb147) (o := .cells #[.int .i64 a0_0, .int .i64 a0_1, .slice A0_2 l0_2.length c0_2, .int .i64 a0_3, .int .i64 a0_4, .int .i64 a0_5, .int .i64 a0_6, .int .i64 a0_7, .int .i64 a0_8, .int .i64 a0_9] 56 (0, 0)) (by (with_reducible repeat (first | refine blk_drewN ?_ _ | refine blk_drew ?_ | refine blk_alloc ?_ _)); exact BK147.out) hb); have n4_ := Aside0.mk (below_step (by repeat (first | (with_reducible first | exact HB.out | apply below_alloc | apply pw_below_drewN | apply below_drew1 | refine below_set ?_ GE147.out) | exact HB.out)) hb); clear HO156; clear HO160; clear HO164; clear BK147; clear HB; have HO156 := n0_; have HO160 := n1_; have HO164 := n2_; have BK147 := n3_; have HB := n4_; clear n0_ n1_ n2_ n3_ n4_; (try clear hb); (try clear hb2); (try clear hk); (try clear hi)))
       go_meet
       case rel => exact ⟨_, (((t157 ++ t149) ++ t161) ++ t165), (by first | rfl | (simp; done) | (simp [*]; done)), H', ⟨by first | omega | exact Nat.le_refl _⟩, ⟨by (with_reducible repeat (first | refine blk_drewN ?_ _ | refine blk_drew ?_ | refine blk_alloc ?_ _)); exact BK147.out⟩, ⟨by repeat (first | (with_reducible first | exact HB.out | apply below_alloc | apply pw_below_drewN | apply below_drew1 | refine below_set ?_ GE147.out) | exact HB.out)⟩⟩
      ·rw [if_neg c29] at H
       exact absurd H (by simp)
     ·replace c27 := Bool.eq_false_iff.mpr c27
      subst c27
      have H1 : (mE.j0 k t152 t153 ((t157 ++ t149) ++ t161) a0_0 a0_1 l0_2 a0_3 a0_4 a0_5 a0_6 a0_7 a0_8 a0_9) = some (r1, r2) := by rw [if_neg (show ¬ (false = true) by decide)] at H; exact H
      clear H
      have H := H1
      clear H1
      have H' := Aside0.mk H
      clear H
      go_wp2
      go_meet
      case rel => exact ⟨_, ((t157 ++ t149) ++ t161), (by first | rfl | (simp; done) | (simp [*]; done)), H', ⟨by first | omega | exact Nat.le_refl _⟩, ⟨by (with_reducible repeat (first | refine blk_drewN ?_ _ | refine blk_drew ?_ | refine blk_alloc ?_ _)); exact BK147.out⟩, ⟨by repeat (first | (with_reducible first | exact HB.out | apply below_alloc | apply pw_below_drewN | apply below_drew1 | refine below_set ?_ GE147.out) | exact HB.out)⟩⟩
    case rest =>
     clear HC10
     try clear c1
     try clear c2
     try clear p2
     try clear c3
     try clear c3b0
     try clear c3b1
     try clear c4
     try clear c5
     try clear c6
     try clear c7
     try clear c7b0
     try clear c7b1
     try clear c7b2
     try clear c8
     try clear c9
     try clear c9b0
     try clear c9b1
     try clear c9b2
     try clear c19
     try clear c27
     try clear c29
     try clear c29b0
     try clear c29b1
     try clear c29b2
     try clear hcz12_0
     try clear hcz12_1
     try clear hcz12_2
     try clear hcz12_3
     try clear hcz12_4
     try clear hcz12_5
     try clear hcz12_6
     try clear hcz12_7
     try clear hcz12_8
     try clear hcz12_9
     try clear hcz14_0
     try clear hcz14_1
     try clear hcz14_2
     try clear hcz14_3
     try clear hcz14_4
     try clear hcz14_5
     try clear hcz14_6
     try clear hcz14_7
     try clear hcz14_8
     try clear hcz14_9
     try clear hcz16_0
     try clear hcz16_1
     try clear hcz16_2
     try clear hcz16_3
     try clear hcz16_4
     try clear hcz16_5
     try clear hcz16_6
     try clear hcz16_7
     try clear hcz16_8
     try clear hcz16_9
     try clear hcz30_0
     try clear hcz30_1
     try clear hcz30_2
     try clear hcz30_3
     try clear hcz30_4
     try clear hcz30_5
     try clear hcz30_6
     try clear hcz30_7
     try clear hcz30_8
     try clear hcz30_9
     try clear hfz12_0
     try clear hfz12_1
     try clear hfz12_2
     try clear hfz12_3
     try clear hfz12_4
     try clear hfz12_5
     try clear hfz12_6
     try clear hfz12_7
     try clear hfz12_8
     try clear hfz12_9
     try clear hfz14_0
     try clear hfz14_1
     try clear hfz14_2
     try clear hfz14_3
     try clear hfz14_4
     try clear hfz14_5
     try clear hfz14_6
     try clear hfz14_7
     try clear hfz14_8
     try clear hfz14_9
     try clear hfz16_0
     try clear hfz16_1
     try clear hfz16_2
     try clear hfz16_3
     try clear hfz16_4
     try clear hfz16_5
     try clear hfz16_6
     try clear hfz16_7
     try clear hfz16_8
     try clear hfz16_9
     try clear hfz30_0
     try clear hfz30_1
     try clear hfz30_2
     try clear hfz30_3
     try clear hfz30_4
     try clear hfz30_5
     try clear hfz30_6
     try clear hfz30_7
     try clear hfz30_8
     try clear hfz30_9
     obtain ⟨kq, x10_9, rfl, HA, HJ9, BK147, HB⟩ := hcut
     cases kq with
     | zero => exact absurd HA.out (by simp [mE.j0])
     | succ kj9 =>
      have H := HA.out
      clear HA
      simp only [mE.j0] at H
      by_cases c35 : t152 = true
      ·subst c35
       have H1 : ((mN.f kj9 (([a0_7, a0_8] : List Int))).bind fun t169 => (if x10_9.size + t169.size ≤ 9223372036854775807 then (if t153 = true then ((mN.f kj9 (([a0_9] : List Int))).bind fun t173 => (if (x10_9 ++ t169).size + t173.size ≤ 9223372036854775807 then (some ((x10_9 ++ t169) ++ t173, 0)) else (none))) else (some (x10_9 ++ t169, 0))) else (none))) = some (r1, r2) := by rw [if_pos rfl] at H; exact H
       clear H
       have H := H1
       clear H1
       obtain ⟨y166, hy166⟩ : ∃ y_ : List Int, y_ = (([a0_7, a0_8] : List Int)) := ⟨_, rfl⟩
       replace H : ((mN.f kj9 y166).bind fun t169 => (if x10_9.size + t169.size ≤ 9223372036854775807 then (if t153 = true then ((mN.f kj9 (([a0_9] : List Int))).bind fun t173 => (if (x10_9 ++ t169).size + t173.size ≤ 9223372036854775807 then (some ((x10_9 ++ t169) ++ t173, 0)) else (none))) else (some (x10_9 ++ t169, 0))) else (none))) = some (r1, r2) := by first | (rw [hy166]; with_reducible exact H) | (have H2_ := (Option.bind_some _ _).symm.trans H; rw [hy166]; with_reducible exact H2_) | (have H2_ := (Option.bind_some _ _).symm.trans H; with_reducible exact H2_) | with_reducible exact H | (rw [hy166]; exact H) | exact H
       have Ny166 := Aside0.mk hy166
       clear hy166
       replace H := Option.bind_eq_some_iff.mp H
       obtain ⟨t169, A360, H⟩ := H
       replace H : (if x10_9.size + t169.size ≤ 9223372036854775807 then (if t153 = true then ((mN.f kj9 (([a0_9] : List Int))).bind fun t173 => (if (x10_9 ++ t169).size + t173.size ≤ 9223372036854775807 then (some ((x10_9 ++ t169) ++ t173, 0)) else (none))) else (some (x10_9 ++ t169, 0))) else (none)) = some (r1, r2) := H
       have A36 := Aside0.mk A360
       clear A360
       by_cases c37 : x10_9.size + t169.size ≤ 9223372036854775807
       ·rw [if_pos c37] at H
        have c37b0 := eq_true c37
        have c37b1 : decide (x10_9.size + t169.size ≤ 9223372036854775807) = true := decide_eq_true c37
        try have c37b2 : (9223372036854775807 < x10_9.size + t169.size) = False := eq_false (Nat.not_lt.2 c37)
        by_cases c38 : t153 = true
        ·subst c38
         have H1 : ((mN.f kj9 (([a0_9] : List Int))).bind fun t173 => (if (x10_9 ++ t169).size + t173.size ≤ 9223372036854775807 then (some ((x10_9 ++ t169) ++ t173, 0)) else (none))) = some (r1, r2) := by rw [if_pos rfl] at H; exact H
         clear H
         have H := H1
         clear H1
         obtain ⟨y170, hy170⟩ : ∃ y_ : List Int, y_ = (([a0_9] : List Int)) := ⟨_, rfl⟩
         replace H : ((mN.f kj9 y170).bind fun t173 => (if (x10_9 ++ t169).size + t173.size ≤ 9223372036854775807 then (some ((x10_9 ++ t169) ++ t173, 0)) else (none))) = some (r1, r2) := by first | (rw [hy170]; with_reducible exact H) | (have H2_ := (Option.bind_some _ _).symm.trans H; rw [hy170]; with_reducible exact H2_) | (have H2_ := (Option.bind_some _ _).symm.trans H; with_reducible exact H2_) | with_reducible exact H | (rw [hy170]; exact H) | exact H
         have Ny170 := Aside0.mk hy170
         clear hy170
         replace H := Option.bind_eq_some_iff.mp H
         obtain ⟨t173, A390, H⟩ := H
         replace H : (if (x10_9 ++ t169).size + t173.size ≤ 9223372036854775807 then (some ((x10_9 ++ t169) ++ t173, 0)) else (none)) = some (r1, r2) := H
         have A39 := Aside0.mk A390
         clear A390
         by_cases c40 : (x10_9 ++ t169).size + t173.size ≤ 9223372036854775807
         ·rw [if_pos c40] at H
          have c40b0 := eq_true c40
          have c40b1 : decide ((x10_9 ++ t169).size + t173.size ≤ 9223372036854775807) = true := decide_eq_true c40
          try have c40b2 : (9223372036854775807 < (x10_9 ++ t169).size + t173.size) = False := eq_false (Nat.not_lt.2 c40)
          have c40x : x10_9.size + t169.size + t173.size ≤ 9223372036854775807 := by have hx_ := of_decide_eq_true c40b1; simp only [ByteArray.size_append] at hx_; omega
          have c40b3 := eq_true c40x
          have c40b4 : decide (x10_9.size + t169.size + t173.size ≤ 9223372036854775807) = true := decide_eq_true c40x
          have c40b5 : (9223372036854775807 < x10_9.size + t169.size + t173.size) = False := eq_false (Nat.not_lt.2 c40x)
          clear c40x
          simp only [Option.some.injEq, Prod.mk.injEq] at H
          obtain ⟨rfl, rfl⟩ := H
          have hcz41_0 : wc.cell? ⟨gb147, 0, none⟩ = some (.int .i64 a0_0) := (blk_cell BK147.out 0).trans rfl
          have hcz41_1 : wc.cell? ⟨gb147, 1, none⟩ = some (.int .i64 a0_1) := (blk_cell BK147.out 1).trans rfl
          have hcz41_2 : wc.cell? ⟨gb147, 2, none⟩ = some (.slice A0_2 l0_2.length c0_2) := (blk_cell BK147.out 2).trans rfl
          have hcz41_3 : wc.cell? ⟨gb147, 3, none⟩ = some (.int .i64 a0_3) := (blk_cell BK147.out 3).trans rfl
          have hcz41_4 : wc.cell? ⟨gb147, 4, none⟩ = some (.int .i64 a0_4) := (blk_cell BK147.out 4).trans rfl
          have hcz41_5 : wc.cell? ⟨gb147, 5, none⟩ = some (.int .i64 a0_5) := (blk_cell BK147.out 5).trans rfl
          have hcz41_6 : wc.cell? ⟨gb147, 6, none⟩ = some (.int .i64 a0_6) := (blk_cell BK147.out 6).trans rfl
          have hcz41_7 : wc.cell? ⟨gb147, 7, none⟩ = some (.int .i64 a0_7) := (blk_cell BK147.out 7).trans rfl
          have hcz41_8 : wc.cell? ⟨gb147, 8, none⟩ = some (.int .i64 a0_8) := (blk_cell BK147.out 8).trans rfl
          have hcz41_9 : wc.cell? ⟨gb147, 9, none⟩ = some (.int .i64 a0_9) := (blk_cell BK147.out 9).trans rfl
          have hfz41_0 := blk_frozen BK147.out 0
          have hfz41_1 := blk_frozen BK147.out 1
          have hfz41_2 := blk_frozen BK147.out 2
          have hfz41_3 := blk_frozen BK147.out 3
          have hfz41_4 := blk_frozen BK147.out 4
          have hfz41_5 := blk_frozen BK147.out 5
          have hfz41_6 := blk_frozen BK147.out 6
          have hfz41_7 := blk_frozen BK147.out 7
          have hfz41_8 := blk_frozen BK147.out 8
          have hfz41_9 := blk_frozen BK147.out 9
          go_wp2_with (first | ((with_reducible refine gate_dst (N := 70) rfl ?_); refine Kd.R_lit (Kd.int .i64) _ 3 ?hg (N := 70) ?hd (xs := ([a0_7, a0_8] : List Int)) (inner := [.int .i64 a0_7, .int .i64 a0_8]) (ok := fun _ => True) (okp := fun _ => True) ?hr ?hp (fun _ hk => hk) trivial (Below.refl _ _) (Nat.le_refl _) (by simp) ?_; (case hd => rfl); (case hg => rfl); (case hr => first | (go_simp; done) | (go_simp; rfl)); (case hp => exact (Reps.one (show Kd.M (Kd.int .i64) _ _ _ a0_7 [.int .i64 a0_7] from rfl) (Reps.one (show Kd.M (Kd.int .i64) _ _ _ a0_8 [.int .i64 a0_8] from rfl) (Reps.none _ _)))); intro v167 w42 ho43 hb hg_ hnew_; clear hg_ hnew_; (first | rw [← Ny166.out] at ho43 | (simp only [Int.reduceToNat] at ho43; rw [← Ny166.out] at ho43)); have n0_ := Aside0.mk (Kd.R_lower ho43 (below_size (by repeat (first | (with_reducible first | exact HB.out | apply below_alloc | apply pw_below_drewN | apply below_drew1 | refine below_set ?_ GE147.out) | exact HB.out)))); have n1_ := Aside0.mk (blk_below (g := gb147) (o := .cells #[.int .i64 a0_0, .int .i64 a0_1, .slice A0_2 l0_2.length c0_2, .int .i64 a0_3, .int .i64 a0_4, .int .i64 a0_5, .int .i64 a0_6, .int .i64 a0_7, .int .i64 a0_8, .int .i64 a0_9] 56 (0, 0)) (by (with_reducible repeat (first | refine blk_drewN ?_ _ | refine blk_drew ?_ | refine blk_alloc ?_ _)); exact BK147.out) hb); have n2_ := Aside0.mk (below_step (by repeat (first | (with_reducible first | exact HB.out | apply below_alloc | apply pw_below_drewN | apply below_drew1 | refine below_set ?_ GE147.out) | exact HB.out)) hb); clear BK147; clear HB; have HO168 := n0_; have BK147 := n1_; have HB := n2_; clear n0_ n1_ n2_; clear hb ho43; obtain ⟨Ao44, co44, eo44⟩ := Kd.R_slice HO168.out; subst eo44) | ((with_reducible refine gate_callee (f := 43) rfl ?_); refine goesL_ (some 71) rfl rfl Tryz.func43 (by kernel_rfl) rfl #[.slice Ao44 y166.length co44] rfl (by (try simp only [List.map_toArray, List.map_cons, List.map_nil]); first | done | rfl | (simp only [List.length_drop, List.length_take]; rfl)) ?_; (with_reducible refine (mN.calls kj9 _ _ y166 t169 _ ?side1 ?side2 A36.out).mono ?_); (case side1 => repeat (first | exact (Kd.R_reads' HO168.out).2.2 | (with_reducible refine Kd.C_alloc ?_ _) | (with_reducible refine Kd.C_drewN ?_ _) | (with_reducible refine Kd.C_drew ?_))); (case side2 => exact (Kd.R_reads' HO168.out).2.1); rintro e w45 ⟨rfl, hb⟩; refine ⟨_, rfl, ?_⟩; have n0_ := Aside0.mk (Kd.R_below (by (with_reducible repeat (first | apply Kd.R_alloc | apply Kd.R_drewN | apply Kd.R_drew)); exact HO168.out) hb); have n1_ := Aside0.mk (blk_below (g := gb147) (o := .cells #[.int .i64 a0_0, .int .i64 a0_1, .slice A0_2 l0_2.length c0_2, .int .i64 a0_3, .int .i64 a0_4, .int .i64 a0_5, .int .i64 a0_6, .int .i64 a0_7, .int .i64 a0_8, .int .i64 a0_9] 56 (0, 0)) (by (with_reducible repeat (first | refine blk_drewN ?_ _ | refine blk_drew ?_ | refine blk_alloc ?_ _)); exact BK147.out) hb); have n2_ := Aside0.mk (below_step (by repeat (first | (with_reducible first | exact HB.out | apply below_alloc | apply pw_below_drewN | apply below_drew1 | refine below_set ?_ GE147.out) | exact HB.out)) hb); clear HO168; clear BK147; clear HB; have HO168 := n0_; have BK147 := n1_; have HB := n2_; clear n0_ n1_ n2_; (try clear hb); (try clear hb2); (try clear hk); (try clear hi); have hcz46_0 : w45.cell? ⟨gb147, 0, none⟩ = some (.int .i64 a0_0) := (blk_cell BK147.out 0).trans rfl; have hcz46_1 : w45.cell? ⟨gb147, 1, none⟩ = some (.int .i64 a0_1) := (blk_cell BK147.out 1).trans rfl; have hcz46_2 : w45.cell? ⟨gb147, 2, none⟩ = some (.slice A0_2 l0_2.length c0_2) := (blk_cell BK147.out 2).trans rfl; have hcz46_3 : w45.cell? ⟨gb147, 3, none⟩ = some (.int .i64 a0_3) := (blk_cell BK147.out 3).trans rfl; have hcz46_4 : w45.cell? ⟨gb147, 4, none⟩ = some (.int .i64 a0_4) := (blk_cell BK147.out 4).trans rfl; have hcz46_5 : w45.cell? ⟨gb147, 5, none⟩ = some (.int .i64 a0_5) := (blk_cell BK147.out 5).trans rfl; have hcz46_6 : w45.cell? ⟨gb147, 6, none⟩ = some (.int .i64 a0_6) := (blk_cell BK147.out 6).trans rfl; have hcz46_7 : w45.cell? ⟨gb147, 7, none⟩ = some (.int .i64 a0_7) := (blk_cell BK147.out 7).trans rfl; have hcz46_8 : w45.cell? ⟨gb147, 8, none⟩ = some (.int .i64 a0_8) := (blk_cell BK147.out 8).trans rfl; have hcz46_9 : w45.cell? ⟨gb147, 9, none⟩ = some (.int .i64 a0_9) := (blk_cell BK147.out 9).trans rfl; have hfz46_0 := blk_frozen BK147.out 0; have hfz46_1 := blk_frozen BK147.out 1; have hfz46_2 := blk_frozen BK147.out 2; have hfz46_3 := blk_frozen BK147.out 3; have hfz46_4 := blk_frozen BK147.out 4; have hfz46_5 := blk_frozen BK147.out 5; have hfz46_6 := blk_frozen BK147.out 6; have hfz46_7 := blk_frozen BK147.out 7; have hfz46_8 := blk_frozen BK147.out 8; have hfz46_9 := blk_frozen BK147.out 9) | ((with_reducible refine gate_dst (N := 78) rfl ?_); refine Kd.R_lit (Kd.int .i64) _ 3 ?hg (N := 78) ?hd (xs := ([a0_9] : List Int)) (inner := [.int .i64 a0_9]) (ok := fun _ => True) (okp := fun _ => True) ?hr ?hp (fun _ hk => hk) trivial (Below.refl _ _) (Nat.le_refl _) (by simp) ?_; (case hd => rfl); (case hg => rfl); (case hr => first | (go_simp; done) | (go_simp; rfl)); (case hp => exact (Reps.one (show Kd.M (Kd.int .i64) _ _ _ a0_9 [.int .i64 a0_9] from rfl) (Reps.none _ _))); intro v171 w47 ho48 hb hg_ hnew_; clear hg_ hnew_; (first | rw [← Ny170.out] at ho48 | (simp only [Int.reduceToNat] at ho48; rw [← Ny170.out] at ho48)); have n0_ := Aside0.mk (Kd.R_elder' (by (with_reducible repeat (first | apply Kd.R_alloc | apply Kd.R_drewN | apply Kd.R_drew)); exact HO168.out) (Kd.R_base ho48) hb); have n1_ := Aside0.mk (Kd.R_lower (Kd.R_new' ho48 (Kd.R_lt (by (with_reducible repeat (first | apply Kd.R_alloc | apply Kd.R_drewN | apply Kd.R_drew)); exact HO168.out))) (below_size (by repeat (first | (with_reducible first | exact HB.out | apply below_alloc | apply pw_below_drewN | apply below_drew1 | refine below_set ?_ GE147.out) | exact HB.out)))); have n2_ := Aside0.mk (blk_below (g := gb147) (o := .cells #[.int .i64 a0_0, .int .i64 a0_1, .slice A0_2 l0_2.length c0_2, .int .i64 a0_3, .int .i64 a0_4, .int .i64 a0_5, .int .i64 a0_6, .int .i64 a0_7, .int .i64 a0_8, .int .i64 a0_9] 56 (0, 0)) (by (with_reducible repeat (first | refine blk_drewN ?_ _ | refine blk_drew ?_ | refine blk_alloc ?_ _)); exact BK147.out) hb); have n3_ := Aside0.mk (below_step (by repeat (first | (with_reducible first | exact HB.out | apply below_alloc | apply pw_below_drewN | apply below_drew1 | refine below_set ?_ GE147.out) | exact HB.out)) hb); clear HO168; clear BK147; clear HB; have HO168 := n0_; have HO172 := n1_; have BK147 := n2_; have HB := n3_; clear n0_ n1_ n2_ n3_; clear hb ho48; obtain ⟨Ao49, co49, eo49⟩ := Kd.R_slice HO172.out; subst eo49) | ((with_reducible refine gate_callee (f := 43) rfl ?_); refine goesL_ (some 79) rfl rfl Tryz.func43 (by kernel_rfl) rfl #[.slice Ao49 y170.length co49] rfl (by (try simp only [List.map_toArray, List.map_cons, List.map_nil]); first | done | rfl | (simp only [List.length_drop, List.length_take]; rfl)) ?_; (with_reducible refine (mN.calls kj9 _ _ y170 t173 _ ?side1 ?side2 A39.out).mono ?_); (case side1 => repeat (first | exact (Kd.R_reads' HO172.out).2.2 | (with_reducible refine Kd.C_alloc ?_ _) | (with_reducible refine Kd.C_drewN ?_ _) | (with_reducible refine Kd.C_drew ?_))); (case side2 => exact (Kd.R_reads' HO172.out).2.1); rintro e w50 ⟨rfl, hb⟩; refine ⟨_, rfl, ?_⟩; have n0_ := Aside0.mk (Kd.R_below (by (with_reducible repeat (first | apply Kd.R_alloc | apply Kd.R_drewN | apply Kd.R_drew)); exact HO168.out) hb); have n1_ := Aside0.mk (Kd.R_below (by (with_reducible repeat (first | apply Kd.R_alloc | apply Kd.R_drewN | apply Kd.R_drew)); exact HO172.out) hb); have n2_ := Aside0.mk (blk_below (g := gb147) (o := .cells #[.int .i64 a0_0, .int .i64 a0_1, .slice A0_2 l0_2.length c0_2, .int .i64 a0_3, .int .i64 a0_4, .int .i64 a0_5, .int .i64 a0_6, .int .i64 a0_7, .int .i64 a0_8, .int .i64 a0_9] 56 (0, 0)) (by (with_reducible repeat (first | refine blk_drewN ?_ _ | refine blk_drew ?_ | refine blk_alloc ?_ _)); exact BK147.out) hb); have n3_ := Aside0.mk (below_step (by repeat (first | (with_reducible first | exact HB.out | apply below_alloc | apply pw_below_drewN | apply below_drew1 | refine below_set ?_ GE147.out) | exact HB.out)) hb); clear HO168; clear HO172; clear BK147; clear HB; have HO168 := n0_; have HO172 := n1_; have BK147 := n2_; have HB := n3_; clear n0_ n1_ n2_ n3_; (try clear hb); (try clear hb2); (try clear hk); (try clear hi)))
          go_ret2
          exact ⟨by first | rfl | (simp [errW_none, errW_some] <;> rfl) | (simp [*, errW_none, errW_some] <;> rfl), by repeat (first | (with_reducible first | exact HB.out | apply below_alloc | apply pw_below_drewN | apply below_drew1 | refine below_set ?_ GE147.out) | exact HB.out)⟩
         ·rw [if_neg c40] at H
          exact absurd H (by simp)
        ·replace c38 := Bool.eq_false_iff.mpr c38
         subst c38
         have H1 : (some (x10_9 ++ t169, 0)) = some (r1, r2) := by rw [if_neg (show ¬ (false = true) by decide)] at H; exact H
         clear H
         have H := H1
         clear H1
         simp only [Option.some.injEq, Prod.mk.injEq] at H
         obtain ⟨rfl, rfl⟩ := H
         have hcz51_0 : wc.cell? ⟨gb147, 0, none⟩ = some (.int .i64 a0_0) := (blk_cell BK147.out 0).trans rfl
         have hcz51_1 : wc.cell? ⟨gb147, 1, none⟩ = some (.int .i64 a0_1) := (blk_cell BK147.out 1).trans rfl
         have hcz51_2 : wc.cell? ⟨gb147, 2, none⟩ = some (.slice A0_2 l0_2.length c0_2) := (blk_cell BK147.out 2).trans rfl
         have hcz51_3 : wc.cell? ⟨gb147, 3, none⟩ = some (.int .i64 a0_3) := (blk_cell BK147.out 3).trans rfl
         have hcz51_4 : wc.cell? ⟨gb147, 4, none⟩ = some (.int .i64 a0_4) := (blk_cell BK147.out 4).trans rfl
         have hcz51_5 : wc.cell? ⟨gb147, 5, none⟩ = some (.int .i64 a0_5) := (blk_cell BK147.out 5).trans rfl
         have hcz51_6 : wc.cell? ⟨gb147, 6, none⟩ = some (.int .i64 a0_6) := (blk_cell BK147.out 6).trans rfl
         have hcz51_7 : wc.cell? ⟨gb147, 7, none⟩ = some (.int .i64 a0_7) := (blk_cell BK147.out 7).trans rfl
         have hcz51_8 : wc.cell? ⟨gb147, 8, none⟩ = some (.int .i64 a0_8) := (blk_cell BK147.out 8).trans rfl
         have hcz51_9 : wc.cell? ⟨gb147, 9, none⟩ = some (.int .i64 a0_9) := (blk_cell BK147.out 9).trans rfl
         have hfz51_0 := blk_frozen BK147.out 0
         have hfz51_1 := blk_frozen BK147.out 1
         have hfz51_2 := blk_frozen BK147.out 2
         have hfz51_3 := blk_frozen BK147.out 3
         have hfz51_4 := blk_frozen BK147.out 4
         have hfz51_5 := blk_frozen BK147.out 5
         have hfz51_6 := blk_frozen BK147.out 6
         have hfz51_7 := blk_frozen BK147.out 7
         have hfz51_8 := blk_frozen BK147.out 8
         have hfz51_9 := blk_frozen BK147.out 9
         go_wp2_with (first | ((with_reducible refine gate_dst (N := 70) rfl ?_); refine Kd.R_lit (Kd.int .i64) _ 3 ?hg (N := 70) ?hd (xs := ([a0_7, a0_8] : List Int)) (inner := [.int .i64 a0_7, .int .i64 a0_8]) (ok := fun _ => True) (okp := fun _ => True) ?hr ?hp (fun _ hk => hk) trivial (Below.refl _ _) (Nat.le_refl _) (by simp) ?_; (case hd => rfl); (case hg => rfl); (case hr => first | (go_simp; done) | (go_simp; rfl)); (case hp => exact (Reps.one (show Kd.M (Kd.int .i64) _ _ _ a0_7 [.int .i64 a0_7] from rfl) (Reps.one (show Kd.M (Kd.int .i64) _ _ _ a0_8 [.int .i64 a0_8] from rfl) (Reps.none _ _)))); intro v167 w52 ho53 hb hg_ hnew_; clear hg_ hnew_; (first | rw [← Ny166.out] at ho53 | (simp only [Int.reduceToNat] at ho53; rw [← Ny166.out] at ho53)); have n0_ := Aside0.mk (Kd.R_lower ho53 (below_size (by repeat (first | (with_reducible first | exact HB.out | apply below_alloc | apply pw_below_drewN | apply below_drew1 | refine below_set ?_ GE147.out) | exact HB.out)))); have n1_ := Aside0.mk (blk_below (g := gb147) (o := .cells #[.int .i64 a0_0, .int .i64 a0_1, .slice A0_2 l0_2.length c0_2, .int .i64 a0_3, .int .i64 a0_4, .int .i64 a0_5, .int .i64 a0_6, .int .i64 a0_7, .int .i64 a0_8, .int .i64 a0_9] 56 (0, 0)) (by (with_reducible repeat (first | refine blk_drewN ?_ _ | refine blk_drew ?_ | refine blk_alloc ?_ _)); exact BK147.out) hb); have n2_ := Aside0.mk (below_step (by repeat (first | (with_reducible first | exact HB.out | apply below_alloc | apply pw_below_drewN | apply below_drew1 | refine below_set ?_ GE147.out) | exact HB.out)) hb); clear BK147; clear HB; have HO168 := n0_; have BK147 := n1_; have HB := n2_; clear n0_ n1_ n2_; clear hb ho53; obtain ⟨Ao54, co54, eo54⟩ := Kd.R_slice HO168.out; subst eo54) | ((with_reducible refine gate_callee (f := 43) rfl ?_); refine goesL_ (some 71) rfl rfl Tryz.func43 (by kernel_rfl) rfl #[.slice Ao54 y166.length co54] rfl (by (try simp only [List.map_toArray, List.map_cons, List.map_nil]); first | done | rfl | (simp only [List.length_drop, List.length_take]; rfl)) ?_; (with_reducible refine (mN.calls kj9 _ _ y166 t169 _ ?side1 ?side2 A36.out).mono ?_); (case side1 => repeat (first | exact (Kd.R_reads' HO168.out).2.2 | (with_reducible refine Kd.C_alloc ?_ _) | (with_reducible refine Kd.C_drewN ?_ _) | (with_reducible refine Kd.C_drew ?_))); (case side2 => exact (Kd.R_reads' HO168.out).2.1); rintro e w55 ⟨rfl, hb⟩; refine ⟨_, rfl, ?_⟩; have n0_ := Aside0.mk (Kd.R_below (by (with_reducible repeat (first | apply Kd.R_alloc | apply Kd.R_drewN | apply Kd.R_drew)); exact HO168.out) hb); have n1_ := Aside0.mk (blk_below (g := gb147) (o := .cells #[.int .i64 a0_0, .int .i64 a0_1, .slice A0_2 l0_2.length c0_2, .int .i64 a0_3, .int .i64 a0_4, .int .i64 a0_5, .int .i64 a0_6, .int .i64 a0_7, .int .i64 a0_8, .int .i64 a0_9] 56 (0, 0)) (by (with_reducible repeat (first | refine blk_drewN ?_ _ | refine blk_drew ?_ | refine blk_alloc ?_ _)); exact BK147.out) hb); have n2_ := Aside0.mk (below_step (by repeat (first | (with_reducible first | exact HB.out | apply below_alloc | apply pw_below_drewN | apply below_drew1 | refine below_set ?_ GE147.out) | exact HB.out)) hb); clear HO168; clear BK147; clear HB; have HO168 := n0_; have BK147 := n1_; have HB := n2_; clear n0_ n1_ n2_; (try clear hb); (try clear hb2); (try clear hk); (try clear hi)))
         go_ret2
         exact ⟨by first | rfl | (simp [errW_none, errW_some] <;> rfl) | (simp [*, errW_none, errW_some] <;> rfl), by repeat (first | (with_reducible first | exact HB.out | apply below_alloc | apply pw_below_drewN | apply below_drew1 | refine below_set ?_ GE147.out) | exact HB.out)⟩
       ·rw [if_neg c37] at H
        exact absurd H (by simp)
      ·replace c35 := Bool.eq_false_iff.mpr c35
       subst c35
       have H1 : (if t153 = true then ((mN.f kj9 (([a0_9] : List Int))).bind fun t177 => (if x10_9.size + t177.size ≤ 9223372036854775807 then (some (x10_9 ++ t177, 0)) else (none))) else (some (x10_9, 0))) = some (r1, r2) := by rw [if_neg (show ¬ (false = true) by decide)] at H; exact H
       clear H
       have H := H1
       clear H1
       by_cases c56 : t153 = true
       ·subst c56
        have H1 : ((mN.f kj9 (([a0_9] : List Int))).bind fun t177 => (if x10_9.size + t177.size ≤ 9223372036854775807 then (some (x10_9 ++ t177, 0)) else (none))) = some (r1, r2) := by rw [if_pos rfl] at H; exact H
        clear H
        have H := H1
        clear H1
        obtain ⟨y174, hy174⟩ : ∃ y_ : List Int, y_ = (([a0_9] : List Int)) := ⟨_, rfl⟩
        replace H : ((mN.f kj9 y174).bind fun t177 => (if x10_9.size + t177.size ≤ 9223372036854775807 then (some (x10_9 ++ t177, 0)) else (none))) = some (r1, r2) := by first | (rw [hy174]; with_reducible exact H) | (have H2_ := (Option.bind_some _ _).symm.trans H; rw [hy174]; with_reducible exact H2_) | (have H2_ := (Option.bind_some _ _).symm.trans H; with_reducible exact H2_) | with_reducible exact H | (rw [hy174]; exact H) | exact H
        have Ny174 := Aside0.mk hy174
        clear hy174
        replace H := Option.bind_eq_some_iff.mp H
        obtain ⟨t177, A570, H⟩ := H
        replace H : (if x10_9.size + t177.size ≤ 9223372036854775807 then (some (x10_9 ++ t177, 0)) else (none)) = some (r1, r2) := H
        have A57 := Aside0.mk A570
        clear A570
        by_cases c58 : x10_9.size + t177.size ≤ 9223372036854775807
        ·rw [if_pos c58] at H
         have c58b0 := eq_true c58
         have c58b1 : decide (x10_9.size + t177.size ≤ 9223372036854775807) = true := decide_eq_true c58
         try have c58b2 : (9223372036854775807 < x10_9.size + t177.size) = False := eq_false (Nat.not_lt.2 c58)
         simp only [Option.some.injEq, Prod.mk.injEq] at H
         obtain ⟨rfl, rfl⟩ := H
         have hcz59_0 : wc.cell? ⟨gb147, 0, none⟩ = some (.int .i64 a0_0) := (blk_cell BK147.out 0).trans rfl
         have hcz59_1 : wc.cell? ⟨gb147, 1, none⟩ = some (.int .i64 a0_1) := (blk_cell BK147.out 1).trans rfl
         have hcz59_2 : wc.cell? ⟨gb147, 2, none⟩ = some (.slice A0_2 l0_2.length c0_2) := (blk_cell BK147.out 2).trans rfl
         have hcz59_3 : wc.cell? ⟨gb147, 3, none⟩ = some (.int .i64 a0_3) := (blk_cell BK147.out 3).trans rfl
         have hcz59_4 : wc.cell? ⟨gb147, 4, none⟩ = some (.int .i64 a0_4) := (blk_cell BK147.out 4).trans rfl
         have hcz59_5 : wc.cell? ⟨gb147, 5, none⟩ = some (.int .i64 a0_5) := (blk_cell BK147.out 5).trans rfl
         have hcz59_6 : wc.cell? ⟨gb147, 6, none⟩ = some (.int .i64 a0_6) := (blk_cell BK147.out 6).trans rfl
         have hcz59_7 : wc.cell? ⟨gb147, 7, none⟩ = some (.int .i64 a0_7) := (blk_cell BK147.out 7).trans rfl
         have hcz59_8 : wc.cell? ⟨gb147, 8, none⟩ = some (.int .i64 a0_8) := (blk_cell BK147.out 8).trans rfl
         have hcz59_9 : wc.cell? ⟨gb147, 9, none⟩ = some (.int .i64 a0_9) := (blk_cell BK147.out 9).trans rfl
         have hfz59_0 := blk_frozen BK147.out 0
         have hfz59_1 := blk_frozen BK147.out 1
         have hfz59_2 := blk_frozen BK147.out 2
         have hfz59_3 := blk_frozen BK147.out 3
         have hfz59_4 := blk_frozen BK147.out 4
         have hfz59_5 := blk_frozen BK147.out 5
         have hfz59_6 := blk_frozen BK147.out 6
         have hfz59_7 := blk_frozen BK147.out 7
         have hfz59_8 := blk_frozen BK147.out 8
         have hfz59_9 := blk_frozen BK147.out 9
         go_wp2_with (first | ((with_reducible refine gate_dst (N := 78) rfl ?_); refine Kd.R_lit (Kd.int .i64) _ 3 ?hg (N := 78) ?hd (xs := ([a0_9] : List Int)) (inner := [.int .i64 a0_9]) (ok := fun _ => True) (okp := fun _ => True) ?hr ?hp (fun _ hk => hk) trivial (Below.refl _ _) (Nat.le_refl _) (by simp) ?_; (case hd => rfl); (case hg => rfl); (case hr => first | (go_simp; done) | (go_simp; rfl)); (case hp => exact (Reps.one (show Kd.M (Kd.int .i64) _ _ _ a0_9 [.int .i64 a0_9] from rfl) (Reps.none _ _))); intro v175 w60 ho61 hb hg_ hnew_; clear hg_ hnew_; (first | rw [← Ny174.out] at ho61 | (simp only [Int.reduceToNat] at ho61; rw [← Ny174.out] at ho61)); have n0_ := Aside0.mk (Kd.R_lower ho61 (below_size (by repeat (first | (with_reducible first | exact HB.out | apply below_alloc | apply pw_below_drewN | apply below_drew1 | refine below_set ?_ GE147.out) | exact HB.out)))); have n1_ := Aside0.mk (blk_below (g := gb147) (o := .cells #[.int .i64 a0_0, .int .i64 a0_1, .slice A0_2 l0_2.length c0_2, .int .i64 a0_3, .int .i64 a0_4, .int .i64 a0_5, .int .i64 a0_6, .int .i64 a0_7, .int .i64 a0_8, .int .i64 a0_9] 56 (0, 0)) (by (with_reducible repeat (first | refine blk_drewN ?_ _ | refine blk_drew ?_ | refine blk_alloc ?_ _)); exact BK147.out) hb); have n2_ := Aside0.mk (below_step (by repeat (first | (with_reducible first | exact HB.out | apply below_alloc | apply pw_below_drewN | apply below_drew1 | refine below_set ?_ GE147.out) | exact HB.out)) hb); clear BK147; clear HB; have HO176 := n0_; have BK147 := n1_; have HB := n2_; clear n0_ n1_ n2_; clear hb ho61; obtain ⟨Ao62, co62, eo62⟩ := Kd.R_slice HO176.out; subst eo62) | ((with_reducible refine gate_callee (f := 43) rfl ?_); refine goesL_ (some 79) rfl rfl Tryz.func43 (by kernel_rfl) rfl #[.slice Ao62 y174.length co62] rfl (by (try simp only [List.map_toArray, List.map_cons, List.map_nil]); first | done | rfl | (simp only [List.length_drop, List.length_take]; rfl)) ?_; (with_reducible refine (mN.calls kj9 _ _ y174 t177 _ ?side1 ?side2 A57.out).mono ?_); (case side1 => repeat (first | exact (Kd.R_reads' HO176.out).2.2 | (with_reducible refine Kd.C_alloc ?_ _) | (with_reducible refine Kd.C_drewN ?_ _) | (with_reducible refine Kd.C_drew ?_))); (case side2 => exact (Kd.R_reads' HO176.out).2.1); rintro e w63 ⟨rfl, hb⟩; refine ⟨_, rfl, ?_⟩; have n0_ := Aside0.mk (Kd.R_below (by (with_reducible repeat (first | apply Kd.R_alloc | apply Kd.R_drewN | apply Kd.R_drew)); exact HO176.out) hb); have n1_ := Aside0.mk (blk_below (g := gb147) (o := .cells #[.int .i64 a0_0, .int .i64 a0_1, .slice A0_2 l0_2.length c0_2, .int .i64 a0_3, .int .i64 a0_4, .int .i64 a0_5, .int .i64 a0_6, .int .i64 a0_7, .int .i64 a0_8, .int .i64 a0_9] 56 (0, 0)) (by (with_reducible repeat (first | refine blk_drewN ?_ _ | refine blk_drew ?_ | refine blk_alloc ?_ _)); exact BK147.out) hb); have n2_ := Aside0.mk (below_step (by repeat (first | (with_reducible first | exact HB.out | apply below_alloc | apply pw_below_drewN | apply below_drew1 | refine below_set ?_ GE147.out) | exact HB.out)) hb); clear HO176; clear BK147; clear HB; have HO176 := n0_; have BK147 := n1_; have HB := n2_; clear n0_ n1_ n2_; (try clear hb); (try clear hb2); (try clear hk); (try clear hi)))
         go_ret2
         exact ⟨by first | rfl | (simp [errW_none, errW_some] <;> rfl) | (simp [*, errW_none, errW_some] <;> rfl), by repeat (first | (with_reducible first | exact HB.out | apply below_alloc | apply pw_below_drewN | apply below_drew1 | refine below_set ?_ GE147.out) | exact HB.out)⟩
        ·rw [if_neg c58] at H
         exact absurd H (by simp)
       ·replace c56 := Bool.eq_false_iff.mpr c56
        subst c56
        have H1 : (some (x10_9, 0)) = some (r1, r2) := by rw [if_neg (show ¬ (false = true) by decide)] at H; exact H
        clear H
        have H := H1
        clear H1
        simp only [Option.some.injEq, Prod.mk.injEq] at H
        obtain ⟨rfl, rfl⟩ := H
        go_wp2
        go_ret2
        exact ⟨by first | rfl | (simp [errW_none, errW_some] <;> rfl) | (simp [*, errW_none, errW_some] <;> rfl), by repeat (first | (with_reducible first | exact HB.out | apply below_alloc | apply pw_below_drewN | apply below_drew1 | refine below_set ?_ GE147.out) | exact HB.out)⟩
   ·rw [if_neg c9] at H
    exact absurd H (by simp)
  ·rw [if_neg c7] at H
   exact absurd H (by simp)
 ·rw [if_neg c3] at H
  have c3b0 : (t148 == 0) = false := beq_eq_false_iff_ne.mpr c3
  have c3b1 : (t148 != 0) = true := bne_iff_ne.mpr c3
  simp only [Option.some.injEq, Prod.mk.injEq] at H
  obtain ⟨rfl, rfl⟩ := H
  go_enter Tryz.func19, Tryz.ntmps19
  go_wp2_with (first | ((with_reducible refine gate_dst (N := 1) rfl ?_); refine box_event ?hg (N := 1) ?hd (cs := #[.int .i64 a0_0, .int .i64 a0_1, .slice A0_2 l0_2.length c0_2, .int .i64 a0_3, .int .i64 a0_4, .int .i64 a0_5, .int .i64 a0_6, .int .i64 a0_7, .int .i64 a0_8, .int .i64 a0_9]) (t := 56) ?hr ?_; (case hd => rfl); (case hg => rfl); (case hr => first | (go_simp; done) | (go_simp; rfl)); intro gb147 hg w64 hbox hb; have n0_ := Aside0.mk (below_step (by repeat (first | (with_reducible first | exact HB.out | apply below_alloc | apply pw_below_drewN | apply below_drew1) | exact HB.out)) hb); have n1_ := Aside0.mk (hbox); have n2_ := Aside0.mk ((by rw [hg]; exact (below_size (by repeat (first | (with_reducible first | exact HB.out | apply below_alloc | apply pw_below_drewN | apply below_drew1) | exact HB.out))) : w.heap.size ≤ gb147)); have n3_ := Aside0.mk ((by rw [hg]; exact (below_size (by repeat (first | (with_reducible first | exact HB.out | apply below_alloc | apply pw_below_drewN | apply below_drew1) | exact HB.out))) : w.heap.size ≤ gb147)); clear HB; have HB := n0_; have BK147 := n1_; have GW147 := n2_; have GE147 := n3_; clear n0_ n1_ n2_ n3_; clear hb hbox hg; have hcz65_0 : w64.cell? ⟨gb147, 0, none⟩ = some (.int .i64 a0_0) := (blk_cell BK147.out 0).trans rfl; have hcz65_1 : w64.cell? ⟨gb147, 1, none⟩ = some (.int .i64 a0_1) := (blk_cell BK147.out 1).trans rfl; have hcz65_2 : w64.cell? ⟨gb147, 2, none⟩ = some (.slice A0_2 l0_2.length c0_2) := (blk_cell BK147.out 2).trans rfl; have hcz65_3 : w64.cell? ⟨gb147, 3, none⟩ = some (.int .i64 a0_3) := (blk_cell BK147.out 3).trans rfl; have hcz65_4 : w64.cell? ⟨gb147, 4, none⟩ = some (.int .i64 a0_4) := (blk_cell BK147.out 4).trans rfl; have hcz65_5 : w64.cell? ⟨gb147, 5, none⟩ = some (.int .i64 a0_5) := (blk_cell BK147.out 5).trans rfl; have hcz65_6 : w64.cell? ⟨gb147, 6, none⟩ = some (.int .i64 a0_6) := (blk_cell BK147.out 6).trans rfl; have hcz65_7 : w64.cell? ⟨gb147, 7, none⟩ = some (.int .i64 a0_7) := (blk_cell BK147.out 7).trans rfl; have hcz65_8 : w64.cell? ⟨gb147, 8, none⟩ = some (.int .i64 a0_8) := (blk_cell BK147.out 8).trans rfl; have hcz65_9 : w64.cell? ⟨gb147, 9, none⟩ = some (.int .i64 a0_9) := (blk_cell BK147.out 9).trans rfl; have hfz65_0 := blk_frozen BK147.out 0; have hfz65_1 := blk_frozen BK147.out 1; have hfz65_2 := blk_frozen BK147.out 2; have hfz65_3 := blk_frozen BK147.out 3; have hfz65_4 := blk_frozen BK147.out 4; have hfz65_5 := blk_frozen BK147.out 5; have hfz65_6 := blk_frozen BK147.out 6; have hfz65_7 := blk_frozen BK147.out 7; have hfz65_8 := blk_frozen BK147.out 8; have hfz65_9 := blk_frozen BK147.out 9) | ((with_reducible refine gate_callee (f := 40) rfl ?_); refine goesL_ (some 12) rfl rfl Tryz.func40 (by kernel_rfl) rfl #[.agg #[.int .i64 a0_0, .int .i64 a0_1, .slice A0_2 l0_2.length c0_2, .int .i64 a0_3, .int .i64 a0_4, .int .i64 a0_5, .int .i64 a0_6, .int .i64 a0_7, .int .i64 a0_8, .int .i64 a0_9]] rfl (by (try simp only [List.map_toArray, List.map_cons, List.map_nil]); first | done | rfl | (simp only [List.length_drop, List.length_take]; rfl)) ?_; (with_reducible refine (mC.calls a0_0 a0_1 _ _ l0_2 a0_3 a0_4 a0_5 a0_6 a0_7 a0_8 a0_9 t148 _ ?side1 ?side2 A2.out).mono ?_); (case side1 => repeat (first | exact (Kd.C_below HR0_2.out HB.out) | (with_reducible refine Kd.C_alloc ?_ _) | (with_reducible refine Kd.C_drewN ?_ _) | (with_reducible refine Kd.C_drew ?_))); (case side2 => exact HC0_2.out); rintro e w66 ⟨rfl, hb⟩; refine ⟨_, rfl, ?_⟩; have n0_ := Aside0.mk (blk_below (g := gb147) (o := .cells #[.int .i64 a0_0, .int .i64 a0_1, .slice A0_2 l0_2.length c0_2, .int .i64 a0_3, .int .i64 a0_4, .int .i64 a0_5, .int .i64 a0_6, .int .i64 a0_7, .int .i64 a0_8, .int .i64 a0_9] 56 (0, 0)) (by (with_reducible repeat (first | refine blk_drewN ?_ _ | refine blk_drew ?_ | refine blk_alloc ?_ _)); exact BK147.out) hb); have n1_ := Aside0.mk (below_step (by repeat (first | (with_reducible first | exact HB.out | apply below_alloc | apply pw_below_drewN | apply below_drew1 | refine below_set ?_ GE147.out) | exact HB.out)) hb); clear BK147; clear HB; have BK147 := n0_; have HB := n1_; clear n0_ n1_; (try clear hb); (try clear hb2); (try clear hk); (try clear hi)))
  go_ret2
  exact ⟨by first | rfl | (simp [errW_none, errW_some] <;> rfl) | (simp [*, errW_none, errW_some] <;> rfl), by repeat (first | (with_reducible first | exact HB.out | apply below_alloc | apply pw_below_drewN | apply below_drew1 | refine below_set ?_ GE147.out) | exact HB.out)⟩
theorem mE.at (k : Nat) (a0_0 : Int) (a0_1 : Int) (A0_2 : Option Addr) (c0_2 : Nat) (n0_2 : Nat) (l0_2 : List Int) (a0_3 : Int) (a0_4 : Int) (a0_5 : Int) (a0_6 : Int) (a0_7 : Int) (a0_8 : Int) (a0_9 : Int) (r1 : ByteArray) (r2 : Int) (w : World) (hr0_2 : Kd.C (Kd.int .i64) w A0_2 n0_2 l0_2) (hc0_2 : n0_2 ≤ c0_2) (h : mE.f k a0_0 a0_1 l0_2 a0_3 a0_4 a0_5 a0_6 a0_7 a0_8 a0_9 = some (r1, r2)) :
  Calls Tryz.prog 19 #[.agg #[.int .i64 a0_0, .int .i64 a0_1, .slice A0_2 n0_2 c0_2, .int .i64 a0_3, .int .i64 a0_4, .int .i64 a0_5, .int .i64 a0_6, .int .i64 a0_7, .int .i64 a0_8, .int .i64 a0_9]] w fun e w' => e = .returned (.tuple #[.string r1, .int .i64 r2]) ∧ Below w.heap.size w w' := by
 obtain rfl : l0_2.length = n0_2 := Kd.C_len hr0_2
 exact mE.calls k a0_0 a0_1 A0_2 c0_2 l0_2 a0_3 a0_4 a0_5 a0_6 a0_7 a0_8 a0_9 r1 r2 w hr0_2 hc0_2 h
end Go.Proofs.YtphdjpfdelpecaaGreatDoor.PTopf
