/- Functions that the law reaches, each as a plain Lean function with the proof that the call does what it says. Conditions: none beyond those that each theorem states. Written by a program for this claim. -/
import Derived.Test.YthofobcbbddeeaaPMeswx0
import Derived.Test.YthofobcbbddeeaaPMeswx9
import Derived.Test.YthofobcbbddeeaaPMeswx10
namespace Go.Proofs.Ythofobcbbddeeaa.PMesw
open Go.RowKit Go.Proofs.YthofobcbbddeeaaW.PrintWords Go.Proofs.YthofobcbbddeeaaW.PrintLast Go.Proofs.YthofobcbbddeeaaW.PrintMore
attribute [local go_sem] max2_int min2_int max_two min_two max_three min_three max_four min_four   -- for this text's walks alone
set_option linter.unusedVariables false
set_option linter.unusedSimpArgs false

/-! ### duetref04_Encode: function 17 -/
mutual
def duetref04_Encode.j0 : Nat → ByteArray → Bool → Int → Int → List Int → Int → Int → Int → Int → Int → Int → Int → Option (ByteArray × Int)
  | 0, _, _, _, _, _, _, _, _, _, _, _, _ => none
  | k + 1, x6, x42, x215000, x215001, x215002, x215003, x215004, x215005, x215006, x215007, x215008, x215009 => if x42 = true then ((duetref04_nums.f k (([x215005, x215006] : List Int))).bind fun t229 => (if x6.size + t229.size ≤ 9223372036854775807 then (duetref04_Encode.j1 k (x6 ++ t229) x215000 x215001 x215002 x215003 x215004 x215005 x215006 x215007 x215008 x215009) else (none))) else (duetref04_Encode.j1 k x6 x215000 x215001 x215002 x215003 x215004 x215005 x215006 x215007 x215008 x215009)
def duetref04_Encode.j1 : Nat → ByteArray → Int → Int → List Int → Int → Int → Int → Int → Int → Int → Int → Option (ByteArray × Int)
  | 0, _, _, _, _, _, _, _, _, _, _, _ => none
  | k + 1, x6, x215000, x215001, x215002, x215003, x215004, x215005, x215006, x215007, x215008, x215009 => if x215003 = 6 then (if x215003 = 1 then ((duetref04_nums.f k (([x215009] : List Int))).bind fun t233 => (if x6.size + t233.size ≤ 9223372036854775807 then (some (x6 ++ t233, 0)) else (none))) else (some (x6, 0))) else ((duetref04_nums.f k (([x215007, x215008] : List Int))).bind fun t237 => (if x6.size + t237.size ≤ 9223372036854775807 then (if x215003 = 1 then ((duetref04_nums.f k (([x215009] : List Int))).bind fun t241 => (if (x6 ++ t237).size + t241.size ≤ 9223372036854775807 then (some ((x6 ++ t237) ++ t241, 0)) else (none))) else (some (x6 ++ t237, 0))) else (none)))
end
def duetref04_Encode.f (k : Nat) (a0_0 : Int) (a0_1 : Int) (l0_2 : List Int) (a0_3 : Int) (a0_4 : Int) (a0_5 : Int) (a0_6 : Int) (a0_7 : Int) (a0_8 : Int) (a0_9 : Int) : Option (ByteArray × Int) := (duetref04_Check.f k a0_0 a0_1 l0_2 a0_3 a0_4 a0_5 a0_6 a0_7 a0_8 a0_9).bind fun t215 => (if t215 = 0 then ((duetref01_List.f k l0_2).bind fun bt216 => ((duetref04_nums.f k (([a0_0, a0_1] : List Int))).bind fun t221 => (if t221.size + bt216.1.size ≤ 9223372036854775807 then ((duetref04_nums.f k (([a0_3, a0_4] : List Int))).bind fun t225 => (if (t221 ++ bt216.1).size + t225.size ≤ 9223372036854775807 then (if a0_3 = 1 then (duetref04_Encode.j0 k ((t221 ++ bt216.1) ++ t225) true a0_0 a0_1 l0_2 a0_3 a0_4 a0_5 a0_6 a0_7 a0_8 a0_9) else (duetref04_Encode.j0 k ((t221 ++ bt216.1) ++ t225) (a0_3 == 6) a0_0 a0_1 l0_2 a0_3 a0_4 a0_5 a0_6 a0_7 a0_8 a0_9)) else (none))) else (none)))) else (some ((⟨#[]⟩ : ByteArray), 1)))
theorem duetref04_Encode.mono_l : ∀ k, (∀ y0 y1 y2 y3 y4 y5 y6 y7 y8 y9 y10 y11, LeO (duetref04_Encode.j0 k y0 y1 y2 y3 y4 y5 y6 y7 y8 y9 y10 y11) (duetref04_Encode.j0 (k + 1) y0 y1 y2 y3 y4 y5 y6 y7 y8 y9 y10 y11)) ∧ (∀ y0 y1 y2 y3 y4 y5 y6 y7 y8 y9 y10, LeO (duetref04_Encode.j1 k y0 y1 y2 y3 y4 y5 y6 y7 y8 y9 y10) (duetref04_Encode.j1 (k + 1) y0 y1 y2 y3 y4 y5 y6 y7 y8 y9 y10))
  | 0 => ⟨fun _ _ _ _ _ _ _ _ _ _ _ _ r h => by simp [duetref04_Encode.j0] at h, fun _ _ _ _ _ _ _ _ _ _ _ r h => by simp [duetref04_Encode.j1] at h⟩
  | k + 1 => by
    obtain ⟨ih0, ih1⟩ := duetref04_Encode.mono_l k
    refine ⟨?_, ?_⟩
    · intro y0 y1 y2 y3 y4 y5 y6 y7 y8 y9 y10 y11
      unfold duetref04_Encode.j0
      repeat' first
      | (with_reducible exact ih0 _ _ _ _ _ _ _ _ _ _ _ _)
      | (with_reducible exact ih1 _ _ _ _ _ _ _ _ _ _ _)
      | (with_reducible exact duetref01_List.mono _ _)
      | (with_reducible exact duetref04_Check.mono _ _ _ _ _ _ _ _ _ _ _)
      | (with_reducible exact duetref04_nums.mono _ _)
      | (with_reducible exact LeO.refl _)
      | (with_reducible exact LeO.none _)
      | (with_reducible refine LeO.ite ?_ ?_)
      | (with_reducible refine LeO.bind ?_ (fun _ => ?_))
      | exact ih0 _ _ _ _ _ _ _ _ _ _ _ _
      | exact ih1 _ _ _ _ _ _ _ _ _ _ _
      | exact duetref01_List.mono _ _
      | exact duetref04_Check.mono _ _ _ _ _ _ _ _ _ _ _
      | exact duetref04_nums.mono _ _
      | exact LeO.none _
      | refine LeO.ite ?_ ?_
      | refine LeO.bind ?_ (fun _ => ?_)
    · intro y0 y1 y2 y3 y4 y5 y6 y7 y8 y9 y10
      unfold duetref04_Encode.j1
      repeat' first
      | (with_reducible exact ih0 _ _ _ _ _ _ _ _ _ _ _ _)
      | (with_reducible exact ih1 _ _ _ _ _ _ _ _ _ _ _)
      | (with_reducible exact duetref01_List.mono _ _)
      | (with_reducible exact duetref04_Check.mono _ _ _ _ _ _ _ _ _ _ _)
      | (with_reducible exact duetref04_nums.mono _ _)
      | (with_reducible exact LeO.refl _)
      | (with_reducible exact LeO.none _)
      | (with_reducible refine LeO.ite ?_ ?_)
      | (with_reducible refine LeO.bind ?_ (fun _ => ?_))
      | exact ih0 _ _ _ _ _ _ _ _ _ _ _ _
      | exact ih1 _ _ _ _ _ _ _ _ _ _ _
      | exact duetref01_List.mono _ _
      | exact duetref04_Check.mono _ _ _ _ _ _ _ _ _ _ _
      | exact duetref04_nums.mono _ _
      | exact LeO.none _
      | refine LeO.ite ?_ ?_
      | refine LeO.bind ?_ (fun _ => ?_)
theorem duetref04_Encode.mono : ∀ a0 a1 a2 a3 a4 a5 a6 a7 a8 a9 k, LeO (duetref04_Encode.f k a0 a1 a2 a3 a4 a5 a6 a7 a8 a9) (duetref04_Encode.f (k + 1) a0 a1 a2 a3 a4 a5 a6 a7 a8 a9) := by
  intro a0 a1 a2 a3 a4 a5 a6 a7 a8 a9 k
  obtain ⟨ih0, ih1⟩ := duetref04_Encode.mono_l k
  unfold duetref04_Encode.f
  repeat' first
      | (with_reducible exact ih0 _ _ _ _ _ _ _ _ _ _ _ _)
      | (with_reducible exact ih1 _ _ _ _ _ _ _ _ _ _ _)
      | (with_reducible exact duetref01_List.mono _ _)
      | (with_reducible exact duetref04_Check.mono _ _ _ _ _ _ _ _ _ _ _)
      | (with_reducible exact duetref04_nums.mono _ _)
      | (with_reducible exact LeO.refl _)
      | (with_reducible exact LeO.none _)
      | (with_reducible refine LeO.ite ?_ ?_)
      | (with_reducible refine LeO.bind ?_ (fun _ => ?_))
      | exact ih0 _ _ _ _ _ _ _ _ _ _ _ _
      | exact ih1 _ _ _ _ _ _ _ _ _ _ _
      | exact duetref01_List.mono _ _
      | exact duetref04_Check.mono _ _ _ _ _ _ _ _ _ _ _
      | exact duetref04_nums.mono _ _
      | exact LeO.none _
      | refine LeO.ite ?_ ?_
      | refine LeO.bind ?_ (fun _ => ?_)
def duetref04_Encode.T4 : Bool × List (List Nat × List Nat) := (true, [([], []), ([0], [0]), ([], []), ([2], [2]), ([1, 3], [1, 3]), ([4], [4]), ([], []), ([5, 6], [5, 6]), ([], []), ([8], [8]), ([9], [9]), ([], []), ([11], [11]), ([12], [12]), ([10, 13], [10, 13]), ([14, 5], [14]), ([7, 15], [7, 15]), ([16, 15, 0, 1, 2, 3, 4, 5, 6, 7, 8, 9, 10, 11, 12, 13, 14, 15, 16], [16])])
def duetref04_Encode.B4 : List Nat := [0, 1, 0, 4, 15, 31, 0, 127, 0, 256, 768, 0, 2048, 6144, 16128, 32575, 65535, 131071]
theorem duetref04_Encode.tab4 : rtab .any (opsOf Try.f17 4) = duetref04_Encode.T4 := by kernel_rfl
theorem duetref04_Encode.bits4 : waitsOk duetref04_Encode.T4.2 duetref04_Encode.B4 = true := by kernel_rfl
set_option maxHeartbeats 8000000 in
set_option maxRecDepth 100000 in
theorem duetref04_Encode.calls (k : Nat) (a0_0 : Int) (a0_1 : Int) (A0_2 : Option Addr) (c0_2 : Nat) (l0_2 : List Int) (a0_3 : Int) (a0_4 : Int) (a0_5 : Int) (a0_6 : Int) (a0_7 : Int) (a0_8 : Int) (a0_9 : Int) (r1 : ByteArray) (r2 : Int) (w : World) (hr0_2 : Kd.C (Kd.int .i64) w A0_2 l0_2.length l0_2) (hc0_2 : l0_2.length ≤ c0_2) (h : duetref04_Encode.f k a0_0 a0_1 l0_2 a0_3 a0_4 a0_5 a0_6 a0_7 a0_8 a0_9 = some (r1, r2)) :
    Calls Try.prog 17 #[.agg #[.int .i64 a0_0, .int .i64 a0_1, .slice A0_2 l0_2.length c0_2, .int .i64 a0_3, .int .i64 a0_4, .int .i64 a0_5, .int .i64 a0_6, .int .i64 a0_7, .int .i64 a0_8, .int .i64 a0_9]] w fun e w' => e = .returned (.tuple #[.string r1, .int .i64 r2]) ∧ Below w.heap.size w w' := by
  have hu28 := Try.underlying28
  have HR0_2 := Aside0.mk hr0_2
  have HC0_2 := Aside0.mk hc0_2
  clear hr0_2 hc0_2
  have HB := Aside0.mk (Below.refl w.heap.size w)
  have H : ((duetref04_Check.f k a0_0 a0_1 l0_2 a0_3 a0_4 a0_5 a0_6 a0_7 a0_8 a0_9).bind fun t215 => (if t215 = 0 then ((duetref01_List.f k l0_2).bind fun bt216 => ((duetref04_nums.f k (([a0_0, a0_1] : List Int))).bind fun t221 => (if t221.size + bt216.1.size ≤ 9223372036854775807 then ((duetref04_nums.f k (([a0_3, a0_4] : List Int))).bind fun t225 => (if (t221 ++ bt216.1).size + t225.size ≤ 9223372036854775807 then (if a0_3 = 1 then (duetref04_Encode.j0 k ((t221 ++ bt216.1) ++ t225) true a0_0 a0_1 l0_2 a0_3 a0_4 a0_5 a0_6 a0_7 a0_8 a0_9) else (duetref04_Encode.j0 k ((t221 ++ bt216.1) ++ t225) (a0_3 == 6) a0_0 a0_1 l0_2 a0_3 a0_4 a0_5 a0_6 a0_7 a0_8 a0_9)) else (none))) else (none)))) else (some ((⟨#[]⟩ : ByteArray), 1)))) = some (r1, r2) := h
  clear h
  replace H := Option.bind_eq_some_iff.mp H
  obtain ⟨t215, A20, H⟩ := H
  replace H : (if t215 = 0 then ((duetref01_List.f k l0_2).bind fun bt216 => ((duetref04_nums.f k (([a0_0, a0_1] : List Int))).bind fun t221 => (if t221.size + bt216.1.size ≤ 9223372036854775807 then ((duetref04_nums.f k (([a0_3, a0_4] : List Int))).bind fun t225 => (if (t221 ++ bt216.1).size + t225.size ≤ 9223372036854775807 then (if a0_3 = 1 then (duetref04_Encode.j0 k ((t221 ++ bt216.1) ++ t225) true a0_0 a0_1 l0_2 a0_3 a0_4 a0_5 a0_6 a0_7 a0_8 a0_9) else (duetref04_Encode.j0 k ((t221 ++ bt216.1) ++ t225) (a0_3 == 6) a0_0 a0_1 l0_2 a0_3 a0_4 a0_5 a0_6 a0_7 a0_8 a0_9)) else (none))) else (none)))) else (some ((⟨#[]⟩ : ByteArray), 1))) = some (r1, r2) := H
  have A2 := Aside0.mk A20
  clear A20
  by_cases c3 : t215 = 0
  · rw [if_pos c3] at H
    have c3b0 : (t215 == 0) = true := beq_iff_eq.mpr c3
    have c3b1 : (t215 != 0) = false := bne_eq_false_iff_eq.mpr c3
    clear c3
    replace H := Option.bind_eq_some_iff.mp H
    obtain ⟨⟨t216, t217⟩, A40, H⟩ := H
    replace H : ((duetref04_nums.f k (([a0_0, a0_1] : List Int))).bind fun t221 => (if t221.size + t216.size ≤ 9223372036854775807 then ((duetref04_nums.f k (([a0_3, a0_4] : List Int))).bind fun t225 => (if (t221 ++ t216).size + t225.size ≤ 9223372036854775807 then (if a0_3 = 1 then (duetref04_Encode.j0 k ((t221 ++ t216) ++ t225) true a0_0 a0_1 l0_2 a0_3 a0_4 a0_5 a0_6 a0_7 a0_8 a0_9) else (duetref04_Encode.j0 k ((t221 ++ t216) ++ t225) (a0_3 == 6) a0_0 a0_1 l0_2 a0_3 a0_4 a0_5 a0_6 a0_7 a0_8 a0_9)) else (none))) else (none))) = some (r1, r2) := H
    have A4 := Aside0.mk A40
    clear A40
    obtain ⟨y218, hy218⟩ : ∃ y_ : List Int, y_ = (([a0_0, a0_1] : List Int)) := ⟨_, rfl⟩
    replace H : ((duetref04_nums.f k y218).bind fun t221 => (if t221.size + t216.size ≤ 9223372036854775807 then ((duetref04_nums.f k (([a0_3, a0_4] : List Int))).bind fun t225 => (if (t221 ++ t216).size + t225.size ≤ 9223372036854775807 then (if a0_3 = 1 then (duetref04_Encode.j0 k ((t221 ++ t216) ++ t225) true a0_0 a0_1 l0_2 a0_3 a0_4 a0_5 a0_6 a0_7 a0_8 a0_9) else (duetref04_Encode.j0 k ((t221 ++ t216) ++ t225) (a0_3 == 6) a0_0 a0_1 l0_2 a0_3 a0_4 a0_5 a0_6 a0_7 a0_8 a0_9)) else (none))) else (none))) = some (r1, r2) := by first | (rw [hy218]; with_reducible exact H) | (have H2_ := (Option.bind_some _ _).symm.trans H; rw [hy218]; with_reducible exact H2_) | (have H2_ := (Option.bind_some _ _).symm.trans H; with_reducible exact H2_) | with_reducible exact H | (rw [hy218]; exact H) | exact H
    have Ny218 := Aside0.mk hy218
    clear hy218
    replace H := Option.bind_eq_some_iff.mp H
    obtain ⟨t221, A50, H⟩ := H
    replace H : (if t221.size + t216.size ≤ 9223372036854775807 then ((duetref04_nums.f k (([a0_3, a0_4] : List Int))).bind fun t225 => (if (t221 ++ t216).size + t225.size ≤ 9223372036854775807 then (if a0_3 = 1 then (duetref04_Encode.j0 k ((t221 ++ t216) ++ t225) true a0_0 a0_1 l0_2 a0_3 a0_4 a0_5 a0_6 a0_7 a0_8 a0_9) else (duetref04_Encode.j0 k ((t221 ++ t216) ++ t225) (a0_3 == 6) a0_0 a0_1 l0_2 a0_3 a0_4 a0_5 a0_6 a0_7 a0_8 a0_9)) else (none))) else (none)) = some (r1, r2) := H
    have A5 := Aside0.mk A50
    clear A50
    by_cases c6 : t221.size + t216.size ≤ 9223372036854775807
    · rw [if_pos c6] at H
      have c6b0 := eq_true c6
      have c6b1 : decide (t221.size + t216.size ≤ 9223372036854775807) = true := decide_eq_true c6
      try have c6b2 : (9223372036854775807 < t221.size + t216.size) = False := eq_false (Nat.not_lt.2 c6)
      obtain ⟨y222, hy222⟩ : ∃ y_ : List Int, y_ = (([a0_3, a0_4] : List Int)) := ⟨_, rfl⟩
      replace H : ((duetref04_nums.f k y222).bind fun t225 => (if (t221 ++ t216).size + t225.size ≤ 9223372036854775807 then (if a0_3 = 1 then (duetref04_Encode.j0 k ((t221 ++ t216) ++ t225) true a0_0 a0_1 l0_2 a0_3 a0_4 a0_5 a0_6 a0_7 a0_8 a0_9) else (duetref04_Encode.j0 k ((t221 ++ t216) ++ t225) (a0_3 == 6) a0_0 a0_1 l0_2 a0_3 a0_4 a0_5 a0_6 a0_7 a0_8 a0_9)) else (none))) = some (r1, r2) := by first | (rw [hy222]; with_reducible exact H) | (have H2_ := (Option.bind_some _ _).symm.trans H; rw [hy222]; with_reducible exact H2_) | (have H2_ := (Option.bind_some _ _).symm.trans H; with_reducible exact H2_) | with_reducible exact H | (rw [hy222]; exact H) | exact H
      have Ny222 := Aside0.mk hy222
      clear hy222
      replace H := Option.bind_eq_some_iff.mp H
      obtain ⟨t225, A70, H⟩ := H
      replace H : (if (t221 ++ t216).size + t225.size ≤ 9223372036854775807 then (if a0_3 = 1 then (duetref04_Encode.j0 k ((t221 ++ t216) ++ t225) true a0_0 a0_1 l0_2 a0_3 a0_4 a0_5 a0_6 a0_7 a0_8 a0_9) else (duetref04_Encode.j0 k ((t221 ++ t216) ++ t225) (a0_3 == 6) a0_0 a0_1 l0_2 a0_3 a0_4 a0_5 a0_6 a0_7 a0_8 a0_9)) else (none)) = some (r1, r2) := H
      have A7 := Aside0.mk A70
      clear A70
      by_cases c8 : (t221 ++ t216).size + t225.size ≤ 9223372036854775807
      · rw [if_pos c8] at H
        have c8b0 := eq_true c8
        have c8b1 : decide ((t221 ++ t216).size + t225.size ≤ 9223372036854775807) = true := decide_eq_true c8
        try have c8b2 : (9223372036854775807 < (t221 ++ t216).size + t225.size) = False := eq_false (Nat.not_lt.2 c8)
        have c8x : t221.size + t216.size + t225.size ≤ 9223372036854775807 := by have hx_ := of_decide_eq_true c8b1; simp only [ByteArray.size_append] at hx_; omega
        have c8b3 := eq_true c8x
        have c8b4 : decide (t221.size + t216.size + t225.size ≤ 9223372036854775807) = true := decide_eq_true c8x
        have c8b5 : (9223372036854775807 < t221.size + t216.size + t225.size) = False := eq_false (Nat.not_lt.2 c8x)
        clear c8x
        have HC9 := Aside0.mk H
        clear H
        go_enter Try.func17, Try.ntmps17
        try go_wp2_with (first | ((with_reducible refine gate_dst (N := 1) rfl ?_); refine box_event ?hg (N := 1) ?hd (cs := #[.int .i64 a0_0, .int .i64 a0_1, .slice A0_2 l0_2.length c0_2, .int .i64 a0_3, .int .i64 a0_4, .int .i64 a0_5, .int .i64 a0_6, .int .i64 a0_7, .int .i64 a0_8, .int .i64 a0_9]) (t := 28) ?hr ?_; (case hd => rfl); (case hg => rfl); (case hr => first | (go_simp; done) | (go_simp; rfl)); intro gb214 hg w10 hbox hb; have n0_ := Aside0.mk (below_step (by repeat (first | (with_reducible first | exact HB.out | apply below_alloc | apply pw_below_drewN | apply below_drew1) | exact HB.out)) hb); have n1_ := Aside0.mk (hbox); have n2_ := Aside0.mk ((by rw [hg]; exact (below_size (by repeat (first | (with_reducible first | exact HB.out | apply below_alloc | apply pw_below_drewN | apply below_drew1) | exact HB.out))) : w.heap.size ≤ gb214)); have n3_ := Aside0.mk ((by rw [hg]; exact (below_size (by repeat (first | (with_reducible first | exact HB.out | apply below_alloc | apply pw_below_drewN | apply below_drew1) | exact HB.out))) : w.heap.size ≤ gb214)); clear HB; have HB := n0_; have BK214 := n1_; have GW214 := n2_; have GE214 := n3_; clear n0_ n1_ n2_ n3_; clear hb hbox hg; have hcz11_0 : w10.cell? ⟨gb214, 0, none⟩ = some (.int .i64 a0_0) := (blk_cell BK214.out 0).trans rfl; have hcz11_1 : w10.cell? ⟨gb214, 1, none⟩ = some (.int .i64 a0_1) := (blk_cell BK214.out 1).trans rfl; have hcz11_2 : w10.cell? ⟨gb214, 2, none⟩ = some (.slice A0_2 l0_2.length c0_2) := (blk_cell BK214.out 2).trans rfl; have hcz11_3 : w10.cell? ⟨gb214, 3, none⟩ = some (.int .i64 a0_3) := (blk_cell BK214.out 3).trans rfl; have hcz11_4 : w10.cell? ⟨gb214, 4, none⟩ = some (.int .i64 a0_4) := (blk_cell BK214.out 4).trans rfl; have hcz11_5 : w10.cell? ⟨gb214, 5, none⟩ = some (.int .i64 a0_5) := (blk_cell BK214.out 5).trans rfl; have hcz11_6 : w10.cell? ⟨gb214, 6, none⟩ = some (.int .i64 a0_6) := (blk_cell BK214.out 6).trans rfl; have hcz11_7 : w10.cell? ⟨gb214, 7, none⟩ = some (.int .i64 a0_7) := (blk_cell BK214.out 7).trans rfl; have hcz11_8 : w10.cell? ⟨gb214, 8, none⟩ = some (.int .i64 a0_8) := (blk_cell BK214.out 8).trans rfl; have hcz11_9 : w10.cell? ⟨gb214, 9, none⟩ = some (.int .i64 a0_9) := (blk_cell BK214.out 9).trans rfl; have hfz11_0 := blk_frozen BK214.out 0; have hfz11_1 := blk_frozen BK214.out 1; have hfz11_2 := blk_frozen BK214.out 2; have hfz11_3 := blk_frozen BK214.out 3; have hfz11_4 := blk_frozen BK214.out 4; have hfz11_5 := blk_frozen BK214.out 5; have hfz11_6 := blk_frozen BK214.out 6; have hfz11_7 := blk_frozen BK214.out 7; have hfz11_8 := blk_frozen BK214.out 8; have hfz11_9 := blk_frozen BK214.out 9) | ((with_reducible refine gate_callee (f := 19) rfl ?_); refine goesL_ (some 8) rfl rfl Try.func19 (by kernel_rfl) rfl #[.agg #[.int .i64 a0_0, .int .i64 a0_1, .slice A0_2 l0_2.length c0_2, .int .i64 a0_3, .int .i64 a0_4, .int .i64 a0_5, .int .i64 a0_6, .int .i64 a0_7, .int .i64 a0_8, .int .i64 a0_9]] rfl (by (try simp only [List.map_toArray, List.map_cons, List.map_nil]); first | done | rfl | (simp only [List.length_drop, List.length_take]; rfl)) ?_; (with_reducible refine (duetref04_Check.calls k a0_0 a0_1 _ _ l0_2 a0_3 a0_4 a0_5 a0_6 a0_7 a0_8 a0_9 t215 _ ?side1 ?side2 A2.out).mono ?_); (case side1 => repeat (first | exact (Kd.C_below HR0_2.out HB.out) | (with_reducible refine Kd.C_alloc ?_ _) | (with_reducible refine Kd.C_drewN ?_ _) | (with_reducible refine Kd.C_drew ?_))); (case side2 => exact HC0_2.out); rintro e w12 ⟨rfl, hb⟩; refine ⟨_, rfl, ?_⟩; have n0_ := Aside0.mk (blk_below (g := gb214) (o := .cells #[.int .i64 a0_0, .int .i64 a0_1, .slice A0_2 l0_2.length c0_2, .int .i64 a0_3, .int .i64 a0_4, .int .i64 a0_5, .int .i64 a0_6, .int .i64 a0_7, .int .i64 a0_8, .int .i64 a0_9] 28 (0, 0)) (by (with_reducible repeat (first | refine blk_drewN ?_ _ | refine blk_drew ?_ | refine blk_alloc ?_ _)); exact BK214.out) hb); have n1_ := Aside0.mk (below_step (by repeat (first | (with_reducible first | exact HB.out | apply below_alloc | apply pw_below_drewN | apply below_drew1 | refine below_set ?_ GE214.out) | exact HB.out)) hb); clear BK214; clear HB; have BK214 := n0_; have HB := n1_; clear n0_ n1_; (try clear hb); (try clear hb2); (try clear hk); (try clear hi); have hcz13_0 : w12.cell? ⟨gb214, 0, none⟩ = some (.int .i64 a0_0) := (blk_cell BK214.out 0).trans rfl; have hcz13_1 : w12.cell? ⟨gb214, 1, none⟩ = some (.int .i64 a0_1) := (blk_cell BK214.out 1).trans rfl; have hcz13_2 : w12.cell? ⟨gb214, 2, none⟩ = some (.slice A0_2 l0_2.length c0_2) := (blk_cell BK214.out 2).trans rfl; have hcz13_3 : w12.cell? ⟨gb214, 3, none⟩ = some (.int .i64 a0_3) := (blk_cell BK214.out 3).trans rfl; have hcz13_4 : w12.cell? ⟨gb214, 4, none⟩ = some (.int .i64 a0_4) := (blk_cell BK214.out 4).trans rfl; have hcz13_5 : w12.cell? ⟨gb214, 5, none⟩ = some (.int .i64 a0_5) := (blk_cell BK214.out 5).trans rfl; have hcz13_6 : w12.cell? ⟨gb214, 6, none⟩ = some (.int .i64 a0_6) := (blk_cell BK214.out 6).trans rfl; have hcz13_7 : w12.cell? ⟨gb214, 7, none⟩ = some (.int .i64 a0_7) := (blk_cell BK214.out 7).trans rfl; have hcz13_8 : w12.cell? ⟨gb214, 8, none⟩ = some (.int .i64 a0_8) := (blk_cell BK214.out 8).trans rfl; have hcz13_9 : w12.cell? ⟨gb214, 9, none⟩ = some (.int .i64 a0_9) := (blk_cell BK214.out 9).trans rfl; have hfz13_0 := blk_frozen BK214.out 0; have hfz13_1 := blk_frozen BK214.out 1; have hfz13_2 := blk_frozen BK214.out 2; have hfz13_3 := blk_frozen BK214.out 3; have hfz13_4 := blk_frozen BK214.out 4; have hfz13_5 := blk_frozen BK214.out 5; have hfz13_6 := blk_frozen BK214.out 6; have hfz13_7 := blk_frozen BK214.out 7; have hfz13_8 := blk_frozen BK214.out 8; have hfz13_9 := blk_frozen BK214.out 9) | ((with_reducible refine gate_callee (f := 52) rfl ?_); refine goesL_ (some 13) rfl rfl Try.func52 (by kernel_rfl) rfl #[.slice A0_2 l0_2.length c0_2] rfl (by (try simp only [List.map_toArray, List.map_cons, List.map_nil]); first | done | rfl | (simp only [List.length_drop, List.length_take]; rfl)) ?_; (with_reducible refine (duetref01_List.calls k _ _ l0_2 t216 t217 _ ?side1 ?side2 A4.out).mono ?_); (case side1 => repeat (first | exact (Kd.C_below HR0_2.out HB.out) | (with_reducible refine Kd.C_alloc ?_ _) | (with_reducible refine Kd.C_drewN ?_ _) | (with_reducible refine Kd.C_drew ?_))); (case side2 => exact HC0_2.out); rintro e w14 ⟨rfl, hb⟩; refine ⟨_, rfl, ?_⟩; have n0_ := Aside0.mk (blk_below (g := gb214) (o := .cells #[.int .i64 a0_0, .int .i64 a0_1, .slice A0_2 l0_2.length c0_2, .int .i64 a0_3, .int .i64 a0_4, .int .i64 a0_5, .int .i64 a0_6, .int .i64 a0_7, .int .i64 a0_8, .int .i64 a0_9] 28 (0, 0)) (by (with_reducible repeat (first | refine blk_drewN ?_ _ | refine blk_drew ?_ | refine blk_alloc ?_ _)); exact BK214.out) hb); have n1_ := Aside0.mk (below_step (by repeat (first | (with_reducible first | exact HB.out | apply below_alloc | apply pw_below_drewN | apply below_drew1 | refine below_set ?_ GE214.out) | exact HB.out)) hb); clear BK214; clear HB; have BK214 := n0_; have HB := n1_; clear n0_ n1_; (try clear hb); (try clear hb2); (try clear hk); (try clear hi)))
        have n0_ := Aside0.mk (blk_drew BK214.out)
        have n1_ := Aside0.mk (below_drew1 HB.out)
        clear BK214
        clear HB
        have BK214 := n0_
        have HB := n1_
        clear n0_ n1_
        refine start_ (n := 18) (S := fun w' => True) (ds := []) #[false, false, false, false, false, false, false, false, false, false, false, false, false, false, false, false, false, false] (by kernel_rfl) rfl rfl trivial (fun hHeld => ?_); refine with_tabW duetref04_Encode.tab4 duetref04_Encode.bits4 (fun HT_ HW_ => ?_)
        generalize w14.drew = w15 at BK214 HB hHeld ⊢
        refine pure_ (i := 0) (N := some 16) (v := ?_) (a' := ?_) #[true, false, false, false, false, false, false, false, false, false, false, false, false, false, false, false, false, false] rfl rfl (any_of HT_.out (by kernel_rfl)) (fun _ _ _ h => h) (Or.inl ⟨by rfl, ?_⟩) ?_ ?_
        rotate_left
        · intro w'
          go_simp
          with_reducible rfl
        rotate_left
        · simp only [Act.put, List.setIfInBounds_toArray, List.set_cons_zero, List.set_cons_succ, i64_w, i32_w]
          rfl
        refine pure_ (i := 2) (N := some 18) (v := ?_) (a' := ?_) #[true, false, true, false, false, false, false, false, false, false, false, false, false, false, false, false, false, false] rfl rfl (any_of HT_.out (by kernel_rfl)) (fun _ _ _ h => h) (Or.inl ⟨by rfl, ?_⟩) ?_ ?_
        rotate_left
        · intro w'
          go_simp
          with_reducible rfl
        rotate_left
        · simp only [Act.put, List.setIfInBounds_toArray, List.set_cons_zero, List.set_cons_succ, i64_w, i32_w]
          rfl
        refine pure_ (i := 6) (N := some 22) (v := ?_) (a' := ?_) #[true, false, true, false, false, false, true, false, false, false, false, false, false, false, false, false, false, false] rfl rfl (any_of HT_.out (by kernel_rfl)) (fun _ _ _ h => h) (Or.inl ⟨by rfl, ?_⟩) ?_ ?_
        rotate_left
        · intro w'
          go_simp
          with_reducible rfl
        rotate_left
        · simp only [Act.put, List.setIfInBounds_toArray, List.set_cons_zero, List.set_cons_succ, i64_w, i32_w]
          rfl
        refine pure_ (i := 8) (N := some 24) (v := ?_) (a' := ?_) #[true, false, true, false, false, false, true, false, true, false, false, false, false, false, false, false, false, false] rfl rfl (any_of HT_.out (by kernel_rfl)) (fun _ _ _ h => h) (Or.inl ⟨by rfl, ?_⟩) ?_ ?_
        rotate_left
        · intro w'
          go_simp
          with_reducible rfl
        rotate_left
        · simp only [Act.put, List.setIfInBounds_toArray, List.set_cons_zero, List.set_cons_succ, i64_w, i32_w]
          rfl
        refine pure_ (i := 9) (N := some 25) (v := ?_) (a' := ?_) #[true, false, true, false, false, false, true, false, true, true, false, false, false, false, false, false, false, false] rfl rfl (any_of HT_.out (by kernel_rfl)) (fun _ _ _ h => h) (Or.inl ⟨by rfl, ?_⟩) ?_ ?_
        rotate_left
        · intro w'
          go_simp
          with_reducible rfl
        rotate_left
        · simp only [Act.put, List.setIfInBounds_toArray, List.set_cons_zero, List.set_cons_succ, i64_w, i32_w]
          rfl
        refine pure_ (i := 11) (N := some 27) (v := ?_) (a' := ?_) #[true, false, true, false, false, false, true, false, true, true, false, true, false, false, false, false, false, false] rfl rfl (any_of HT_.out (by kernel_rfl)) (fun _ _ _ h => h) (Or.inl ⟨by rfl, ?_⟩) ?_ ?_
        rotate_left
        · intro w'
          go_simp
          with_reducible rfl
        rotate_left
        · simp only [Act.put, List.setIfInBounds_toArray, List.set_cons_zero, List.set_cons_succ, i64_w, i32_w]
          rfl
        refine pure_ (i := 12) (N := some 28) (v := ?_) (a' := ?_) #[true, false, true, false, false, false, true, false, true, true, false, true, true, false, false, false, false, false] rfl rfl (any_of HT_.out (by kernel_rfl)) (fun _ _ _ h => h) (Or.inl ⟨by rfl, ?_⟩) ?_ ?_
        rotate_left
        · intro w'
          go_simp
          with_reducible rfl
        rotate_left
        · simp only [Act.put, List.setIfInBounds_toArray, List.set_cons_zero, List.set_cons_succ, i64_w, i32_w]
          rfl
        refine inv_at [1, 3, 4, 5, 7, 10, 13, 14, 15, 16, 17] (fun a0_ b a w' => ∃ (v219 : Value) (v223 : Value), a = putSel a0_ b [(1, 17, .int .i64 a0_0), (3, 19, .int .i64 a0_1), (4, 20, v219), (5, 21, .string t221), (7, 23, .string (t221 ++ t216)), (10, 26, .int .i64 a0_3), (13, 29, .int .i64 a0_4), (14, 30, v223), (15, 31, .string t225), (16, 32, .string ((t221 ++ t216) ++ t225)), (17, 6, .string ((t221 ++ t216) ++ t225))] ∧ (w'.heap[gb214]? = some (.cells #[.int .i64 a0_0, .int .i64 a0_1, .slice A0_2 l0_2.length c0_2, .int .i64 a0_3, .int .i64 a0_4, .int .i64 a0_5, .int .i64 a0_6, .int .i64 a0_7, .int .i64 a0_8, .int .i64 a0_9] 28 (0, 0))) ∧ (Below w.heap.size w w') ∧ (b 4 = true → Kd.R (Kd.int .i64) 3 w' w.heap.size (fun _ => True) v219 y218) ∧ (b 14 = true → Kd.R (Kd.int .i64) 3 w' w.heap.size (fun _ => True) v223 y222)) HT_.out HW_.out (by kernel_rfl) (by kernel_rfl) ?_ ?_ ?_
        · exact ⟨.bool false, .bool false, by simp only [putSel, Bool.false_eq_true, if_false], BK214.out, HB.out, fun h_ => absurd h_ (by decide), fun h_ => absurd h_ (by decide)⟩
        · skip
          clear BK214 HB
          refine steps_cons ?_ ?_
          · rintro b a w' ⟨v219, v223, ha, Q_BK214, Q_HB, Q_HO220, Q_HO224⟩ hb_ hon hoff
            refine ⟨_, rfl, fun K hK => ?_⟩
            have e16 : a.tmps[16]? = some (.pointer (some ⟨gb214, 0, none⟩)) := by rw [ha]; exact (putSel_off rfl).trans rfl
            replace ha := Aside0.mk ha
            have BK214 := Aside0.mk Q_BK214
            have HB := Aside0.mk Q_HB
            have hc0_ : w'.cell? ⟨gb214, 0, none⟩ = some (.int .i64 a0_0) := (blk_cell BK214.out 0).trans rfl
            have hc1_ : w'.cell? ⟨gb214, 1, none⟩ = some (.int .i64 a0_1) := (blk_cell BK214.out 1).trans rfl
            have hc2_ : w'.cell? ⟨gb214, 2, none⟩ = some (.slice A0_2 l0_2.length c0_2) := (blk_cell BK214.out 2).trans rfl
            have hc3_ : w'.cell? ⟨gb214, 3, none⟩ = some (.int .i64 a0_3) := (blk_cell BK214.out 3).trans rfl
            have hc4_ : w'.cell? ⟨gb214, 4, none⟩ = some (.int .i64 a0_4) := (blk_cell BK214.out 4).trans rfl
            have hc5_ : w'.cell? ⟨gb214, 5, none⟩ = some (.int .i64 a0_5) := (blk_cell BK214.out 5).trans rfl
            have hc6_ : w'.cell? ⟨gb214, 6, none⟩ = some (.int .i64 a0_6) := (blk_cell BK214.out 6).trans rfl
            have hc7_ : w'.cell? ⟨gb214, 7, none⟩ = some (.int .i64 a0_7) := (blk_cell BK214.out 7).trans rfl
            have hc8_ : w'.cell? ⟨gb214, 8, none⟩ = some (.int .i64 a0_8) := (blk_cell BK214.out 8).trans rfl
            have hc9_ : w'.cell? ⟨gb214, 9, none⟩ = some (.int .i64 a0_9) := (blk_cell BK214.out 9).trans rfl
            refine value_ (w1 := w') (v := .int .i64 a0_0) (by rfl) rfl ?_ ?_
            · go_simp
              (try simp only [i64_w])
              try rfl
            refine hK.out _ _ ⟨v219, v223, (by rw [ha.out]; exact putSel_upk 0 hb_ rfl rfl rfl), Q_BK214, Q_HB, fun h0_ => absurd ((hoff 4 (by kernel_rfl)).symm.trans h0_) (by decide), Q_HO224⟩
          refine steps_cons ?_ ?_
          · rintro b a w' ⟨v219, v223, ha, Q_BK214, Q_HB, Q_HO220, Q_HO224⟩ hb_ hon hoff
            refine ⟨_, rfl, fun K hK => ?_⟩
            have e18 : a.tmps[18]? = some (.pointer (some ⟨gb214, 1, none⟩)) := by rw [ha]; exact (putSel_off rfl).trans rfl
            replace ha := Aside0.mk ha
            have BK214 := Aside0.mk Q_BK214
            have HB := Aside0.mk Q_HB
            have hc0_ : w'.cell? ⟨gb214, 0, none⟩ = some (.int .i64 a0_0) := (blk_cell BK214.out 0).trans rfl
            have hc1_ : w'.cell? ⟨gb214, 1, none⟩ = some (.int .i64 a0_1) := (blk_cell BK214.out 1).trans rfl
            have hc2_ : w'.cell? ⟨gb214, 2, none⟩ = some (.slice A0_2 l0_2.length c0_2) := (blk_cell BK214.out 2).trans rfl
            have hc3_ : w'.cell? ⟨gb214, 3, none⟩ = some (.int .i64 a0_3) := (blk_cell BK214.out 3).trans rfl
            have hc4_ : w'.cell? ⟨gb214, 4, none⟩ = some (.int .i64 a0_4) := (blk_cell BK214.out 4).trans rfl
            have hc5_ : w'.cell? ⟨gb214, 5, none⟩ = some (.int .i64 a0_5) := (blk_cell BK214.out 5).trans rfl
            have hc6_ : w'.cell? ⟨gb214, 6, none⟩ = some (.int .i64 a0_6) := (blk_cell BK214.out 6).trans rfl
            have hc7_ : w'.cell? ⟨gb214, 7, none⟩ = some (.int .i64 a0_7) := (blk_cell BK214.out 7).trans rfl
            have hc8_ : w'.cell? ⟨gb214, 8, none⟩ = some (.int .i64 a0_8) := (blk_cell BK214.out 8).trans rfl
            have hc9_ : w'.cell? ⟨gb214, 9, none⟩ = some (.int .i64 a0_9) := (blk_cell BK214.out 9).trans rfl
            refine value_ (w1 := w') (v := .int .i64 a0_1) (by rfl) rfl ?_ ?_
            · go_simp
              (try simp only [i64_w])
              try rfl
            refine hK.out _ _ ⟨v219, v223, (by rw [ha.out]; exact putSel_upk 1 hb_ rfl rfl rfl), Q_BK214, Q_HB, fun h0_ => absurd ((hoff 4 (by kernel_rfl)).symm.trans h0_) (by decide), Q_HO224⟩
          refine steps_cons ?_ ?_
          · rintro b a w' ⟨v219, v223, ha, Q_BK214, Q_HB, Q_HO220, Q_HO224⟩ hb_ hon hoff
            refine ⟨_, rfl, fun K hK => ?_⟩
            have e17 : a.tmps[17]? = some (.int .i64 a0_0) := by rw [ha]; exact putSel_on (e := (1, 17, .int .i64 a0_0)) 0 rfl rfl (hon 1 (by kernel_rfl)) rfl
            have e19 : a.tmps[19]? = some (.int .i64 a0_1) := by rw [ha]; exact putSel_on (e := (3, 19, .int .i64 a0_1)) 1 rfl rfl (hon 3 (by kernel_rfl)) rfl
            replace ha := Aside0.mk ha
            have BK214 := Aside0.mk Q_BK214
            have HB := Aside0.mk Q_HB
            refine Kd.R_lit_step (Kd.int .i64) _ 3 ?hg (N := 20) ?hd (xs := ([a0_0, a0_1] : List Int)) (inner := [.int .i64 a0_0, .int .i64 a0_1]) (ok := fun _ => True) (okp := fun _ => True) ?hr ?hp (fun _ hk => hk) trivial (Below.refl _ _) (Nat.le_refl _) (by simp) ?_; (case hd => rfl); (case hg => rfl); (case hr => first | (go_simp; done) | (go_simp; rfl)); (case hp => exact (Reps.one (show Kd.M (Kd.int .i64) _ _ _ a0_0 [.int .i64 a0_0] from rfl) (Reps.one (show Kd.M (Kd.int .i64) _ _ _ a0_1 [.int .i64 a0_1] from rfl) (Reps.none _ _))))
            intro v219 w16 ho17 hb hg_ hnew_
            clear hg_ hnew_
            (first | rw [← Ny218.out] at ho17 | (simp only [Int.reduceToNat] at ho17; rw [← Ny218.out] at ho17))
            have n0_ := Aside0.mk (Kd.R_lower ho17 (below_size (by repeat (first | (with_reducible first | exact HB.out | apply below_alloc | apply pw_below_drewN | apply below_drew1 | refine below_set ?_ GE214.out) | exact HB.out))))
            have n1_ := Aside0.mk (blk_below (g := gb214) (o := .cells #[.int .i64 a0_0, .int .i64 a0_1, .slice A0_2 l0_2.length c0_2, .int .i64 a0_3, .int .i64 a0_4, .int .i64 a0_5, .int .i64 a0_6, .int .i64 a0_7, .int .i64 a0_8, .int .i64 a0_9] 28 (0, 0)) (by (with_reducible repeat (first | refine blk_drewN ?_ _ | refine blk_drew ?_ | refine blk_alloc ?_ _)); exact BK214.out) hb)
            have n2_ := Aside0.mk (below_step (by repeat (first | (with_reducible first | exact HB.out | apply below_alloc | apply pw_below_drewN | apply below_drew1 | refine below_set ?_ GE214.out) | exact HB.out)) hb)
            have z_HO224 := fun (h0_ : b 14 = true) => (show Kd.R (Kd.int .i64) 3 w16 w.heap.size (fun _ => True) v223 y222 from by first | exact (Kd.R_elder' (by (with_reducible repeat (first | apply Kd.R_alloc | apply Kd.R_drewN | apply Kd.R_drew)); exact (Q_HO224 h0_)) (Kd.R_base ho17) hb) | exact Kd.R_mono (Kd.R_elder' (by (with_reducible repeat (first | apply Kd.R_alloc | apply Kd.R_drewN | apply Kd.R_drew)); exact (Q_HO224 h0_)) (Kd.R_base ho17) hb) (fun _ h_ => by first | trivial | exact h_ | exact h_.1))
            clear BK214
            clear HB
            have HO220 := n0_
            have BK214 := n1_
            have HB := n2_
            clear n0_ n1_ n2_
            clear hb ho17
            refine hK.out _ _ ⟨v219, v223, (by rw [ha.out]; exact putSel_upk 2 hb_ rfl rfl rfl), (by (with_reducible repeat (first | refine blk_drewN ?_ _ | refine blk_drew ?_ | refine blk_alloc ?_ _)); exact BK214.out), (by repeat (first | (with_reducible first | exact HB.out | apply below_alloc | apply pw_below_drewN | apply below_drew1 | refine below_set ?_ GE214.out) | exact HB.out)), fun _ => (by (with_reducible repeat (first | apply Kd.R_alloc | apply Kd.R_drewN | apply Kd.R_drew)); exact HO220.out), z_HO224⟩
          refine steps_cons ?_ ?_
          · rintro b a w' ⟨v219, v223, ha, Q_BK214, Q_HB, Q_HO220, Q_HO224⟩ hb_ hon hoff
            refine ⟨_, rfl, fun K hK => ?_⟩
            have e20 : a.tmps[20]? = some (v219) := by rw [ha]; exact putSel_on (e := (4, 20, v219)) 2 rfl rfl (hon 4 (by kernel_rfl)) rfl
            replace ha := Aside0.mk ha
            have BK214 := Aside0.mk Q_BK214
            have HB := Aside0.mk Q_HB
            have HO220 := Aside0.mk (Q_HO220 (hon 4 (by kernel_rfl)))
            obtain ⟨Ao19, co19, eo19⟩ := Kd.R_slice HO220.out
            (first | subst eo19 | (injection eo19 with f1_ f2_ f3_; have f4_ := f1_.symm; have f5_ := f3_.symm; clear f1_ f2_ f3_; subst f4_; subst f5_))
            refine goes_ Try.func53 (by kernel_rfl) rfl #[.slice Ao19 y218.length co19] (by rfl) rfl rfl (by first | (simp only [List.map_toArray, List.map_cons, List.map_nil, Act.eval, Array.getD_eq_getD_getElem?, Option.getD_some, e20]; done) | (simp only [List.map_toArray, List.map_cons, List.map_nil, Act.eval, Array.getD_eq_getD_getElem?, Option.getD_some, e20]; rfl)) ?_
            with_reducible refine (duetref04_nums.calls k _ _ y218 t221 _ ?side1 ?side2 A5.out).mono ?_
            (case side1 => repeat (first | exact (Kd.R_reads' HO220.out).2.2 | (with_reducible refine Kd.C_alloc ?_ _) | (with_reducible refine Kd.C_drewN ?_ _) | (with_reducible refine Kd.C_drew ?_)))
            (case side2 => exact (Kd.R_reads' HO220.out).2.1)
            rintro e w20 ⟨rfl, hb⟩
            refine ⟨_, rfl, ?_⟩
            have n0_ := Aside0.mk (Kd.R_below (by (with_reducible repeat (first | apply Kd.R_alloc | apply Kd.R_drewN | apply Kd.R_drew)); exact HO220.out) hb)
            have n1_ := Aside0.mk (blk_below (g := gb214) (o := .cells #[.int .i64 a0_0, .int .i64 a0_1, .slice A0_2 l0_2.length c0_2, .int .i64 a0_3, .int .i64 a0_4, .int .i64 a0_5, .int .i64 a0_6, .int .i64 a0_7, .int .i64 a0_8, .int .i64 a0_9] 28 (0, 0)) (by (with_reducible repeat (first | refine blk_drewN ?_ _ | refine blk_drew ?_ | refine blk_alloc ?_ _)); exact BK214.out) hb)
            have n2_ := Aside0.mk (below_step (by repeat (first | (with_reducible first | exact HB.out | apply below_alloc | apply pw_below_drewN | apply below_drew1 | refine below_set ?_ GE214.out) | exact HB.out)) hb)
            have z_HO224 := fun (h0_ : b 14 = true) => (show Kd.R (Kd.int .i64) 3 w20 w.heap.size (fun _ => True) v223 y222 from by first | exact (Kd.R_below (by (with_reducible repeat (first | apply Kd.R_alloc | apply Kd.R_drewN | apply Kd.R_drew)); exact (Q_HO224 h0_)) hb) | exact Kd.R_mono (Kd.R_below (by (with_reducible repeat (first | apply Kd.R_alloc | apply Kd.R_drewN | apply Kd.R_drew)); exact (Q_HO224 h0_)) hb) (fun _ h_ => by first | trivial | exact h_ | exact h_.1))
            clear HO220
            clear BK214
            clear HB
            have HO220 := n0_
            have BK214 := n1_
            have HB := n2_
            clear n0_ n1_ n2_
            (try clear hb)
            (try clear hb2)
            (try clear hk)
            (try clear hi)
            refine hK.out _ _ ⟨.slice Ao19 y218.length co19, v223, (by rw [ha.out]; exact putSel_upk 3 hb_ rfl rfl rfl), (by (with_reducible repeat (first | refine blk_drewN ?_ _ | refine blk_drew ?_ | refine blk_alloc ?_ _)); exact BK214.out), (by repeat (first | (with_reducible first | exact HB.out | apply below_alloc | apply pw_below_drewN | apply below_drew1 | refine below_set ?_ GE214.out) | exact HB.out)), fun _ => (by (with_reducible repeat (first | apply Kd.R_alloc | apply Kd.R_drewN | apply Kd.R_drew)); exact HO220.out), z_HO224⟩
          refine steps_cons ?_ ?_
          · rintro b a w' ⟨v219, v223, ha, Q_BK214, Q_HB, Q_HO220, Q_HO224⟩ hb_ hon hoff
            refine ⟨_, rfl, fun K hK => ?_⟩
            have e21 : a.tmps[21]? = some (.string t221) := by rw [ha]; exact putSel_on (e := (5, 21, .string t221)) 3 rfl rfl (hon 5 (by kernel_rfl)) rfl
            have e22 : a.tmps[22]? = some (.string t216) := by rw [ha]; exact (putSel_off rfl).trans rfl
            replace ha := Aside0.mk ha
            have BK214 := Aside0.mk Q_BK214
            have HB := Aside0.mk Q_HB
            have HO220 := Aside0.mk (Q_HO220 (hon 4 (by kernel_rfl)))
            refine value_ (w1 := w') (v := .string (t221 ++ t216)) (by rfl) rfl ?_ ?_
            · go_simp
              (try simp only [i64_w])
              try rfl
            refine hK.out _ _ ⟨v219, v223, (by rw [ha.out]; exact putSel_upk 4 hb_ rfl rfl rfl), Q_BK214, Q_HB, Q_HO220, Q_HO224⟩
          refine steps_cons ?_ ?_
          · rintro b a w' ⟨v219, v223, ha, Q_BK214, Q_HB, Q_HO220, Q_HO224⟩ hb_ hon hoff
            refine ⟨_, rfl, fun K hK => ?_⟩
            have e25 : a.tmps[25]? = some (.pointer (some ⟨gb214, 3, none⟩)) := by rw [ha]; exact (putSel_off rfl).trans rfl
            replace ha := Aside0.mk ha
            have BK214 := Aside0.mk Q_BK214
            have HB := Aside0.mk Q_HB
            have hc0_ : w'.cell? ⟨gb214, 0, none⟩ = some (.int .i64 a0_0) := (blk_cell BK214.out 0).trans rfl
            have hc1_ : w'.cell? ⟨gb214, 1, none⟩ = some (.int .i64 a0_1) := (blk_cell BK214.out 1).trans rfl
            have hc2_ : w'.cell? ⟨gb214, 2, none⟩ = some (.slice A0_2 l0_2.length c0_2) := (blk_cell BK214.out 2).trans rfl
            have hc3_ : w'.cell? ⟨gb214, 3, none⟩ = some (.int .i64 a0_3) := (blk_cell BK214.out 3).trans rfl
            have hc4_ : w'.cell? ⟨gb214, 4, none⟩ = some (.int .i64 a0_4) := (blk_cell BK214.out 4).trans rfl
            have hc5_ : w'.cell? ⟨gb214, 5, none⟩ = some (.int .i64 a0_5) := (blk_cell BK214.out 5).trans rfl
            have hc6_ : w'.cell? ⟨gb214, 6, none⟩ = some (.int .i64 a0_6) := (blk_cell BK214.out 6).trans rfl
            have hc7_ : w'.cell? ⟨gb214, 7, none⟩ = some (.int .i64 a0_7) := (blk_cell BK214.out 7).trans rfl
            have hc8_ : w'.cell? ⟨gb214, 8, none⟩ = some (.int .i64 a0_8) := (blk_cell BK214.out 8).trans rfl
            have hc9_ : w'.cell? ⟨gb214, 9, none⟩ = some (.int .i64 a0_9) := (blk_cell BK214.out 9).trans rfl
            refine value_ (w1 := w') (v := .int .i64 a0_3) (by rfl) rfl ?_ ?_
            · go_simp
              (try simp only [i64_w])
              try rfl
            refine hK.out _ _ ⟨v219, v223, (by rw [ha.out]; exact putSel_upk 5 hb_ rfl rfl rfl), Q_BK214, Q_HB, Q_HO220, fun h0_ => absurd ((hoff 14 (by kernel_rfl)).symm.trans h0_) (by decide)⟩
          refine steps_cons ?_ ?_
          · rintro b a w' ⟨v219, v223, ha, Q_BK214, Q_HB, Q_HO220, Q_HO224⟩ hb_ hon hoff
            refine ⟨_, rfl, fun K hK => ?_⟩
            have e28 : a.tmps[28]? = some (.pointer (some ⟨gb214, 4, none⟩)) := by rw [ha]; exact (putSel_off rfl).trans rfl
            replace ha := Aside0.mk ha
            have BK214 := Aside0.mk Q_BK214
            have HB := Aside0.mk Q_HB
            have hc0_ : w'.cell? ⟨gb214, 0, none⟩ = some (.int .i64 a0_0) := (blk_cell BK214.out 0).trans rfl
            have hc1_ : w'.cell? ⟨gb214, 1, none⟩ = some (.int .i64 a0_1) := (blk_cell BK214.out 1).trans rfl
            have hc2_ : w'.cell? ⟨gb214, 2, none⟩ = some (.slice A0_2 l0_2.length c0_2) := (blk_cell BK214.out 2).trans rfl
            have hc3_ : w'.cell? ⟨gb214, 3, none⟩ = some (.int .i64 a0_3) := (blk_cell BK214.out 3).trans rfl
            have hc4_ : w'.cell? ⟨gb214, 4, none⟩ = some (.int .i64 a0_4) := (blk_cell BK214.out 4).trans rfl
            have hc5_ : w'.cell? ⟨gb214, 5, none⟩ = some (.int .i64 a0_5) := (blk_cell BK214.out 5).trans rfl
            have hc6_ : w'.cell? ⟨gb214, 6, none⟩ = some (.int .i64 a0_6) := (blk_cell BK214.out 6).trans rfl
            have hc7_ : w'.cell? ⟨gb214, 7, none⟩ = some (.int .i64 a0_7) := (blk_cell BK214.out 7).trans rfl
            have hc8_ : w'.cell? ⟨gb214, 8, none⟩ = some (.int .i64 a0_8) := (blk_cell BK214.out 8).trans rfl
            have hc9_ : w'.cell? ⟨gb214, 9, none⟩ = some (.int .i64 a0_9) := (blk_cell BK214.out 9).trans rfl
            refine value_ (w1 := w') (v := .int .i64 a0_4) (by rfl) rfl ?_ ?_
            · go_simp
              (try simp only [i64_w])
              try rfl
            refine hK.out _ _ ⟨v219, v223, (by rw [ha.out]; exact putSel_upk 6 hb_ rfl rfl rfl), Q_BK214, Q_HB, Q_HO220, fun h0_ => absurd ((hoff 14 (by kernel_rfl)).symm.trans h0_) (by decide)⟩
          refine steps_cons ?_ ?_
          · rintro b a w' ⟨v219, v223, ha, Q_BK214, Q_HB, Q_HO220, Q_HO224⟩ hb_ hon hoff
            refine ⟨_, rfl, fun K hK => ?_⟩
            have e26 : a.tmps[26]? = some (.int .i64 a0_3) := by rw [ha]; exact putSel_on (e := (10, 26, .int .i64 a0_3)) 5 rfl rfl (hon 10 (by kernel_rfl)) rfl
            have e29 : a.tmps[29]? = some (.int .i64 a0_4) := by rw [ha]; exact putSel_on (e := (13, 29, .int .i64 a0_4)) 6 rfl rfl (hon 13 (by kernel_rfl)) rfl
            replace ha := Aside0.mk ha
            have BK214 := Aside0.mk Q_BK214
            have HB := Aside0.mk Q_HB
            refine Kd.R_lit_step (Kd.int .i64) _ 3 ?hg (N := 30) ?hd (xs := ([a0_3, a0_4] : List Int)) (inner := [.int .i64 a0_3, .int .i64 a0_4]) (ok := fun _ => True) (okp := fun _ => True) ?hr ?hp (fun _ hk => hk) trivial (Below.refl _ _) (Nat.le_refl _) (by simp) ?_; (case hd => rfl); (case hg => rfl); (case hr => first | (go_simp; done) | (go_simp; rfl)); (case hp => exact (Reps.one (show Kd.M (Kd.int .i64) _ _ _ a0_3 [.int .i64 a0_3] from rfl) (Reps.one (show Kd.M (Kd.int .i64) _ _ _ a0_4 [.int .i64 a0_4] from rfl) (Reps.none _ _))))
            intro v223 w16 ho17 hb hg_ hnew_
            clear hg_ hnew_
            (first | rw [← Ny222.out] at ho17 | (simp only [Int.reduceToNat] at ho17; rw [← Ny222.out] at ho17))
            have n0_ := Aside0.mk (Kd.R_lower ho17 (below_size (by repeat (first | (with_reducible first | exact HB.out | apply below_alloc | apply pw_below_drewN | apply below_drew1 | refine below_set ?_ GE214.out) | exact HB.out))))
            have n1_ := Aside0.mk (blk_below (g := gb214) (o := .cells #[.int .i64 a0_0, .int .i64 a0_1, .slice A0_2 l0_2.length c0_2, .int .i64 a0_3, .int .i64 a0_4, .int .i64 a0_5, .int .i64 a0_6, .int .i64 a0_7, .int .i64 a0_8, .int .i64 a0_9] 28 (0, 0)) (by (with_reducible repeat (first | refine blk_drewN ?_ _ | refine blk_drew ?_ | refine blk_alloc ?_ _)); exact BK214.out) hb)
            have n2_ := Aside0.mk (below_step (by repeat (first | (with_reducible first | exact HB.out | apply below_alloc | apply pw_below_drewN | apply below_drew1 | refine below_set ?_ GE214.out) | exact HB.out)) hb)
            have z_HO220 := fun (h0_ : b 4 = true) => (show Kd.R (Kd.int .i64) 3 w16 w.heap.size (fun _ => True) v219 y218 from by first | exact (Kd.R_elder' (by (with_reducible repeat (first | apply Kd.R_alloc | apply Kd.R_drewN | apply Kd.R_drew)); exact (Q_HO220 h0_)) (Kd.R_base ho17) hb) | exact Kd.R_mono (Kd.R_elder' (by (with_reducible repeat (first | apply Kd.R_alloc | apply Kd.R_drewN | apply Kd.R_drew)); exact (Q_HO220 h0_)) (Kd.R_base ho17) hb) (fun _ h_ => by first | trivial | exact h_ | exact h_.1))
            clear BK214
            clear HB
            have HO224 := n0_
            have BK214 := n1_
            have HB := n2_
            clear n0_ n1_ n2_
            clear hb ho17
            refine hK.out _ _ ⟨v219, v223, (by rw [ha.out]; exact putSel_upk 7 hb_ rfl rfl rfl), (by (with_reducible repeat (first | refine blk_drewN ?_ _ | refine blk_drew ?_ | refine blk_alloc ?_ _)); exact BK214.out), (by repeat (first | (with_reducible first | exact HB.out | apply below_alloc | apply pw_below_drewN | apply below_drew1 | refine below_set ?_ GE214.out) | exact HB.out)), z_HO220, fun _ => (by (with_reducible repeat (first | apply Kd.R_alloc | apply Kd.R_drewN | apply Kd.R_drew)); exact HO224.out)⟩
          refine steps_cons ?_ ?_
          · rintro b a w' ⟨v219, v223, ha, Q_BK214, Q_HB, Q_HO220, Q_HO224⟩ hb_ hon hoff
            refine ⟨_, rfl, fun K hK => ?_⟩
            have e30 : a.tmps[30]? = some (v223) := by rw [ha]; exact putSel_on (e := (14, 30, v223)) 7 rfl rfl (hon 14 (by kernel_rfl)) rfl
            replace ha := Aside0.mk ha
            have BK214 := Aside0.mk Q_BK214
            have HB := Aside0.mk Q_HB
            have HO220 := Aside0.mk (Q_HO220 (hon 4 (by kernel_rfl)))
            have HO224 := Aside0.mk (Q_HO224 (hon 14 (by kernel_rfl)))
            obtain ⟨Ao23, co23, eo23⟩ := Kd.R_slice HO224.out
            (first | subst eo23 | (injection eo23 with f1_ f2_ f3_; have f4_ := f1_.symm; have f5_ := f3_.symm; clear f1_ f2_ f3_; subst f4_; subst f5_))
            refine goes_ Try.func53 (by kernel_rfl) rfl #[.slice Ao23 y222.length co23] (by rfl) rfl rfl (by first | (simp only [List.map_toArray, List.map_cons, List.map_nil, Act.eval, Array.getD_eq_getD_getElem?, Option.getD_some, e30]; done) | (simp only [List.map_toArray, List.map_cons, List.map_nil, Act.eval, Array.getD_eq_getD_getElem?, Option.getD_some, e30]; rfl)) ?_
            with_reducible refine (duetref04_nums.calls k _ _ y222 t225 _ ?side1 ?side2 A7.out).mono ?_
            (case side1 => repeat (first | exact (Kd.R_reads' HO224.out).2.2 | (with_reducible refine Kd.C_alloc ?_ _) | (with_reducible refine Kd.C_drewN ?_ _) | (with_reducible refine Kd.C_drew ?_)))
            (case side2 => exact (Kd.R_reads' HO224.out).2.1)
            rintro e w24 ⟨rfl, hb⟩
            refine ⟨_, rfl, ?_⟩
            have n0_ := Aside0.mk (Kd.R_below (by (with_reducible repeat (first | apply Kd.R_alloc | apply Kd.R_drewN | apply Kd.R_drew)); exact HO220.out) hb)
            have n1_ := Aside0.mk (Kd.R_below (by (with_reducible repeat (first | apply Kd.R_alloc | apply Kd.R_drewN | apply Kd.R_drew)); exact HO224.out) hb)
            have n2_ := Aside0.mk (blk_below (g := gb214) (o := .cells #[.int .i64 a0_0, .int .i64 a0_1, .slice A0_2 l0_2.length c0_2, .int .i64 a0_3, .int .i64 a0_4, .int .i64 a0_5, .int .i64 a0_6, .int .i64 a0_7, .int .i64 a0_8, .int .i64 a0_9] 28 (0, 0)) (by (with_reducible repeat (first | refine blk_drewN ?_ _ | refine blk_drew ?_ | refine blk_alloc ?_ _)); exact BK214.out) hb)
            have n3_ := Aside0.mk (below_step (by repeat (first | (with_reducible first | exact HB.out | apply below_alloc | apply pw_below_drewN | apply below_drew1 | refine below_set ?_ GE214.out) | exact HB.out)) hb)
            clear HO220
            clear HO224
            clear BK214
            clear HB
            have HO220 := n0_
            have HO224 := n1_
            have BK214 := n2_
            have HB := n3_
            clear n0_ n1_ n2_ n3_
            (try clear hb)
            (try clear hb2)
            (try clear hk)
            (try clear hi)
            refine hK.out _ _ ⟨v219, .slice Ao23 y222.length co23, (by rw [ha.out]; exact putSel_upk 8 hb_ rfl rfl rfl), (by (with_reducible repeat (first | refine blk_drewN ?_ _ | refine blk_drew ?_ | refine blk_alloc ?_ _)); exact BK214.out), (by repeat (first | (with_reducible first | exact HB.out | apply below_alloc | apply pw_below_drewN | apply below_drew1 | refine below_set ?_ GE214.out) | exact HB.out)), fun _ => (by (with_reducible repeat (first | apply Kd.R_alloc | apply Kd.R_drewN | apply Kd.R_drew)); exact HO220.out), fun _ => (by (with_reducible repeat (first | apply Kd.R_alloc | apply Kd.R_drewN | apply Kd.R_drew)); exact HO224.out)⟩
          refine steps_cons ?_ ?_
          · rintro b a w' ⟨v219, v223, ha, Q_BK214, Q_HB, Q_HO220, Q_HO224⟩ hb_ hon hoff
            refine ⟨_, rfl, fun K hK => ?_⟩
            have e23 : a.tmps[23]? = some (.string (t221 ++ t216)) := by rw [ha]; exact putSel_on (e := (7, 23, .string (t221 ++ t216))) 4 rfl rfl (hon 7 (by kernel_rfl)) rfl
            have e31 : a.tmps[31]? = some (.string t225) := by rw [ha]; exact putSel_on (e := (15, 31, .string t225)) 8 rfl rfl (hon 15 (by kernel_rfl)) rfl
            replace ha := Aside0.mk ha
            have BK214 := Aside0.mk Q_BK214
            have HB := Aside0.mk Q_HB
            have HO220 := Aside0.mk (Q_HO220 (hon 4 (by kernel_rfl)))
            have HO224 := Aside0.mk (Q_HO224 (hon 14 (by kernel_rfl)))
            refine value_ (w1 := w') (v := .string ((t221 ++ t216) ++ t225)) (by rfl) rfl ?_ ?_
            · go_simp
              (try simp only [i64_w])
              try rfl
            refine hK.out _ _ ⟨v219, v223, (by rw [ha.out]; exact putSel_upk 9 hb_ rfl rfl rfl), Q_BK214, Q_HB, Q_HO220, Q_HO224⟩
          refine steps_cons ?_ ?_
          · rintro b a w' ⟨v219, v223, ha, Q_BK214, Q_HB, Q_HO220, Q_HO224⟩ hb_ hon hoff
            refine ⟨_, rfl, fun K hK => ?_⟩
            have e32 : a.tmps[32]? = some (.string ((t221 ++ t216) ++ t225)) := by rw [ha]; exact putSel_on (e := (16, 32, .string ((t221 ++ t216) ++ t225))) 9 rfl rfl (hon 16 (by kernel_rfl)) rfl
            replace ha := Aside0.mk ha
            have BK214 := Aside0.mk Q_BK214
            have HB := Aside0.mk Q_HB
            have HO220 := Aside0.mk (Q_HO220 (hon 4 (by kernel_rfl)))
            have HO224 := Aside0.mk (Q_HO224 (hon 14 (by kernel_rfl)))
            refine value_ (w1 := w') (v := .string ((t221 ++ t216) ++ t225)) (by rfl) rfl ?_ ?_
            · go_simp
              (try simp only [i64_w])
              try rfl
            refine hK.out _ _ ⟨v219, v223, (by rw [ha.out]; exact putSel_upk 10 hb_ rfl rfl rfl), Q_BK214, Q_HB, Q_HO220, Q_HO224⟩
          exact steps_nil
        rintro b a w24 hall ⟨v219, v223, ha, Q_BK214, Q_HB, Q_HO220, Q_HO224⟩
        clear BK214 HB
        have hb1_ := hall 1 (by kernel_rfl)
        have hb3_ := hall 3 (by kernel_rfl)
        have hb4_ := hall 4 (by kernel_rfl)
        have hb5_ := hall 5 (by kernel_rfl)
        have hb7_ := hall 7 (by kernel_rfl)
        have hb10_ := hall 10 (by kernel_rfl)
        have hb13_ := hall 13 (by kernel_rfl)
        have hb14_ := hall 14 (by kernel_rfl)
        have hb15_ := hall 15 (by kernel_rfl)
        have hb16_ := hall 16 (by kernel_rfl)
        have hb17_ := hall 17 (by kernel_rfl)
        subst ha
        simp only [putSel, hb1_, hb3_, hb4_, hb5_, hb7_, hb10_, hb13_, hb14_, hb15_, hb16_, hb17_, if_true, Act.put, List.setIfInBounds_toArray, List.set_cons_zero, List.set_cons_succ]
        have BK214 := Aside0.mk Q_BK214
        clear Q_BK214
        have HB := Aside0.mk Q_HB
        clear Q_HB
        have HO220 := Aside0.mk (Q_HO220 hb4_)
        clear Q_HO220
        have HO224 := Aside0.mk (Q_HO224 hb14_)
        clear Q_HO224
        clear hall hb1_ hb3_ hb4_ hb5_ hb7_ hb10_ hb13_ hb14_ hb15_ hb16_ hb17_
        go_upto_region 5 with (fail)
        go_cut [42] (fun v42 wc => ∃ (kq : Nat) (x42_8 : Bool), v42 = .bool x42_8 ∧ Aside0 (duetref04_Encode.j0 kq ((t221 ++ t216) ++ t225) x42_8 a0_0 a0_1 l0_2 a0_3 a0_4 a0_5 a0_6 a0_7 a0_8 a0_9 = some (r1, r2)) ∧ Aside0 (kq ≤ k) ∧ Aside0 (wc.heap[gb214]? = some (.cells #[.int .i64 a0_0, .int .i64 a0_1, (.slice A0_2 l0_2.length c0_2), .int .i64 a0_3, .int .i64 a0_4, .int .i64 a0_5, .int .i64 a0_6, .int .i64 a0_7, .int .i64 a0_8, .int .i64 a0_9] 28 (0, 0))) ∧ Aside0 (Below w.heap.size w wc))
        case first =>
          have H := HC9.out
          clear HC9
          by_cases c25 : a0_3 = 1
          · rw [if_pos c25] at H
            have c25b0 : (a0_3 == 1) = true := beq_iff_eq.mpr c25
            have c25b1 : (a0_3 != 1) = false := bne_eq_false_iff_eq.mpr c25
            clear c25
            (first | rw [c25b0] | (simp only [i64_w, i32_w]; rw [c25b0]) | skip)
            have H' := Aside0.mk H
            clear H
            have hcz26_0 : w24.cell? ⟨gb214, 0, none⟩ = some (.int .i64 a0_0) := (blk_cell BK214.out 0).trans rfl
            have hcz26_1 : w24.cell? ⟨gb214, 1, none⟩ = some (.int .i64 a0_1) := (blk_cell BK214.out 1).trans rfl
            have hcz26_2 : w24.cell? ⟨gb214, 2, none⟩ = some (.slice A0_2 l0_2.length c0_2) := (blk_cell BK214.out 2).trans rfl
            have hcz26_3 : w24.cell? ⟨gb214, 3, none⟩ = some (.int .i64 a0_3) := (blk_cell BK214.out 3).trans rfl
            have hcz26_4 : w24.cell? ⟨gb214, 4, none⟩ = some (.int .i64 a0_4) := (blk_cell BK214.out 4).trans rfl
            have hcz26_5 : w24.cell? ⟨gb214, 5, none⟩ = some (.int .i64 a0_5) := (blk_cell BK214.out 5).trans rfl
            have hcz26_6 : w24.cell? ⟨gb214, 6, none⟩ = some (.int .i64 a0_6) := (blk_cell BK214.out 6).trans rfl
            have hcz26_7 : w24.cell? ⟨gb214, 7, none⟩ = some (.int .i64 a0_7) := (blk_cell BK214.out 7).trans rfl
            have hcz26_8 : w24.cell? ⟨gb214, 8, none⟩ = some (.int .i64 a0_8) := (blk_cell BK214.out 8).trans rfl
            have hcz26_9 : w24.cell? ⟨gb214, 9, none⟩ = some (.int .i64 a0_9) := (blk_cell BK214.out 9).trans rfl
            have hfz26_0 := blk_frozen BK214.out 0
            have hfz26_1 := blk_frozen BK214.out 1
            have hfz26_2 := blk_frozen BK214.out 2
            have hfz26_3 := blk_frozen BK214.out 3
            have hfz26_4 := blk_frozen BK214.out 4
            have hfz26_5 := blk_frozen BK214.out 5
            have hfz26_6 := blk_frozen BK214.out 6
            have hfz26_7 := blk_frozen BK214.out 7
            have hfz26_8 := blk_frozen BK214.out 8
            have hfz26_9 := blk_frozen BK214.out 9
            go_wp2
            go_meet
            case rel => exact ⟨_, (true), (by first | rfl | (simp; done) | (simp [*]; done)), H', ⟨by first | omega | exact Nat.le_refl _⟩, ⟨by (with_reducible repeat (first | refine blk_drewN ?_ _ | refine blk_drew ?_ | refine blk_alloc ?_ _)); exact BK214.out⟩, ⟨by repeat (first | (with_reducible first | exact HB.out | apply below_alloc | apply pw_below_drewN | apply below_drew1 | refine below_set ?_ GE214.out) | exact HB.out)⟩⟩
          · rw [if_neg c25] at H
            have c25b0 : (a0_3 == 1) = false := beq_eq_false_iff_ne.mpr c25
            have c25b1 : (a0_3 != 1) = true := bne_iff_ne.mpr c25
            (first | rw [c25b0] | (simp only [i64_w, i32_w]; rw [c25b0]) | skip)
            have H' := Aside0.mk H
            clear H
            have hcz27_0 : w24.cell? ⟨gb214, 0, none⟩ = some (.int .i64 a0_0) := (blk_cell BK214.out 0).trans rfl
            have hcz27_1 : w24.cell? ⟨gb214, 1, none⟩ = some (.int .i64 a0_1) := (blk_cell BK214.out 1).trans rfl
            have hcz27_2 : w24.cell? ⟨gb214, 2, none⟩ = some (.slice A0_2 l0_2.length c0_2) := (blk_cell BK214.out 2).trans rfl
            have hcz27_3 : w24.cell? ⟨gb214, 3, none⟩ = some (.int .i64 a0_3) := (blk_cell BK214.out 3).trans rfl
            have hcz27_4 : w24.cell? ⟨gb214, 4, none⟩ = some (.int .i64 a0_4) := (blk_cell BK214.out 4).trans rfl
            have hcz27_5 : w24.cell? ⟨gb214, 5, none⟩ = some (.int .i64 a0_5) := (blk_cell BK214.out 5).trans rfl
            have hcz27_6 : w24.cell? ⟨gb214, 6, none⟩ = some (.int .i64 a0_6) := (blk_cell BK214.out 6).trans rfl
            have hcz27_7 : w24.cell? ⟨gb214, 7, none⟩ = some (.int .i64 a0_7) := (blk_cell BK214.out 7).trans rfl
            have hcz27_8 : w24.cell? ⟨gb214, 8, none⟩ = some (.int .i64 a0_8) := (blk_cell BK214.out 8).trans rfl
            have hcz27_9 : w24.cell? ⟨gb214, 9, none⟩ = some (.int .i64 a0_9) := (blk_cell BK214.out 9).trans rfl
            have hfz27_0 := blk_frozen BK214.out 0
            have hfz27_1 := blk_frozen BK214.out 1
            have hfz27_2 := blk_frozen BK214.out 2
            have hfz27_3 := blk_frozen BK214.out 3
            have hfz27_4 := blk_frozen BK214.out 4
            have hfz27_5 := blk_frozen BK214.out 5
            have hfz27_6 := blk_frozen BK214.out 6
            have hfz27_7 := blk_frozen BK214.out 7
            have hfz27_8 := blk_frozen BK214.out 8
            have hfz27_9 := blk_frozen BK214.out 9
            go_wp2
            go_meet
            case rel => exact ⟨_, ((a0_3 == 6)), (by first | rfl | (simp; done) | (simp [*]; done)), H', ⟨by first | omega | exact Nat.le_refl _⟩, ⟨by (with_reducible repeat (first | refine blk_drewN ?_ _ | refine blk_drew ?_ | refine blk_alloc ?_ _)); exact BK214.out⟩, ⟨by repeat (first | (with_reducible first | exact HB.out | apply below_alloc | apply pw_below_drewN | apply below_drew1 | refine below_set ?_ GE214.out) | exact HB.out)⟩⟩
        case rest =>
          clear HC9
          try clear c1
          try clear c2
          try clear p2
          try clear c3
          try clear c3b0
          try clear c3b1
          try clear c4
          try clear c5
          try clear c6
          try clear c6b0
          try clear c6b1
          try clear c6b2
          try clear c7
          try clear c8
          try clear c8b0
          try clear c8b1
          try clear c8b2
          try clear c9
          try clear c17
          try clear c19
          try clear c25
          try clear c25b0
          try clear c25b1
          try clear hcz11_0
          try clear hcz11_1
          try clear hcz11_2
          try clear hcz11_3
          try clear hcz11_4
          try clear hcz11_5
          try clear hcz11_6
          try clear hcz11_7
          try clear hcz11_8
          try clear hcz11_9
          try clear hcz13_0
          try clear hcz13_1
          try clear hcz13_2
          try clear hcz13_3
          try clear hcz13_4
          try clear hcz13_5
          try clear hcz13_6
          try clear hcz13_7
          try clear hcz13_8
          try clear hcz13_9
          try clear hcz26_0
          try clear hcz26_1
          try clear hcz26_2
          try clear hcz26_3
          try clear hcz26_4
          try clear hcz26_5
          try clear hcz26_6
          try clear hcz26_7
          try clear hcz26_8
          try clear hcz26_9
          try clear hcz27_0
          try clear hcz27_1
          try clear hcz27_2
          try clear hcz27_3
          try clear hcz27_4
          try clear hcz27_5
          try clear hcz27_6
          try clear hcz27_7
          try clear hcz27_8
          try clear hcz27_9
          try clear hfz11_0
          try clear hfz11_1
          try clear hfz11_2
          try clear hfz11_3
          try clear hfz11_4
          try clear hfz11_5
          try clear hfz11_6
          try clear hfz11_7
          try clear hfz11_8
          try clear hfz11_9
          try clear hfz13_0
          try clear hfz13_1
          try clear hfz13_2
          try clear hfz13_3
          try clear hfz13_4
          try clear hfz13_5
          try clear hfz13_6
          try clear hfz13_7
          try clear hfz13_8
          try clear hfz13_9
          try clear hfz26_0
          try clear hfz26_1
          try clear hfz26_2
          try clear hfz26_3
          try clear hfz26_4
          try clear hfz26_5
          try clear hfz26_6
          try clear hfz26_7
          try clear hfz26_8
          try clear hfz26_9
          try clear hfz27_0
          try clear hfz27_1
          try clear hfz27_2
          try clear hfz27_3
          try clear hfz27_4
          try clear hfz27_5
          try clear hfz27_6
          try clear hfz27_7
          try clear hfz27_8
          try clear hfz27_9
          obtain ⟨kq, x42_8, rfl, HA, HJ8, BK214, HB⟩ := hcut
          cases kq with
          | zero => exact absurd HA.out (by simp [duetref04_Encode.j0])
          | succ kj8 =>
            have H := HA.out
            clear HA
            simp only [duetref04_Encode.j0] at H
            have HC28 := Aside0.mk H
            clear H
            go_upto_if 42 with (fail)
            go_cut [6] (fun v6 wc => ∃ (kq : Nat) (x6_27 : ByteArray), v6 = .string x6_27 ∧ Aside0 (duetref04_Encode.j1 kq x6_27 a0_0 a0_1 l0_2 a0_3 a0_4 a0_5 a0_6 a0_7 a0_8 a0_9 = some (r1, r2)) ∧ Aside0 (kq ≤ kj8) ∧ Aside0 (wc.heap[gb214]? = some (.cells #[.int .i64 a0_0, .int .i64 a0_1, (.slice A0_2 l0_2.length c0_2), .int .i64 a0_3, .int .i64 a0_4, .int .i64 a0_5, .int .i64 a0_6, .int .i64 a0_7, .int .i64 a0_8, .int .i64 a0_9] 28 (0, 0))) ∧ Aside0 (Below w.heap.size w wc))
            case first =>
              have H := HC28.out
              clear HC28
              by_cases c29 : x42_8 = true
              · subst c29
                have H1 : ((duetref04_nums.f kj8 (([a0_5, a0_6] : List Int))).bind fun t229 => (if ((t221 ++ t216) ++ t225).size + t229.size ≤ 9223372036854775807 then (duetref04_Encode.j1 kj8 (((t221 ++ t216) ++ t225) ++ t229) a0_0 a0_1 l0_2 a0_3 a0_4 a0_5 a0_6 a0_7 a0_8 a0_9) else (none))) = some (r1, r2) := by rw [if_pos rfl] at H; exact H
                clear H
                have H := H1
                clear H1
                obtain ⟨y226, hy226⟩ : ∃ y_ : List Int, y_ = (([a0_5, a0_6] : List Int)) := ⟨_, rfl⟩
                replace H : ((duetref04_nums.f kj8 y226).bind fun t229 => (if ((t221 ++ t216) ++ t225).size + t229.size ≤ 9223372036854775807 then (duetref04_Encode.j1 kj8 (((t221 ++ t216) ++ t225) ++ t229) a0_0 a0_1 l0_2 a0_3 a0_4 a0_5 a0_6 a0_7 a0_8 a0_9) else (none))) = some (r1, r2) := by first | (rw [hy226]; with_reducible exact H) | (have H2_ := (Option.bind_some _ _).symm.trans H; rw [hy226]; with_reducible exact H2_) | (have H2_ := (Option.bind_some _ _).symm.trans H; with_reducible exact H2_) | with_reducible exact H | (rw [hy226]; exact H) | exact H
                have Ny226 := Aside0.mk hy226
                clear hy226
                replace H := Option.bind_eq_some_iff.mp H
                obtain ⟨t229, A300, H⟩ := H
                replace H : (if ((t221 ++ t216) ++ t225).size + t229.size ≤ 9223372036854775807 then (duetref04_Encode.j1 kj8 (((t221 ++ t216) ++ t225) ++ t229) a0_0 a0_1 l0_2 a0_3 a0_4 a0_5 a0_6 a0_7 a0_8 a0_9) else (none)) = some (r1, r2) := H
                have A30 := Aside0.mk A300
                clear A300
                by_cases c31 : ((t221 ++ t216) ++ t225).size + t229.size ≤ 9223372036854775807
                · rw [if_pos c31] at H
                  have c31b0 := eq_true c31
                  have c31b1 : decide (((t221 ++ t216) ++ t225).size + t229.size ≤ 9223372036854775807) = true := decide_eq_true c31
                  try have c31b2 : (9223372036854775807 < ((t221 ++ t216) ++ t225).size + t229.size) = False := eq_false (Nat.not_lt.2 c31)
                  have c31x : t221.size + t216.size + t225.size + t229.size ≤ 9223372036854775807 := by have hx_ := of_decide_eq_true c31b1; simp only [ByteArray.size_append] at hx_; omega
                  have c31b3 := eq_true c31x
                  have c31b4 : decide (t221.size + t216.size + t225.size + t229.size ≤ 9223372036854775807) = true := decide_eq_true c31x
                  have c31b5 : (9223372036854775807 < t221.size + t216.size + t225.size + t229.size) = False := eq_false (Nat.not_lt.2 c31x)
                  clear c31x
                  have H' := Aside0.mk H
                  clear H
                  have hcz32_0 : wc.cell? ⟨gb214, 0, none⟩ = some (.int .i64 a0_0) := (blk_cell BK214.out 0).trans rfl
                  have hcz32_1 : wc.cell? ⟨gb214, 1, none⟩ = some (.int .i64 a0_1) := (blk_cell BK214.out 1).trans rfl
                  have hcz32_2 : wc.cell? ⟨gb214, 2, none⟩ = some (.slice A0_2 l0_2.length c0_2) := (blk_cell BK214.out 2).trans rfl
                  have hcz32_3 : wc.cell? ⟨gb214, 3, none⟩ = some (.int .i64 a0_3) := (blk_cell BK214.out 3).trans rfl
                  have hcz32_4 : wc.cell? ⟨gb214, 4, none⟩ = some (.int .i64 a0_4) := (blk_cell BK214.out 4).trans rfl
                  have hcz32_5 : wc.cell? ⟨gb214, 5, none⟩ = some (.int .i64 a0_5) := (blk_cell BK214.out 5).trans rfl
                  have hcz32_6 : wc.cell? ⟨gb214, 6, none⟩ = some (.int .i64 a0_6) := (blk_cell BK214.out 6).trans rfl
                  have hcz32_7 : wc.cell? ⟨gb214, 7, none⟩ = some (.int .i64 a0_7) := (blk_cell BK214.out 7).trans rfl
                  have hcz32_8 : wc.cell? ⟨gb214, 8, none⟩ = some (.int .i64 a0_8) := (blk_cell BK214.out 8).trans rfl
                  have hcz32_9 : wc.cell? ⟨gb214, 9, none⟩ = some (.int .i64 a0_9) := (blk_cell BK214.out 9).trans rfl
                  have hfz32_0 := blk_frozen BK214.out 0
                  have hfz32_1 := blk_frozen BK214.out 1
                  have hfz32_2 := blk_frozen BK214.out 2
                  have hfz32_3 := blk_frozen BK214.out 3
                  have hfz32_4 := blk_frozen BK214.out 4
                  have hfz32_5 := blk_frozen BK214.out 5
                  have hfz32_6 := blk_frozen BK214.out 6
                  have hfz32_7 := blk_frozen BK214.out 7
                  have hfz32_8 := blk_frozen BK214.out 8
                  have hfz32_9 := blk_frozen BK214.out 9
                  go_wp2_with (first | ((with_reducible refine gate_dst (N := 52) rfl ?_); refine Kd.R_lit (Kd.int .i64) _ 3 ?hg (N := 52) ?hd (xs := ([a0_5, a0_6] : List Int)) (inner := [.int .i64 a0_5, .int .i64 a0_6]) (ok := fun _ => True) (okp := fun _ => True) ?hr ?hp (fun _ hk => hk) trivial (Below.refl _ _) (Nat.le_refl _) (by simp) ?_; (case hd => rfl); (case hg => rfl); (case hr => first | (go_simp; done) | (go_simp; rfl)); (case hp => exact (Reps.one (show Kd.M (Kd.int .i64) _ _ _ a0_5 [.int .i64 a0_5] from rfl) (Reps.one (show Kd.M (Kd.int .i64) _ _ _ a0_6 [.int .i64 a0_6] from rfl) (Reps.none _ _)))); intro v227 w33 ho34 hb hg_ hnew_; clear hg_ hnew_; (first | rw [← Ny226.out] at ho34 | (simp only [Int.reduceToNat] at ho34; rw [← Ny226.out] at ho34)); have n0_ := Aside0.mk (Kd.R_lower ho34 (below_size (by repeat (first | (with_reducible first | exact HB.out | apply below_alloc | apply pw_below_drewN | apply below_drew1 | refine below_set ?_ GE214.out) | exact HB.out)))); have n1_ := Aside0.mk (blk_below (g := gb214) (o := .cells #[.int .i64 a0_0, .int .i64 a0_1, .slice A0_2 l0_2.length c0_2, .int .i64 a0_3, .int .i64 a0_4, .int .i64 a0_5, .int .i64 a0_6, .int .i64 a0_7, .int .i64 a0_8, .int .i64 a0_9] 28 (0, 0)) (by (with_reducible repeat (first | refine blk_drewN ?_ _ | refine blk_drew ?_ | refine blk_alloc ?_ _)); exact BK214.out) hb); have n2_ := Aside0.mk (below_step (by repeat (first | (with_reducible first | exact HB.out | apply below_alloc | apply pw_below_drewN | apply below_drew1 | refine below_set ?_ GE214.out) | exact HB.out)) hb); clear BK214; clear HB; have HO228 := n0_; have BK214 := n1_; have HB := n2_; clear n0_ n1_ n2_; clear hb ho34; obtain ⟨Ao35, co35, eo35⟩ := Kd.R_slice HO228.out; subst eo35) | ((with_reducible refine gate_callee (f := 53) rfl ?_); refine goesL_ (some 53) rfl rfl Try.func53 (by kernel_rfl) rfl #[.slice Ao35 y226.length co35] rfl (by (try simp only [List.map_toArray, List.map_cons, List.map_nil]); first | done | rfl | (simp only [List.length_drop, List.length_take]; rfl)) ?_; (with_reducible refine (duetref04_nums.calls kj8 _ _ y226 t229 _ ?side1 ?side2 A30.out).mono ?_); (case side1 => repeat (first | exact (Kd.R_reads' HO228.out).2.2 | (with_reducible refine Kd.C_alloc ?_ _) | (with_reducible refine Kd.C_drewN ?_ _) | (with_reducible refine Kd.C_drew ?_))); (case side2 => exact (Kd.R_reads' HO228.out).2.1); rintro e w36 ⟨rfl, hb⟩; refine ⟨_, rfl, ?_⟩; have n0_ := Aside0.mk (Kd.R_below (by (with_reducible repeat (first | apply Kd.R_alloc | apply Kd.R_drewN | apply Kd.R_drew)); exact HO228.out) hb); have n1_ := Aside0.mk (blk_below (g := gb214) (o := .cells #[.int .i64 a0_0, .int .i64 a0_1, .slice A0_2 l0_2.length c0_2, .int .i64 a0_3, .int .i64 a0_4, .int .i64 a0_5, .int .i64 a0_6, .int .i64 a0_7, .int .i64 a0_8, .int .i64 a0_9] 28 (0, 0)) (by (with_reducible repeat (first | refine blk_drewN ?_ _ | refine blk_drew ?_ | refine blk_alloc ?_ _)); exact BK214.out) hb); have n2_ := Aside0.mk (below_step (by repeat (first | (with_reducible first | exact HB.out | apply below_alloc | apply pw_below_drewN | apply below_drew1 | refine below_set ?_ GE214.out) | exact HB.out)) hb); clear HO228; clear BK214; clear HB; have HO228 := n0_; have BK214 := n1_; have HB := n2_; clear n0_ n1_ n2_; (try clear hb); (try clear hb2); (try clear hk); (try clear hi)))
                  go_meet
                  case rel => exact ⟨_, (((t221 ++ t216) ++ t225) ++ t229), (by first | rfl | (simp; done) | (simp [*]; done)), H', ⟨by have := HJ8.out; first | omega | exact Nat.le_refl _⟩, ⟨by (with_reducible repeat (first | refine blk_drewN ?_ _ | refine blk_drew ?_ | refine blk_alloc ?_ _)); exact BK214.out⟩, ⟨by repeat (first | (with_reducible first | exact HB.out | apply below_alloc | apply pw_below_drewN | apply below_drew1 | refine below_set ?_ GE214.out) | exact HB.out)⟩⟩
                · rw [if_neg c31] at H
                  exact absurd H (by simp)
              · replace c29 := Bool.eq_false_iff.mpr c29
                subst c29
                have H1 : (duetref04_Encode.j1 kj8 ((t221 ++ t216) ++ t225) a0_0 a0_1 l0_2 a0_3 a0_4 a0_5 a0_6 a0_7 a0_8 a0_9) = some (r1, r2) := by rw [if_neg (show ¬ (false = true) by decide)] at H; exact H
                clear H
                have H := H1
                clear H1
                have H' := Aside0.mk H
                clear H
                go_wp2
                go_meet
                case rel => exact ⟨_, (((t221 ++ t216) ++ t225)), (by first | rfl | (simp; done) | (simp [*]; done)), H', ⟨by have := HJ8.out; first | omega | exact Nat.le_refl _⟩, ⟨by (with_reducible repeat (first | refine blk_drewN ?_ _ | refine blk_drew ?_ | refine blk_alloc ?_ _)); exact BK214.out⟩, ⟨by repeat (first | (with_reducible first | exact HB.out | apply below_alloc | apply pw_below_drewN | apply below_drew1 | refine below_set ?_ GE214.out) | exact HB.out)⟩⟩
            case rest =>
              clear HC28
              try clear c1
              try clear c2
              try clear p2
              try clear c3
              try clear c3b0
              try clear c3b1
              try clear c4
              try clear c5
              try clear c6
              try clear c6b0
              try clear c6b1
              try clear c6b2
              try clear c7
              try clear c8
              try clear c8b0
              try clear c8b1
              try clear c8b2
              try clear c9
              try clear c17
              try clear c19
              try clear c25
              try clear c25b0
              try clear c25b1
              try clear c29
              try clear c31
              try clear c31b0
              try clear c31b1
              try clear c31b2
              try clear hcz11_0
              try clear hcz11_1
              try clear hcz11_2
              try clear hcz11_3
              try clear hcz11_4
              try clear hcz11_5
              try clear hcz11_6
              try clear hcz11_7
              try clear hcz11_8
              try clear hcz11_9
              try clear hcz13_0
              try clear hcz13_1
              try clear hcz13_2
              try clear hcz13_3
              try clear hcz13_4
              try clear hcz13_5
              try clear hcz13_6
              try clear hcz13_7
              try clear hcz13_8
              try clear hcz13_9
              try clear hcz26_0
              try clear hcz26_1
              try clear hcz26_2
              try clear hcz26_3
              try clear hcz26_4
              try clear hcz26_5
              try clear hcz26_6
              try clear hcz26_7
              try clear hcz26_8
              try clear hcz26_9
              try clear hcz27_0
              try clear hcz27_1
              try clear hcz27_2
              try clear hcz27_3
              try clear hcz27_4
              try clear hcz27_5
              try clear hcz27_6
              try clear hcz27_7
              try clear hcz27_8
              try clear hcz27_9
              try clear hcz32_0
              try clear hcz32_1
              try clear hcz32_2
              try clear hcz32_3
              try clear hcz32_4
              try clear hcz32_5
              try clear hcz32_6
              try clear hcz32_7
              try clear hcz32_8
              try clear hcz32_9
              try clear hfz11_0
              try clear hfz11_1
              try clear hfz11_2
              try clear hfz11_3
              try clear hfz11_4
              try clear hfz11_5
              try clear hfz11_6
              try clear hfz11_7
              try clear hfz11_8
              try clear hfz11_9
              try clear hfz13_0
              try clear hfz13_1
              try clear hfz13_2
              try clear hfz13_3
              try clear hfz13_4
              try clear hfz13_5
              try clear hfz13_6
              try clear hfz13_7
              try clear hfz13_8
              try clear hfz13_9
              try clear hfz26_0
              try clear hfz26_1
              try clear hfz26_2
              try clear hfz26_3
              try clear hfz26_4
              try clear hfz26_5
              try clear hfz26_6
              try clear hfz26_7
              try clear hfz26_8
              try clear hfz26_9
              try clear hfz27_0
              try clear hfz27_1
              try clear hfz27_2
              try clear hfz27_3
              try clear hfz27_4
              try clear hfz27_5
              try clear hfz27_6
              try clear hfz27_7
              try clear hfz27_8
              try clear hfz27_9
              try clear hfz32_0
              try clear hfz32_1
              try clear hfz32_2
              try clear hfz32_3
              try clear hfz32_4
              try clear hfz32_5
              try clear hfz32_6
              try clear hfz32_7
              try clear hfz32_8
              try clear hfz32_9
              try clear p2
              obtain ⟨kq, x6_27, rfl, HA, HJ27, BK214, HB⟩ := hcut
              cases kq with
              | zero => exact absurd HA.out (by simp [duetref04_Encode.j1])
              | succ kj27 =>
                have H := HA.out
                clear HA
                simp only [duetref04_Encode.j1] at H
                by_cases c37 : a0_3 = 6
                · rw [if_pos c37] at H
                  have c37b0 : (a0_3 == 6) = true := beq_iff_eq.mpr c37
                  have c37b1 : (a0_3 != 6) = false := bne_eq_false_iff_eq.mpr c37
                  clear c37
                  by_cases c38 : a0_3 = 1
                  · rw [if_pos c38] at H
                    have c38b0 : (a0_3 == 1) = true := beq_iff_eq.mpr c38
                    have c38b1 : (a0_3 != 1) = false := bne_eq_false_iff_eq.mpr c38
                    clear c38
                    obtain ⟨y230, hy230⟩ : ∃ y_ : List Int, y_ = (([a0_9] : List Int)) := ⟨_, rfl⟩
                    replace H : ((duetref04_nums.f kj27 y230).bind fun t233 => (if x6_27.size + t233.size ≤ 9223372036854775807 then (some (x6_27 ++ t233, 0)) else (none))) = some (r1, r2) := by first | (rw [hy230]; with_reducible exact H) | (have H2_ := (Option.bind_some _ _).symm.trans H; rw [hy230]; with_reducible exact H2_) | (have H2_ := (Option.bind_some _ _).symm.trans H; with_reducible exact H2_) | with_reducible exact H | (rw [hy230]; exact H) | exact H
                    have Ny230 := Aside0.mk hy230
                    clear hy230
                    replace H := Option.bind_eq_some_iff.mp H
                    obtain ⟨t233, A390, H⟩ := H
                    replace H : (if x6_27.size + t233.size ≤ 9223372036854775807 then (some (x6_27 ++ t233, 0)) else (none)) = some (r1, r2) := H
                    have A39 := Aside0.mk A390
                    clear A390
                    by_cases c40 : x6_27.size + t233.size ≤ 9223372036854775807
                    · rw [if_pos c40] at H
                      have c40b0 := eq_true c40
                      have c40b1 : decide (x6_27.size + t233.size ≤ 9223372036854775807) = true := decide_eq_true c40
                      try have c40b2 : (9223372036854775807 < x6_27.size + t233.size) = False := eq_false (Nat.not_lt.2 c40)
                      simp only [Option.some.injEq, Prod.mk.injEq] at H
                      obtain ⟨rfl, rfl⟩ := H
                      have hcz41_0 : wc.cell? ⟨gb214, 0, none⟩ = some (.int .i64 a0_0) := (blk_cell BK214.out 0).trans rfl
                      have hcz41_1 : wc.cell? ⟨gb214, 1, none⟩ = some (.int .i64 a0_1) := (blk_cell BK214.out 1).trans rfl
                      have hcz41_2 : wc.cell? ⟨gb214, 2, none⟩ = some (.slice A0_2 l0_2.length c0_2) := (blk_cell BK214.out 2).trans rfl
                      have hcz41_3 : wc.cell? ⟨gb214, 3, none⟩ = some (.int .i64 a0_3) := (blk_cell BK214.out 3).trans rfl
                      have hcz41_4 : wc.cell? ⟨gb214, 4, none⟩ = some (.int .i64 a0_4) := (blk_cell BK214.out 4).trans rfl
                      have hcz41_5 : wc.cell? ⟨gb214, 5, none⟩ = some (.int .i64 a0_5) := (blk_cell BK214.out 5).trans rfl
                      have hcz41_6 : wc.cell? ⟨gb214, 6, none⟩ = some (.int .i64 a0_6) := (blk_cell BK214.out 6).trans rfl
                      have hcz41_7 : wc.cell? ⟨gb214, 7, none⟩ = some (.int .i64 a0_7) := (blk_cell BK214.out 7).trans rfl
                      have hcz41_8 : wc.cell? ⟨gb214, 8, none⟩ = some (.int .i64 a0_8) := (blk_cell BK214.out 8).trans rfl
                      have hcz41_9 : wc.cell? ⟨gb214, 9, none⟩ = some (.int .i64 a0_9) := (blk_cell BK214.out 9).trans rfl
                      have hfz41_0 := blk_frozen BK214.out 0
                      have hfz41_1 := blk_frozen BK214.out 1
                      have hfz41_2 := blk_frozen BK214.out 2
                      have hfz41_3 := blk_frozen BK214.out 3
                      have hfz41_4 := blk_frozen BK214.out 4
                      have hfz41_5 := blk_frozen BK214.out 5
                      have hfz41_6 := blk_frozen BK214.out 6
                      have hfz41_7 := blk_frozen BK214.out 7
                      have hfz41_8 := blk_frozen BK214.out 8
                      have hfz41_9 := blk_frozen BK214.out 9
                      go_wp2_with (first | ((with_reducible refine gate_dst (N := 79) rfl ?_); refine Kd.R_lit (Kd.int .i64) _ 3 ?hg (N := 79) ?hd (xs := ([a0_9] : List Int)) (inner := [.int .i64 a0_9]) (ok := fun _ => True) (okp := fun _ => True) ?hr ?hp (fun _ hk => hk) trivial (Below.refl _ _) (Nat.le_refl _) (by simp) ?_; (case hd => rfl); (case hg => rfl); (case hr => first | (go_simp; done) | (go_simp; rfl)); (case hp => exact (Reps.one (show Kd.M (Kd.int .i64) _ _ _ a0_9 [.int .i64 a0_9] from rfl) (Reps.none _ _))); intro v231 w42 ho43 hb hg_ hnew_; clear hg_ hnew_; (first | rw [← Ny230.out] at ho43 | (simp only [Int.reduceToNat] at ho43; rw [← Ny230.out] at ho43)); have n0_ := Aside0.mk (Kd.R_lower ho43 (below_size (by repeat (first | (with_reducible first | exact HB.out | apply below_alloc | apply pw_below_drewN | apply below_drew1 | refine below_set ?_ GE214.out) | exact HB.out)))); have n1_ := Aside0.mk (blk_below (g := gb214) (o := .cells #[.int .i64 a0_0, .int .i64 a0_1, .slice A0_2 l0_2.length c0_2, .int .i64 a0_3, .int .i64 a0_4, .int .i64 a0_5, .int .i64 a0_6, .int .i64 a0_7, .int .i64 a0_8, .int .i64 a0_9] 28 (0, 0)) (by (with_reducible repeat (first | refine blk_drewN ?_ _ | refine blk_drew ?_ | refine blk_alloc ?_ _)); exact BK214.out) hb); have n2_ := Aside0.mk (below_step (by repeat (first | (with_reducible first | exact HB.out | apply below_alloc | apply pw_below_drewN | apply below_drew1 | refine below_set ?_ GE214.out) | exact HB.out)) hb); clear BK214; clear HB; have HO232 := n0_; have BK214 := n1_; have HB := n2_; clear n0_ n1_ n2_; clear hb ho43; obtain ⟨Ao44, co44, eo44⟩ := Kd.R_slice HO232.out; subst eo44) | ((with_reducible refine gate_callee (f := 53) rfl ?_); refine goesL_ (some 80) rfl rfl Try.func53 (by kernel_rfl) rfl #[.slice Ao44 y230.length co44] rfl (by (try simp only [List.map_toArray, List.map_cons, List.map_nil]); first | done | rfl | (simp only [List.length_drop, List.length_take]; rfl)) ?_; (with_reducible refine (duetref04_nums.calls kj27 _ _ y230 t233 _ ?side1 ?side2 A39.out).mono ?_); (case side1 => repeat (first | exact (Kd.R_reads' HO232.out).2.2 | (with_reducible refine Kd.C_alloc ?_ _) | (with_reducible refine Kd.C_drewN ?_ _) | (with_reducible refine Kd.C_drew ?_))); (case side2 => exact (Kd.R_reads' HO232.out).2.1); rintro e w45 ⟨rfl, hb⟩; refine ⟨_, rfl, ?_⟩; have n0_ := Aside0.mk (Kd.R_below (by (with_reducible repeat (first | apply Kd.R_alloc | apply Kd.R_drewN | apply Kd.R_drew)); exact HO232.out) hb); have n1_ := Aside0.mk (blk_below (g := gb214) (o := .cells #[.int .i64 a0_0, .int .i64 a0_1, .slice A0_2 l0_2.length c0_2, .int .i64 a0_3, .int .i64 a0_4, .int .i64 a0_5, .int .i64 a0_6, .int .i64 a0_7, .int .i64 a0_8, .int .i64 a0_9] 28 (0, 0)) (by (with_reducible repeat (first | refine blk_drewN ?_ _ | refine blk_drew ?_ | refine blk_alloc ?_ _)); exact BK214.out) hb); have n2_ := Aside0.mk (below_step (by repeat (first | (with_reducible first | exact HB.out | apply below_alloc | apply pw_below_drewN | apply below_drew1 | refine below_set ?_ GE214.out) | exact HB.out)) hb); clear HO232; clear BK214; clear HB; have HO232 := n0_; have BK214 := n1_; have HB := n2_; clear n0_ n1_ n2_; (try clear hb); (try clear hb2); (try clear hk); (try clear hi)))
                      go_ret2
                      exact ⟨by first | rfl | (simp [errW_none, errW_some] <;> rfl) | (simp [*, errW_none, errW_some] <;> rfl), by repeat (first | (with_reducible first | exact HB.out | apply below_alloc | apply pw_below_drewN | apply below_drew1 | refine below_set ?_ GE214.out) | exact HB.out)⟩
                    · rw [if_neg c40] at H
                      exact absurd H (by simp)
                  · rw [if_neg c38] at H
                    have c38b0 : (a0_3 == 1) = false := beq_eq_false_iff_ne.mpr c38
                    have c38b1 : (a0_3 != 1) = true := bne_iff_ne.mpr c38
                    simp only [Option.some.injEq, Prod.mk.injEq] at H
                    obtain ⟨rfl, rfl⟩ := H
                    have hcz46_0 : wc.cell? ⟨gb214, 0, none⟩ = some (.int .i64 a0_0) := (blk_cell BK214.out 0).trans rfl
                    have hcz46_1 : wc.cell? ⟨gb214, 1, none⟩ = some (.int .i64 a0_1) := (blk_cell BK214.out 1).trans rfl
                    have hcz46_2 : wc.cell? ⟨gb214, 2, none⟩ = some (.slice A0_2 l0_2.length c0_2) := (blk_cell BK214.out 2).trans rfl
                    have hcz46_3 : wc.cell? ⟨gb214, 3, none⟩ = some (.int .i64 a0_3) := (blk_cell BK214.out 3).trans rfl
                    have hcz46_4 : wc.cell? ⟨gb214, 4, none⟩ = some (.int .i64 a0_4) := (blk_cell BK214.out 4).trans rfl
                    have hcz46_5 : wc.cell? ⟨gb214, 5, none⟩ = some (.int .i64 a0_5) := (blk_cell BK214.out 5).trans rfl
                    have hcz46_6 : wc.cell? ⟨gb214, 6, none⟩ = some (.int .i64 a0_6) := (blk_cell BK214.out 6).trans rfl
                    have hcz46_7 : wc.cell? ⟨gb214, 7, none⟩ = some (.int .i64 a0_7) := (blk_cell BK214.out 7).trans rfl
                    have hcz46_8 : wc.cell? ⟨gb214, 8, none⟩ = some (.int .i64 a0_8) := (blk_cell BK214.out 8).trans rfl
                    have hcz46_9 : wc.cell? ⟨gb214, 9, none⟩ = some (.int .i64 a0_9) := (blk_cell BK214.out 9).trans rfl
                    have hfz46_0 := blk_frozen BK214.out 0
                    have hfz46_1 := blk_frozen BK214.out 1
                    have hfz46_2 := blk_frozen BK214.out 2
                    have hfz46_3 := blk_frozen BK214.out 3
                    have hfz46_4 := blk_frozen BK214.out 4
                    have hfz46_5 := blk_frozen BK214.out 5
                    have hfz46_6 := blk_frozen BK214.out 6
                    have hfz46_7 := blk_frozen BK214.out 7
                    have hfz46_8 := blk_frozen BK214.out 8
                    have hfz46_9 := blk_frozen BK214.out 9
                    go_wp2
                    go_ret2
                    exact ⟨by first | rfl | (simp [errW_none, errW_some] <;> rfl) | (simp [*, errW_none, errW_some] <;> rfl), by repeat (first | (with_reducible first | exact HB.out | apply below_alloc | apply pw_below_drewN | apply below_drew1 | refine below_set ?_ GE214.out) | exact HB.out)⟩
                · rw [if_neg c37] at H
                  have c37b0 : (a0_3 == 6) = false := beq_eq_false_iff_ne.mpr c37
                  have c37b1 : (a0_3 != 6) = true := bne_iff_ne.mpr c37
                  obtain ⟨y234, hy234⟩ : ∃ y_ : List Int, y_ = (([a0_7, a0_8] : List Int)) := ⟨_, rfl⟩
                  replace H : ((duetref04_nums.f kj27 y234).bind fun t237 => (if x6_27.size + t237.size ≤ 9223372036854775807 then (if a0_3 = 1 then ((duetref04_nums.f kj27 (([a0_9] : List Int))).bind fun t241 => (if (x6_27 ++ t237).size + t241.size ≤ 9223372036854775807 then (some ((x6_27 ++ t237) ++ t241, 0)) else (none))) else (some (x6_27 ++ t237, 0))) else (none))) = some (r1, r2) := by first | (rw [hy234]; with_reducible exact H) | (have H2_ := (Option.bind_some _ _).symm.trans H; rw [hy234]; with_reducible exact H2_) | (have H2_ := (Option.bind_some _ _).symm.trans H; with_reducible exact H2_) | with_reducible exact H | (rw [hy234]; exact H) | exact H
                  have Ny234 := Aside0.mk hy234
                  clear hy234
                  replace H := Option.bind_eq_some_iff.mp H
                  obtain ⟨t237, A470, H⟩ := H
                  replace H : (if x6_27.size + t237.size ≤ 9223372036854775807 then (if a0_3 = 1 then ((duetref04_nums.f kj27 (([a0_9] : List Int))).bind fun t241 => (if (x6_27 ++ t237).size + t241.size ≤ 9223372036854775807 then (some ((x6_27 ++ t237) ++ t241, 0)) else (none))) else (some (x6_27 ++ t237, 0))) else (none)) = some (r1, r2) := H
                  have A47 := Aside0.mk A470
                  clear A470
                  by_cases c48 : x6_27.size + t237.size ≤ 9223372036854775807
                  · rw [if_pos c48] at H
                    have c48b0 := eq_true c48
                    have c48b1 : decide (x6_27.size + t237.size ≤ 9223372036854775807) = true := decide_eq_true c48
                    try have c48b2 : (9223372036854775807 < x6_27.size + t237.size) = False := eq_false (Nat.not_lt.2 c48)
                    by_cases c49 : a0_3 = 1
                    · rw [if_pos c49] at H
                      have c49b0 : (a0_3 == 1) = true := beq_iff_eq.mpr c49
                      have c49b1 : (a0_3 != 1) = false := bne_eq_false_iff_eq.mpr c49
                      clear c49
                      obtain ⟨y238, hy238⟩ : ∃ y_ : List Int, y_ = (([a0_9] : List Int)) := ⟨_, rfl⟩
                      replace H : ((duetref04_nums.f kj27 y238).bind fun t241 => (if (x6_27 ++ t237).size + t241.size ≤ 9223372036854775807 then (some ((x6_27 ++ t237) ++ t241, 0)) else (none))) = some (r1, r2) := by first | (rw [hy238]; with_reducible exact H) | (have H2_ := (Option.bind_some _ _).symm.trans H; rw [hy238]; with_reducible exact H2_) | (have H2_ := (Option.bind_some _ _).symm.trans H; with_reducible exact H2_) | with_reducible exact H | (rw [hy238]; exact H) | exact H
                      have Ny238 := Aside0.mk hy238
                      clear hy238
                      replace H := Option.bind_eq_some_iff.mp H
                      obtain ⟨t241, A500, H⟩ := H
                      replace H : (if (x6_27 ++ t237).size + t241.size ≤ 9223372036854775807 then (some ((x6_27 ++ t237) ++ t241, 0)) else (none)) = some (r1, r2) := H
                      have A50 := Aside0.mk A500
                      clear A500
                      by_cases c51 : (x6_27 ++ t237).size + t241.size ≤ 9223372036854775807
                      · rw [if_pos c51] at H
                        have c51b0 := eq_true c51
                        have c51b1 : decide ((x6_27 ++ t237).size + t241.size ≤ 9223372036854775807) = true := decide_eq_true c51
                        try have c51b2 : (9223372036854775807 < (x6_27 ++ t237).size + t241.size) = False := eq_false (Nat.not_lt.2 c51)
                        have c51x : x6_27.size + t237.size + t241.size ≤ 9223372036854775807 := by have hx_ := of_decide_eq_true c51b1; simp only [ByteArray.size_append] at hx_; omega
                        have c51b3 := eq_true c51x
                        have c51b4 : decide (x6_27.size + t237.size + t241.size ≤ 9223372036854775807) = true := decide_eq_true c51x
                        have c51b5 : (9223372036854775807 < x6_27.size + t237.size + t241.size) = False := eq_false (Nat.not_lt.2 c51x)
                        clear c51x
                        simp only [Option.some.injEq, Prod.mk.injEq] at H
                        obtain ⟨rfl, rfl⟩ := H
                        have hcz52_0 : wc.cell? ⟨gb214, 0, none⟩ = some (.int .i64 a0_0) := (blk_cell BK214.out 0).trans rfl
                        have hcz52_1 : wc.cell? ⟨gb214, 1, none⟩ = some (.int .i64 a0_1) := (blk_cell BK214.out 1).trans rfl
                        have hcz52_2 : wc.cell? ⟨gb214, 2, none⟩ = some (.slice A0_2 l0_2.length c0_2) := (blk_cell BK214.out 2).trans rfl
                        have hcz52_3 : wc.cell? ⟨gb214, 3, none⟩ = some (.int .i64 a0_3) := (blk_cell BK214.out 3).trans rfl
                        have hcz52_4 : wc.cell? ⟨gb214, 4, none⟩ = some (.int .i64 a0_4) := (blk_cell BK214.out 4).trans rfl
                        have hcz52_5 : wc.cell? ⟨gb214, 5, none⟩ = some (.int .i64 a0_5) := (blk_cell BK214.out 5).trans rfl
                        have hcz52_6 : wc.cell? ⟨gb214, 6, none⟩ = some (.int .i64 a0_6) := (blk_cell BK214.out 6).trans rfl
                        have hcz52_7 : wc.cell? ⟨gb214, 7, none⟩ = some (.int .i64 a0_7) := (blk_cell BK214.out 7).trans rfl
                        have hcz52_8 : wc.cell? ⟨gb214, 8, none⟩ = some (.int .i64 a0_8) := (blk_cell BK214.out 8).trans rfl
                        have hcz52_9 : wc.cell? ⟨gb214, 9, none⟩ = some (.int .i64 a0_9) := (blk_cell BK214.out 9).trans rfl
                        have hfz52_0 := blk_frozen BK214.out 0
                        have hfz52_1 := blk_frozen BK214.out 1
                        have hfz52_2 := blk_frozen BK214.out 2
                        have hfz52_3 := blk_frozen BK214.out 3
                        have hfz52_4 := blk_frozen BK214.out 4
                        have hfz52_5 := blk_frozen BK214.out 5
                        have hfz52_6 := blk_frozen BK214.out 6
                        have hfz52_7 := blk_frozen BK214.out 7
                        have hfz52_8 := blk_frozen BK214.out 8
                        have hfz52_9 := blk_frozen BK214.out 9
                        go_wp2_with (first | ((with_reducible refine gate_dst (N := 68) rfl ?_); refine Kd.R_lit (Kd.int .i64) _ 3 ?hg (N := 68) ?hd (xs := ([a0_7, a0_8] : List Int)) (inner := [.int .i64 a0_7, .int .i64 a0_8]) (ok := fun _ => True) (okp := fun _ => True) ?hr ?hp (fun _ hk => hk) trivial (Below.refl _ _) (Nat.le_refl _) (by simp) ?_; (case hd => rfl); (case hg => rfl); (case hr => first | (go_simp; done) | (go_simp; rfl)); (case hp => exact (Reps.one (show Kd.M (Kd.int .i64) _ _ _ a0_7 [.int .i64 a0_7] from rfl) (Reps.one (show Kd.M (Kd.int .i64) _ _ _ a0_8 [.int .i64 a0_8] from rfl) (Reps.none _ _)))); intro v235 w53 ho54 hb hg_ hnew_; clear hg_ hnew_; (first | rw [← Ny234.out] at ho54 | (simp only [Int.reduceToNat] at ho54; rw [← Ny234.out] at ho54)); have n0_ := Aside0.mk (Kd.R_lower ho54 (below_size (by repeat (first | (with_reducible first | exact HB.out | apply below_alloc | apply pw_below_drewN | apply below_drew1 | refine below_set ?_ GE214.out) | exact HB.out)))); have n1_ := Aside0.mk (blk_below (g := gb214) (o := .cells #[.int .i64 a0_0, .int .i64 a0_1, .slice A0_2 l0_2.length c0_2, .int .i64 a0_3, .int .i64 a0_4, .int .i64 a0_5, .int .i64 a0_6, .int .i64 a0_7, .int .i64 a0_8, .int .i64 a0_9] 28 (0, 0)) (by (with_reducible repeat (first | refine blk_drewN ?_ _ | refine blk_drew ?_ | refine blk_alloc ?_ _)); exact BK214.out) hb); have n2_ := Aside0.mk (below_step (by repeat (first | (with_reducible first | exact HB.out | apply below_alloc | apply pw_below_drewN | apply below_drew1 | refine below_set ?_ GE214.out) | exact HB.out)) hb); clear BK214; clear HB; have HO236 := n0_; have BK214 := n1_; have HB := n2_; clear n0_ n1_ n2_; clear hb ho54; obtain ⟨Ao55, co55, eo55⟩ := Kd.R_slice HO236.out; subst eo55) | ((with_reducible refine gate_callee (f := 53) rfl ?_); refine goesL_ (some 69) rfl rfl Try.func53 (by kernel_rfl) rfl #[.slice Ao55 y234.length co55] rfl (by (try simp only [List.map_toArray, List.map_cons, List.map_nil]); first | done | rfl | (simp only [List.length_drop, List.length_take]; rfl)) ?_; (with_reducible refine (duetref04_nums.calls kj27 _ _ y234 t237 _ ?side1 ?side2 A47.out).mono ?_); (case side1 => repeat (first | exact (Kd.R_reads' HO236.out).2.2 | (with_reducible refine Kd.C_alloc ?_ _) | (with_reducible refine Kd.C_drewN ?_ _) | (with_reducible refine Kd.C_drew ?_))); (case side2 => exact (Kd.R_reads' HO236.out).2.1); rintro e w56 ⟨rfl, hb⟩; refine ⟨_, rfl, ?_⟩; have n0_ := Aside0.mk (Kd.R_below (by (with_reducible repeat (first | apply Kd.R_alloc | apply Kd.R_drewN | apply Kd.R_drew)); exact HO236.out) hb); have n1_ := Aside0.mk (blk_below (g := gb214) (o := .cells #[.int .i64 a0_0, .int .i64 a0_1, .slice A0_2 l0_2.length c0_2, .int .i64 a0_3, .int .i64 a0_4, .int .i64 a0_5, .int .i64 a0_6, .int .i64 a0_7, .int .i64 a0_8, .int .i64 a0_9] 28 (0, 0)) (by (with_reducible repeat (first | refine blk_drewN ?_ _ | refine blk_drew ?_ | refine blk_alloc ?_ _)); exact BK214.out) hb); have n2_ := Aside0.mk (below_step (by repeat (first | (with_reducible first | exact HB.out | apply below_alloc | apply pw_below_drewN | apply below_drew1 | refine below_set ?_ GE214.out) | exact HB.out)) hb); clear HO236; clear BK214; clear HB; have HO236 := n0_; have BK214 := n1_; have HB := n2_; clear n0_ n1_ n2_; (try clear hb); (try clear hb2); (try clear hk); (try clear hi); have hcz57_0 : w56.cell? ⟨gb214, 0, none⟩ = some (.int .i64 a0_0) := (blk_cell BK214.out 0).trans rfl; have hcz57_1 : w56.cell? ⟨gb214, 1, none⟩ = some (.int .i64 a0_1) := (blk_cell BK214.out 1).trans rfl; have hcz57_2 : w56.cell? ⟨gb214, 2, none⟩ = some (.slice A0_2 l0_2.length c0_2) := (blk_cell BK214.out 2).trans rfl; have hcz57_3 : w56.cell? ⟨gb214, 3, none⟩ = some (.int .i64 a0_3) := (blk_cell BK214.out 3).trans rfl; have hcz57_4 : w56.cell? ⟨gb214, 4, none⟩ = some (.int .i64 a0_4) := (blk_cell BK214.out 4).trans rfl; have hcz57_5 : w56.cell? ⟨gb214, 5, none⟩ = some (.int .i64 a0_5) := (blk_cell BK214.out 5).trans rfl; have hcz57_6 : w56.cell? ⟨gb214, 6, none⟩ = some (.int .i64 a0_6) := (blk_cell BK214.out 6).trans rfl; have hcz57_7 : w56.cell? ⟨gb214, 7, none⟩ = some (.int .i64 a0_7) := (blk_cell BK214.out 7).trans rfl; have hcz57_8 : w56.cell? ⟨gb214, 8, none⟩ = some (.int .i64 a0_8) := (blk_cell BK214.out 8).trans rfl; have hcz57_9 : w56.cell? ⟨gb214, 9, none⟩ = some (.int .i64 a0_9) := (blk_cell BK214.out 9).trans rfl; have hfz57_0 := blk_frozen BK214.out 0; have hfz57_1 := blk_frozen BK214.out 1; have hfz57_2 := blk_frozen BK214.out 2; have hfz57_3 := blk_frozen BK214.out 3; have hfz57_4 := blk_frozen BK214.out 4; have hfz57_5 := blk_frozen BK214.out 5; have hfz57_6 := blk_frozen BK214.out 6; have hfz57_7 := blk_frozen BK214.out 7; have hfz57_8 := blk_frozen BK214.out 8; have hfz57_9 := blk_frozen BK214.out 9) | ((with_reducible refine gate_dst (N := 79) rfl ?_); refine Kd.R_lit (Kd.int .i64) _ 3 ?hg (N := 79) ?hd (xs := ([a0_9] : List Int)) (inner := [.int .i64 a0_9]) (ok := fun _ => True) (okp := fun _ => True) ?hr ?hp (fun _ hk => hk) trivial (Below.refl _ _) (Nat.le_refl _) (by simp) ?_; (case hd => rfl); (case hg => rfl); (case hr => first | (go_simp; done) | (go_simp; rfl)); (case hp => exact (Reps.one (show Kd.M (Kd.int .i64) _ _ _ a0_9 [.int .i64 a0_9] from rfl) (Reps.none _ _))); intro v239 w58 ho59 hb hg_ hnew_; clear hg_ hnew_; (first | rw [← Ny238.out] at ho59 | (simp only [Int.reduceToNat] at ho59; rw [← Ny238.out] at ho59)); have n0_ := Aside0.mk (Kd.R_elder' (by (with_reducible repeat (first | apply Kd.R_alloc | apply Kd.R_drewN | apply Kd.R_drew)); exact HO236.out) (Kd.R_base ho59) hb); have n1_ := Aside0.mk (Kd.R_lower (Kd.R_new' ho59 (Kd.R_lt (by (with_reducible repeat (first | apply Kd.R_alloc | apply Kd.R_drewN | apply Kd.R_drew)); exact HO236.out))) (below_size (by repeat (first | (with_reducible first | exact HB.out | apply below_alloc | apply pw_below_drewN | apply below_drew1 | refine below_set ?_ GE214.out) | exact HB.out)))); have n2_ := Aside0.mk (blk_below (g := gb214) (o := .cells #[.int .i64 a0_0, .int .i64 a0_1, .slice A0_2 l0_2.length c0_2, .int .i64 a0_3, .int .i64 a0_4, .int .i64 a0_5, .int .i64 a0_6, .int .i64 a0_7, .int .i64 a0_8, .int .i64 a0_9] 28 (0, 0)) (by (with_reducible repeat (first | refine blk_drewN ?_ _ | refine blk_drew ?_ | refine blk_alloc ?_ _)); exact BK214.out) hb); have n3_ := Aside0.mk (below_step (by repeat (first | (with_reducible first | exact HB.out | apply below_alloc | apply pw_below_drewN | apply below_drew1 | refine below_set ?_ GE214.out) | exact HB.out)) hb); clear HO236; clear BK214; clear HB; have HO236 := n0_; have HO240 := n1_; have BK214 := n2_; have HB := n3_; clear n0_ n1_ n2_ n3_; clear hb ho59; obtain ⟨Ao60, co60, eo60⟩ := Kd.R_slice HO240.out; subst eo60) | ((with_reducible refine gate_callee (f := 53) rfl ?_); refine goesL_ (some 80) rfl rfl Try.func53 (by kernel_rfl) rfl #[.slice Ao60 y238.length co60] rfl (by (try simp only [List.map_toArray, List.map_cons, List.map_nil]); first | done | rfl | (simp only [List.length_drop, List.length_take]; rfl)) ?_; (with_reducible refine (duetref04_nums.calls kj27 _ _ y238 t241 _ ?side1 ?side2 A50.out).mono ?_); (case side1 => repeat (first | exact (Kd.R_reads' HO240.out).2.2 | (with_reducible refine Kd.C_alloc ?_ _) | (with_reducible refine Kd.C_drewN ?_ _) | (with_reducible refine Kd.C_drew ?_))); (case side2 => exact (Kd.R_reads' HO240.out).2.1); rintro e w61 ⟨rfl, hb⟩; refine ⟨_, rfl, ?_⟩; have n0_ := Aside0.mk (Kd.R_below (by (with_reducible repeat (first | apply Kd.R_alloc | apply Kd.R_drewN | apply Kd.R_drew)); exact HO236.out) hb); have n1_ := Aside0.mk (Kd.R_below (by (with_reducible repeat (first | apply Kd.R_alloc | apply Kd.R_drewN | apply Kd.R_drew)); exact HO240.out) hb); have n2_ := Aside0.mk (blk_below (g := gb214) (o := .cells #[.int .i64 a0_0, .int .i64 a0_1, .slice A0_2 l0_2.length c0_2, .int .i64 a0_3, .int .i64 a0_4, .int .i64 a0_5, .int .i64 a0_6, .int .i64 a0_7, .int .i64 a0_8, .int .i64 a0_9] 28 (0, 0)) (by (with_reducible repeat (first | refine blk_drewN ?_ _ | refine blk_drew ?_ | refine blk_alloc ?_ _)); exact BK214.out) hb); have n3_ := Aside0.mk (below_step (by repeat (first | (with_reducible first | exact HB.out | apply below_alloc | apply pw_below_drewN | apply below_drew1 | refine below_set ?_ GE214.out) | exact HB.out)) hb); clear HO236; clear HO240; clear BK214; clear HB; have HO236 := n0_; have HO240 := n1_; have BK214 := n2_; have HB := n3_; clear n0_ n1_ n2_ n3_; (try clear hb); (try clear hb2); (try clear hk); (try clear hi)))
                        go_ret2
                        exact ⟨by first | rfl | (simp [errW_none, errW_some] <;> rfl) | (simp [*, errW_none, errW_some] <;> rfl), by repeat (first | (with_reducible first | exact HB.out | apply below_alloc | apply pw_below_drewN | apply below_drew1 | refine below_set ?_ GE214.out) | exact HB.out)⟩
                      · rw [if_neg c51] at H
                        exact absurd H (by simp)
                    · rw [if_neg c49] at H
                      have c49b0 : (a0_3 == 1) = false := beq_eq_false_iff_ne.mpr c49
                      have c49b1 : (a0_3 != 1) = true := bne_iff_ne.mpr c49
                      simp only [Option.some.injEq, Prod.mk.injEq] at H
                      obtain ⟨rfl, rfl⟩ := H
                      have hcz62_0 : wc.cell? ⟨gb214, 0, none⟩ = some (.int .i64 a0_0) := (blk_cell BK214.out 0).trans rfl
                      have hcz62_1 : wc.cell? ⟨gb214, 1, none⟩ = some (.int .i64 a0_1) := (blk_cell BK214.out 1).trans rfl
                      have hcz62_2 : wc.cell? ⟨gb214, 2, none⟩ = some (.slice A0_2 l0_2.length c0_2) := (blk_cell BK214.out 2).trans rfl
                      have hcz62_3 : wc.cell? ⟨gb214, 3, none⟩ = some (.int .i64 a0_3) := (blk_cell BK214.out 3).trans rfl
                      have hcz62_4 : wc.cell? ⟨gb214, 4, none⟩ = some (.int .i64 a0_4) := (blk_cell BK214.out 4).trans rfl
                      have hcz62_5 : wc.cell? ⟨gb214, 5, none⟩ = some (.int .i64 a0_5) := (blk_cell BK214.out 5).trans rfl
                      have hcz62_6 : wc.cell? ⟨gb214, 6, none⟩ = some (.int .i64 a0_6) := (blk_cell BK214.out 6).trans rfl
                      have hcz62_7 : wc.cell? ⟨gb214, 7, none⟩ = some (.int .i64 a0_7) := (blk_cell BK214.out 7).trans rfl
                      have hcz62_8 : wc.cell? ⟨gb214, 8, none⟩ = some (.int .i64 a0_8) := (blk_cell BK214.out 8).trans rfl
                      have hcz62_9 : wc.cell? ⟨gb214, 9, none⟩ = some (.int .i64 a0_9) := (blk_cell BK214.out 9).trans rfl
                      have hfz62_0 := blk_frozen BK214.out 0
                      have hfz62_1 := blk_frozen BK214.out 1
                      have hfz62_2 := blk_frozen BK214.out 2
                      have hfz62_3 := blk_frozen BK214.out 3
                      have hfz62_4 := blk_frozen BK214.out 4
                      have hfz62_5 := blk_frozen BK214.out 5
                      have hfz62_6 := blk_frozen BK214.out 6
                      have hfz62_7 := blk_frozen BK214.out 7
                      have hfz62_8 := blk_frozen BK214.out 8
                      have hfz62_9 := blk_frozen BK214.out 9
                      go_wp2_with (first | ((with_reducible refine gate_dst (N := 68) rfl ?_); refine Kd.R_lit (Kd.int .i64) _ 3 ?hg (N := 68) ?hd (xs := ([a0_7, a0_8] : List Int)) (inner := [.int .i64 a0_7, .int .i64 a0_8]) (ok := fun _ => True) (okp := fun _ => True) ?hr ?hp (fun _ hk => hk) trivial (Below.refl _ _) (Nat.le_refl _) (by simp) ?_; (case hd => rfl); (case hg => rfl); (case hr => first | (go_simp; done) | (go_simp; rfl)); (case hp => exact (Reps.one (show Kd.M (Kd.int .i64) _ _ _ a0_7 [.int .i64 a0_7] from rfl) (Reps.one (show Kd.M (Kd.int .i64) _ _ _ a0_8 [.int .i64 a0_8] from rfl) (Reps.none _ _)))); intro v235 w63 ho64 hb hg_ hnew_; clear hg_ hnew_; (first | rw [← Ny234.out] at ho64 | (simp only [Int.reduceToNat] at ho64; rw [← Ny234.out] at ho64)); have n0_ := Aside0.mk (Kd.R_lower ho64 (below_size (by repeat (first | (with_reducible first | exact HB.out | apply below_alloc | apply pw_below_drewN | apply below_drew1 | refine below_set ?_ GE214.out) | exact HB.out)))); have n1_ := Aside0.mk (blk_below (g := gb214) (o := .cells #[.int .i64 a0_0, .int .i64 a0_1, .slice A0_2 l0_2.length c0_2, .int .i64 a0_3, .int .i64 a0_4, .int .i64 a0_5, .int .i64 a0_6, .int .i64 a0_7, .int .i64 a0_8, .int .i64 a0_9] 28 (0, 0)) (by (with_reducible repeat (first | refine blk_drewN ?_ _ | refine blk_drew ?_ | refine blk_alloc ?_ _)); exact BK214.out) hb); have n2_ := Aside0.mk (below_step (by repeat (first | (with_reducible first | exact HB.out | apply below_alloc | apply pw_below_drewN | apply below_drew1 | refine below_set ?_ GE214.out) | exact HB.out)) hb); clear BK214; clear HB; have HO236 := n0_; have BK214 := n1_; have HB := n2_; clear n0_ n1_ n2_; clear hb ho64; obtain ⟨Ao65, co65, eo65⟩ := Kd.R_slice HO236.out; subst eo65) | ((with_reducible refine gate_callee (f := 53) rfl ?_); refine goesL_ (some 69) rfl rfl Try.func53 (by kernel_rfl) rfl #[.slice Ao65 y234.length co65] rfl (by (try simp only [List.map_toArray, List.map_cons, List.map_nil]); first | done | rfl | (simp only [List.length_drop, List.length_take]; rfl)) ?_; (with_reducible refine (duetref04_nums.calls kj27 _ _ y234 t237 _ ?side1 ?side2 A47.out).mono ?_); (case side1 => repeat (first | exact (Kd.R_reads' HO236.out).2.2 | (with_reducible refine Kd.C_alloc ?_ _) | (with_reducible refine Kd.C_drewN ?_ _) | (with_reducible refine Kd.C_drew ?_))); (case side2 => exact (Kd.R_reads' HO236.out).2.1); rintro e w66 ⟨rfl, hb⟩; refine ⟨_, rfl, ?_⟩; have n0_ := Aside0.mk (Kd.R_below (by (with_reducible repeat (first | apply Kd.R_alloc | apply Kd.R_drewN | apply Kd.R_drew)); exact HO236.out) hb); have n1_ := Aside0.mk (blk_below (g := gb214) (o := .cells #[.int .i64 a0_0, .int .i64 a0_1, .slice A0_2 l0_2.length c0_2, .int .i64 a0_3, .int .i64 a0_4, .int .i64 a0_5, .int .i64 a0_6, .int .i64 a0_7, .int .i64 a0_8, .int .i64 a0_9] 28 (0, 0)) (by (with_reducible repeat (first | refine blk_drewN ?_ _ | refine blk_drew ?_ | refine blk_alloc ?_ _)); exact BK214.out) hb); have n2_ := Aside0.mk (below_step (by repeat (first | (with_reducible first | exact HB.out | apply below_alloc | apply pw_below_drewN | apply below_drew1 | refine below_set ?_ GE214.out) | exact HB.out)) hb); clear HO236; clear BK214; clear HB; have HO236 := n0_; have BK214 := n1_; have HB := n2_; clear n0_ n1_ n2_; (try clear hb); (try clear hb2); (try clear hk); (try clear hi); have hcz67_0 : w66.cell? ⟨gb214, 0, none⟩ = some (.int .i64 a0_0) := (blk_cell BK214.out 0).trans rfl; have hcz67_1 : w66.cell? ⟨gb214, 1, none⟩ = some (.int .i64 a0_1) := (blk_cell BK214.out 1).trans rfl; have hcz67_2 : w66.cell? ⟨gb214, 2, none⟩ = some (.slice A0_2 l0_2.length c0_2) := (blk_cell BK214.out 2).trans rfl; have hcz67_3 : w66.cell? ⟨gb214, 3, none⟩ = some (.int .i64 a0_3) := (blk_cell BK214.out 3).trans rfl; have hcz67_4 : w66.cell? ⟨gb214, 4, none⟩ = some (.int .i64 a0_4) := (blk_cell BK214.out 4).trans rfl; have hcz67_5 : w66.cell? ⟨gb214, 5, none⟩ = some (.int .i64 a0_5) := (blk_cell BK214.out 5).trans rfl; have hcz67_6 : w66.cell? ⟨gb214, 6, none⟩ = some (.int .i64 a0_6) := (blk_cell BK214.out 6).trans rfl; have hcz67_7 : w66.cell? ⟨gb214, 7, none⟩ = some (.int .i64 a0_7) := (blk_cell BK214.out 7).trans rfl; have hcz67_8 : w66.cell? ⟨gb214, 8, none⟩ = some (.int .i64 a0_8) := (blk_cell BK214.out 8).trans rfl; have hcz67_9 : w66.cell? ⟨gb214, 9, none⟩ = some (.int .i64 a0_9) := (blk_cell BK214.out 9).trans rfl; have hfz67_0 := blk_frozen BK214.out 0; have hfz67_1 := blk_frozen BK214.out 1; have hfz67_2 := blk_frozen BK214.out 2; have hfz67_3 := blk_frozen BK214.out 3; have hfz67_4 := blk_frozen BK214.out 4; have hfz67_5 := blk_frozen BK214.out 5; have hfz67_6 := blk_frozen BK214.out 6; have hfz67_7 := blk_frozen BK214.out 7; have hfz67_8 := blk_frozen BK214.out 8; have hfz67_9 := blk_frozen BK214.out 9))
                      go_ret2
                      exact ⟨by first | rfl | (simp [errW_none, errW_some] <;> rfl) | (simp [*, errW_none, errW_some] <;> rfl), by repeat (first | (with_reducible first | exact HB.out | apply below_alloc | apply pw_below_drewN | apply below_drew1 | refine below_set ?_ GE214.out) | exact HB.out)⟩
                  · rw [if_neg c48] at H
                    exact absurd H (by simp)
      · rw [if_neg c8] at H
        exact absurd H (by simp)
    · rw [if_neg c6] at H
      exact absurd H (by simp)
  · rw [if_neg c3] at H
    have c3b0 : (t215 == 0) = false := beq_eq_false_iff_ne.mpr c3
    have c3b1 : (t215 != 0) = true := bne_iff_ne.mpr c3
    simp only [Option.some.injEq, Prod.mk.injEq] at H
    obtain ⟨rfl, rfl⟩ := H
    go_enter Try.func17, Try.ntmps17
    go_wp2_with (first | ((with_reducible refine gate_dst (N := 1) rfl ?_); refine box_event ?hg (N := 1) ?hd (cs := #[.int .i64 a0_0, .int .i64 a0_1, .slice A0_2 l0_2.length c0_2, .int .i64 a0_3, .int .i64 a0_4, .int .i64 a0_5, .int .i64 a0_6, .int .i64 a0_7, .int .i64 a0_8, .int .i64 a0_9]) (t := 28) ?hr ?_; (case hd => rfl); (case hg => rfl); (case hr => first | (go_simp; done) | (go_simp; rfl)); intro gb214 hg w68 hbox hb; have n0_ := Aside0.mk (below_step (by repeat (first | (with_reducible first | exact HB.out | apply below_alloc | apply pw_below_drewN | apply below_drew1) | exact HB.out)) hb); have n1_ := Aside0.mk (hbox); have n2_ := Aside0.mk ((by rw [hg]; exact (below_size (by repeat (first | (with_reducible first | exact HB.out | apply below_alloc | apply pw_below_drewN | apply below_drew1) | exact HB.out))) : w.heap.size ≤ gb214)); have n3_ := Aside0.mk ((by rw [hg]; exact (below_size (by repeat (first | (with_reducible first | exact HB.out | apply below_alloc | apply pw_below_drewN | apply below_drew1) | exact HB.out))) : w.heap.size ≤ gb214)); clear HB; have HB := n0_; have BK214 := n1_; have GW214 := n2_; have GE214 := n3_; clear n0_ n1_ n2_ n3_; clear hb hbox hg; have hcz69_0 : w68.cell? ⟨gb214, 0, none⟩ = some (.int .i64 a0_0) := (blk_cell BK214.out 0).trans rfl; have hcz69_1 : w68.cell? ⟨gb214, 1, none⟩ = some (.int .i64 a0_1) := (blk_cell BK214.out 1).trans rfl; have hcz69_2 : w68.cell? ⟨gb214, 2, none⟩ = some (.slice A0_2 l0_2.length c0_2) := (blk_cell BK214.out 2).trans rfl; have hcz69_3 : w68.cell? ⟨gb214, 3, none⟩ = some (.int .i64 a0_3) := (blk_cell BK214.out 3).trans rfl; have hcz69_4 : w68.cell? ⟨gb214, 4, none⟩ = some (.int .i64 a0_4) := (blk_cell BK214.out 4).trans rfl; have hcz69_5 : w68.cell? ⟨gb214, 5, none⟩ = some (.int .i64 a0_5) := (blk_cell BK214.out 5).trans rfl; have hcz69_6 : w68.cell? ⟨gb214, 6, none⟩ = some (.int .i64 a0_6) := (blk_cell BK214.out 6).trans rfl; have hcz69_7 : w68.cell? ⟨gb214, 7, none⟩ = some (.int .i64 a0_7) := (blk_cell BK214.out 7).trans rfl; have hcz69_8 : w68.cell? ⟨gb214, 8, none⟩ = some (.int .i64 a0_8) := (blk_cell BK214.out 8).trans rfl; have hcz69_9 : w68.cell? ⟨gb214, 9, none⟩ = some (.int .i64 a0_9) := (blk_cell BK214.out 9).trans rfl; have hfz69_0 := blk_frozen BK214.out 0; have hfz69_1 := blk_frozen BK214.out 1; have hfz69_2 := blk_frozen BK214.out 2; have hfz69_3 := blk_frozen BK214.out 3; have hfz69_4 := blk_frozen BK214.out 4; have hfz69_5 := blk_frozen BK214.out 5; have hfz69_6 := blk_frozen BK214.out 6; have hfz69_7 := blk_frozen BK214.out 7; have hfz69_8 := blk_frozen BK214.out 8; have hfz69_9 := blk_frozen BK214.out 9) | ((with_reducible refine gate_callee (f := 19) rfl ?_); refine goesL_ (some 8) rfl rfl Try.func19 (by kernel_rfl) rfl #[.agg #[.int .i64 a0_0, .int .i64 a0_1, .slice A0_2 l0_2.length c0_2, .int .i64 a0_3, .int .i64 a0_4, .int .i64 a0_5, .int .i64 a0_6, .int .i64 a0_7, .int .i64 a0_8, .int .i64 a0_9]] rfl (by (try simp only [List.map_toArray, List.map_cons, List.map_nil]); first | done | rfl | (simp only [List.length_drop, List.length_take]; rfl)) ?_; (with_reducible refine (duetref04_Check.calls k a0_0 a0_1 _ _ l0_2 a0_3 a0_4 a0_5 a0_6 a0_7 a0_8 a0_9 t215 _ ?side1 ?side2 A2.out).mono ?_); (case side1 => repeat (first | exact (Kd.C_below HR0_2.out HB.out) | (with_reducible refine Kd.C_alloc ?_ _) | (with_reducible refine Kd.C_drewN ?_ _) | (with_reducible refine Kd.C_drew ?_))); (case side2 => exact HC0_2.out); rintro e w70 ⟨rfl, hb⟩; refine ⟨_, rfl, ?_⟩; have n0_ := Aside0.mk (blk_below (g := gb214) (o := .cells #[.int .i64 a0_0, .int .i64 a0_1, .slice A0_2 l0_2.length c0_2, .int .i64 a0_3, .int .i64 a0_4, .int .i64 a0_5, .int .i64 a0_6, .int .i64 a0_7, .int .i64 a0_8, .int .i64 a0_9] 28 (0, 0)) (by (with_reducible repeat (first | refine blk_drewN ?_ _ | refine blk_drew ?_ | refine blk_alloc ?_ _)); exact BK214.out) hb); have n1_ := Aside0.mk (below_step (by repeat (first | (with_reducible first | exact HB.out | apply below_alloc | apply pw_below_drewN | apply below_drew1 | refine below_set ?_ GE214.out) | exact HB.out)) hb); clear BK214; clear HB; have BK214 := n0_; have HB := n1_; clear n0_ n1_; (try clear hb); (try clear hb2); (try clear hk); (try clear hi)))
    go_ret2
    exact ⟨by first | rfl | (simp [errW_none, errW_some] <;> rfl) | (simp [*, errW_none, errW_some] <;> rfl), by repeat (first | (with_reducible first | exact HB.out | apply below_alloc | apply pw_below_drewN | apply below_drew1 | refine below_set ?_ GE214.out) | exact HB.out)⟩
theorem duetref04_Encode.at (k : Nat) (a0_0 : Int) (a0_1 : Int) (A0_2 : Option Addr) (c0_2 : Nat) (n0_2 : Nat) (l0_2 : List Int) (a0_3 : Int) (a0_4 : Int) (a0_5 : Int) (a0_6 : Int) (a0_7 : Int) (a0_8 : Int) (a0_9 : Int) (r1 : ByteArray) (r2 : Int) (w : World) (hr0_2 : Kd.C (Kd.int .i64) w A0_2 n0_2 l0_2) (hc0_2 : n0_2 ≤ c0_2) (h : duetref04_Encode.f k a0_0 a0_1 l0_2 a0_3 a0_4 a0_5 a0_6 a0_7 a0_8 a0_9 = some (r1, r2)) :
    Calls Try.prog 17 #[.agg #[.int .i64 a0_0, .int .i64 a0_1, .slice A0_2 n0_2 c0_2, .int .i64 a0_3, .int .i64 a0_4, .int .i64 a0_5, .int .i64 a0_6, .int .i64 a0_7, .int .i64 a0_8, .int .i64 a0_9]] w fun e w' => e = .returned (.tuple #[.string r1, .int .i64 r2]) ∧ Below w.heap.size w w' := by
  obtain rfl : l0_2.length = n0_2 := Kd.C_len hr0_2
  exact duetref04_Encode.calls k a0_0 a0_1 A0_2 c0_2 l0_2 a0_3 a0_4 a0_5 a0_6 a0_7 a0_8 a0_9 r1 r2 w hr0_2 hc0_2 h

end Go.Proofs.Ythofobcbbddeeaa.PMesw
