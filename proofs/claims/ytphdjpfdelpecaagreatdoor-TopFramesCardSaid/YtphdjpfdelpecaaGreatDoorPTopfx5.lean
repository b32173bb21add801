/- Functions that the law reaches, each as a plain Lean function with the proof that the call does what it says. Conditions: none beyond those that each theorem states. Written by a program for this claim. -/
import Derived.Test.YtphdjpfdelpecaaGreatDoorPTopfx0
import Derived.Test.YtphdjpfdelpecaaGreatDoorPTopfx3
namespace Go.Proofs.YtphdjpfdelpecaaGreatDoor.PTopf
open Go.RowKit Go.Proofs.YtphdjpfdelpecaaGreatDoorW.PrintWords Go.Proofs.YtphdjpfdelpecaaGreatDoorW.PrintLast Go.Proofs.YtphdjpfdelpecaaGreatDoorW.PrintMore
attribute [local go_sem] max2_int min2_int max_two min_two max_three min_three max_four min_four   -- for this text's walks alone
set_option linter.unusedVariables false
set_option linter.unusedSimpArgs false
def stringslite_HasSuffix.f (a0 : ByteArray) (a1 : ByteArray) : Option (Bool) := if (a0.size : Int) ≥ (a1.size : Int) then (if 0 ≤ (wrap64 ((a0.size : Int) - (a1.size : Int))) then (if (wrap64 ((a0.size : Int) - (a1.size : Int))) ≤ (a0.size : Int) then (some ((a0.extract ((wrap64 ((a0.size : Int) - (a1.size : Int))) : Int).toNat a0.size).toList == a1.toList)) else (none)) else (none)) else (some false)
set_option maxHeartbeats 8000000 in
set_option maxRecDepth 100000 in
theorem stringslite_HasSuffix.calls (a0 : ByteArray) (a1 : ByteArray) (r : Bool) (w : World) (h : stringslite_HasSuffix.f a0 a1 = some r) :
  Calls Tryz.prog 190 #[.string a0, .string a1] w fun e w' => e = .returned (.bool r) ∧ Drawn0 w w' := by
 have H : (if (a0.size : Int) ≥ (a1.size : Int) then (if 0 ≤ (wrap64 ((a0.size : Int) - (a1.size : Int))) then (if (wrap64 ((a0.size : Int) - (a1.size : Int))) ≤ (a0.size : Int) then (some ((a0.extract ((wrap64 ((a0.size : Int) - (a1.size : Int))) : Int).toNat a0.size).toList == a1.toList)) else (none)) else (none)) else (some false)) = some r := h
 clear h
 by_cases c3 : (a0.size : Int) ≥ (a1.size : Int)
 ·rw [if_pos c3] at H
  have c3b0 : decide ((a1.size : Int) ≤ (a0.size : Int)) = true := decide_eq_true c3
  have c3b1 : decide (a1.size ≤ a0.size) = true := decide_eq_true (Int.ofNat_le.mp c3)
  clear c3
  obtain ⟨ji4, hji4⟩ : ∃ j_ : Int, (wrap64 ((a0.size : Int) - (a1.size : Int))) = j_ := ⟨_, rfl⟩
  replace H : (if 0 ≤ (ji4) then (if (ji4) ≤ (a0.size : Int) then (some ((a0.extract ((ji4) : Int).toNat a0.size).toList == a1.toList)) else (none)) else (none)) = some r := by first | (rw [hji4] at H; exact H) | (simp only [hji4] at H ⊢; exact H)
  have hji4w : (IntKind.i64.wrap ((a0.size : Int) - (a1.size : Int))) = ji4 := (i64_w _).trans hji4
  by_cases c5 : 0 ≤ (ji4)
  ·rw [if_pos c5] at H
   have c5b0 := eq_true c5
   have c5b1 : decide (0 ≤ (ji4)) = true := decide_eq_true c5
   clear c5
   by_cases c6 : (ji4) ≤ (a0.size : Int)
   ·rw [if_pos c6] at H
    have c6b0 := eq_true c6
    have c6b1 : decide ((ji4) ≤ (a0.size : Int)) = true := decide_eq_true c6
    clear c6
    obtain rfl := Option.some.inj H
    go_enter Tryz.func190, Tryz.ntmps190
    go_wp2
    go_ret
    exact ⟨by first | rfl | (simp; done) | (simp only [← hji4] <;> (first | rfl | simp)) | (simp [*]; done), by repeat (first | exact Drawn0.refl _ | apply Drawn0.step)⟩
   ·rw [if_neg c6] at H
    exact absurd H (by simp)
  ·rw [if_neg c5] at H
   exact absurd H (by simp)
 ·rw [if_neg c3] at H
  have c3b0 : decide ((a1.size : Int) ≤ (a0.size : Int)) = false := decide_eq_false c3
  have c3b1 : decide (a1.size ≤ a0.size) = false := decide_eq_false (fun h => c3 (Int.ofNat_le.mpr h))
  clear c3
  obtain rfl := Option.some.inj H
  go_enter Tryz.func190, Tryz.ntmps190
  go_wp2
  go_ret
  exact ⟨by first | rfl | (simp; done) | (simp [*]; done), by repeat (first | exact Drawn0.refl _ | apply Drawn0.step)⟩
def strings_HasSuffix.f (a0 : ByteArray) (a1 : ByteArray) : Option (Bool) := (stringslite_HasSuffix.f a0 a1).bind fun t178 => (some t178)
set_option maxHeartbeats 8000000 in
set_option maxRecDepth 100000 in
theorem strings_HasSuffix.calls (a0 : ByteArray) (a1 : ByteArray) (r : Bool) (w : World) (h : strings_HasSuffix.f a0 a1 = some r) :
  Calls Tryz.prog 144 #[.string a0, .string a1] w fun e w' => e = .returned (.bool r) ∧ Drawn0 w w' := by
 have H : ((stringslite_HasSuffix.f a0 a1).bind fun t178 => (some t178)) = some r := h
 clear h
 replace H := Option.bind_eq_some_iff.mp H
 obtain ⟨t178, A30, H⟩ := H
 replace H : (some t178) = some r := H
 have A3 := Aside0.mk A30
 clear A30
 obtain rfl := Option.some.inj H
 go_enter Tryz.func144, Tryz.ntmps144
 go_wp2_with (first | ((with_reducible refine gate_callee (f := 190) rfl ?_); refine goesL_ (some 7) rfl rfl Tryz.func190 (by kernel_rfl) rfl #[.string a0, .string a1] rfl (by (try simp only [List.map_toArray, List.map_cons, List.map_nil]); first | done | rfl | (simp only [List.length_drop, List.length_take]; rfl)) ?_; (with_reducible refine (stringslite_HasSuffix.calls a0 a1 t178 _ A3.out).mono ?_); rintro e w' ⟨rfl, ⟨nd, rfl⟩⟩; refine ⟨_, rfl, ?_⟩))
 go_ret
 exact ⟨by first | rfl | (simp; done) | (simp [*]; done), by repeat (first | exact Drawn0.refl _ | apply Drawn0.step)⟩
def crcs_Open.f (a0 : ByteArray) : Option (ByteArray × Int) := if (a0.size : Int) < 3 then (some ((⟨#[]⟩ : ByteArray), 3)) else (if 0 ≤ (wrap64 ((a0.size : Int) - 3)) then (if (wrap64 ((a0.size : Int) - 3)) ≤ (a0.size : Int) then ((crcs_Sum.f (a0.extract 0 ((wrap64 ((a0.size : Int) - 3)) : Int).toNat)).bind fun t179 => ((crcs_tail.f t179).bind fun t180 => ((strings_HasSuffix.f a0 t180).bind fun t181 => (if t181 = true then (some (a0.extract 0 ((wrap64 ((a0.size : Int) - 3)) : Int).toNat, 0)) else (some ((⟨#[]⟩ : ByteArray), 4)))))) else (none)) else (none))
set_option maxHeartbeats 8000000 in
set_option maxRecDepth 100000 in
theorem crcs_Open.calls (a0 : ByteArray) (r1 : ByteArray) (r2 : Int) (w : World) (h : crcs_Open.f a0 = some (r1, r2)) :
  Calls Tryz.prog 80 #[.string a0] w fun e w' => e = .returned (.tuple #[.string r1, .int .i64 r2]) ∧ Below w.heap.size w w' := by
 have HB := Aside0.mk (Below.refl w.heap.size w)
 have H : (if (a0.size : Int) < 3 then (some ((⟨#[]⟩ : ByteArray), 3)) else (if 0 ≤ (wrap64 ((a0.size : Int) - 3)) then (if (wrap64 ((a0.size : Int) - 3)) ≤ (a0.size : Int) then ((crcs_Sum.f (a0.extract 0 ((wrap64 ((a0.size : Int) - 3)) : Int).toNat)).bind fun t179 => ((crcs_tail.f t179).bind fun t180 => ((strings_HasSuffix.f a0 t180).bind fun t181 => (if t181 = true then (some (a0.extract 0 ((wrap64 ((a0.size : Int) - 3)) : Int).toNat, 0)) else (some ((⟨#[]⟩ : ByteArray), 4)))))) else (none)) else (none))) = some (r1, r2) := h
 clear h
 by_cases c2 : (a0.size : Int) < 3
 ·rw [if_pos c2] at H
  have c2b0 : decide ((a0.size : Int) < 3) = true := decide_eq_true c2
  have c2b1 : decide (a0.size < 3) = true := decide_eq_true (by omega)
  clear c2
  simp only [Option.some.injEq, Prod.mk.injEq] at H
  obtain ⟨rfl, rfl⟩ := H
  go_enter Tryz.func80, Tryz.ntmps80
  go_wp2
  go_ret2
  exact ⟨by first | rfl | (simp [errW_none, errW_some] <;> rfl) | (simp [*, errW_none, errW_some] <;> rfl), by repeat (first | (with_reducible first | exact HB.out | apply below_alloc | apply pw_below_drewN | apply below_drew1) | exact HB.out)⟩
 ·rw [if_neg c2] at H
  have c2b0 : decide ((a0.size : Int) < 3) = false := decide_eq_false c2
  have c2b1 : decide (a0.size < 3) = false := decide_eq_false (by omega)
  clear c2
  obtain ⟨ji3, hji3⟩ : ∃ j_ : Int, (wrap64 ((a0.size : Int) - 3)) = j_ := ⟨_, rfl⟩
  replace H : (if 0 ≤ (ji3) then (if (ji3) ≤ (a0.size : Int) then ((crcs_Sum.f (a0.extract 0 ((ji3) : Int).toNat)).bind fun t179 => ((crcs_tail.f t179).bind fun t180 => ((strings_HasSuffix.f a0 t180).bind fun t181 => (if t181 = true then (some (a0.extract 0 ((ji3) : Int).toNat, 0)) else (some ((⟨#[]⟩ : ByteArray), 4)))))) else (none)) else (none)) = some (r1, r2) := by first | (rw [hji3] at H; exact H) | (simp only [hji3] at H ⊢; exact H)
  have hji3w : (IntKind.i64.wrap ((a0.size : Int) - 3)) = ji3 := (i64_w _).trans hji3
  by_cases c4 : 0 ≤ (ji3)
  ·rw [if_pos c4] at H
   have c4b0 := eq_true c4
   have c4b1 : decide (0 ≤ (ji3)) = true := decide_eq_true c4
   clear c4
   by_cases c5 : (ji3) ≤ (a0.size : Int)
   ·rw [if_pos c5] at H
    have c5b0 := eq_true c5
    have c5b1 : decide ((ji3) ≤ (a0.size : Int)) = true := decide_eq_true c5
    clear c5
    replace H := Option.bind_eq_some_iff.mp H
    obtain ⟨t179, A60, H⟩ := H
    replace H : ((crcs_tail.f t179).bind fun t180 => ((strings_HasSuffix.f a0 t180).bind fun t181 => (if t181 = true then (some (a0.extract 0 ((ji3) : Int).toNat, 0)) else (some ((⟨#[]⟩ : ByteArray), 4))))) = some (r1, r2) := H
    have A6 := Aside0.mk A60
    clear A60
    replace H := Option.bind_eq_some_iff.mp H
    obtain ⟨t180, A70, H⟩ := H
    replace H : ((strings_HasSuffix.f a0 t180).bind fun t181 => (if t181 = true then (some (a0.extract 0 ((ji3) : Int).toNat, 0)) else (some ((⟨#[]⟩ : ByteArray), 4)))) = some (r1, r2) := H
    have A7 := Aside0.mk A70
    clear A70
    replace H := Option.bind_eq_some_iff.mp H
    obtain ⟨t181, A80, H⟩ := H
    replace H : (if t181 = true then (some (a0.extract 0 ((ji3) : Int).toNat, 0)) else (some ((⟨#[]⟩ : ByteArray), 4))) = some (r1, r2) := H
    have A8 := Aside0.mk A80
    clear A80
    by_cases c9 : t181 = true
    ·subst c9
     have H1 : (some (a0.extract 0 ((ji3) : Int).toNat, 0)) = some (r1, r2) := by rw [if_pos rfl] at H; exact H
     clear H
     have H := H1
     clear H1
     simp only [Option.some.injEq, Prod.mk.injEq] at H
     obtain ⟨rfl, rfl⟩ := H
     go_enter Tryz.func80, Tryz.ntmps80
     go_wp2_with (first | ((with_reducible refine gate_callee (f := 82) rfl ?_); refine goesL_ (some 15) rfl rfl Tryz.func82 (by kernel_rfl) rfl #[.string (a0.extract 0 ((ji3) : Int).toNat)] rfl (by (try simp only [List.map_toArray, List.map_cons, List.map_nil]); first | done | (simp only [hji3]; rfl) | rfl | (simp only [List.length_drop, List.length_take]; rfl)) ?_; (with_reducible refine (crcs_Sum.calls (a0.extract 0 ((ji3) : Int).toNat) t179 _ A6.out).mono ?_); rintro e w10 ⟨rfl, hb⟩; refine ⟨_, rfl, ?_⟩; have n0_ := Aside0.mk (below_step (by repeat (first | (with_reducible first | exact HB.out | apply below_alloc | apply pw_below_drewN | apply below_drew1) | exact HB.out)) hb); clear HB; have HB := n0_; clear n0_; (try clear hb); (try clear hb2); (try clear hk); (try clear hi)) | ((with_reducible refine gate_callee (f := 81) rfl ?_); refine goesL_ (some 16) rfl rfl Tryz.func81 (by kernel_rfl) rfl #[.int .i64 t179] rfl (by (try simp only [List.map_toArray, List.map_cons, List.map_nil]); first | done | rfl | (simp only [List.length_drop, List.length_take]; rfl)) ?_; (with_reducible refine (crcs_tail.calls t179 t180 _ A7.out).mono ?_); rintro e w11 ⟨rfl, hb⟩; refine ⟨_, rfl, ?_⟩; have n0_ := Aside0.mk (below_step (by repeat (first | (with_reducible first | exact HB.out | apply below_alloc | apply pw_below_drewN | apply below_drew1) | exact HB.out)) hb); clear HB; have HB := n0_; clear n0_; (try clear hb); (try clear hb2); (try clear hk); (try clear hi)) | ((with_reducible refine gate_callee (f := 144) rfl ?_); refine goesL_ (some 17) rfl rfl Tryz.func144 (by kernel_rfl) rfl #[.string a0, .string t180] rfl (by (try simp only [List.map_toArray, List.map_cons, List.map_nil]); first | done | rfl | (simp only [List.length_drop, List.length_take]; rfl)) ?_; (with_reducible refine (strings_HasSuffix.calls a0 t180 true _ A8.out).mono ?_); rintro e w' ⟨rfl, ⟨nd, rfl⟩⟩; refine ⟨_, rfl, ?_⟩))
     go_ret2
     exact ⟨by first | rfl | (simp [errW_none, errW_some] <;> rfl) | (simp only [← hji3]; first | rfl | (simp [errW_none, errW_some] <;> rfl)) | (simp [*, errW_none, errW_some] <;> rfl), by repeat (first | (with_reducible first | exact HB.out | apply below_alloc | apply pw_below_drewN | apply below_drew1) | exact HB.out)⟩
    ·replace c9 := Bool.eq_false_iff.mpr c9
     subst c9
     have H1 : (some ((⟨#[]⟩ : ByteArray), 4)) = some (r1, r2) := by rw [if_neg (show ¬ (false = true) by decide)] at H; exact H
     clear H
     have H := H1
     clear H1
     simp only [Option.some.injEq, Prod.mk.injEq] at H
     obtain ⟨rfl, rfl⟩ := H
     go_enter Tryz.func80, Tryz.ntmps80
     go_wp2_with (first | ((with_reducible refine gate_callee (f := 82) rfl ?_); refine goesL_ (some 15) rfl rfl Tryz.func82 (by kernel_rfl) rfl #[.string (a0.extract 0 ((ji3) : Int).toNat)] rfl (by (try simp only [List.map_toArray, List.map_cons, List.map_nil]); first | done | (simp only [hji3]; rfl) | rfl | (simp only [List.length_drop, List.length_take]; rfl)) ?_; (with_reducible refine (crcs_Sum.calls (a0.extract 0 ((ji3) : Int).toNat) t179 _ A6.out).mono ?_); rintro e w12 ⟨rfl, hb⟩; refine ⟨_, rfl, ?_⟩; have n0_ := Aside0.mk (below_step (by repeat (first | (with_reducible first | exact HB.out | apply below_alloc | apply pw_below_drewN | apply below_drew1) | exact HB.out)) hb); clear HB; have HB := n0_; clear n0_; (try clear hb); (try clear hb2); (try clear hk); (try clear hi)) | ((with_reducible refine gate_callee (f := 81) rfl ?_); refine goesL_ (some 16) rfl rfl Tryz.func81 (by kernel_rfl) rfl #[.int .i64 t179] rfl (by (try simp only [List.map_toArray, List.map_cons, List.map_nil]); first | done | rfl | (simp only [List.length_drop, List.length_take]; rfl)) ?_; (with_reducible refine (crcs_tail.calls t179 t180 _ A7.out).mono ?_); rintro e w13 ⟨rfl, hb⟩; refine ⟨_, rfl, ?_⟩; have n0_ := Aside0.mk (below_step (by repeat (first | (with_reducible first | exact HB.out | apply below_alloc | apply pw_below_drewN | apply below_drew1) | exact HB.out)) hb); clear HB; have HB := n0_; clear n0_; (try clear hb); (try clear hb2); (try clear hk); (try clear hi)) | ((with_reducible refine gate_callee (f := 144) rfl ?_); refine goesL_ (some 17) rfl rfl Tryz.func144 (by kernel_rfl) rfl #[.string a0, .string t180] rfl (by (try simp only [List.map_toArray, List.map_cons, List.map_nil]); first | done | rfl | (simp only [List.length_drop, List.length_take]; rfl)) ?_; (with_reducible refine (strings_HasSuffix.calls a0 t180 false _ A8.out).mono ?_); rintro e w' ⟨rfl, ⟨nd, rfl⟩⟩; refine ⟨_, rfl, ?_⟩))
     go_ret2
     exact ⟨by first | rfl | (simp [errW_none, errW_some] <;> rfl) | (simp only [← hji3]; first | rfl | (simp [errW_none, errW_some] <;> rfl)) | (simp [*, errW_none, errW_some] <;> rfl), by repeat (first | (with_reducible first | exact HB.out | apply below_alloc | apply pw_below_drewN | apply below_drew1) | exact HB.out)⟩
   ·rw [if_neg c5] at H
    exact absurd H (by simp)
  ·rw [if_neg c4] at H
   exact absurd H (by simp)
def pack_Take.num (s : ByteArray) : Nat → Int
 | 0 => 0
 | k + 1 => 256 * pack_Take.num s k + bt s ((k : Int) + 1)
def pack_Take.f (a0 : ByteArray) : Option (Int × ByteArray × Int) :=
 if a0.toList = ([] : List UInt8) then some (0, ⟨#[]⟩, 3)
 else if bt a0 0 ≤ 247 then some (bt a0 0, a0.extract 1 a0.size, 0)
 else if bt a0 0 > 251 then some (0, ⟨#[]⟩, 2)
 else if (a0.size : Int) - 1 < bt a0 0 - 247 then some (0, ⟨#[]⟩, 3)
 else if pack_Take.num a0 (bt a0 0 - 247).toNat < 248 then some (0, ⟨#[]⟩, 2)
 else (pack_width.f (pack_Take.num a0 (bt a0 0 - 247).toNat)).bind fun t => if t = bt a0 0 - 247 then some (pack_Take.num a0 (bt a0 0 - 247).toNat, (a0.extract 1 a0.size).extract (bt a0 0 - 247).toNat (a0.extract 1 a0.size).size, 0)
 else some (0, ⟨#[]⟩, 2)
theorem pack_Take.num_range (s : ByteArray) : ∀ k : Nat, 0 ≤ pack_Take.num s k ∧ pack_Take.num s k < 256 ^ k
 | 0 => ⟨Int.le_refl 0, by show (0 : Int) < 1; decide⟩
 | k + 1 => by
  have ih := pack_Take.num_range s k
  have hb := bt_range s ((k : Int) + 1)
  simp only [pack_Take.num]
  rw [Int.pow_succ]
  omega
set_option maxHeartbeats 2000000 in
set_option maxRecDepth 100000 in
theorem pack_Take.calls (a0 : ByteArray) (r1 : Int) (r2 : ByteArray) (r3 : Int) (w : World) (h : pack_Take.f a0 = some (r1, r2, r3)) :
  Calls Tryz.prog 146 #[.string a0] w fun e w' => e = .returned (.tuple #[.int .i64 r1, .string r2, .int .i64 r3]) ∧ Below w.heap.size w w' := by
 have HB := Aside0.mk (Below.refl w.heap.size w)
 unfold pack_Take.f at h
 by_cases c1 : a0.toList = ([] : List UInt8)
 ·rw [if_pos c1] at h
  have c2b0 : (a0.toList == ([] : List UInt8)) = true := beq_iff_eq.mpr c1
  have c2b1 : (a0.toList != ([] : List UInt8)) = false := bne_eq_false_iff_eq.mpr c1
  clear c1
  simp only [Option.some.injEq, Prod.mk.injEq] at h
  obtain ⟨rfl, rfl, rfl⟩ := h
  go_enter Tryz.func146, Tryz.ntmps146
  go_wp2
  go_ret3
  exact ⟨rfl, HB.out⟩
 rw [if_neg c1] at h
 have hpos : 0 < a0.size := XW.pos_of_toList c1
 have c2b0 : (a0.toList == ([] : List UInt8)) = false := beq_eq_false_iff_ne.mpr c1
 have c2b1 : (a0.toList != ([] : List UInt8)) = true := bne_iff_ne.mpr c1
 clear c1
 have hx : ∀ h : 0 < a0.size, ((a0[0]'h).toNat : Int) = bt a0 0 := bt_at a0 0
 have hb := bt_range a0 0
 obtain ⟨hb0, hb1⟩ := hb
 have hw : wrap64 (bt a0 0) = bt a0 0 := by unfold wrap64; omega
 have hs1 : ((1 : Int) ≤ (a0.size : Int)) = True := eq_true (by omega)
 have hs0 : (0 < a0.size) = True := eq_true hpos
 by_cases c3 : bt a0 0 ≤ 247
 ·rw [if_pos c3] at h
  simp only [Option.some.injEq, Prod.mk.injEq] at h
  obtain ⟨rfl, rfl, rfl⟩ := h
  have t1 : decide (bt a0 0 - 248 + 1 ≤ 0) = true := decide_eq_true (by omega)
  go_enter Tryz.func146, Tryz.ntmps146
  go_wp2
  go_quiet (fail)
  go_wp2
  go_ret3
  exact ⟨rfl, pw_below_drewN HB.out _⟩
 rw [if_neg c3] at h
 have t1 : decide (bt a0 0 - 248 + 1 ≤ 0) = false := decide_eq_false (by omega)
 by_cases c4 : bt a0 0 > 251
 ·rw [if_pos c4] at h
  simp only [Option.some.injEq, Prod.mk.injEq] at h
  obtain ⟨rfl, rfl, rfl⟩ := h
  have t2 : decide (4 < bt a0 0 - 248 + 1) = true := decide_eq_true (by omega)
  go_enter Tryz.func146, Tryz.ntmps146
  go_wp2
  go_quiet (fail)
  go_wp2
  go_ret3
  exact ⟨rfl, pw_below_drewN HB.out _⟩
 rw [if_neg c4] at h
 have t2 : decide (4 < bt a0 0 - 248 + 1) = false := decide_eq_false (by omega)
 by_cases c5 : (a0.size : Int) - 1 < bt a0 0 - 247
 ·rw [if_pos c5] at h
  simp only [Option.some.injEq, Prod.mk.injEq] at h
  obtain ⟨rfl, rfl, rfl⟩ := h
  go_enter Tryz.func146, Tryz.ntmps146
  go_wp2
  go_quiet (fail)
  go_wp2
  go_ret3
  exact ⟨rfl, pw_below_drewN HB.out _⟩
 rw [if_neg c5] at h
 have kb := fun W s => print_bytes (P := Tryz.prog) 9 92 5 Tryz.underlying9 Tryz.underlying92 Tryz.underlying5 s W
 obtain ⟨kk, hkk⟩ : ∃ kk : Nat, bt a0 0 - 248 + 1 = (kk : Int) := ⟨(bt a0 0 - 247).toNat, by omega⟩
 have hk1 : 1 ≤ kk := by omega
 have hk4 : kk ≤ 4 := by omega
 have hks : kk + 1 ≤ a0.size := by omega
 have e247 : bt a0 0 - 247 = (kk : Int) := by omega
 rw [e247, Int.toNat_natCast] at h
 have hks2 : kk ≤ a0.size - 1 := by omega
 have hmin : min kk (a0.size - 1) = kk := by omega
 have HH := Aside0.mk h
 clear h e247 c3 c4 c5
 go_enter Tryz.func146, Tryz.ntmps146
 go_wp2
 go_quiet (fail)
 go_wp2
 generalize hu : (a0.extract 1 a0.size).extract 0 kk = u
 have hus : u.size = kk := by
  rw [← hu, ByteArray.size_extract, ByteArray.size_extract]; omega
 have hub : ∀ j : Int, 0 ≤ j → j < kk → bt u j = bt a0 (j + 1) := by
  intro j h0 h1
  rw [← hu, XW.bt_extract _ 0 kk j h0 (by rw [ByteArray.size_extract]; omega) (by omega), XW.bt_extract _ 1 _ _ (by omega) (by omega) (by omega)]
  rw [show j + ((0 : Nat) : Int) + ((1 : Nat) : Int) = j + 1 by omega]
 have hrd := bytes_reads (w.drewN nq) 5 u (by omega)
 have hbl := bytes_below (pw_below_drewN HB.out nq) (Nat.le_refl _) 5 u
 have HR := Aside0.mk (show Kd.C (Kd.int .u8) (Lib.bytesWorld (w.drewN nq) 5 u) (some ⟨w.heap.size, 0, none⟩) kk (bytesOf u) from by
  have := Kd.C_of_reads (d := (0 : Int)) (h1 := fun _ => rfl) hrd
  rw [hus] at this
  exact this)
 have HBL := Aside0.mk hbl
 have HUB := Aside0.mk hub
 clear hrd hbl hub hu hus
 generalize Lib.bytesWorld (w.drewN nq) 5 u = W2 at *
 generalize grownCap (w.drewN nq) kk 0 5 = cp
 go_loop [7, 9, 38] (fun n _ i => ∃ j : Int, 0 ≤ j ∧ j ≤ (kk : Int) ∧ n = .int .i64 (pack_Take.num a0 j.toNat) ∧ i = .int .i64 j) (fun _ _ i => kk - (intOf i).toNat)
 case atStart => exact ⟨0, by omega, by omega, rfl, rfl⟩
 case round =>
  obtain ⟨j, hj0, hj1, rfl, rfl⟩ := hrel
  by_cases hlt : j < (kk : Int)
  ·obtain ⟨adx, eadx, hcell⟩ := Kd.at_int HR.out j hj0 hlt
   cases eadx
   simp only [add_plain] at hcell
   rw [rd_bytesOf, HUB.out j hj0 hlt] at hcell
   have t3 : decide (j < (kk : Int)) = true := decide_eq_true hlt
   have t4 : (0 ≤ j) = True := eq_true hj0
   have t5 : (j < (kk : Int)) = True := eq_true hlt
   have t6 : j + 1 ≤ (kk : Int) := by omega
   have hby := bt_range a0 (j + 1)
   obtain ⟨hby0, hby1⟩ := hby
   have hnr := pack_Take.num_range a0 j.toNat
   obtain ⟨hnr0, hnr1⟩ := hnr
   have hp : (256 : Int) ^ j.toNat ≤ 256 ^ 3 := by
    have : (256 : Nat) ^ j.toNat ≤ 256 ^ 3 := Nat.pow_le_pow_right (by decide) (by omega)
    exact_mod_cast this
   have hn3 : pack_Take.num a0 j.toNat < 16777216 := by omega
   have HE : Aside0 (bits .or .i64 (wrap64 (pack_Take.num a0 j.toNat * 256)) (bt a0 (j + 1)) = pack_Take.num a0 (j + 1).toNat) := ⟨by
    rw [show wrap64 (pack_Take.num a0 j.toNat * 256) = pack_Take.num a0 j.toNat * 256 by unfold wrap64; omega, XW.or_byte _ _ hnr0 (by omega) hby0 hby1, show (j + 1).toNat = j.toNat + 1 by omega]
    simp only [pack_Take.num]
    rw [show ((j.toNat : Nat) : Int) = j by omega]
    omega⟩
   clear hlt hn3 hp hnr0 hnr1
   go_wp2
   exact ⟨⟨j + 1, by omega, t6, congrArg (Value.int .i64) HE.out, rfl⟩, by simp only [intOf]; omega⟩
  ·obtain rfl : j = (kk : Int) := by omega
   have hz := HH.out
   clear hlt HUB
   by_cases c6 : pack_Take.num a0 kk < 248
   ·rw [if_pos c6] at hz
    simp only [Option.some.injEq, Prod.mk.injEq] at hz
    obtain ⟨rfl, rfl, rfl⟩ := hz
    have t7 : decide (pack_Take.num a0 kk < 248) = true := decide_eq_true c6
    clear HH c6
    go_wp2
    go_ret3
    exact ⟨rfl, HBL.out⟩
   ·rw [if_neg c6] at hz
    have t7 : decide (pack_Take.num a0 kk < 248) = false := decide_eq_false c6
    obtain ⟨t, ht, hz⟩ := Option.bind_eq_some_iff.mp hz
    have HT := Aside0.mk ht
    clear HH c6 ht
    by_cases c7 : t = (kk : Int)
    ·subst c7
     rw [if_pos rfl] at hz
     simp only [Option.some.injEq, Prod.mk.injEq] at hz
     obtain ⟨rfl, rfl, rfl⟩ := hz
     go_wp2_with (go_at_call 148; (with_reducible refine (pack_width.calls _ _ _ HT.out).mono ?_); rintro e w' ⟨rfl, ⟨nd, rfl⟩⟩)
     go_quiet (fail)
     go_wp2
     go_ret3
     exact ⟨by simp, pw_below_drewN (pw_below_drewN HBL.out _) _⟩
    ·rw [if_neg c7] at hz
     simp only [Option.some.injEq, Prod.mk.injEq] at hz
     obtain ⟨rfl, rfl, rfl⟩ := hz
     have t8 : (t != (kk : Int)) = true := bne_iff_ne.mpr c7
     have t9 : (t == (kk : Int)) = false := beq_eq_false_iff_ne.mpr c7
     go_wp2_with (go_at_call 148; (with_reducible refine (pack_width.calls _ _ _ HT.out).mono ?_); rintro e w' ⟨rfl, ⟨nd, rfl⟩⟩)
     go_ret3
     exact ⟨rfl, pw_below_drewN HBL.out _⟩
mutual
def pack_Each.j0 : Nat → ByteArray → Int → Int → Bool → Option (List Int × ByteArray × Int)
 | 0, _, _, _, _ => none
 | k + 1, x0, x5, x6, x20 => if x20 = true then (pack_Each.j1 k x0 x5 2) else (pack_Each.j1 k x0 x5 x6)
def pack_Each.j1 : Nat → ByteArray → Int → Int → Option (List Int × ByteArray × Int)
 | 0, _, _, _ => none
 | k + 1, x0, x5, x6 => pack_Each.l0 k x0 x5 x6 ([] : List Int)
def pack_Each.l0 : Nat → ByteArray → Int → Int → List Int → Option (List Int × ByteArray × Int)
 | 0, _, _, _, _ => none
 | k + 1, x0, x5, x6, x7 => if x6 = 0 then (if (x7.length : Int) < x5 then ((pack_Take.f x0).bind fun bt185 => (if x7.length < 17592186044416 then (pack_Each.l0 k bt185.2.1 x5 bt185.2.2 (x7 ++ [bt185.1])) else (none))) else (some (x7, x0, 0))) else (some (([] : List Int), (⟨#[]⟩ : ByteArray), x6))
end
def pack_Each.f (k : Nat) (a0 : ByteArray) : Option (List Int × ByteArray × Int) := (pack_Take.f a0).bind fun bt182 => (if bt182.2.2 = 0 then (pack_Each.j0 k bt182.2.1 bt182.1 bt182.2.2 (decide (bt182.1 > 1000))) else (pack_Each.j0 k bt182.2.1 bt182.1 bt182.2.2 false))
theorem pack_Each.mono_l : ∀ k, (∀ y0 y1 y2 y3, LeO (pack_Each.j0 k y0 y1 y2 y3) (pack_Each.j0 (k + 1) y0 y1 y2 y3)) ∧ (∀ y0 y1 y2, LeO (pack_Each.j1 k y0 y1 y2) (pack_Each.j1 (k + 1) y0 y1 y2)) ∧ (∀ y0 y1 y2 y3, LeO (pack_Each.l0 k y0 y1 y2 y3) (pack_Each.l0 (k + 1) y0 y1 y2 y3))
 | 0 => ⟨fun _ _ _ _ r h => by simp [pack_Each.j0] at h, fun _ _ _ r h => by simp [pack_Each.j1] at h, fun _ _ _ _ r h => by simp [pack_Each.l0] at h⟩
 | k + 1 => by
  obtain ⟨ih0, ih1, ih2⟩ := pack_Each.mono_l k
  refine ⟨?_, ?_, ?_⟩
  ·intro y0 y1 y2 y3
   unfold pack_Each.j0
   repeat' first
   | (with_reducible exact ih0 _ _ _ _)
   | (with_reducible exact ih1 _ _ _)
   | (with_reducible exact ih2 _ _ _ _)
   | (with_reducible exact LeO.refl _)
   | (with_reducible exact LeO.none _)
   | (with_reducible refine LeO.ite ?_ ?_)
   | (with_reducible refine LeO.bind ?_ (fun _ => ?_))
   | exact ih0 _ _ _ _
   | exact ih1 _ _ _
   | exact ih2 _ _ _ _
   | exact LeO.none _
   | refine LeO.ite ?_ ?_
   | refine LeO.bind ?_ (fun _ => ?_)
  ·intro y0 y1 y2
   unfold pack_Each.j1
   repeat' first
   | (with_reducible exact ih0 _ _ _ _)
   | (with_reducible exact ih1 _ _ _)
   | (with_reducible exact ih2 _ _ _ _)
   | (with_reducible exact LeO.refl _)
   | (with_reducible exact LeO.none _)
   | (with_reducible refine LeO.ite ?_ ?_)
   | (with_reducible refine LeO.bind ?_ (fun _ => ?_))
   | exact ih0 _ _ _ _
   | exact ih1 _ _ _
   | exact ih2 _ _ _ _
   | exact LeO.none _
   | refine LeO.ite ?_ ?_
   | refine LeO.bind ?_ (fun _ => ?_)
  ·intro y0 y1 y2 y3
   unfold pack_Each.l0
   repeat' first
   | (with_reducible exact ih0 _ _ _ _)
   | (with_reducible exact ih1 _ _ _)
   | (with_reducible exact ih2 _ _ _ _)
   | (with_reducible exact LeO.refl _)
   | (with_reducible exact LeO.none _)
   | (with_reducible refine LeO.ite ?_ ?_)
   | (with_reducible refine LeO.bind ?_ (fun _ => ?_))
   | exact ih0 _ _ _ _
   | exact ih1 _ _ _
   | exact ih2 _ _ _ _
   | exact LeO.none _
   | refine LeO.ite ?_ ?_
   | refine LeO.bind ?_ (fun _ => ?_)
theorem pack_Each.mono : ∀ a0 k, LeO (pack_Each.f k a0) (pack_Each.f (k + 1) a0) := by
 intro a0 k
 obtain ⟨ih0, ih1, ih2⟩ := pack_Each.mono_l k
 unfold pack_Each.f
 repeat' first
   | (with_reducible exact ih0 _ _ _ _)
   | (with_reducible exact ih1 _ _ _)
   | (with_reducible exact ih2 _ _ _ _)
   | (with_reducible exact LeO.refl _)
   | (with_reducible exact LeO.none _)
   | (with_reducible refine LeO.ite ?_ ?_)
   | (with_reducible refine LeO.bind ?_ (fun _ => ?_))
   | exact ih0 _ _ _ _
   | exact ih1 _ _ _
   | exact ih2 _ _ _ _
   | exact LeO.none _
   | refine LeO.ite ?_ ?_
   | refine LeO.bind ?_ (fun _ => ?_)
set_option maxHeartbeats 8000000 in
set_option maxRecDepth 100000 in
theorem pack_Each.calls (k : Nat) (a0 : ByteArray) (r1 : List Int) (r2 : ByteArray) (r3 : Int) (w : World) (h : pack_Each.f k a0 = some (r1, r2, r3)) :
  Calls Tryz.prog 84 #[.string a0] w fun e w' => ∃ v0_ : Value, e = .returned (.tuple #[v0_, .string r2, .int .i64 r3]) ∧ Kd.R (Kd.int .i64) 3 w' w.heap.size (fun _ => True) v0_ r1 ∧ Below w.heap.size w w' := by
 have HB := Aside0.mk (Below.refl w.heap.size w)
 have H : ((pack_Take.f a0).bind fun bt182 => (if bt182.2.2 = 0 then (pack_Each.j0 k bt182.2.1 bt182.1 bt182.2.2 (decide (bt182.1 > 1000))) else (pack_Each.j0 k bt182.2.1 bt182.1 bt182.2.2 false))) = some (r1, r2, r3) := h
 clear h
 replace H := Option.bind_eq_some_iff.mp H
 obtain ⟨⟨t182, t183, t184⟩, A20, H⟩ := H
 replace H : (if t184 = 0 then (pack_Each.j0 k t183 t182 t184 (decide (t182 > 1000))) else (pack_Each.j0 k t183 t182 t184 false)) = some (r1, r2, r3) := H
 have A2 := Aside0.mk A20
 clear A20
 have HC3 := Aside0.mk H
 clear H
 go_enter Tryz.func84, Tryz.ntmps84
 go_upto_region 2 with (first | ((with_reducible refine gate_callee (f := 146) rfl ?_); refine goesL_ (some 11) rfl rfl Tryz.func146 (by kernel_rfl) rfl #[.string a0] rfl (by (try simp only [List.map_toArray, List.map_cons, List.map_nil]); first | done | rfl | (simp only [List.length_drop, List.length_take]; rfl)) ?_; (with_reducible refine (pack_Take.calls a0 t182 t183 t184 _ A2.out).mono ?_); rintro e w4 ⟨rfl, hb⟩; refine ⟨_, rfl, ?_⟩; have n0_ := Aside0.mk (below_step (by repeat (first | (with_reducible first | exact HB.out | apply below_alloc | apply pw_below_drewN | apply below_drew1) | exact HB.out)) hb); clear HB; have HB := n0_; clear n0_; (try clear hb); (try clear hb2); (try clear hk); (try clear hi)))
 (try simp only [Act.put, List.setIfInBounds_toArray, List.set_cons_zero, List.set_cons_succ])
 go_cut [20] (fun v20 wc => ∃ (kq : Nat) (x20_2 : Bool), v20 = .bool x20_2 ∧ Aside0 (pack_Each.j0 kq t183 t182 t184 x20_2 = some (r1, r2, r3)) ∧ Aside0 (kq ≤ k) ∧ Aside0 (Below w.heap.size w wc))
 case first =>
  have H := HC3.out
  clear HC3
  by_cases c5 : t184 = 0
  ·rw [if_pos c5] at H
   have c5b0 : (t184 == 0) = true := beq_iff_eq.mpr c5
   have c5b1 : (t184 != 0) = false := bne_eq_false_iff_eq.mpr c5
   clear c5
   (first | rw [c5b0] | (simp only [i64_w, i32_w]; rw [c5b0]) | skip)
   have H' := Aside0.mk H
   clear H
   go_wp2
   go_meet
   case rel => exact ⟨_, (decide (t182 > 1000)), (by first | rfl | (simp; done) | (simp [*]; done)), H', ⟨by first | omega | exact Nat.le_refl _⟩, ⟨by repeat (first | (with_reducible first | exact HB.out | apply below_alloc | apply pw_below_drewN | apply below_drew1) | exact HB.out)⟩⟩
  ·rw [if_neg c5] at H
   have c5b0 : (t184 == 0) = false := beq_eq_false_iff_ne.mpr c5
   have c5b1 : (t184 != 0) = true := bne_iff_ne.mpr c5
   (first | rw [c5b0] | (simp only [i64_w, i32_w]; rw [c5b0]) | skip)
   have H' := Aside0.mk H
   clear H
   go_wp2
   go_meet
   case rel => exact ⟨_, (false), (by first | rfl | (simp; done) | (simp [*]; done)), H', ⟨by first | omega | exact Nat.le_refl _⟩, ⟨by repeat (first | (with_reducible first | exact HB.out | apply below_alloc | apply pw_below_drewN | apply below_drew1) | exact HB.out)⟩⟩
 case rest =>
  clear HC3
  try clear c1
  try clear p2
  try clear c5
  try clear c5b0
  try clear c5b1
  obtain ⟨kq, x20_2, rfl, HA, HJ2, HB⟩ := hcut
  cases kq with
  | zero => exact absurd HA.out (by simp [pack_Each.j0])
  | succ kj2 =>
   have H := HA.out
   clear HA
   simp only [pack_Each.j0] at H
   have HC6 := Aside0.mk H
   clear H
   go_upto_if 20 with (fail)
   go_cut [6] (fun v6 wc => ∃ (kq : Nat) (x6_5 : Int), v6 = .int .i64 x6_5 ∧ Aside0 (pack_Each.j1 kq t183 t182 x6_5 = some (r1, r2, r3)) ∧ Aside0 (kq ≤ kj2) ∧ Aside0 (Below w.heap.size w wc))
   case first =>
    have H := HC6.out
    clear HC6
    by_cases c7 : x20_2 = true
    ·subst c7
     have H1 : (pack_Each.j1 kj2 t183 t182 2) = some (r1, r2, r3) := by rw [if_pos rfl] at H; exact H
     clear H
     have H := H1
     clear H1
     have H' := Aside0.mk H
     clear H
     go_wp2
     go_meet
     case rel => exact ⟨_, (2), (by first | rfl | (simp; done) | (simp [*]; done)), H', ⟨by have := HJ2.out; first | omega | exact Nat.le_refl _⟩, ⟨by repeat (first | (with_reducible first | exact HB.out | apply below_alloc | apply pw_below_drewN | apply below_drew1) | exact HB.out)⟩⟩
    ·replace c7 := Bool.eq_false_iff.mpr c7
     subst c7
     have H1 : (pack_Each.j1 kj2 t183 t182 t184) = some (r1, r2, r3) := by rw [if_neg (show ¬ (false = true) by decide)] at H; exact H
     clear H
     have H := H1
     clear H1
     have H' := Aside0.mk H
     clear H
     go_wp2
     go_meet
     case rel => exact ⟨_, (t184), (by first | rfl | (simp; done) | (simp [*]; done)), H', ⟨by have := HJ2.out; first | omega | exact Nat.le_refl _⟩, ⟨by repeat (first | (with_reducible first | exact HB.out | apply below_alloc | apply pw_below_drewN | apply below_drew1) | exact HB.out)⟩⟩
   case rest =>
    clear HC6
    try clear c1
    try clear p2
    try clear c5
    try clear c5b0
    try clear c5b1
    try clear c7
    try clear p2
    obtain ⟨kq, x6_5, rfl, HA, HJ5, HB⟩ := hcut
    cases kq with
    | zero => exact absurd HA.out (by simp [pack_Each.j1])
    | succ kj5 =>
     have H := HA.out
     clear HA
     simp only [pack_Each.j1] at H
     have H' := Aside0.mk H
     clear H
     go_wp2
     go_loopg [0, 6, 7] kj5 (fun kq v0 v6 v7 w' => ∃ (x0_3 : ByteArray) (x6_3 : Int) (x7_3 : List Int), v0 = .string x0_3 ∧ v6 = .int .i64 x6_3 ∧ Aside0 (pack_Each.l0 kq x0_3 t182 x6_3 x7_3 = some (r1, r2, r3)) ∧ Aside0 (kq ≤ kj5) ∧ Aside0 (Kd.R (Kd.int .i64) 3 w' w.heap.size (fun _ => True) v7 x7_3) ∧ Aside0 (Below w.heap.size w w'))
     case atStart => exact ⟨(t183), (x6_5), (([] : List Int)), (by first | rfl | (simp; done) | (simp [*]; done)), (by first | rfl | (simp; done) | (simp [*]; done)), H', ⟨Nat.le_refl _⟩, ⟨by first | exact Kd.R_nil _ _ _ _ _ | exact Kd.N_nil _ _ _ _ _ | exact Kd.V_nil _ _ _ _ _ | exact Kd.Q_nil _ _ _ _ _ | exact Kd.S_nil _ _ _ _ _⟩, ⟨by repeat (first | (with_reducible first | exact HB.out | apply below_alloc | apply pw_below_drewN | apply below_drew1) | exact HB.out)⟩⟩
     case round =>
      clear H'
      try clear c1
      try clear p2
      try clear c5
      try clear c5b0
      try clear c5b1
      try clear c7
      try clear p2
      obtain ⟨x0_3, x6_3, x7_3, rfl, rfl, HA, HK3, HO_7, HB⟩ := hrel
      cases gk with
      | zero => exact absurd HA.out (by simp [pack_Each.l0])
      | succ k3 =>
       have H := HA.out
       clear HA
       simp only [pack_Each.l0] at H
       by_cases c8 : x6_3 = 0
       ·rw [if_pos c8] at H
        have c8b0 : (x6_3 == 0) = true := beq_iff_eq.mpr c8
        have c8b1 : (x6_3 != 0) = false := bne_eq_false_iff_eq.mpr c8
        clear c8
        by_cases c9 : (x7_3.length : Int) < t182
        ·rw [if_pos c9] at H
         have c9b0 : decide ((x7_3.length : Int) < t182) = true := decide_eq_true c9
         clear c9
         replace H := Option.bind_eq_some_iff.mp H
         obtain ⟨⟨t185, t186, t187⟩, A100, H⟩ := H
         replace H : (if x7_3.length < 17592186044416 then (pack_Each.l0 k3 t186 t182 t187 (x7_3 ++ [t185])) else (none)) = some (r1, r2, r3) := H
         have A10 := Aside0.mk A100
         clear A100
         by_cases c11 : x7_3.length < 17592186044416
         ·rw [if_pos c11] at H
          have LMc11 := Aside0.mk c11
          clear c11
          obtain ⟨y188, hy188⟩ : ∃ y_ : List Int, y_ = (x7_3 ++ [t185]) := ⟨_, rfl⟩
          replace H : (pack_Each.l0 k3 t186 t182 t187 y188) = some (r1, r2, r3) := by first | (rw [hy188]; with_reducible exact H) | (have H2_ := (Option.bind_some _ _).symm.trans H; rw [hy188]; with_reducible exact H2_) | (have H2_ := (Option.bind_some _ _).symm.trans H; with_reducible exact H2_) | with_reducible exact H | (rw [hy188]; exact H) | exact H
          have Ny188 := Aside0.mk hy188
          clear hy188
          have H' := Aside0.mk H
          clear H
          obtain ⟨Ao12, co12, eo12⟩ := Kd.R_slice HO_7.out
          subst eo12
          go_wp2_with (first | ((with_reducible refine gate_callee (f := 146) rfl ?_); refine goesL_ (some 31) rfl rfl Tryz.func146 (by kernel_rfl) rfl #[.string x0_3] rfl (by (try simp only [List.map_toArray, List.map_cons, List.map_nil]); first | done | rfl | (simp only [List.length_drop, List.length_take]; rfl)) ?_; (with_reducible refine (pack_Take.calls x0_3 t185 t186 t187 _ A10.out).mono ?_); rintro e w13 ⟨rfl, hb⟩; refine ⟨_, rfl, ?_⟩; have n0_ := Aside0.mk (Kd.R_below (by (with_reducible repeat (first | apply Kd.R_alloc | apply Kd.R_drewN | apply Kd.R_drew)); exact HO_7.out) hb); have n1_ := Aside0.mk (below_step (by repeat (first | (with_reducible first | exact HB.out | apply below_alloc | apply pw_below_drewN | apply below_drew1) | exact HB.out)) hb); clear HO_7; clear HB; have HO_7 := n0_; have HB := n1_; clear n0_ n1_; (try clear hb); (try clear hb2); (try clear hk); (try clear hi)) | ((with_reducible refine gate_builtin (b := .append) (xs := #[.tmp 35, .tmp 37]) rfl ?_); (try (refine gate_guard (by rfl) ?_; dsimp only)); at_builtin; refine Kd.R_append (Kd.int .i64) (w0 := w) w.heap.size rfl (.tmp 35) (.tmp 37) 50 3 (.int .i64 0) 8 rfl Tryz.underlying50 info3 rfl (by decide) (by omega) (.slice Ao12 x7_3.length co12) x7_3 t185 [.int .i64 t185] (fun _ => True) (fun _ => False) rfl rfl ?aP (fun _ hk => hk.elim) ?aF ?aO ?aB ?aS ?aL ?_; (case aP => exact rfl); (case aB => exact (by repeat (first | (with_reducible first | exact HB.out | apply below_alloc | apply pw_below_drewN | apply below_drew1) | exact HB.out))); (case aF => exact (fun _ _ => trivial)); (case aO => exact (by (with_reducible repeat (first | apply Kd.R_alloc | apply Kd.R_drewN | apply Kd.R_drew)); exact HO_7.out)); (case aS => exact (below_size (by repeat (first | (with_reducible first | exact HB.out | apply below_alloc | apply pw_below_drewN | apply below_drew1) | exact HB.out)))); (case aL => have := LMc11.out; omega); intro v189 w14 ho hb hg hat; rw [← Ny188.out] at ho; have n0_ := Aside0.mk (hb); have n1_ := Aside0.mk (ho); clear HB; clear HO_7; have HB := n0_; have HO190 := n1_; clear n0_ n1_; clear ho hb hg hat))
          go_roundg k3
          case measure => have := HJ2.out; have := HJ5.out; have := HK3.out; omega
          case rel => exact ⟨(t186), (t187), (y188), (by first | rfl | (simp; done) | (simp [*]; done)), (by first | rfl | (simp; done) | (simp [*]; done)), H', ⟨by have := HJ2.out; have := HJ5.out; have := HK3.out; omega⟩, ⟨by (with_reducible repeat (first | apply Kd.R_alloc | apply Kd.R_drewN | apply Kd.R_drew)); exact HO190.out⟩, ⟨by repeat (first | (with_reducible first | exact HB.out | apply below_alloc | apply pw_below_drewN | apply below_drew1) | exact HB.out)⟩⟩
         ·rw [if_neg c11] at H
          exact absurd H (by simp)
        ·rw [if_neg c9] at H
         have c9b0 : decide ((x7_3.length : Int) < t182) = false := decide_eq_false c9
         clear c9
         simp only [Option.some.injEq, Prod.mk.injEq] at H
         obtain ⟨rfl, rfl, rfl⟩ := H
         obtain ⟨Ao15, co15, eo15⟩ := Kd.R_slice HO_7.out
         subst eo15
         go_wp2
         go_ret3
         exact ⟨_, by first | rfl | (simp [errW_none, errW_some] <;> rfl) | (simp [*, errW_none, errW_some] <;> rfl), by (with_reducible repeat (first | apply Kd.R_alloc | apply Kd.R_drewN | apply Kd.R_drew)); exact HO_7.out, by repeat (first | (with_reducible first | exact HB.out | apply below_alloc | apply pw_below_drewN | apply below_drew1) | exact HB.out)⟩
       ·rw [if_neg c8] at H
        have c8b0 : (x6_3 == 0) = false := beq_eq_false_iff_ne.mpr c8
        have c8b1 : (x6_3 != 0) = true := bne_iff_ne.mpr c8
        simp only [Option.some.injEq, Prod.mk.injEq] at H
        obtain ⟨rfl, rfl, rfl⟩ := H
        go_wp2
        go_ret3
        exact ⟨_, by first | rfl | (simp [errW_none, errW_some] <;> rfl) | (simp [*, errW_none, errW_some] <;> rfl), by first | exact Kd.R_nil _ _ _ _ _ | exact Kd.N_nil _ _ _ _ _ | exact Kd.V_nil _ _ _ _ _ | exact Kd.Q_nil _ _ _ _ _ | exact Kd.S_nil _ _ _ _ _, by repeat (first | (with_reducible first | exact HB.out | apply below_alloc | apply pw_below_drewN | apply below_drew1) | exact HB.out)⟩
end Go.Proofs.YtphdjpfdelpecaaGreatDoor.PTopf
