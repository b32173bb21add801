/- Functions that the law reaches, each as a plain Lean function with the proof that the call does what it says. Conditions: none beyond those that each theorem states. Written by a program for this claim. -/
import Derived.Test.YtphdjpfdelpecaaGreatDoorPTopfx0
namespace Go.Proofs.YtphdjpfdelpecaaGreatDoor.PTopf
open Go.RowKit Go.Proofs.YtphdjpfdelpecaaGreatDoorW.PrintWords Go.Proofs.YtphdjpfdelpecaaGreatDoorW.PrintLast Go.Proofs.YtphdjpfdelpecaaGreatDoorW.PrintMore
attribute [local go_sem] max2_int min2_int max_two min_two max_three min_three max_four min_four   -- for this text's walks alone
set_option linter.unusedVariables false
set_option linter.unusedSimpArgs false
def crcs_tail.f (a0 : Int) : Option (ByteArray) := some (strOfNums (([(a0 / 65536) % 256, (a0 / 256) % 256, (a0) % 256] : List Int)))
set_option maxHeartbeats 8000000 in
set_option maxRecDepth 100000 in
theorem crcs_tail.calls (a0 : Int) (r : ByteArray) (w : World) (h : crcs_tail.f a0 = some r) :
  Calls Tryz.prog 81 #[.int .i64 a0] w fun e w' => e = .returned (.string r) ∧ Below w.heap.size w w' := by
 have HB := Aside0.mk (Below.refl w.heap.size w)
 have H : (some (strOfNums (([(a0 / 65536) % 256, (a0 / 256) % 256, (a0) % 256] : List Int)))) = some r := h
 clear h
 obtain ⟨y101, hy101⟩ : ∃ y_ : List Int, y_ = (([(a0 / 65536) % 256, (a0 / 256) % 256, (a0) % 256] : List Int)) := ⟨_, rfl⟩
 replace H : (some (strOfNums y101)) = some r := by first | (rw [hy101]; with_reducible exact H) | (have H2_ := (Option.bind_some _ _).symm.trans H; rw [hy101]; with_reducible exact H2_) | (have H2_ := (Option.bind_some _ _).symm.trans H; with_reducible exact H2_) | with_reducible exact H | (rw [hy101]; exact H) | exact H
 have Ny101 := Aside0.mk hy101
 clear hy101
 obtain rfl := Option.some.inj H
 go_enter Tryz.func81, Tryz.ntmps81
 go_wp2_with (first | ((with_reducible refine gate_dst (N := 11) rfl ?_); refine Kd.R_lit (Kd.int .u8) _ 5 ?hg (N := 11) ?hd (xs := ([(a0 / 65536) % 256, (a0 / 256) % 256, (a0) % 256] : List Int)) (inner := [.int .u8 ((a0 / 65536) % 256), .int .u8 ((a0 / 256) % 256), .int .u8 ((a0) % 256)]) (ok := fun _ => True) (okp := fun _ => True) ?hr ?hp (fun _ hk => hk) trivial (Below.refl _ _) (Nat.le_refl _) (by simp) ?_; (case hd => rfl); (case hg => rfl); (case hr => first | (go_simp; done) | (go_simp; rfl)); (case hp => exact (Reps.one (show Kd.M (Kd.int .u8) _ _ _ ((a0 / 65536) % 256) [.int .u8 ((a0 / 65536) % 256)] from rfl) (Reps.one (show Kd.M (Kd.int .u8) _ _ _ ((a0 / 256) % 256) [.int .u8 ((a0 / 256) % 256)] from rfl) (Reps.one (show Kd.M (Kd.int .u8) _ _ _ ((a0) % 256) [.int .u8 ((a0) % 256)] from rfl) (Reps.none _ _))))); intro v102 w2 ho3 hb hg_ hnew_; clear hg_ hnew_; (first | rw [← Ny101.out] at ho3 | (simp only [Int.reduceToNat] at ho3; rw [← Ny101.out] at ho3)); have n0_ := Aside0.mk (Kd.R_lower ho3 (below_size (by repeat (first | (with_reducible first | exact HB.out | apply below_alloc | apply pw_below_drewN | apply below_drew1) | exact HB.out)))); have n1_ := Aside0.mk (below_step (by repeat (first | (with_reducible first | exact HB.out | apply below_alloc | apply pw_below_drewN | apply below_drew1) | exact HB.out)) hb); clear HB; have HO103 := n0_; have HB := n1_; clear n0_ n1_; clear hb ho3; have hcv4 := own_string (P := Tryz.prog) Tryz.underlying92 Tryz.underlying5 Tryz.underlying9 (Kd.own_of_R HO103.out)))
 go_ret
 exact ⟨by first | rfl | (simp [errW_none, errW_some] <;> rfl) | (simp [*, errW_none, errW_some] <;> rfl), by repeat (first | (with_reducible first | exact HB.out | apply below_alloc | apply pw_below_drewN | apply below_drew1) | exact HB.out)⟩
def crcs_More.f (a0 : Int) (a1 : ByteArray) : Option Int := if 0 ≤ a0 ∧ a0 ≤ 16777215 ∧ a1.size ≤ 1000000 then some ((Go.Proofs.YtphdjpfdelpecaaGreatDoor.CrcA.msum a0.toNat a1 a1.size : Nat) : Int) else none
theorem crcs_More.calls (a0 : Int) (a1 : ByteArray) (r : Int) (w : World) (h : crcs_More.f a0 a1 = some r) :
  Calls Tryz.prog 145 #[.int .i64 a0, .string a1] w fun e w' => e = .returned (.int .i64 r) ∧ Below w.heap.size w w' := by
 unfold crcs_More.f at h
 split at h
 ·rename_i hc
  cases h
  obtain ⟨n, rfl⟩ := Int.eq_ofNat_of_zero_le hc.1
  exact Go.Proofs.YtphdjpfdelpecaaGreatDoor.CrcA.more_calls n a1 (by omega) hc.2.2 w
 ·cases h
def crcs_Sum.f (a0 : ByteArray) : Option (Int) := (crcs_More.f 11994318 a0).bind fun t104 => (some t104)
set_option maxHeartbeats 8000000 in
set_option maxRecDepth 100000 in
theorem crcs_Sum.calls (a0 : ByteArray) (r : Int) (w : World) (h : crcs_Sum.f a0 = some r) :
  Calls Tryz.prog 82 #[.string a0] w fun e w' => e = .returned (.int .i64 r) ∧ Below w.heap.size w w' := by
 have HB := Aside0.mk (Below.refl w.heap.size w)
 have H : ((crcs_More.f 11994318 a0).bind fun t104 => (some t104)) = some r := h
 clear h
 replace H := Option.bind_eq_some_iff.mp H
 obtain ⟨t104, A20, H⟩ := H
 replace H : (some t104) = some r := H
 have A2 := Aside0.mk A20
 clear A20
 obtain rfl := Option.some.inj H
 go_enter Tryz.func82, Tryz.ntmps82
 go_wp2_with (first | ((with_reducible refine gate_callee (f := 145) rfl ?_); refine goesL_ (some 4) rfl rfl Tryz.func145 (by kernel_rfl) rfl #[.int .i64 11994318, .string a0] rfl (by (try simp only [List.map_toArray, List.map_cons, List.map_nil]); first | done | rfl | (simp only [List.length_drop, List.length_take]; rfl)) ?_; (with_reducible refine (crcs_More.calls 11994318 a0 t104 _ A2.out).mono ?_); rintro e w3 ⟨rfl, hb⟩; refine ⟨_, rfl, ?_⟩; have n0_ := Aside0.mk (below_step (by repeat (first | (with_reducible first | exact HB.out | apply below_alloc | apply pw_below_drewN | apply below_drew1) | exact HB.out)) hb); clear HB; have HB := n0_; clear n0_; (try clear hb); (try clear hb2); (try clear hk); (try clear hi)))
 go_ret
 exact ⟨by first | rfl | (simp [errW_none, errW_some] <;> rfl) | (simp [*, errW_none, errW_some] <;> rfl), by repeat (first | (with_reducible first | exact HB.out | apply below_alloc | apply pw_below_drewN | apply below_drew1) | exact HB.out)⟩
def crcs_Seal.f (a0 : ByteArray) : Option (ByteArray) := (crcs_Sum.f a0).bind fun t105 => ((crcs_tail.f t105).bind fun t106 => (if a0.size + t106.size ≤ 9223372036854775807 then (some (a0 ++ t106)) else (none)))
set_option maxHeartbeats 8000000 in
set_option maxRecDepth 100000 in
theorem crcs_Seal.calls (a0 : ByteArray) (r : ByteArray) (w : World) (h : crcs_Seal.f a0 = some r) :
  Calls Tryz.prog 37 #[.string a0] w fun e w' => e = .returned (.string r) ∧ Below w.heap.size w w' := by
 have HB := Aside0.mk (Below.refl w.heap.size w)
 have H : ((crcs_Sum.f a0).bind fun t105 => ((crcs_tail.f t105).bind fun t106 => (if a0.size + t106.size ≤ 9223372036854775807 then (some (a0 ++ t106)) else (none)))) = some r := h
 clear h
 replace H := Option.bind_eq_some_iff.mp H
 obtain ⟨t105, A20, H⟩ := H
 replace H : ((crcs_tail.f t105).bind fun t106 => (if a0.size + t106.size ≤ 9223372036854775807 then (some (a0 ++ t106)) else (none))) = some r := H
 have A2 := Aside0.mk A20
 clear A20
 replace H := Option.bind_eq_some_iff.mp H
 obtain ⟨t106, A30, H⟩ := H
 replace H : (if a0.size + t106.size ≤ 9223372036854775807 then (some (a0 ++ t106)) else (none)) = some r := H
 have A3 := Aside0.mk A30
 clear A30
 by_cases c4 : a0.size + t106.size ≤ 9223372036854775807
 ·rw [if_pos c4] at H
  have c4b0 := eq_true c4
  have c4b1 : decide (a0.size + t106.size ≤ 9223372036854775807) = true := decide_eq_true c4
  try have c4b2 : (9223372036854775807 < a0.size + t106.size) = False := eq_false (Nat.not_lt.2 c4)
  obtain rfl := Option.some.inj H
  go_enter Tryz.func37, Tryz.ntmps37
  go_wp2_with (first | ((with_reducible refine gate_callee (f := 82) rfl ?_); refine goesL_ (some 5) rfl rfl Tryz.func82 (by kernel_rfl) rfl #[.string a0] rfl (by (try simp only [List.map_toArray, List.map_cons, List.map_nil]); first | done | rfl | (simp only [List.length_drop, List.length_take]; rfl)) ?_; (with_reducible refine (crcs_Sum.calls a0 t105 _ A2.out).mono ?_); rintro e w5 ⟨rfl, hb⟩; refine ⟨_, rfl, ?_⟩; have n0_ := Aside0.mk (below_step (by repeat (first | (with_reducible first | exact HB.out | apply below_alloc | apply pw_below_drewN | apply below_drew1) | exact HB.out)) hb); clear HB; have HB := n0_; clear n0_; (try clear hb); (try clear hb2); (try clear hk); (try clear hi)) | ((with_reducible refine gate_callee (f := 81) rfl ?_); refine goesL_ (some 6) rfl rfl Tryz.func81 (by kernel_rfl) rfl #[.int .i64 t105] rfl (by (try simp only [List.map_toArray, List.map_cons, List.map_nil]); first | done | rfl | (simp only [List.length_drop, List.length_take]; rfl)) ?_; (with_reducible refine (crcs_tail.calls t105 t106 _ A3.out).mono ?_); rintro e w6 ⟨rfl, hb⟩; refine ⟨_, rfl, ?_⟩; have n0_ := Aside0.mk (below_step (by repeat (first | (with_reducible first | exact HB.out | apply below_alloc | apply pw_below_drewN | apply below_drew1) | exact HB.out)) hb); clear HB; have HB := n0_; clear n0_; (try clear hb); (try clear hb2); (try clear hk); (try clear hi)))
  go_ret
  exact ⟨by first | rfl | (simp [errW_none, errW_some] <;> rfl) | (simp [*, errW_none, errW_some] <;> rfl), by repeat (first | (with_reducible first | exact HB.out | apply below_alloc | apply pw_below_drewN | apply below_drew1) | exact HB.out)⟩
 ·rw [if_neg c4] at H
  exact absurd H (by simp)
def pack_width.f (a0 : Int) : Option (Int) := if a0 > 16777215 then (some 4) else (if a0 > 65535 then (some 3) else (if a0 > 255 then (some 2) else (some 1)))
set_option maxHeartbeats 8000000 in
set_option maxRecDepth 100000 in
theorem pack_width.calls (a0 : Int) (r : Int) (w : World) (h : pack_width.f a0 = some r) :
  Calls Tryz.prog 148 #[.int .i64 a0] w fun e w' => e = .returned (.int .i64 r) ∧ Drawn0 w w' := by
 have H : (if a0 > 16777215 then (some 4) else (if a0 > 65535 then (some 3) else (if a0 > 255 then (some 2) else (some 1)))) = some r := h
 clear h
 by_cases c2 : a0 > 16777215
 ·rw [if_pos c2] at H
  have c2b0 : decide (16777215 < a0) = true := decide_eq_true c2
  clear c2
  obtain rfl := Option.some.inj H
  go_enter Tryz.func148, Tryz.ntmps148
  go_wp2
  go_ret
  exact ⟨by first | rfl | (simp; done) | (simp [*]; done), by repeat (first | exact Drawn0.refl _ | apply Drawn0.step)⟩
 ·rw [if_neg c2] at H
  have c2b0 : decide (16777215 < a0) = false := decide_eq_false c2
  clear c2
  by_cases c3 : a0 > 65535
  ·rw [if_pos c3] at H
   have c3b0 : decide (65535 < a0) = true := decide_eq_true c3
   clear c3
   obtain rfl := Option.some.inj H
   go_enter Tryz.func148, Tryz.ntmps148
   go_wp2
   go_ret
   exact ⟨by first | rfl | (simp; done) | (simp [*]; done), by repeat (first | exact Drawn0.refl _ | apply Drawn0.step)⟩
  ·rw [if_neg c3] at H
   have c3b0 : decide (65535 < a0) = false := decide_eq_false c3
   clear c3
   by_cases c4 : a0 > 255
   ·rw [if_pos c4] at H
    have c4b0 : decide (255 < a0) = true := decide_eq_true c4
    clear c4
    obtain rfl := Option.some.inj H
    go_enter Tryz.func148, Tryz.ntmps148
    go_wp2
    go_ret
    exact ⟨by first | rfl | (simp; done) | (simp [*]; done), by repeat (first | exact Drawn0.refl _ | apply Drawn0.step)⟩
   ·rw [if_neg c4] at H
    have c4b0 : decide (255 < a0) = false := decide_eq_false c4
    clear c4
    obtain rfl := Option.some.inj H
    go_enter Tryz.func148, Tryz.ntmps148
    go_wp2
    go_ret
    exact ⟨by first | rfl | (simp; done) | (simp [*]; done), by repeat (first | exact Drawn0.refl _ | apply Drawn0.step)⟩
def pack_Num.j0 : Nat → Int → Bool → Option (ByteArray × Int)
 | 0, _, _ => none
 | k + 1, x0, x11 => if x11 = true then (some ((⟨#[]⟩ : ByteArray), 1)) else (if x0 < 248 then (some (strOfNums (([(x0) % 256] : List Int)), 0)) else ((pack_width.f x0).bind fun t110 => ((some (([(wrap64 (247 + t110)) % 256] : List Int) : List Int)).bind fun y111 => (if t110 = 4 then (if y111.length < 140737488355328 then ((some (y111 ++ [(x0 / 16777216) % 256] : List Int)).bind fun y114 => (if y114.length < 140737488355328 then ((some (y114 ++ [(x0 / 65536) % 256] : List Int)).bind fun y117 => (if y117.length < 140737488355328 then ((some (y117 ++ [(x0 / 256) % 256] : List Int)).bind fun y120 => (if y120.length < 140737488355328 then (some (strOfNums (y120 ++ [(x0) % 256]), 0)) else (none))) else (none))) else (none))) else (none)) else (if t110 = 3 then (if y111.length < 140737488355328 then ((some (y111 ++ [(x0 / 65536) % 256] : List Int)).bind fun y126 => (if y126.length < 140737488355328 then ((some (y126 ++ [(x0 / 256) % 256] : List Int)).bind fun y129 => (if y129.length < 140737488355328 then (some (strOfNums (y129 ++ [(x0) % 256]), 0)) else (none))) else (none))) else (none)) else (if t110 = 2 then (if y111.length < 140737488355328 then ((some (y111 ++ [(x0 / 256) % 256] : List Int)).bind fun y135 => (if y135.length < 140737488355328 then (some (strOfNums (y135 ++ [(x0) % 256]), 0)) else (none))) else (none)) else (if y111.length < 140737488355328 then (some (strOfNums (y111 ++ [(x0) % 256]), 0)) else (none))))))))
def pack_Num.f (k : Nat) (a0 : Int) : Option (ByteArray × Int) := if a0 < 0 then (pack_Num.j0 k a0 true) else (pack_Num.j0 k a0 (decide (a0 > 4294967295)))
theorem pack_Num.mono_l : ∀ k, (∀ y0 y1, LeO (pack_Num.j0 k y0 y1) (pack_Num.j0 (k + 1) y0 y1))
 | 0 => fun _ _ r h => by simp [pack_Num.j0] at h
 | k + 1 => by
  have ih0 := pack_Num.mono_l k
  ·intro y0 y1
   unfold pack_Num.j0
   repeat' first
   | (with_reducible exact ih0 _ _)
   | (with_reducible exact LeO.refl _)
   | (with_reducible exact LeO.none _)
   | (with_reducible refine LeO.ite ?_ ?_)
   | (with_reducible refine LeO.bind ?_ (fun _ => ?_))
   | exact ih0 _ _
   | exact LeO.none _
   | refine LeO.ite ?_ ?_
   | refine LeO.bind ?_ (fun _ => ?_)
theorem pack_Num.mono : ∀ a0 k, LeO (pack_Num.f k a0) (pack_Num.f (k + 1) a0) := by
 intro a0 k
 have ih0 := pack_Num.mono_l k
 unfold pack_Num.f
 repeat' first
   | (with_reducible exact ih0 _ _)
   | (with_reducible exact LeO.refl _)
   | (with_reducible exact LeO.none _)
   | (with_reducible refine LeO.ite ?_ ?_)
   | (with_reducible refine LeO.bind ?_ (fun _ => ?_))
   | exact ih0 _ _
   | exact LeO.none _
   | refine LeO.ite ?_ ?_
   | refine LeO.bind ?_ (fun _ => ?_)
set_option maxHeartbeats 8000000 in
set_option maxRecDepth 100000 in
theorem pack_Num.calls (k : Nat) (a0 : Int) (r1 : ByteArray) (r2 : Int) (w : World) (h : pack_Num.f k a0 = some (r1, r2)) :
  Calls Tryz.prog 92 #[.int .i64 a0] w fun e w' => e = .returned (.tuple #[.string r1, .int .i64 r2]) ∧ Below w.heap.size w w' := by
 have HB := Aside0.mk (Below.refl w.heap.size w)
 have H : (if a0 < 0 then (pack_Num.j0 k a0 true) else (pack_Num.j0 k a0 (decide (a0 > 4294967295)))) = some (r1, r2) := h
 clear h
 have HC2 := Aside0.mk H
 clear H
 go_enter Tryz.func92, Tryz.ntmps92
 go_upto_region 1 with (fail)
 go_cut [11] (fun v11 wc => ∃ (kq : Nat) (x11_1 : Bool), v11 = .bool x11_1 ∧ Aside0 (pack_Num.j0 kq a0 x11_1 = some (r1, r2)) ∧ Aside0 (kq ≤ k) ∧ Aside0 (Below w.heap.size w wc))
 case first =>
  have H := HC2.out
  clear HC2
  by_cases c3 : a0 < 0
  ·rw [if_pos c3] at H
   have c3b0 : decide (a0 < 0) = true := decide_eq_true c3
   clear c3
   (first | rw [c3b0] | (simp only [i64_w, i32_w]; rw [c3b0]) | skip)
   have H' := Aside0.mk H
   clear H
   go_wp2
   go_meet
   case rel => exact ⟨_, (true), (by first | rfl | (simp; done) | (simp [*]; done)), H', ⟨by first | omega | exact Nat.le_refl _⟩, ⟨by repeat (first | (with_reducible first | exact HB.out | apply below_alloc | apply pw_below_drewN | apply below_drew1) | exact HB.out)⟩⟩
  ·rw [if_neg c3] at H
   have c3b0 : decide (a0 < 0) = false := decide_eq_false c3
   clear c3
   (first | rw [c3b0] | (simp only [i64_w, i32_w]; rw [c3b0]) | skip)
   have H' := Aside0.mk H
   clear H
   go_wp2
   go_meet
   case rel => exact ⟨_, (decide (a0 > 4294967295)), (by first | rfl | (simp; done) | (simp [*]; done)), H', ⟨by first | omega | exact Nat.le_refl _⟩, ⟨by repeat (first | (with_reducible first | exact HB.out | apply below_alloc | apply pw_below_drewN | apply below_drew1) | exact HB.out)⟩⟩
 case rest =>
  clear HC2
  try clear p2
  try clear c3
  try clear c3b0
  obtain ⟨kq, x11_1, rfl, HA, HJ1, HB⟩ := hcut
  cases kq with
  | zero => exact absurd HA.out (by simp [pack_Num.j0])
  | succ kj1 =>
   have H := HA.out
   clear HA
   simp only [pack_Num.j0] at H
   by_cases c4 : x11_1 = true
   ·subst c4
    have H1 : (some ((⟨#[]⟩ : ByteArray), 1)) = some (r1, r2) := by rw [if_pos rfl] at H; exact H
    clear H
    have H := H1
    clear H1
    simp only [Option.some.injEq, Prod.mk.injEq] at H
    obtain ⟨rfl, rfl⟩ := H
    go_wp2
    go_ret2
    exact ⟨by first | rfl | (simp [errW_none, errW_some] <;> rfl) | (simp [*, errW_none, errW_some] <;> rfl), by repeat (first | (with_reducible first | exact HB.out | apply below_alloc | apply pw_below_drewN | apply below_drew1) | exact HB.out)⟩
   ·replace c4 := Bool.eq_false_iff.mpr c4
    subst c4
    have H1 : (if a0 < 248 then (some (strOfNums (([(a0) % 256] : List Int)), 0)) else ((pack_width.f a0).bind fun t110 => ((some (([(wrap64 (247 + t110)) % 256] : List Int) : List Int)).bind fun y111 => (if t110 = 4 then (if y111.length < 140737488355328 then ((some (y111 ++ [(a0 / 16777216) % 256] : List Int)).bind fun y114 => (if y114.length < 140737488355328 then ((some (y114 ++ [(a0 / 65536) % 256] : List Int)).bind fun y117 => (if y117.length < 140737488355328 then ((some (y117 ++ [(a0 / 256) % 256] : List Int)).bind fun y120 => (if y120.length < 140737488355328 then (some (strOfNums (y120 ++ [(a0) % 256]), 0)) else (none))) else (none))) else (none))) else (none)) else (if t110 = 3 then (if y111.length < 140737488355328 then ((some (y111 ++ [(a0 / 65536) % 256] : List Int)).bind fun y126 => (if y126.length < 140737488355328 then ((some (y126 ++ [(a0 / 256) % 256] : List Int)).bind fun y129 => (if y129.length < 140737488355328 then (some (strOfNums (y129 ++ [(a0) % 256]), 0)) else (none))) else (none))) else (none)) else (if t110 = 2 then (if y111.length < 140737488355328 then ((some (y111 ++ [(a0 / 256) % 256] : List Int)).bind fun y135 => (if y135.length < 140737488355328 then (some (strOfNums (y135 ++ [(a0) % 256]), 0)) else (none))) else (none)) else (if y111.length < 140737488355328 then (some (strOfNums (y111 ++ [(a0) % 256]), 0)) else (none)))))))) = some (r1, r2) := by rw [if_neg (show ¬ (false = true) by decide)] at H; exact H
    clear H
    have H := H1
    clear H1
    by_cases c5 : a0 < 248
    ·rw [if_pos c5] at H
     have c5b0 : decide (a0 < 248) = true := decide_eq_true c5
     clear c5
     obtain ⟨y107, hy107⟩ : ∃ y_ : List Int, y_ = (([(a0) % 256] : List Int)) := ⟨_, rfl⟩
     replace H : (some (strOfNums y107, 0)) = some (r1, r2) := by first | (rw [hy107]; with_reducible exact H) | (have H2_ := (Option.bind_some _ _).symm.trans H; rw [hy107]; with_reducible exact H2_) | (have H2_ := (Option.bind_some _ _).symm.trans H; with_reducible exact H2_) | with_reducible exact H | (rw [hy107]; exact H) | exact H
     have Ny107 := Aside0.mk hy107
     clear hy107
     simp only [Option.some.injEq, Prod.mk.injEq] at H
     obtain ⟨rfl, rfl⟩ := H
     go_wp2_with (first | ((with_reducible refine gate_dst (N := 16) rfl ?_); refine Kd.R_lit (Kd.int .u8) _ 5 ?hg (N := 16) ?hd (xs := ([(a0) % 256] : List Int)) (inner := [.int .u8 ((a0) % 256)]) (ok := fun _ => True) (okp := fun _ => True) ?hr ?hp (fun _ hk => hk) trivial (Below.refl _ _) (Nat.le_refl _) (by simp) ?_; (case hd => rfl); (case hg => rfl); (case hr => first | (go_simp; done) | (go_simp; rfl)); (case hp => exact (Reps.one (show Kd.M (Kd.int .u8) _ _ _ ((a0) % 256) [.int .u8 ((a0) % 256)] from rfl) (Reps.none _ _))); intro v108 w6 ho7 hb hg_ hnew_; clear hg_ hnew_; (first | rw [← Ny107.out] at ho7 | (simp only [Int.reduceToNat] at ho7; rw [← Ny107.out] at ho7)); have n0_ := Aside0.mk (Kd.R_lower ho7 (below_size (by repeat (first | (with_reducible first | exact HB.out | apply below_alloc | apply pw_below_drewN | apply below_drew1) | exact HB.out)))); have n1_ := Aside0.mk (below_step (by repeat (first | (with_reducible first | exact HB.out | apply below_alloc | apply pw_below_drewN | apply below_drew1) | exact HB.out)) hb); clear HB; have HO109 := n0_; have HB := n1_; clear n0_ n1_; clear hb ho7; have hcv8 := own_string (P := Tryz.prog) Tryz.underlying92 Tryz.underlying5 Tryz.underlying9 (Kd.own_of_R HO109.out)))
     go_ret2
     exact ⟨by first | rfl | (simp [errW_none, errW_some] <;> rfl) | (simp [*, errW_none, errW_some] <;> rfl), by repeat (first | (with_reducible first | exact HB.out | apply below_alloc | apply pw_below_drewN | apply below_drew1) | exact HB.out)⟩
    ·rw [if_neg c5] at H
     have c5b0 : decide (a0 < 248) = false := decide_eq_false c5
     clear c5
     replace H := Option.bind_eq_some_iff.mp H
     obtain ⟨t110, A90, H⟩ := H
     replace H : ((some (([(wrap64 (247 + t110)) % 256] : List Int) : List Int)).bind fun y111 => (if t110 = 4 then (if y111.length < 140737488355328 then ((some (y111 ++ [(a0 / 16777216) % 256] : List Int)).bind fun y114 => (if y114.length < 140737488355328 then ((some (y114 ++ [(a0 / 65536) % 256] : List Int)).bind fun y117 => (if y117.length < 140737488355328 then ((some (y117 ++ [(a0 / 256) % 256] : List Int)).bind fun y120 => (if y120.length < 140737488355328 then (some (strOfNums (y120 ++ [(a0) % 256]), 0)) else (none))) else (none))) else (none))) else (none)) else (if t110 = 3 then (if y111.length < 140737488355328 then ((some (y111 ++ [(a0 / 65536) % 256] : List Int)).bind fun y126 => (if y126.length < 140737488355328 then ((some (y126 ++ [(a0 / 256) % 256] : List Int)).bind fun y129 => (if y129.length < 140737488355328 then (some (strOfNums (y129 ++ [(a0) % 256]), 0)) else (none))) else (none))) else (none)) else (if t110 = 2 then (if y111.length < 140737488355328 then ((some (y111 ++ [(a0 / 256) % 256] : List Int)).bind fun y135 => (if y135.length < 140737488355328 then (some (strOfNums (y135 ++ [(a0) % 256]), 0)) else (none))) else (none)) else (if y111.length < 140737488355328 then (some (strOfNums (y111 ++ [(a0) % 256]), 0)) else (none)))))) = some (r1, r2) := H
     have A9 := Aside0.mk A90
     clear A90
     obtain ⟨y111, hy111⟩ : ∃ y_ : List Int, y_ = (([(wrap64 (247 + t110)) % 256] : List Int)) := ⟨_, rfl⟩
     replace H : (if t110 = 4 then (if y111.length < 140737488355328 then ((some (y111 ++ [(a0 / 16777216) % 256] : List Int)).bind fun y114 => (if y114.length < 140737488355328 then ((some (y114 ++ [(a0 / 65536) % 256] : List Int)).bind fun y117 => (if y117.length < 140737488355328 then ((some (y117 ++ [(a0 / 256) % 256] : List Int)).bind fun y120 => (if y120.length < 140737488355328 then (some (strOfNums (y120 ++ [(a0) % 256]), 0)) else (none))) else (none))) else (none))) else (none)) else (if t110 = 3 then (if y111.length < 140737488355328 then ((some (y111 ++ [(a0 / 65536) % 256] : List Int)).bind fun y126 => (if y126.length < 140737488355328 then ((some (y126 ++ [(a0 / 256) % 256] : List Int)).bind fun y129 => (if y129.length < 140737488355328 then (some (strOfNums (y129 ++ [(a0) % 256]), 0)) else (none))) else (none))) else (none)) else (if t110 = 2 then (if y111.length < 140737488355328 then ((some (y111 ++ [(a0 / 256) % 256] : List Int)).bind fun y135 => (if y135.length < 140737488355328 then (some (strOfNums (y135 ++ [(a0) % 256]), 0)) else (none))) else (none)) else (if y111.length < 140737488355328 then (some (strOfNums (y111 ++ [(a0) % 256]), 0)) else (none))))) = some (r1, r2) := by first | (rw [hy111]; with_reducible exact H) | (have H2_ := (Option.bind_some _ _).symm.trans H; rw [hy111]; with_reducible exact H2_) | (have H2_ := (Option.bind_some _ _).symm.trans H; with_reducible exact H2_) | with_reducible exact H | (rw [hy111]; exact H) | exact H
     have Ny111 := Aside0.mk hy111
     clear hy111
     by_cases c10 : t110 = 4
     ·rw [if_pos c10] at H
      have c10b0 : (t110 == 4) = true := beq_iff_eq.mpr c10
      have c10b1 : (t110 != 4) = false := bne_eq_false_iff_eq.mpr c10
      clear c10
      by_cases c11 : y111.length < 140737488355328
      ·rw [if_pos c11] at H
       have LMc11 := Aside0.mk c11
       clear c11
       obtain ⟨y114, hy114⟩ : ∃ y_ : List Int, y_ = (y111 ++ [(a0 / 16777216) % 256]) := ⟨_, rfl⟩
       replace H : (if y114.length < 140737488355328 then ((some (y114 ++ [(a0 / 65536) % 256] : List Int)).bind fun y117 => (if y117.length < 140737488355328 then ((some (y117 ++ [(a0 / 256) % 256] : List Int)).bind fun y120 => (if y120.length < 140737488355328 then (some (strOfNums (y120 ++ [(a0) % 256]), 0)) else (none))) else (none))) else (none)) = some (r1, r2) := by first | (rw [hy114]; with_reducible exact H) | (have H2_ := (Option.bind_some _ _).symm.trans H; rw [hy114]; with_reducible exact H2_) | (have H2_ := (Option.bind_some _ _).symm.trans H; with_reducible exact H2_) | with_reducible exact H | (rw [hy114]; exact H) | exact H
       have Ny114 := Aside0.mk hy114
       clear hy114
       by_cases c12 : y114.length < 140737488355328
       ·rw [if_pos c12] at H
        have LMc12 := Aside0.mk c12
        clear c12
        obtain ⟨y117, hy117⟩ : ∃ y_ : List Int, y_ = (y114 ++ [(a0 / 65536) % 256]) := ⟨_, rfl⟩
        replace H : (if y117.length < 140737488355328 then ((some (y117 ++ [(a0 / 256) % 256] : List Int)).bind fun y120 => (if y120.length < 140737488355328 then (some (strOfNums (y120 ++ [(a0) % 256]), 0)) else (none))) else (none)) = some (r1, r2) := by first | (rw [hy117]; with_reducible exact H) | (have H2_ := (Option.bind_some _ _).symm.trans H; rw [hy117]; with_reducible exact H2_) | (have H2_ := (Option.bind_some _ _).symm.trans H; with_reducible exact H2_) | with_reducible exact H | (rw [hy117]; exact H) | exact H
        have Ny117 := Aside0.mk hy117
        clear hy117
        by_cases c13 : y117.length < 140737488355328
        ·rw [if_pos c13] at H
         have LMc13 := Aside0.mk c13
         clear c13
         obtain ⟨y120, hy120⟩ : ∃ y_ : List Int, y_ = (y117 ++ [(a0 / 256) % 256]) := ⟨_, rfl⟩
         replace H : (if y120.length < 140737488355328 then (some (strOfNums (y120 ++ [(a0) % 256]), 0)) else (none)) = some (r1, r2) := by first | (rw [hy120]; with_reducible exact H) | (have H2_ := (Option.bind_some _ _).symm.trans H; rw [hy120]; with_reducible exact H2_) | (have H2_ := (Option.bind_some _ _).symm.trans H; with_reducible exact H2_) | with_reducible exact H | (rw [hy120]; exact H) | exact H
         have Ny120 := Aside0.mk hy120
         clear hy120
         by_cases c14 : y120.length < 140737488355328
         ·rw [if_pos c14] at H
          have LMc14 := Aside0.mk c14
          clear c14
          obtain ⟨y123, hy123⟩ : ∃ y_ : List Int, y_ = (y120 ++ [(a0) % 256]) := ⟨_, rfl⟩
          replace H : (some (strOfNums y123, 0)) = some (r1, r2) := by first | (rw [hy123]; with_reducible exact H) | (have H2_ := (Option.bind_some _ _).symm.trans H; rw [hy123]; with_reducible exact H2_) | (have H2_ := (Option.bind_some _ _).symm.trans H; with_reducible exact H2_) | with_reducible exact H | (rw [hy123]; exact H) | exact H
          have Ny123 := Aside0.mk hy123
          clear hy123
          simp only [Option.some.injEq, Prod.mk.injEq] at H
          obtain ⟨rfl, rfl⟩ := H
          go_wp2_with (first | ((with_reducible refine gate_callee (f := 148) rfl ?_); refine goesL_ (some 19) rfl rfl Tryz.func148 (by kernel_rfl) rfl #[.int .i64 a0] rfl (by (try simp only [List.map_toArray, List.map_cons, List.map_nil]); first | done | rfl | (simp only [List.length_drop, List.length_take]; rfl)) ?_; (with_reducible refine (pack_width.calls a0 t110 _ A9.out).mono ?_); rintro e w' ⟨rfl, ⟨nd, rfl⟩⟩; refine ⟨_, rfl, ?_⟩) | ((with_reducible refine gate_dst (N := 23) rfl ?_); refine Kd.R_lit (Kd.int .u8) _ 5 ?hg (N := 23) ?hd (xs := ([(wrap64 (247 + t110)) % 256] : List Int)) (inner := [.int .u8 ((wrap64 (247 + t110)) % 256)]) (ok := fun _ => True) (okp := fun _ => True) ?hr ?hp (fun _ hk => hk) trivial (Below.refl _ _) (Nat.le_refl _) (by simp) ?_; (case hd => rfl); (case hg => rfl); (case hr => first | (go_simp; done) | (go_simp; rfl)); (case hp => exact (Reps.one (show Kd.M (Kd.int .u8) _ _ _ ((wrap64 (247 + t110)) % 256) [.int .u8 ((wrap64 (247 + t110)) % 256)] from rfl) (Reps.none _ _))); intro v112 w15 ho16 hb hg_ hnew_; clear hg_ hnew_; (first | rw [← Ny111.out] at ho16 | (simp only [Int.reduceToNat] at ho16; rw [← Ny111.out] at ho16)); have n0_ := Aside0.mk (Kd.R_lower ho16 (below_size (by repeat (first | (with_reducible first | exact HB.out | apply below_alloc | apply pw_below_drewN | apply below_drew1) | exact HB.out)))); have n1_ := Aside0.mk (below_step (by repeat (first | (with_reducible first | exact HB.out | apply below_alloc | apply pw_below_drewN | apply below_drew1) | exact HB.out)) hb); clear HB; have HO113 := n0_; have HB := n1_; clear n0_ n1_; clear hb ho16) | ((with_reducible refine gate_builtin (b := .append) (xs := #[.tmp 31, .tmp 35]) rfl ?_); at_builtin; refine Kd.R_append (Kd.int .u8) (w0 := w) w.heap.size rfl (.tmp 31) (.tmp 35) 92 5 (.int .u8 0) 1 rfl Tryz.underlying92 info5 rfl (by decide) (by omega) v112 y111 ((a0 / 16777216) % 256) [.int .u8 ((a0 / 16777216) % 256)] (fun _ => True) (fun _ => False) rfl rfl ?aP (fun _ hk => hk.elim) ?aF ?aO ?aB ?aS ?aL ?_; (case aP => exact rfl); (case aB => exact (by repeat (first | (with_reducible first | exact HB.out | apply below_alloc | apply pw_below_drewN | apply below_drew1) | exact HB.out))); (case aF => exact (fun _ _ => trivial)); (case aO => exact (by (with_reducible repeat (first | apply Kd.R_alloc | apply Kd.R_drewN | apply Kd.R_drew)); exact HO113.out)); (case aS => exact (below_size (by repeat (first | (with_reducible first | exact HB.out | apply below_alloc | apply pw_below_drewN | apply below_drew1) | exact HB.out)))); (case aL => have := LMc11.out; omega); intro v115 w17 ho hb hg hat; rw [← Ny114.out] at ho; have n0_ := Aside0.mk (hb); have n1_ := Aside0.mk (ho); clear HB; clear HO113; have HB := n0_; have HO116 := n1_; clear n0_ n1_; clear ho hb hg hat) | ((with_reducible refine gate_builtin (b := .append) (xs := #[.tmp 37, .tmp 41]) rfl ?_); at_builtin; refine Kd.R_append (Kd.int .u8) (w0 := w) w.heap.size rfl (.tmp 37) (.tmp 41) 92 5 (.int .u8 0) 1 rfl Tryz.underlying92 info5 rfl (by decide) (by omega) v115 y114 ((a0 / 65536) % 256) [.int .u8 ((a0 / 65536) % 256)] (fun _ => True) (fun _ => False) rfl rfl ?aP (fun _ hk => hk.elim) ?aF ?aO ?aB ?aS ?aL ?_; (case aP => exact rfl); (case aB => exact (by repeat (first | (with_reducible first | exact HB.out | apply below_alloc | apply pw_below_drewN | apply below_drew1) | exact HB.out))); (case aF => exact (fun _ _ => trivial)); (case aO => exact (by (with_reducible repeat (first | apply Kd.R_alloc | apply Kd.R_drewN | apply Kd.R_drew)); exact HO116.out)); (case aS => exact (below_size (by repeat (first | (with_reducible first | exact HB.out | apply below_alloc | apply pw_below_drewN | apply below_drew1) | exact HB.out)))); (case aL => have := LMc12.out; omega); intro v118 w18 ho hb hg hat; rw [← Ny117.out] at ho; have n0_ := Aside0.mk (hb); have n1_ := Aside0.mk (ho); clear HB; clear HO116; have HB := n0_; have HO119 := n1_; clear n0_ n1_; clear ho hb hg hat) | ((with_reducible refine gate_builtin (b := .append) (xs := #[.tmp 43, .tmp 47]) rfl ?_); at_builtin; refine Kd.R_append (Kd.int .u8) (w0 := w) w.heap.size rfl (.tmp 43) (.tmp 47) 92 5 (.int .u8 0) 1 rfl Tryz.underlying92 info5 rfl (by decide) (by omega) v118 y117 ((a0 / 256) % 256) [.int .u8 ((a0 / 256) % 256)] (fun _ => True) (fun _ => False) rfl rfl ?aP (fun _ hk => hk.elim) ?aF ?aO ?aB ?aS ?aL ?_; (case aP => exact rfl); (case aB => exact (by repeat (first | (with_reducible first | exact HB.out | apply below_alloc | apply pw_below_drewN | apply below_drew1) | exact HB.out))); (case aF => exact (fun _ _ => trivial)); (case aO => exact (by (with_reducible repeat (first | apply Kd.R_alloc | apply Kd.R_drewN | apply Kd.R_drew)); exact HO119.out)); (case aS => exact (below_size (by repeat (first | (with_reducible first | exact HB.out | apply below_alloc | apply pw_below_drewN | apply below_drew1) | exact HB.out)))); (case aL => have := LMc13.out; omega); intro v121 w19 ho hb hg hat; rw [← Ny120.out] at ho; have n0_ := Aside0.mk (hb); have n1_ := Aside0.mk (ho); clear HB; clear HO119; have HB := n0_; have HO122 := n1_; clear n0_ n1_; clear ho hb hg hat) | ((with_reducible refine gate_builtin (b := .append) (xs := #[.tmp 49, .tmp 52]) rfl ?_); at_builtin; refine Kd.R_append (Kd.int .u8) (w0 := w) w.heap.size rfl (.tmp 49) (.tmp 52) 92 5 (.int .u8 0) 1 rfl Tryz.underlying92 info5 rfl (by decide) (by omega) v121 y120 ((a0) % 256) [.int .u8 ((a0) % 256)] (fun _ => True) (fun _ => False) rfl rfl ?aP (fun _ hk => hk.elim) ?aF ?aO ?aB ?aS ?aL ?_; (case aP => exact rfl); (case aB => exact (by repeat (first | (with_reducible first | exact HB.out | apply below_alloc | apply pw_below_drewN | apply below_drew1) | exact HB.out))); (case aF => exact (fun _ _ => trivial)); (case aO => exact (by (with_reducible repeat (first | apply Kd.R_alloc | apply Kd.R_drewN | apply Kd.R_drew)); exact HO122.out)); (case aS => exact (below_size (by repeat (first | (with_reducible first | exact HB.out | apply below_alloc | apply pw_below_drewN | apply below_drew1) | exact HB.out)))); (case aL => have := LMc14.out; omega); intro v124 w20 ho hb hg hat; rw [← Ny123.out] at ho; have n0_ := Aside0.mk (hb); have n1_ := Aside0.mk (ho); clear HB; clear HO122; have HB := n0_; have HO125 := n1_; clear n0_ n1_; clear ho hb hg hat; have hcv21 := own_string (P := Tryz.prog) Tryz.underlying92 Tryz.underlying5 Tryz.underlying9 (Kd.own_of_R HO125.out)))
          go_ret2
          exact ⟨by first | rfl | (simp [errW_none, errW_some] <;> rfl) | (simp [*, errW_none, errW_some] <;> rfl), by repeat (first | (with_reducible first | exact HB.out | apply below_alloc | apply pw_below_drewN | apply below_drew1) | exact HB.out)⟩
         ·rw [if_neg c14] at H
          exact absurd H (by simp)
        ·rw [if_neg c13] at H
         exact absurd H (by simp)
       ·rw [if_neg c12] at H
        exact absurd H (by simp)
      ·rw [if_neg c11] at H
       exact absurd H (by simp)
     ·rw [if_neg c10] at H
      have c10b0 : (t110 == 4) = false := beq_eq_false_iff_ne.mpr c10
      have c10b1 : (t110 != 4) = true := bne_iff_ne.mpr c10
      by_cases c22 : t110 = 3
      ·rw [if_pos c22] at H
       have c22b0 : (t110 == 3) = true := beq_iff_eq.mpr c22
       have c22b1 : (t110 != 3) = false := bne_eq_false_iff_eq.mpr c22
       clear c22
       by_cases c23 : y111.length < 140737488355328
       ·rw [if_pos c23] at H
        have LMc23 := Aside0.mk c23
        clear c23
        obtain ⟨y126, hy126⟩ : ∃ y_ : List Int, y_ = (y111 ++ [(a0 / 65536) % 256]) := ⟨_, rfl⟩
        replace H : (if y126.length < 140737488355328 then ((some (y126 ++ [(a0 / 256) % 256] : List Int)).bind fun y129 => (if y129.length < 140737488355328 then (some (strOfNums (y129 ++ [(a0) % 256]), 0)) else (none))) else (none)) = some (r1, r2) := by first | (rw [hy126]; with_reducible exact H) | (have H2_ := (Option.bind_some _ _).symm.trans H; rw [hy126]; with_reducible exact H2_) | (have H2_ := (Option.bind_some _ _).symm.trans H; with_reducible exact H2_) | with_reducible exact H | (rw [hy126]; exact H) | exact H
        have Ny126 := Aside0.mk hy126
        clear hy126
        by_cases c24 : y126.length < 140737488355328
        ·rw [if_pos c24] at H
         have LMc24 := Aside0.mk c24
         clear c24
         obtain ⟨y129, hy129⟩ : ∃ y_ : List Int, y_ = (y126 ++ [(a0 / 256) % 256]) := ⟨_, rfl⟩
         replace H : (if y129.length < 140737488355328 then (some (strOfNums (y129 ++ [(a0) % 256]), 0)) else (none)) = some (r1, r2) := by first | (rw [hy129]; with_reducible exact H) | (have H2_ := (Option.bind_some _ _).symm.trans H; rw [hy129]; with_reducible exact H2_) | (have H2_ := (Option.bind_some _ _).symm.trans H; with_reducible exact H2_) | with_reducible exact H | (rw [hy129]; exact H) | exact H
         have Ny129 := Aside0.mk hy129
         clear hy129
         by_cases c25 : y129.length < 140737488355328
         ·rw [if_pos c25] at H
          have LMc25 := Aside0.mk c25
          clear c25
          obtain ⟨y132, hy132⟩ : ∃ y_ : List Int, y_ = (y129 ++ [(a0) % 256]) := ⟨_, rfl⟩
          replace H : (some (strOfNums y132, 0)) = some (r1, r2) := by first | (rw [hy132]; with_reducible exact H) | (have H2_ := (Option.bind_some _ _).symm.trans H; rw [hy132]; with_reducible exact H2_) | (have H2_ := (Option.bind_some _ _).symm.trans H; with_reducible exact H2_) | with_reducible exact H | (rw [hy132]; exact H) | exact H
          have Ny132 := Aside0.mk hy132
          clear hy132
          simp only [Option.some.injEq, Prod.mk.injEq] at H
          obtain ⟨rfl, rfl⟩ := H
          go_wp2_with (first | ((with_reducible refine gate_callee (f := 148) rfl ?_); refine goesL_ (some 19) rfl rfl Tryz.func148 (by kernel_rfl) rfl #[.int .i64 a0] rfl (by (try simp only [List.map_toArray, List.map_cons, List.map_nil]); first | done | rfl | (simp only [List.length_drop, List.length_take]; rfl)) ?_; (with_reducible refine (pack_width.calls a0 t110 _ A9.out).mono ?_); rintro e w' ⟨rfl, ⟨nd, rfl⟩⟩; refine ⟨_, rfl, ?_⟩) | ((with_reducible refine gate_dst (N := 23) rfl ?_); refine Kd.R_lit (Kd.int .u8) _ 5 ?hg (N := 23) ?hd (xs := ([(wrap64 (247 + t110)) % 256] : List Int)) (inner := [.int .u8 ((wrap64 (247 + t110)) % 256)]) (ok := fun _ => True) (okp := fun _ => True) ?hr ?hp (fun _ hk => hk) trivial (Below.refl _ _) (Nat.le_refl _) (by simp) ?_; (case hd => rfl); (case hg => rfl); (case hr => first | (go_simp; done) | (go_simp; rfl)); (case hp => exact (Reps.one (show Kd.M (Kd.int .u8) _ _ _ ((wrap64 (247 + t110)) % 256) [.int .u8 ((wrap64 (247 + t110)) % 256)] from rfl) (Reps.none _ _))); intro v112 w26 ho27 hb hg_ hnew_; clear hg_ hnew_; (first | rw [← Ny111.out] at ho27 | (simp only [Int.reduceToNat] at ho27; rw [← Ny111.out] at ho27)); have n0_ := Aside0.mk (Kd.R_lower ho27 (below_size (by repeat (first | (with_reducible first | exact HB.out | apply below_alloc | apply pw_below_drewN | apply below_drew1) | exact HB.out)))); have n1_ := Aside0.mk (below_step (by repeat (first | (with_reducible first | exact HB.out | apply below_alloc | apply pw_below_drewN | apply below_drew1) | exact HB.out)) hb); clear HB; have HO113 := n0_; have HB := n1_; clear n0_ n1_; clear hb ho27) | ((with_reducible refine gate_builtin (b := .append) (xs := #[.tmp 37, .tmp 41]) rfl ?_); at_builtin; refine Kd.R_append (Kd.int .u8) (w0 := w) w.heap.size rfl (.tmp 37) (.tmp 41) 92 5 (.int .u8 0) 1 rfl Tryz.underlying92 info5 rfl (by decide) (by omega) v112 y111 ((a0 / 65536) % 256) [.int .u8 ((a0 / 65536) % 256)] (fun _ => True) (fun _ => False) rfl rfl ?aP (fun _ hk => hk.elim) ?aF ?aO ?aB ?aS ?aL ?_; (case aP => exact rfl); (case aB => exact (by repeat (first | (with_reducible first | exact HB.out | apply below_alloc | apply pw_below_drewN | apply below_drew1) | exact HB.out))); (case aF => exact (fun _ _ => trivial)); (case aO => exact (by (with_reducible repeat (first | apply Kd.R_alloc | apply Kd.R_drewN | apply Kd.R_drew)); exact HO113.out)); (case aS => exact (below_size (by repeat (first | (with_reducible first | exact HB.out | apply below_alloc | apply pw_below_drewN | apply below_drew1) | exact HB.out)))); (case aL => have := LMc23.out; omega); intro v127 w28 ho hb hg hat; rw [← Ny126.out] at ho; have n0_ := Aside0.mk (hb); have n1_ := Aside0.mk (ho); clear HB; clear HO113; have HB := n0_; have HO128 := n1_; clear n0_ n1_; clear ho hb hg hat) | ((with_reducible refine gate_builtin (b := .append) (xs := #[.tmp 43, .tmp 47]) rfl ?_); at_builtin; refine Kd.R_append (Kd.int .u8) (w0 := w) w.heap.size rfl (.tmp 43) (.tmp 47) 92 5 (.int .u8 0) 1 rfl Tryz.underlying92 info5 rfl (by decide) (by omega) v127 y126 ((a0 / 256) % 256) [.int .u8 ((a0 / 256) % 256)] (fun _ => True) (fun _ => False) rfl rfl ?aP (fun _ hk => hk.elim) ?aF ?aO ?aB ?aS ?aL ?_; (case aP => exact rfl); (case aB => exact (by repeat (first | (with_reducible first | exact HB.out | apply below_alloc | apply pw_below_drewN | apply below_drew1) | exact HB.out))); (case aF => exact (fun _ _ => trivial)); (case aO => exact (by (with_reducible repeat (first | apply Kd.R_alloc | apply Kd.R_drewN | apply Kd.R_drew)); exact HO128.out)); (case aS => exact (below_size (by repeat (first | (with_reducible first | exact HB.out | apply below_alloc | apply pw_below_drewN | apply below_drew1) | exact HB.out)))); (case aL => have := LMc24.out; omega); intro v130 w29 ho hb hg hat; rw [← Ny129.out] at ho; have n0_ := Aside0.mk (hb); have n1_ := Aside0.mk (ho); clear HB; clear HO128; have HB := n0_; have HO131 := n1_; clear n0_ n1_; clear ho hb hg hat) | ((with_reducible refine gate_builtin (b := .append) (xs := #[.tmp 49, .tmp 52]) rfl ?_); at_builtin; refine Kd.R_append (Kd.int .u8) (w0 := w) w.heap.size rfl (.tmp 49) (.tmp 52) 92 5 (.int .u8 0) 1 rfl Tryz.underlying92 info5 rfl (by decide) (by omega) v130 y129 ((a0) % 256) [.int .u8 ((a0) % 256)] (fun _ => True) (fun _ => False) rfl rfl ?aP (fun _ hk => hk.elim) ?aF ?aO ?aB ?aS ?aL ?_; (case aP => exact rfl); (case aB => exact (by repeat (first | (with_reducible first | exact HB.out | apply below_alloc | apply pw_below_drewN | apply below_drew1) | exact HB.out))); (case aF => exact (fun _ _ => trivial)); (case aO => exact (by (with_reducible repeat (first | apply Kd.R_alloc | apply Kd.R_drewN | apply Kd.R_drew)); exact HO131.out)); (case aS => exact (below_size (by repeat (first | (with_reducible first | exact HB.out | apply below_alloc | apply pw_below_drewN | apply below_drew1) | exact HB.out)))); (case aL => have := LMc25.out; omega); intro v133 w30 ho hb hg hat; rw [← Ny132.out] at ho; have n0_ := Aside0.mk (hb); have n1_ := Aside0.mk (ho); clear HB; clear HO131; have HB := n0_; have HO134 := n1_; clear n0_ n1_; clear ho hb hg hat; have hcv31 := own_string (P := Tryz.prog) Tryz.underlying92 Tryz.underlying5 Tryz.underlying9 (Kd.own_of_R HO134.out)))
          go_ret2
          exact ⟨by first | rfl | (simp [errW_none, errW_some] <;> rfl) | (simp [*, errW_none, errW_some] <;> rfl), by repeat (first | (with_reducible first | exact HB.out | apply below_alloc | apply pw_below_drewN | apply below_drew1) | exact HB.out)⟩
         ·rw [if_neg c25] at H
          exact absurd H (by simp)
        ·rw [if_neg c24] at H
         exact absurd H (by simp)
       ·rw [if_neg c23] at H
        exact absurd H (by simp)
      ·rw [if_neg c22] at H
       have c22b0 : (t110 == 3) = false := beq_eq_false_iff_ne.mpr c22
       have c22b1 : (t110 != 3) = true := bne_iff_ne.mpr c22
       by_cases c32 : t110 = 2
       ·rw [if_pos c32] at H
        have c32b0 : (t110 == 2) = true := beq_iff_eq.mpr c32
        have c32b1 : (t110 != 2) = false := bne_eq_false_iff_eq.mpr c32
        clear c32
        by_cases c33 : y111.length < 140737488355328
        ·rw [if_pos c33] at H
         have LMc33 := Aside0.mk c33
         clear c33
         obtain ⟨y135, hy135⟩ : ∃ y_ : List Int, y_ = (y111 ++ [(a0 / 256) % 256]) := ⟨_, rfl⟩
         replace H : (if y135.length < 140737488355328 then (some (strOfNums (y135 ++ [(a0) % 256]), 0)) else (none)) = some (r1, r2) := by first | (rw [hy135]; with_reducible exact H) | (have H2_ := (Option.bind_some _ _).symm.trans H; rw [hy135]; with_reducible exact H2_) | (have H2_ := (Option.bind_some _ _).symm.trans H; with_reducible exact H2_) | with_reducible exact H | (rw [hy135]; exact H) | exact H
         have Ny135 := Aside0.mk hy135
         clear hy135
         by_cases c34 : y135.length < 140737488355328
         ·rw [if_pos c34] at H
          have LMc34 := Aside0.mk c34
          clear c34
          obtain ⟨y138, hy138⟩ : ∃ y_ : List Int, y_ = (y135 ++ [(a0) % 256]) := ⟨_, rfl⟩
          replace H : (some (strOfNums y138, 0)) = some (r1, r2) := by first | (rw [hy138]; with_reducible exact H) | (have H2_ := (Option.bind_some _ _).symm.trans H; rw [hy138]; with_reducible exact H2_) | (have H2_ := (Option.bind_some _ _).symm.trans H; with_reducible exact H2_) | with_reducible exact H | (rw [hy138]; exact H) | exact H
          have Ny138 := Aside0.mk hy138
          clear hy138
          simp only [Option.some.injEq, Prod.mk.injEq] at H
          obtain ⟨rfl, rfl⟩ := H
          go_wp2_with (first | ((with_reducible refine gate_callee (f := 148) rfl ?_); refine goesL_ (some 19) rfl rfl Tryz.func148 (by kernel_rfl) rfl #[.int .i64 a0] rfl (by (try simp only [List.map_toArray, List.map_cons, List.map_nil]); first | done | rfl | (simp only [List.length_drop, List.length_take]; rfl)) ?_; (with_reducible refine (pack_width.calls a0 t110 _ A9.out).mono ?_); rintro e w' ⟨rfl, ⟨nd, rfl⟩⟩; refine ⟨_, rfl, ?_⟩) | ((with_reducible refine gate_dst (N := 23) rfl ?_); refine Kd.R_lit (Kd.int .u8) _ 5 ?hg (N := 23) ?hd (xs := ([(wrap64 (247 + t110)) % 256] : List Int)) (inner := [.int .u8 ((wrap64 (247 + t110)) % 256)]) (ok := fun _ => True) (okp := fun _ => True) ?hr ?hp (fun _ hk => hk) trivial (Below.refl _ _) (Nat.le_refl _) (by simp) ?_; (case hd => rfl); (case hg => rfl); (case hr => first | (go_simp; done) | (go_simp; rfl)); (case hp => exact (Reps.one (show Kd.M (Kd.int .u8) _ _ _ ((wrap64 (247 + t110)) % 256) [.int .u8 ((wrap64 (247 + t110)) % 256)] from rfl) (Reps.none _ _))); intro v112 w35 ho36 hb hg_ hnew_; clear hg_ hnew_; (first | rw [← Ny111.out] at ho36 | (simp only [Int.reduceToNat] at ho36; rw [← Ny111.out] at ho36)); have n0_ := Aside0.mk (Kd.R_lower ho36 (below_size (by repeat (first | (with_reducible first | exact HB.out | apply below_alloc | apply pw_below_drewN | apply below_drew1) | exact HB.out)))); have n1_ := Aside0.mk (below_step (by repeat (first | (with_reducible first | exact HB.out | apply below_alloc | apply pw_below_drewN | apply below_drew1) | exact HB.out)) hb); clear HB; have HO113 := n0_; have HB := n1_; clear n0_ n1_; clear hb ho36) | ((with_reducible refine gate_builtin (b := .append) (xs := #[.tmp 43, .tmp 47]) rfl ?_); at_builtin; refine Kd.R_append (Kd.int .u8) (w0 := w) w.heap.size rfl (.tmp 43) (.tmp 47) 92 5 (.int .u8 0) 1 rfl Tryz.underlying92 info5 rfl (by decide) (by omega) v112 y111 ((a0 / 256) % 256) [.int .u8 ((a0 / 256) % 256)] (fun _ => True) (fun _ => False) rfl rfl ?aP (fun _ hk => hk.elim) ?aF ?aO ?aB ?aS ?aL ?_; (case aP => exact rfl); (case aB => exact (by repeat (first | (with_reducible first | exact HB.out | apply below_alloc | apply pw_below_drewN | apply below_drew1) | exact HB.out))); (case aF => exact (fun _ _ => trivial)); (case aO => exact (by (with_reducible repeat (first | apply Kd.R_alloc | apply Kd.R_drewN | apply Kd.R_drew)); exact HO113.out)); (case aS => exact (below_size (by repeat (first | (with_reducible first | exact HB.out | apply below_alloc | apply pw_below_drewN | apply below_drew1) | exact HB.out)))); (case aL => have := LMc33.out; omega); intro v136 w37 ho hb hg hat; rw [← Ny135.out] at ho; have n0_ := Aside0.mk (hb); have n1_ := Aside0.mk (ho); clear HB; clear HO113; have HB := n0_; have HO137 := n1_; clear n0_ n1_; clear ho hb hg hat) | ((with_reducible refine gate_builtin (b := .append) (xs := #[.tmp 49, .tmp 52]) rfl ?_); at_builtin; refine Kd.R_append (Kd.int .u8) (w0 := w) w.heap.size rfl (.tmp 49) (.tmp 52) 92 5 (.int .u8 0) 1 rfl Tryz.underlying92 info5 rfl (by decide) (by omega) v136 y135 ((a0) % 256) [.int .u8 ((a0) % 256)] (fun _ => True) (fun _ => False) rfl rfl ?aP (fun _ hk => hk.elim) ?aF ?aO ?aB ?aS ?aL ?_; (case aP => exact rfl); (case aB => exact (by repeat (first | (with_reducible first | exact HB.out | apply below_alloc | apply pw_below_drewN | apply below_drew1) | exact HB.out))); (case aF => exact (fun _ _ => trivial)); (case aO => exact (by (with_reducible repeat (first | apply Kd.R_alloc | apply Kd.R_drewN | apply Kd.R_drew)); exact HO137.out)); (case aS => exact (below_size (by repeat (first | (with_reducible first | exact HB.out | apply below_alloc | apply pw_below_drewN | apply below_drew1) | exact HB.out)))); (case aL => have := LMc34.out; omega); intro v139 w38 ho hb hg hat; rw [← Ny138.out] at ho; have n0_ := Aside0.mk (hb); have n1_ := Aside0.mk (ho); clear HB; clear HO137; have HB := n0_; have HO140 := n1_; clear n0_ n1_; clear ho hb hg hat; have hcv39 := own_string (P := Tryz.prog) Tryz.underlying92 Tryz.underlying5 Tryz.underlying9 (Kd.own_of_R HO140.out)))
          go_ret2
          exact ⟨by first | rfl | (simp [errW_none, errW_some] <;> rfl) | (simp [*, errW_none, errW_some] <;> rfl), by repeat (first | (with_reducible first | exact HB.out | apply below_alloc | apply pw_below_drewN | apply below_drew1) | exact HB.out)⟩
         ·rw [if_neg c34] at H
          exact absurd H (by simp)
        ·rw [if_neg c33] at H
         exact absurd H (by simp)
       ·rw [if_neg c32] at H
        have c32b0 : (t110 == 2) = false := beq_eq_false_iff_ne.mpr c32
        have c32b1 : (t110 != 2) = true := bne_iff_ne.mpr c32
        by_cases c40 : y111.length < 140737488355328
        ·rw [if_pos c40] at H
         have LMc40 := Aside0.mk c40
         clear c40
         obtain ⟨y141, hy141⟩ : ∃ y_ : List Int, y_ = (y111 ++ [(a0) % 256]) := ⟨_, rfl⟩
         replace H : (some (strOfNums y141, 0)) = some (r1, r2) := by first | (rw [hy141]; with_reducible exact H) | (have H2_ := (Option.bind_some _ _).symm.trans H; rw [hy141]; with_reducible exact H2_) | (have H2_ := (Option.bind_some _ _).symm.trans H; with_reducible exact H2_) | with_reducible exact H | (rw [hy141]; exact H) | exact H
         have Ny141 := Aside0.mk hy141
         clear hy141
         simp only [Option.some.injEq, Prod.mk.injEq] at H
         obtain ⟨rfl, rfl⟩ := H
         go_wp2_with (first | ((with_reducible refine gate_callee (f := 148) rfl ?_); refine goesL_ (some 19) rfl rfl Tryz.func148 (by kernel_rfl) rfl #[.int .i64 a0] rfl (by (try simp only [List.map_toArray, List.map_cons, List.map_nil]); first | done | rfl | (simp only [List.length_drop, List.length_take]; rfl)) ?_; (with_reducible refine (pack_width.calls a0 t110 _ A9.out).mono ?_); rintro e w' ⟨rfl, ⟨nd, rfl⟩⟩; refine ⟨_, rfl, ?_⟩) | ((with_reducible refine gate_dst (N := 23) rfl ?_); refine Kd.R_lit (Kd.int .u8) _ 5 ?hg (N := 23) ?hd (xs := ([(wrap64 (247 + t110)) % 256] : List Int)) (inner := [.int .u8 ((wrap64 (247 + t110)) % 256)]) (ok := fun _ => True) (okp := fun _ => True) ?hr ?hp (fun _ hk => hk) trivial (Below.refl _ _) (Nat.le_refl _) (by simp) ?_; (case hd => rfl); (case hg => rfl); (case hr => first | (go_simp; done) | (go_simp; rfl)); (case hp => exact (Reps.one (show Kd.M (Kd.int .u8) _ _ _ ((wrap64 (247 + t110)) % 256) [.int .u8 ((wrap64 (247 + t110)) % 256)] from rfl) (Reps.none _ _))); intro v112 w41 ho42 hb hg_ hnew_; clear hg_ hnew_; (first | rw [← Ny111.out] at ho42 | (simp only [Int.reduceToNat] at ho42; rw [← Ny111.out] at ho42)); have n0_ := Aside0.mk (Kd.R_lower ho42 (below_size (by repeat (first | (with_reducible first | exact HB.out | apply below_alloc | apply pw_below_drewN | apply below_drew1) | exact HB.out)))); have n1_ := Aside0.mk (below_step (by repeat (first | (with_reducible first | exact HB.out | apply below_alloc | apply pw_below_drewN | apply below_drew1) | exact HB.out)) hb); clear HB; have HO113 := n0_; have HB := n1_; clear n0_ n1_; clear hb ho42) | ((with_reducible refine gate_builtin (b := .append) (xs := #[.tmp 49, .tmp 52]) rfl ?_); at_builtin; refine Kd.R_append (Kd.int .u8) (w0 := w) w.heap.size rfl (.tmp 49) (.tmp 52) 92 5 (.int .u8 0) 1 rfl Tryz.underlying92 info5 rfl (by decide) (by omega) v112 y111 ((a0) % 256) [.int .u8 ((a0) % 256)] (fun _ => True) (fun _ => False) rfl rfl ?aP (fun _ hk => hk.elim) ?aF ?aO ?aB ?aS ?aL ?_; (case aP => exact rfl); (case aB => exact (by repeat (first | (with_reducible first | exact HB.out | apply below_alloc | apply pw_below_drewN | apply below_drew1) | exact HB.out))); (case aF => exact (fun _ _ => trivial)); (case aO => exact (by (with_reducible repeat (first | apply Kd.R_alloc | apply Kd.R_drewN | apply Kd.R_drew)); exact HO113.out)); (case aS => exact (below_size (by repeat (first | (with_reducible first | exact HB.out | apply below_alloc | apply pw_below_drewN | apply below_drew1) | exact HB.out)))); (case aL => have := LMc40.out; omega); intro v142 w43 ho hb hg hat; rw [← Ny141.out] at ho; have n0_ := Aside0.mk (hb); have n1_ := Aside0.mk (ho); clear HB; clear HO113; have HB := n0_; have HO143 := n1_; clear n0_ n1_; clear ho hb hg hat; have hcv44 := own_string (P := Tryz.prog) Tryz.underlying92 Tryz.underlying5 Tryz.underlying9 (Kd.own_of_R HO143.out)))
         go_ret2
         exact ⟨by first | rfl | (simp [errW_none, errW_some] <;> rfl) | (simp [*, errW_none, errW_some] <;> rfl), by repeat (first | (with_reducible first | exact HB.out | apply below_alloc | apply pw_below_drewN | apply below_drew1) | exact HB.out)⟩
        ·rw [if_neg c40] at H
         exact absurd H (by simp)
def pack_List.go : List Int → List Int → Option (ByteArray × Int)
 | [], b => some (strOfNums b, 0)
 | n :: l, b => (pack_Num.f 9 n).bind fun t => if t.2 = 0 then (if b.length + t.1.size ≤ 140737488355328 then pack_List.go l (b ++ bytesOf t.1) else none) else some (⟨#[]⟩, t.2)
def pack_List.f (l0 : List Int) : Option (ByteArray × Int) := if (l0.length : Int) > 1000 then some (⟨#[]⟩, 1) else (pack_Num.f 9 (l0.length : Int)).bind fun t => if t.1.size ≤ 100 then pack_List.go l0 (bytesOf t.1) else none
set_option maxHeartbeats 2000000 in
set_option maxRecDepth 100000 in
theorem pack_List.calls (A0 : Option Addr) (c0 : Nat) (l0 : List Int) (r1 : ByteArray) (r2 : Int) (w : World) (hr0 : Kd.C (Kd.int .i64) w A0 l0.length l0) (hc0 : l0.length ≤ c0) (h : pack_List.f l0 = some (r1, r2)) :
  Calls Tryz.prog 41 #[.slice A0 l0.length c0] w fun e w' => e = .returned (.tuple #[.string r1, .int .i64 r2]) ∧ Below w.heap.size w w' := by
 have HR0 := Aside0.mk hr0
 clear hr0
 have HB := Aside0.mk (Below.refl w.heap.size w)
 unfold pack_List.f at h
 by_cases c1 : (l0.length : Int) > 1000
 ·rw [if_pos c1] at h
  simp only [Option.some.injEq, Prod.mk.injEq] at h
  obtain ⟨rfl, rfl⟩ := h
  have t1 : decide (1000 < l0.length) = true := decide_eq_true (by omega)
  have t2 : decide ((1000 : Int) < (l0.length : Int)) = true := decide_eq_true (by omega)
  go_enter Tryz.func41, Tryz.ntmps41
  go_wp2
  go_ret2
  exact ⟨rfl, HB.out⟩
 rw [if_neg c1] at h
 obtain ⟨⟨t0s, t0e⟩, ht0, h⟩ := Option.bind_eq_some_iff.mp h
 simp only at h
 split at h
 rotate_left
 ·cases h
 rename_i hsz
 have HT := Aside0.mk ht0
 have HH := Aside0.mk h
 have t1 : decide (1000 < l0.length) = false := decide_eq_false (by omega)
 have t2 : decide ((1000 : Int) < (l0.length : Int)) = false := decide_eq_false (by omega)
 have hlen : l0.length ≤ 1000 := by omega
 have HSZ := Aside0.mk hsz
 clear ht0 h c1 hsz
 have kb := fun W => print_bytes (P := Tryz.prog) 9 92 5 Tryz.underlying9 Tryz.underlying92 Tryz.underlying5 t0s W
 go_enter Tryz.func41, Tryz.ntmps41
 go_wp2_with (go_at_call 92; (with_reducible refine (pack_Num.calls 9 _ _ _ _ HT.out).mono ?_); rintro e w1 ⟨rfl, hb1⟩; have HB1 := Aside0.mk hb1; clear hb1)
 have HBR := Aside0.mk (XW.brow_bytes w1 w.heap.size 5 t0s HB1.out.size (by have := HSZ.out; simp only [maxLen]; omega))
 have HBL := Aside0.mk (bytes_below HB1.out HB1.out.size 5 t0s)
 clear HB1 kb
 have HI : Aside0 (∃ j : Int, ∃ b : List Int, 0 ≤ j ∧ j ≤ (l0.length : Int) ∧ (0 : Int) = j ∧ Aside0 (pack_List.go (l0.drop j.toNat) b = some (r1, r2)) ∧ Aside0 (XW.BRow (Lib.bytesWorld w1 5 t0s) w.heap.size 5 (.slice (some ⟨w1.heap.size, 0, none⟩) t0s.size (grownCap w1 t0s.size 0 5)) b)) := ⟨0, bytesOf t0s, by omega, by omega, rfl, HH, HBR⟩
 clear HH HBR
 generalize Lib.bytesWorld w1 5 t0s = W2 at *
 generalize Value.slice (some ⟨w1.heap.size, 0, none⟩) t0s.size (grownCap w1 t0s.size 0 5) = v6 at *
 go_loopw [6, 8, 9, 10, 24] (fun v6 _ _ _ i wr => ∃ j : Int, ∃ b : List Int, 0 ≤ j ∧ j ≤ (l0.length : Int) ∧ i = .int .i64 j ∧ Aside0 (pack_List.go (l0.drop j.toNat) b = some (r1, r2)) ∧ Aside0 (XW.BRow wr w.heap.size 5 v6 b) ∧ Aside0 (Below w.heap.size w wr)) (fun _ _ _ _ i _ => l0.length - (intOf i).toNat)
 case atStart =>
  obtain ⟨j, b, h1, h2, rfl, h3, h4⟩ := HI.out
  exact ⟨0, b, h1, h2, rfl, h3, h4, HBL⟩
 case round =>
  clear HI HBL
  obtain ⟨j, b, hj0, hj1, rfl, HH, HBR, HBL⟩ := hrel
  by_cases hlt : j < (l0.length : Int)
  ·obtain ⟨ad, ead, hcell⟩ := Kd.at_int (Kd.C_below HR0.out HBL.out) j hj0 hlt
   cases ead
   have hd : l0.drop j.toNat = rd l0 j :: l0.drop (j + 1).toNat := by
    rw [List.drop_eq_getElem_cons (show j.toNat < l0.length by omega), show (j + 1).toNat = j.toNat + 1 by omega]
    simp [rd, List.getD_eq_getElem?_getD, List.getElem?_eq_getElem (show j.toNat < l0.length by omega)]
   have hz := HH.out
   rw [hd] at hz
   simp only [pack_List.go] at hz
   obtain ⟨⟨ts, te⟩, ht, hz⟩ := Option.bind_eq_some_iff.mp hz
   have HT2 := Aside0.mk ht
   clear ht hd HH
   have t3 : decide (j < (l0.length : Int)) = true := decide_eq_true hlt
   have t4 : (0 ≤ j) = True := eq_true hj0
   have t5 : (j < (l0.length : Int)) = True := eq_true hlt
   have t6 : j + 1 ≤ (l0.length : Int) := by omega
   clear hlt
   simp only at hz
   by_cases hte : te = 0
   ·rw [if_pos hte] at hz
    split at hz
    rotate_left
    ·cases hz
    rename_i hsz2
    subst hte
    have HZ := Aside0.mk hz
    have HS2 := Aside0.mk hsz2
    clear hz hsz2
    go_wp2_with (first | (go_at_call 92; (with_reducible refine (pack_Num.calls 9 _ _ _ _ HT2.out).mono ?_); rintro e w2 ⟨rfl, hb2⟩; have HB2 := Aside0.mk hb2; clear hb2) | ((with_reducible refine gate_builtin (b := .append) (xs := #[.tmp 36, .tmp 37]) rfl ?_); at_builtin; refine XW.wp_brow_append (w0 := w) rfl (.tmp 36) (.tmp 37) 92 9 rfl 5 Tryz.underlying92 Tryz.underlying9 info5 _ b rfl (XW.BRow.below HBR.out HB2.out) ts rfl HS2.out (below_step HBL.out HB2.out) ?_; intro v3 w3 hbr3 hbl3; have HBR3 := Aside0.mk hbr3; have HBL3 := Aside0.mk hbl3; clear hbr3 hbl3))
    go_roundw
    case rel => exact ⟨j + 1, _, by omega, t6, rfl, HZ, HBR3, HBL3⟩
    case measure => simp only [intOf]; omega
   ·rw [if_neg hte] at hz
    simp only [Option.some.injEq, Prod.mk.injEq] at hz
    obtain ⟨rfl, rfl⟩ := hz
    have t7 : (te != 0) = true := bne_iff_ne.mpr hte
    have t8 : (te == 0) = false := beq_eq_false_iff_ne.mpr hte
    go_wp2_with (go_at_call 92; (with_reducible refine (pack_Num.calls 9 _ _ _ _ HT2.out).mono ?_); rintro e w2 ⟨rfl, hb2⟩; have HB2 := Aside0.mk hb2; clear hb2)
    go_ret2
    exact ⟨rfl, below_step HBL.out HB2.out⟩
  ·have t3 : decide (j < (l0.length : Int)) = false := decide_eq_false hlt
   have hz := HH.out
   rw [List.drop_eq_nil_of_le (by omega)] at hz
   simp only [pack_List.go, Option.some.injEq, Prod.mk.injEq] at hz
   obtain ⟨rfl, rfl⟩ := hz
   have hcv := fun s1 s2 e => XW.BRow.string (P := Tryz.prog) (src := s1) (dst := s2) (e := e) (h := HBR.out)
   have hcv2 := hcv 92 9 5 Tryz.underlying92 Tryz.underlying5 Tryz.underlying9
   clear hcv hlt
   go_wp2
   go_ret2
   exact ⟨rfl, HBL.out⟩
theorem pack_List.at (A0 : Option Addr) (c0 : Nat) (n0 : Nat) (l0 : List Int) (r1 : ByteArray) (r2 : Int) (w : World) (hr0 : Kd.C (Kd.int .i64) w A0 n0 l0) (hc0 : n0 ≤ c0) (h : pack_List.f l0 = some (r1, r2)) :
  Calls Tryz.prog 41 #[.slice A0 n0 c0] w fun e w' => e = .returned (.tuple #[.string r1, .int .i64 r2]) ∧ Below w.heap.size w w' := by
 obtain rfl : l0.length = n0 := Kd.C_len hr0
 exact pack_List.calls A0 c0 l0 r1 r2 w hr0 hc0 h
def mN.l0 : Nat → ByteArray → List Int → Int → Int → Option (ByteArray)
 | 0, _, _, _, _ => none
 | k + 1, x3, x8, x9, x10 => if x10 < x9 then (if 0 ≤ x10 then (if x10 < (x8.length : Int) then ((pack_Num.f k (rd x8 x10)).bind fun bt145 => (if x3.size + bt145.1.size ≤ 9223372036854775807 then (mN.l0 k (x3 ++ bt145.1) x8 x9 (wrap64 (x10 + 1))) else (none))) else (none)) else (none)) else (some x3)
def mN.f (k : Nat) (l0 : List Int) : Option (ByteArray) := mN.l0 k (⟨#[]⟩ : ByteArray) l0 (l0.length : Int) 0
theorem mN.mono_l : ∀ k, (∀ y0 y1 y2 y3, LeO (mN.l0 k y0 y1 y2 y3) (mN.l0 (k + 1) y0 y1 y2 y3))
 | 0 => fun _ _ _ _ r h => by simp [mN.l0] at h
 | k + 1 => by
  have ih0 := mN.mono_l k
  ·intro y0 y1 y2 y3
   unfold mN.l0
   repeat' first
   | (with_reducible exact ih0 _ _ _ _)
   | (with_reducible exact pack_Num.mono _ _)
   | (with_reducible exact LeO.refl _)
   | (with_reducible exact LeO.none _)
   | (with_reducible refine LeO.ite ?_ ?_)
   | (with_reducible refine LeO.bind ?_ (fun _ => ?_))
   | exact ih0 _ _ _ _
   | exact pack_Num.mono _ _
   | exact LeO.none _
   | refine LeO.ite ?_ ?_
   | refine LeO.bind ?_ (fun _ => ?_)
theorem mN.mono : ∀ a0 k, LeO (mN.f k a0) (mN.f (k + 1) a0) := by
 intro a0 k
 have ih0 := mN.mono_l k
 unfold mN.f
 repeat' first
   | (with_reducible exact ih0 _ _ _ _)
   | (with_reducible exact pack_Num.mono _ _)
   | (with_reducible exact LeO.refl _)
   | (with_reducible exact LeO.none _)
   | (with_reducible refine LeO.ite ?_ ?_)
   | (with_reducible refine LeO.bind ?_ (fun _ => ?_))
   | exact ih0 _ _ _ _
   | exact pack_Num.mono _ _
   | exact LeO.none _
   | refine LeO.ite ?_ ?_
   | refine LeO.bind ?_ (fun _ => ?_)
set_option maxHeartbeats 8000000 in
set_option maxRecDepth 100000 in
theorem mN.calls (k : Nat) (A0 : Option Addr) (c0 : Nat) (l0 : List Int) (r : ByteArray) (w : World) (hr0 : Kd.C (Kd.int .i64) w A0 l0.length l0) (hc0 : l0.length ≤ c0) (h : mN.f k l0 = some r) :
  Calls Tryz.prog 43 #[.slice A0 l0.length c0] w fun e w' => e = .returned (.string r) ∧ Below w.heap.size w w' := by
 have HR0 := Aside0.mk hr0
 have HC0 := Aside0.mk hc0
 clear hr0 hc0
 have HB := Aside0.mk (Below.refl w.heap.size w)
 have H : (mN.l0 k (⟨#[]⟩ : ByteArray) l0 (l0.length : Int) 0) = some r := h
 clear h
 have H' := Aside0.mk H
 clear H
 go_enter Tryz.func43, Tryz.ntmps43
 go_wp2
 go_loopg [3, 10] k (fun kq v3 v10 w' => ∃ (x3_1 : ByteArray) (x10_1 : Int), v3 = .string x3_1 ∧ v10 = .int .i64 x10_1 ∧ Aside0 (mN.l0 kq x3_1 l0 (l0.length : Int) x10_1 = some r) ∧ Aside0 (kq ≤ k) ∧ Aside0 (Below w.heap.size w w'))
 case atStart => exact ⟨((⟨#[]⟩ : ByteArray)), (0), (by first | rfl | (simp; done) | (simp [*]; done)), (by first | rfl | (simp; done) | (simp [*]; done)), H', ⟨Nat.le_refl _⟩, ⟨by repeat (first | (with_reducible first | exact HB.out | apply below_alloc | apply pw_below_drewN | apply below_drew1) | exact HB.out)⟩⟩
 case round =>
  clear H'
  obtain ⟨x3_1, x10_1, rfl, rfl, HA, HK1, HB⟩ := hrel
  cases gk with
  | zero => exact absurd HA.out (by simp [mN.l0])
  | succ k1 =>
   have H := HA.out
   clear HA
   simp only [mN.l0] at H
   by_cases c2 : x10_1 < (l0.length : Int)
   ·rw [if_pos c2] at H
    have c2b0 : decide (x10_1 < (l0.length : Int)) = true := decide_eq_true c2
    clear c2
    by_cases c3 : 0 ≤ x10_1
    ·rw [if_pos c3] at H
     have c3b0 : decide (0 ≤ x10_1) = true := decide_eq_true c3
     clear c3
     by_cases c4 : x10_1 < (l0.length : Int)
     ·rw [if_pos c4] at H
      have c4b0 : decide (x10_1 < (l0.length : Int)) = true := decide_eq_true c4
      clear c4
      replace H := Option.bind_eq_some_iff.mp H
      obtain ⟨⟨t145, t146⟩, A50, H⟩ := H
      replace H : (if x3_1.size + t145.size ≤ 9223372036854775807 then (mN.l0 k1 (x3_1 ++ t145) l0 (l0.length : Int) (wrap64 (x10_1 + 1))) else (none)) = some r := H
      have A5 := Aside0.mk A50
      clear A50
      by_cases c6 : x3_1.size + t145.size ≤ 9223372036854775807
      ·rw [if_pos c6] at H
       have c6b0 := eq_true c6
       have c6b1 : decide (x3_1.size + t145.size ≤ 9223372036854775807) = true := decide_eq_true c6
       try have c6b2 : (9223372036854775807 < x3_1.size + t145.size) = False := eq_false (Nat.not_lt.2 c6)
       have H' := Aside0.mk H
       clear H
       have p144 : 0 ≤ (x10_1 : Int) := of_decide_eq_true (by first | (with_reducible assumption) | assumption)
       have q144 : x10_1 < (l0.length : Int) := of_decide_eq_true (by first | (with_reducible assumption) | assumption)
       obtain ⟨ad144, e144, hx144_0⟩ := Kd.at_int HR0.out x10_1 p144 q144
       cases e144
       replace hx144_0 := (HB.out.cell (World.block_lt_of_cell? w _ hx144_0)).trans hx144_0
       replace p144 := eq_true p144
       replace q144 := eq_true q144
       go_wp2_with (first | ((with_reducible refine gate_callee (f := 92) rfl ?_); refine goesL_ (some 16) rfl rfl Tryz.func92 (by kernel_rfl) rfl #[.int .i64 (rd l0 x10_1)] rfl (by (try simp only [List.map_toArray, List.map_cons, List.map_nil]); first | done | rfl | (simp only [List.length_drop, List.length_take]; rfl)) ?_; (with_reducible refine (pack_Num.calls k1 (rd l0 x10_1) t145 t146 _ A5.out).mono ?_); rintro e w7 ⟨rfl, hb⟩; refine ⟨_, rfl, ?_⟩; have n0_ := Aside0.mk (below_step (by repeat (first | (with_reducible first | exact HB.out | apply below_alloc | apply pw_below_drewN | apply below_drew1) | exact HB.out)) hb); clear HB; have HB := n0_; clear n0_; (try clear hb); (try clear hb2); (try clear hk); (try clear hi)))
       go_roundg k1
       case measure => have := HK1.out; omega
       case rel => exact ⟨(x3_1 ++ t145), (wrap64 (x10_1 + 1)), (by first | rfl | (simp; done) | (simp [*]; done)), (by first | rfl | (simp; done) | (simp [*]; done)), H', ⟨by have := HK1.out; omega⟩, ⟨by repeat (first | (with_reducible first | exact HB.out | apply below_alloc | apply pw_below_drewN | apply below_drew1) | exact HB.out)⟩⟩
      ·rw [if_neg c6] at H
       exact absurd H (by simp)
     ·rw [if_neg c4] at H
      exact absurd H (by simp)
    ·rw [if_neg c3] at H
     exact absurd H (by simp)
   ·rw [if_neg c2] at H
    have c2b0 : decide (x10_1 < (l0.length : Int)) = false := decide_eq_false c2
    clear c2
    obtain rfl := Option.some.inj H
    go_wp2
    go_ret
    exact ⟨by first | rfl | (simp [errW_none, errW_some] <;> rfl) | (simp [*, errW_none, errW_some] <;> rfl), by repeat (first | (with_reducible first | exact HB.out | apply below_alloc | apply pw_below_drewN | apply below_drew1) | exact HB.out)⟩
theorem mN.at (k : Nat) (A0 : Option Addr) (c0 : Nat) (n0 : Nat) (l0 : List Int) (r : ByteArray) (w : World) (hr0 : Kd.C (Kd.int .i64) w A0 n0 l0) (hc0 : n0 ≤ c0) (h : mN.f k l0 = some r) :
  Calls Tryz.prog 43 #[.slice A0 n0 c0] w fun e w' => e = .returned (.string r) ∧ Below w.heap.size w w' := by
 obtain rfl : l0.length = n0 := Kd.C_len hr0
 exact mN.calls k A0 c0 l0 r w hr0 hc0 h
end Go.Proofs.YtphdjpfdelpecaaGreatDoor.PTopf
