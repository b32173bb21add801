/- Searches that are none; scripts in memory; the law SearchNil, walked. Conditions: none beyond those that each theorem states. -/
import Derived.Test.YthofobcbbddeeaaSrchK
namespace Go.Proofs.Ythofobcbbddeeaa.SrchA
open Go.RowKit Go.Proofs.YthofobcbbddeeaaW.PrintWords Go.Proofs.YthofobcbbddeeaaW.PrintLast Go.Proofs.YthofobcbbddeeaaW.PrintMore Go.Proofs.Ythofobcbbddeeaa.XS Go.Proofs.Ythofobcbbddeeaa.PSrch
set_option linter.unusedVariables false
set_option linter.unusedSimpArgs false
abbrev Fm0 : Array Bool := #[false, false, false, false, false, false, false, false, false, false, false, false, false, false, false, false, false]
abbrev Fm1 : Array Bool := #[true, false, false, false, false, false, false, false, false, false, false, false, false, false, false, false, false]
abbrev Fm2 : Array Bool := #[true, true, false, false, false, false, false, false, false, false, false, false, false, false, false, false, false]
abbrev Fm3 : Array Bool := #[true, true, true, false, false, false, false, false, false, false, false, false, false, false, false, false, false]
abbrev Fm4 : Array Bool := #[true, true, true, true, false, false, false, false, false, false, false, false, false, false, false, false, false]
abbrev Fm5 : Array Bool := #[true, true, true, true, true, false, false, false, false, false, false, false, false, false, false, false, false]
abbrev Fm6 : Array Bool := #[true, true, true, true, true, true, false, false, false, false, false, false, false, false, false, false, false]
abbrev Fm7 : Array Bool := #[true, true, true, true, true, true, true, false, false, false, false, false, false, false, false, false, false]
abbrev Fm8 : Array Bool := #[true, true, true, true, true, true, true, true, false, false, false, false, false, false, false, false, false]
abbrev Fm9 : Array Bool := #[true, true, true, true, true, true, true, true, true, false, false, false, false, false, false, false, false]
abbrev Fm10 : Array Bool := #[true, true, true, true, true, true, true, true, true, true, false, false, false, false, false, false, false]
abbrev Fm11 : Array Bool := #[true, true, true, true, true, true, true, true, true, true, true, false, false, false, false, false, false]
abbrev Fm12 : Array Bool := #[true, true, true, true, true, true, true, true, true, true, true, true, false, false, false, false, false]
abbrev Fm13 : Array Bool := #[true, true, true, true, true, true, true, true, true, true, true, true, true, false, false, false, false]
abbrev Fm14 : Array Bool := #[true, true, true, true, true, true, true, true, true, true, true, true, true, true, false, false, false]
abbrev Fm15 : Array Bool := #[true, true, true, true, true, true, true, true, true, true, true, true, true, true, true, false, false]
abbrev Fm16 : Array Bool := #[true, true, true, true, true, true, true, true, true, true, true, true, true, true, true, true, false]
abbrev Fm17 : Array Bool := #[true, true, true, true, true, true, true, true, true, true, true, true, true, true, true, true, true]
theorem type_nil (w : World) (n : Int) : Calls Try.prog 36 #[.pointer none, .int .i64 n] w fun e w' => e = .returned (.bool false) ∧ w = w' := by
  go_enter Try.func36, Try.ntmps36
  go_wp2
  go_ret
  exact ⟨rfl, rfl⟩
theorem rub_nil (w : World) : Calls Try.prog 42 #[.pointer none] w fun e w' => e = .returned (.bool false) ∧ w = w' := by
  go_enter Try.func42, Try.ntmps42
  go_wp2
  go_ret
  exact ⟨rfl, rfl⟩
theorem back_nil (w : World) : Calls Try.prog 44 #[.pointer none] w fun e w' => e = .returned (.bool false) ∧ w = w' := by
  go_enter Try.func44, Try.ntmps44
  go_wp2
  go_ret
  exact ⟨rfl, rfl⟩
set_option maxHeartbeats 8000000 in
set_option maxRecDepth 100000 in
theorem on_nil (w : World) : Calls Try.prog 46 #[.pointer none] w fun e w' => e = .returned (.bool false) ∧ Below w.heap.size w w' := by
  have B_w := Aside0.mk (Below.refl w.heap.size w)
  have S_w : Aside0 (Sep w.heap.size (Stars []) w) := ⟨Sep.emp _ _⟩
  go_enter Try.func46, Try.ntmps46
  go_upto_region 1 with (first | ((with_reducible refine gate_dst (N := 1) rfl ?_); (try (refine gate_guard (by rfl) ?_; dsimp only)); refine box_event ?hg (N := 1) ?hd (cs := #[.pointer none]) (t := 56) ?hr ?_; (case hd => rfl); (case hg => rfl); (case hr => first | (go_simp; done) | (go_simp; rfl)); intro gb hg_gb w_1 hX hb; have B_w_1 : Aside0 (Below (w.heap.size) w w_1) := ⟨below_then B_w.out B_w.out.size hb⟩; have S_w_1 : Aside0 (Sep (w.heap.size) (Stars [Blk gb #[.pointer none] 56]) w_1) := ⟨Sep.new_blk S_w.out B_w.out.size hg_gb hb hX⟩; have Q_w_1 : Aside0 (Below w.heap.size w w_1) := ⟨hb⟩; have c_gb_0_w_1 := XW.cells1 (Sep.front [] [] S_w_1.out).blk; have z_gb_0_w_1 := XW.froz1 (Sep.front [] [] S_w_1.out).blk; clear S_w; clear hX hb hg_gb))
  refine start_ (n := 17) (S := fun w' => w'.cell? ⟨gb, 0, none⟩ = some (.pointer none)) (ds := []) Fm0 (by kernel_rfl) rfl rfl (c_gb_0_w_1) (fun hHeld => ?_)
  generalize hdw : w_1.drew = w_2 at hHeld ⊢
  have HB_w_2 : Aside0 (Below w_1.heap.size w_1 w_2) := ⟨by rw [← hdw]; exact below_drew1 (Below.refl _ _)⟩
  clear hdw
  have B_w_2 : Aside0 (Below (w.heap.size) w w_2) := ⟨below_then B_w_1.out B_w_1.out.size HB_w_2.out⟩
  have S_w_2 : Aside0 (Sep (w.heap.size) (Stars [Blk gb #[.pointer none] 56]) w_2) := ⟨Sep.below S_w_1.out HB_w_2.out⟩
  have Q_w_2 : Aside0 (Below w.heap.size w w_2) := ⟨below_step Q_w_1.out HB_w_2.out⟩
  have c_gb_0_w_2 := XW.cells1 (Sep.front [] [] S_w_2.out).blk
  have z_gb_0_w_2 := XW.froz1 (Sep.front [] [] S_w_2.out).blk
  clear S_w_1 c_gb_0_w_1 z_gb_0_w_1
  refine take_ (i := 0) (N := some 3) (v := ?_) (a' := ?_) Fm1 rfl rfl (by kernel_rfl) (fun _ _ _ h => h) (Or.inl ⟨by rfl, ?_⟩) hHeld ?_ ?_
  rotate_left
  · intro w' s0
    go_simp
    with_reducible rfl
  rotate_left
  · simp only [Act.put, List.setIfInBounds_toArray, List.set_cons_zero, List.set_cons_succ, i64_w, i32_w]
    rfl
  refine pure_ (i := 1) (N := some 4) (v := ?_) (a' := ?_) Fm2 rfl rfl (by kernel_rfl) (fun _ _ _ h => h) (Or.inl ⟨by rfl, ?_⟩) ?_ ?_
  rotate_left
  · intro w'
    go_simp
    with_reducible rfl
  rotate_left
  · simp only [Act.put, List.setIfInBounds_toArray, List.set_cons_zero, List.set_cons_succ, i64_w, i32_w]
    rfl
  refine pure_ (i := 2) (N := some 5) (v := ?_) (a' := ?_) Fm3 rfl rfl (by kernel_rfl) (fun _ _ _ h => h) (Or.inl ⟨by rfl, ?_⟩) ?_ ?_
  rotate_left
  · intro w'
    go_simp
    with_reducible rfl
  rotate_left
  · simp only [Act.put, List.setIfInBounds_toArray, List.set_cons_zero, List.set_cons_succ, i64_w, i32_w]
    rfl
  refine pure_ (i := 3) (N := some 6) (v := undef) (a' := ?_) Fm4 rfl rfl (by kernel_rfl) (fun _ _ _ h => h) (Or.inr ⟨by rfl, rfl⟩) ?_ ?_
  rotate_left
  · simp only [Act.put, List.setIfInBounds_toArray, List.set_cons_zero, List.set_cons_succ, i64_w, i32_w]
    rfl
  refine pure_ (i := 4) (N := some 7) (v := undef) (a' := ?_) Fm5 rfl rfl (by kernel_rfl) (fun _ _ _ h => h) (Or.inr ⟨by rfl, rfl⟩) ?_ ?_
  rotate_left
  · simp only [Act.put, List.setIfInBounds_toArray, List.set_cons_zero, List.set_cons_succ, i64_w, i32_w]
    rfl
  refine pure_ (i := 5) (N := some 8) (v := undef) (a' := ?_) Fm6 rfl rfl (by kernel_rfl) (fun _ _ _ h => h) (Or.inr ⟨by rfl, rfl⟩) ?_ ?_
  rotate_left
  · simp only [Act.put, List.setIfInBounds_toArray, List.set_cons_zero, List.set_cons_succ, i64_w, i32_w]
    rfl
  refine pure_ (i := 6) (N := some 9) (v := undef) (a' := ?_) Fm7 rfl rfl (by kernel_rfl) (fun _ _ _ h => h) (Or.inr ⟨by rfl, rfl⟩) ?_ ?_
  rotate_left
  · simp only [Act.put, List.setIfInBounds_toArray, List.set_cons_zero, List.set_cons_succ, i64_w, i32_w]
    rfl
  refine pure_ (i := 7) (N := some 10) (v := undef) (a' := ?_) Fm8 rfl rfl (by kernel_rfl) (fun _ _ _ h => h) (Or.inr ⟨by rfl, rfl⟩) ?_ ?_
  rotate_left
  · simp only [Act.put, List.setIfInBounds_toArray, List.set_cons_zero, List.set_cons_succ, i64_w, i32_w]
    rfl
  refine pure_ (i := 8) (N := some 11) (v := ?_) (a' := ?_) Fm9 rfl rfl (by kernel_rfl) (fun _ _ _ h => h) (Or.inl ⟨by rfl, ?_⟩) ?_ ?_
  rotate_left
  · intro w'
    go_simp
    with_reducible rfl
  rotate_left
  · simp only [Act.put, List.setIfInBounds_toArray, List.set_cons_zero, List.set_cons_succ, i64_w, i32_w]
    rfl
  refine pure_ (i := 9) (N := some 12) (v := ?_) (a' := ?_) Fm10 rfl rfl (by kernel_rfl) (fun _ _ _ h => h) (Or.inl ⟨by rfl, ?_⟩) ?_ ?_
  rotate_left
  · intro w'
    go_simp
    with_reducible rfl
  rotate_left
  · simp only [Act.put, List.setIfInBounds_toArray, List.set_cons_zero, List.set_cons_succ, i64_w, i32_w]
    rfl
  refine pure_ (i := 10) (N := some 13) (v := undef) (a' := ?_) Fm11 rfl rfl (by kernel_rfl) (fun _ _ _ h => h) (Or.inr ⟨by rfl, rfl⟩) ?_ ?_
  rotate_left
  · simp only [Act.put, List.setIfInBounds_toArray, List.set_cons_zero, List.set_cons_succ, i64_w, i32_w]
    rfl
  refine pure_ (i := 11) (N := some 14) (v := undef) (a' := ?_) Fm12 rfl rfl (by kernel_rfl) (fun _ _ _ h => h) (Or.inr ⟨by rfl, rfl⟩) ?_ ?_
  rotate_left
  · simp only [Act.put, List.setIfInBounds_toArray, List.set_cons_zero, List.set_cons_succ, i64_w, i32_w]
    rfl
  refine pure_ (i := 12) (N := some 15) (v := undef) (a' := ?_) Fm13 rfl rfl (by kernel_rfl) (fun _ _ _ h => h) (Or.inr ⟨by rfl, rfl⟩) ?_ ?_
  rotate_left
  · simp only [Act.put, List.setIfInBounds_toArray, List.set_cons_zero, List.set_cons_succ, i64_w, i32_w]
    rfl
  refine pure_ (i := 13) (N := some 16) (v := undef) (a' := ?_) Fm14 rfl rfl (by kernel_rfl) (fun _ _ _ h => h) (Or.inr ⟨by rfl, rfl⟩) ?_ ?_
  rotate_left
  · simp only [Act.put, List.setIfInBounds_toArray, List.set_cons_zero, List.set_cons_succ, i64_w, i32_w]
    rfl
  refine pure_ (i := 14) (N := some 17) (v := undef) (a' := ?_) Fm15 rfl rfl (by kernel_rfl) (fun _ _ _ h => h) (Or.inr ⟨by rfl, rfl⟩) ?_ ?_
  rotate_left
  · simp only [Act.put, List.setIfInBounds_toArray, List.set_cons_zero, List.set_cons_succ, i64_w, i32_w]
    rfl
  refine pure_ (i := 15) (N := some 18) (v := ?_) (a' := ?_) Fm16 rfl rfl (by kernel_rfl) (fun _ _ _ h => h) (Or.inl ⟨by rfl, ?_⟩) ?_ ?_
  rotate_left
  · intro w'
    go_simp
    with_reducible rfl
  rotate_left
  · simp only [Act.put, List.setIfInBounds_toArray, List.set_cons_zero, List.set_cons_succ, i64_w, i32_w]
    rfl
  refine pure_ (i := 16) (N := some 2) (v := ?_) (a' := ?_) Fm17 rfl rfl (by kernel_rfl) (fun _ _ _ h => h) (Or.inl ⟨by rfl, ?_⟩) ?_ ?_
  rotate_left
  · intro w'
    go_simp
    with_reducible rfl
  rotate_left
  · simp only [Act.put, List.setIfInBounds_toArray, List.set_cons_zero, List.set_cons_succ, i64_w, i32_w]
    rfl
  refine done_ (by kernel_rfl) ?_
  go_wp2
  go_ret
  exact ⟨rfl, B_w_2.out⟩
abbrev KOp : Kd (Int × Int) := Kd.iso (Kd.pair (Kd.int .i64) (Kd.int .i64)) id
theorem at_op {w : World} {A : Option Addr} {n : Nat} {xs : List (Int × Int)} (h : Kd.C KOp w A n xs) (k : Nat) (h1 : k < n) : ∃ (ad : Addr) (d r : Int), A = some ad ∧ w.cell? (ad.add (k * 2)) = some (.int .i64 d) ∧ w.cell? ⟨(ad.add (k * 2)).block, (ad.add (k * 2)).off + 1, none⟩ = some (.int .i64 r) := by
  obtain ⟨ad, c, e, _, hK, hc0⟩ := Kd.C_get h (0, 0) (k : Int) (by omega) (by omega)
  rw [Int.toNat_natCast] at hK hc0
  have hc : ∀ j u, c[j]? = some u → w.cell? (ad.add (k * 2 + j)) = some u := hc0
  generalize xs.getD k (0, 0) = x at hK
  obtain ⟨d, r⟩ := x
  obtain ⟨_, _, rfl, rfl, rfl⟩ := hK
  exact ⟨ad, d, r, e, hc 0 _ rfl, by rw [← add_field _ _ 1 (by omega)]; exact hc 1 _ rfl⟩
abbrev KSt : Kd (Int × ByteArray) := Kd.iso (Kd.pair (Kd.int .i64) Kd.string) id
theorem at_st {w : World} {A : Option Addr} {n : Nat} {xs : List (Int × ByteArray)} (h : Kd.C KSt w A n xs) (k : Nat) (h1 : k < n) : ∃ (ad : Addr) (d : Int) (t : ByteArray), A = some ad ∧ w.cell? (ad.add (k * 2)) = some (.int .i64 d) ∧ w.cell? ⟨(ad.add (k * 2)).block, (ad.add (k * 2)).off + 1, none⟩ = some (.string t) := by
  obtain ⟨ad, c, e, _, hK, hc0⟩ := Kd.C_get h (0, ByteArray.empty) (k : Int) (by omega) (by omega)
  rw [Int.toNat_natCast] at hK hc0
  have hc : ∀ j u, c[j]? = some u → w.cell? (ad.add (k * 2 + j)) = some u := hc0
  generalize xs.getD k (0, ByteArray.empty) = x at hK
  obtain ⟨d, t⟩ := x
  obtain ⟨_, _, rfl, rfl, rfl⟩ := hK
  exact ⟨ad, d, t, e, hc 0 _ rfl, by rw [← add_field _ _ 1 (by omega)]; exact hc 1 _ rfl⟩
theorem Few.short {L : List ByteArray} (h : Few L) : Short L := fun i hi => Nat.le_trans (h.2 i hi) (by omega)
theorem place_cell {T : Nat} {k : IntKind} {e base g : Nat} {L : List ByteArray} {Q : List Int} {p : Int} {l : List Assn} {w : World} (h : Sep base (Star (SS T k e g L Q p) (Stars l)) w) : w.cell? ⟨g, 2, none⟩ = some (.int .i64 p) := by
  obtain ⟨A0, c0, A1, c1, hf⟩ := SS.fr h
  exact hf.x2
set_option maxHeartbeats 8000000 in
set_option maxRecDepth 100000 in
theorem searchNil (d n : Int) (w : World) (m : Int) (hm : w.cell? ⟨0, 0, none⟩ = some (.int .i64 m)) : Calls Try.prog 12 #[.agg #[.int .i64 d, .int .i64 n]] w fun e w' => e = .returned (.bool true) ∧ Below w.heap.size w w' := by
  have HM := Aside0.mk hm
  have hpos := size_pos hm
  clear hm
  have hu66 := Try.underlying66
  have B_w := Aside0.mk (Below.refl w.heap.size w)
  have S_w : Aside0 (Sep w.heap.size (Stars []) w) := ⟨Sep.emp _ _⟩
  go_enter Try.func12, Try.ntmps12
  go_wp2_with (first | ((with_reducible refine gate_dst (N := 1) rfl ?_); (try (refine gate_guard (by rfl) ?_; dsimp only)); refine box_event ?hg (N := 1) ?hd (cs := #[.int .i64 d, .int .i64 n]) (t := 66) ?hr ?_; (case hd => rfl); (case hg => rfl); (case hr => first | (go_simp; done) | (go_simp; rfl)); intro go hg_go w_1 hX hb; have B_w_1 : Aside0 (Below (w.heap.size) w w_1) := ⟨below_then B_w.out B_w.out.size hb⟩; have S_w_1 : Aside0 (Sep (w.heap.size) (Stars [Blk go #[.int .i64 d, .int .i64 n] 66]) w_1) := ⟨Sep.new_blk S_w.out B_w.out.size hg_go hb hX⟩; have Q_w_1 : Aside0 (Below w.heap.size w w_1) := ⟨hb⟩; obtain ⟨c_go_0_w_1, c_go_1_w_1⟩ := XW.cells2 (Sep.front [] [] S_w_1.out).blk; obtain ⟨z_go_0_w_1, z_go_1_w_1⟩ := XW.froz2 (Sep.front [] [] S_w_1.out).blk; clear S_w; clear hX hb hg_go) | (go_at_call 38; (with_reducible refine (found_nil _).mono ?_); rintro e w' ⟨rfl, rfl⟩) | (go_at_call 34; (with_reducible refine (edit_nil _ _).mono ?_); rintro e w' ⟨⟨v_e, rfl⟩, rfl⟩) | (go_at_call 36; (with_reducible refine (type_nil _ n).mono ?_); rintro e w' ⟨rfl, rfl⟩) | (go_at_call 42; (with_reducible refine (rub_nil _).mono ?_); rintro e w' ⟨rfl, rfl⟩) | (go_at_call 44; (with_reducible refine (back_nil _).mono ?_); rintro e w' ⟨rfl, rfl⟩) | (go_at_call 46; (with_reducible refine (on_nil _).mono ?_); rintro e w_2 ⟨rfl, hb⟩; have B_w_2 : Aside0 (Below (w.heap.size) w w_2) := ⟨below_then B_w_1.out B_w_1.out.size hb⟩; have S_w_2 : Aside0 (Sep (w.heap.size) (Stars [Blk go #[.int .i64 d, .int .i64 n] 66]) w_2) := ⟨Sep.below S_w_1.out hb⟩; have Q_w_2 : Aside0 (Below w.heap.size w w_2) := ⟨below_step Q_w_1.out hb⟩; obtain ⟨c_go_0_w_2, c_go_1_w_2⟩ := XW.cells2 (Sep.front [] [] S_w_2.out).blk; obtain ⟨z_go_0_w_2, z_go_1_w_2⟩ := XW.froz2 (Sep.front [] [] S_w_2.out).blk; clear S_w_1 c_go_0_w_1 c_go_1_w_1 z_go_0_w_1 z_go_1_w_1; clear hb) | (go_at_call 39; (with_reducible refine (query_nil _).mono ?_); rintro e w' ⟨rfl, rfl⟩) | (go_at_call 30; (with_reducible refine (up_nil _).mono ?_); rintro e w_3 ⟨rfl, hb⟩; have B_w_3 : Aside0 (Below (w.heap.size) w w_3) := ⟨below_then B_w_2.out B_w_2.out.size hb⟩; have S_w_3 : Aside0 (Sep (w.heap.size) (Stars [Blk go #[.int .i64 d, .int .i64 n] 66]) w_3) := ⟨Sep.below S_w_2.out hb⟩; have Q_w_3 : Aside0 (Below w.heap.size w w_3) := ⟨below_step Q_w_2.out hb⟩; obtain ⟨c_go_0_w_3, c_go_1_w_3⟩ := XW.cells2 (Sep.front [] [] S_w_3.out).blk; obtain ⟨z_go_0_w_3, z_go_1_w_3⟩ := XW.froz2 (Sep.front [] [] S_w_3.out).blk; clear S_w_2 c_go_0_w_2 c_go_1_w_2 z_go_0_w_2 z_go_1_w_2; clear hb) | (go_at_call 32; (with_reducible refine (down_nil _).mono ?_); rintro e w_4 ⟨rfl, hb⟩; have B_w_4 : Aside0 (Below (w.heap.size) w w_4) := ⟨below_then B_w_3.out B_w_3.out.size hb⟩; have S_w_4 : Aside0 (Sep (w.heap.size) (Stars [Blk go #[.int .i64 d, .int .i64 n] 66]) w_4) := ⟨Sep.below S_w_3.out hb⟩; have Q_w_4 : Aside0 (Below w.heap.size w w_4) := ⟨below_step Q_w_3.out hb⟩; obtain ⟨c_go_0_w_4, c_go_1_w_4⟩ := XW.cells2 (Sep.front [] [] S_w_4.out).blk; obtain ⟨z_go_0_w_4, z_go_1_w_4⟩ := XW.froz2 (Sep.front [] [] S_w_4.out).blk; clear S_w_3 c_go_0_w_3 c_go_1_w_3 z_go_0_w_3 z_go_1_w_3; clear hb) | (go_at_call 29; (with_reducible refine (line_nil _).mono ?_); rintro e w' ⟨rfl, rfl⟩) | (go_at_call 26; (with_reducible refine (live19 _ m (pw_cell_below B_w_4.out HM.out)).mono ?_); rintro e2 w_l ⟨rfl, hb⟩; have HBl := Aside0.mk hb; clear hb))
  go_ret
  exact ⟨rfl, below_then B_w_4.out B_w_4.out.size HBl.out⟩
end Go.Proofs.Ythofobcbbddeeaa.SrchA
