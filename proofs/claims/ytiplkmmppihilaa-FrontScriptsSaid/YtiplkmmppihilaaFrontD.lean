/- Fronts: New. Conditions: none beyond those that each theorem states. -/
import Derived.Test.YtiplkmmppihilaaFrontC
namespace Go.Proofs.Ytiplkmmppihilaa.FrontA
open Go.RowKit Go.Proofs.YtiplkmmppihilaaW.PrintWords Go.Proofs.YtiplkmmppihilaaW.PrintLast Go.Proofs.YtiplkmmppihilaaW.PrintMore Go.Proofs.Ytiplkmmppihilaa.XS Go.Proofs.Ytiplkmmppihilaa.PFront
set_option linter.unusedVariables false
set_option linter.unusedSimpArgs false
theorem info76 : (Try.prog.info? 76).map (fun i => (i.zero, i.size, i.bytes)) = some (some (.slice none 0 0), 1, 24) := by kernel_rfl
theorem info50 : (Try.prog.info? 50).map (fun i => (i.zero, i.size, i.bytes)) = some (some (.slice none 0 0), 1, 24) := by kernel_rfl
/-- The front of so many sites, that has nothing. -/
def none9 (n : Nat) : List (List Int) := List.replicate n (List.replicate n 0)
theorem none_good (n : Nat) (h1 : 1 ≤ n) (h2 : n ≤ 16) : Good (none9 n) := by
  refine ⟨by simp [none9]; exact h1, by simp [none9]; exact h2, fun l hl => ?_⟩
  unfold none9 at hl
  rw [List.mem_replicate] at hl
  rw [hl.2]
  exact ⟨by simp [none9], good_zeros n h1 h2⟩
abbrev Fd0 : Array Bool := #[false, false, false, false, false, false, false, false, false, false, false, false]
abbrev Fd1 : Array Bool := #[true, false, false, false, false, false, false, false, false, false, false, false]
abbrev Fd2 : Array Bool := #[true, true, false, false, false, false, false, false, false, false, false, false]
abbrev Fd3 : Array Bool := #[true, true, true, false, false, false, false, false, false, false, false, false]
abbrev Fd4 : Array Bool := #[true, true, true, true, false, false, false, false, false, false, false, false]
abbrev Fd5 : Array Bool := #[true, true, true, true, false, true, false, false, false, false, false, false]
abbrev Fd6 : Array Bool := #[true, true, true, true, true, true, false, false, false, false, false, false]
abbrev Fd7 : Array Bool := #[true, true, true, true, true, true, true, false, false, false, false, false]
abbrev Fd8 : Array Bool := #[true, true, true, true, true, true, true, true, false, false, false, false]
abbrev Fd9 : Array Bool := #[true, true, true, true, true, true, true, true, true, false, false, false]
abbrev Fd10 : Array Bool := #[true, true, true, true, true, true, true, true, true, true, false, false]
abbrev Fd11 : Array Bool := #[true, true, true, true, true, true, true, true, true, true, true, false]
abbrev Fd12 : Array Bool := #[true, true, true, true, true, true, true, true, true, true, true, true]
set_option maxHeartbeats 2000000 in
set_option maxRecDepth 100000 in
theorem front_new (w : World) (n : Nat) (h1 : 1 ≤ n) (h2 : n ≤ 16) : Calls Try.prog 35 #[.int .i64 (n : Int)] w fun e w' => ∃ g, e = .returned (.tuple #[.pointer (some ⟨g, 0, none⟩), .int .i64 0]) ∧ Sep w.heap.size (FA 103 76 g (none9 n)) w' ∧ Below w.heap.size w w' := by
  unfold none9
  obtain ⟨zr, hzr⟩ : ∃ zr : List Int, zr = List.replicate n 0 := ⟨_, rfl⟩
  rw [← hzr]
  have HN : Aside0 (vec_New.f (n : Int) = some (zr, 0)) := ⟨by rw [new_is]; unfold fresh; rw [if_pos ⟨by omega, by omega⟩, hzr, Int.toNat_natCast]⟩
  clear hzr
  have B_w := Aside0.mk (Below.refl w.heap.size w)
  have S_w : Aside0 (Sep w.heap.size (Stars []) w) := ⟨Sep.emp _ _⟩
  have hu103 := Try.underlying103
  have hu101 := Try.underlying101
  go_enter Try.func35, Try.ntmps35
  go_wp2_with (first | (go_at_call 55; (with_reducible refine (vec_New.calls _ _ _ _ HN.out).mono ?_); rintro e w_1 ⟨v1, rfl, hr, hb⟩; clear hr; have B_w_1 : Aside0 (Below (w.heap.size) w w_1) := ⟨below_then B_w.out B_w.out.size hb⟩; have S_w_1 : Aside0 (Sep (w.heap.size) (Stars []) w_1) := ⟨Sep.below S_w.out hb⟩; have Q_w_1 : Aside0 (Below w.heap.size w w_1) := ⟨hb⟩; clear S_w; clear hb) | ((with_reducible refine gate_dst (N := 18) rfl ?_); (try (refine gate_guard (by rfl) ?_; dsimp only)); refine box_event ?hg (N := 18) ?hd (cs := #[.slice none 0 0]) (t := 103) ?hr ?_; (case hd => rfl); (case hg => rfl); (case hr => first | (go_simp; done) | (go_simp; rfl)); intro gf hg_gf w_2 hX hb; have B_w_2 : Aside0 (Below (w.heap.size) w w_2) := ⟨below_then B_w_1.out B_w_1.out.size hb⟩; have S_w_2 : Aside0 (Sep (w.heap.size) (Stars [Blk gf #[.slice none 0 0] 103]) w_2) := ⟨Sep.new_blk S_w_1.out B_w_1.out.size hg_gf hb hX⟩; have Q_w_2 : Aside0 (Below w.heap.size w w_2) := ⟨below_step Q_w_1.out hb⟩; have c_gf_0_w_2 := XW.cells1 (Sep.front [] [] S_w_2.out).blk; have z_gf_0_w_2 := XW.froz1 (Sep.front [] [] S_w_2.out).blk; clear S_w_1; clear hX hb hg_gf))
  go_loopw [20] (fun i wr => ∃ (k : Nat) (A : Option Addr) (c : Nat), k ≤ n ∧ i = .int .i64 k ∧ Aside0 (Sep w.heap.size (Stars [Row KR 76 (.slice A k c) (List.replicate k zr), Blk gf #[.slice A k c] 103]) wr) ∧ Aside0 (Below w.heap.size w wr)) (fun i _ => n - (intOf i).toNat)
  case atStart => exact ⟨0, none, 0, by omega, rfl, ⟨Sep.nil_row KR 76 S_w_2.out⟩, B_w_2⟩
  case round =>
    clear S_w_2 B_w_2 c_gf_0_w_2 z_gf_0_w_2
    obtain ⟨k, A, c, hk, rfl, S_wr, B_wr⟩ := hrel
    by_cases hlt : k < n
    · have hlt2 : (k : Int) < (n : Int) := by omega
      have c_gf_0_wr := XW.cells1 (Sep.front [Row KR 76 (.slice A k c) (List.replicate k zr)] [] S_wr.out).blk
      have z_gf_0_wr := XW.froz1 (Sep.front [Row KR 76 (.slice A k c) (List.replicate k zr)] [] S_wr.out).blk
      go_wp2_with (first | (go_at_call 55; (with_reducible refine (vec_New.calls _ _ _ _ HN.out).mono ?_); rintro e wr_1 ⟨v2, rfl, hr, hb⟩; have B_wr_1 : Aside0 (Below (w.heap.size) w wr_1) := ⟨below_then B_wr.out B_wr.out.size hb⟩; have S_wr_1 : Aside0 (Sep (w.heap.size) (Stars [Row (Kd.int .i64) 3 (v2) (zr), Row KR 76 (.slice A k c) (List.replicate k zr), Blk gf #[.slice A k c] 103]) wr_1) := ⟨Sep.new_row S_wr.out B_wr.out.size hb hr⟩; have c_gf_0_wr_1 := XW.cells1 (Sep.front [Row (Kd.int .i64) 3 (v2) (zr), Row KR 76 (.slice A k c) (List.replicate k zr)] [] S_wr_1.out).blk; have z_gf_0_wr_1 := XW.froz1 (Sep.front [Row (Kd.int .i64) 3 (v2) (zr), Row KR 76 (.slice A k c) (List.replicate k zr)] [] S_wr_1.out).blk; clear S_wr c_gf_0_wr z_gf_0_wr; obtain ⟨A2, c2, hv, -, -⟩ := Sep.row (Sep.front [] [Row KR 76 (.slice A k c) (List.replicate k zr), Blk gf #[.slice A k c] 103] S_wr_1.out); subst hv; clear hb hr) | ((with_reducible refine gate_builtin (b := .append) (xs := #[.tmp 31, .tmp 33]) rfl ?_); at_builtin; go_must (refine sep_append_elem KR (E := Row (Kd.int .i64) 3 (.slice A2 zr.length c2) (zr)) (F := Stars [Blk gf #[.slice A k c] 103]) (w.heap.size) rfl (.tmp 31) (.tmp 33) 101 76 (.slice none 0 0) 24 rfl Try.underlying101 info76 rfl (by decide) (by decide) _ (List.replicate k zr) (zr) [.slice A2 zr.length c2] rfl rfl (fun _ h => row_elem h) (Sep.front [Row (Kd.int .i64) 3 (.slice A2 zr.length c2) (zr)] [Blk gf #[.slice A k c] 103] S_wr_1.out) B_wr_1.out.size ?al ?_; (case al => rw [List.length_replicate]; omega); intro v_n wr_2 hS hb; obtain ⟨An, cn, hv, -, -⟩ := Sep.row hS; subst hv; rw [show (List.replicate k zr ++ [zr]).length = (k + 1) by simp] at hS; have B_wr_2 : Aside0 (Below (w.heap.size) w wr_2) := ⟨(Below.trans B_wr_1.out hb)⟩; have S_wr_2 : Aside0 (Sep (w.heap.size) (Stars [Row KR 76 (.slice An ((k + 1)) cn) (List.replicate k zr ++ [zr]), Blk gf #[.slice A k c] 103]) wr_2) := ⟨hS⟩; have c_gf_0_wr_2 := XW.cells1 (Sep.front [Row KR 76 (.slice An ((k + 1)) cn) (List.replicate k zr ++ [zr])] [] S_wr_2.out).blk; have z_gf_0_wr_2 := XW.froz1 (Sep.front [Row KR 76 (.slice An ((k + 1)) cn) (List.replicate k zr ++ [zr])] [] S_wr_2.out).blk; clear S_wr_1 c_gf_0_wr_1 z_gf_0_wr_1; clear hS hb)) | ((with_reducible refine gate_store (t := 101) (p := 36) rfl ?_); go_must (refine store_event (t := 101) (p := 36) (v := ?vo_1) (w1 := (wr_2.setCell ⟨gf, 0, none⟩ (.slice An (k + 1) cn))) ?hg ?ho ?hn ?hr ?_; (case ho => rfl); (case hg => rfl); (case hn => rfl); (case hr => first | (go_simp; done) | (go_simp; rfl)); intro wr_3 hw; have B_wr_3 : Aside0 (Below (w.heap.size) w wr_3) := ⟨by rw [hw]; exact (Below.setCell B_wr_2.out ((Sep.front [Row KR 76 (.slice An ((k + 1)) cn) (List.replicate k zr ++ [zr])] [] S_wr_2.out).blk_le) _)⟩; have S_wr_3 : Aside0 (Sep (w.heap.size) (Stars [Row KR 76 (.slice An ((k + 1)) cn) (List.replicate k zr ++ [zr]), Blk gf #[.slice An (k + 1) cn] 103]) wr_3) := ⟨by rw [hw]; exact Sep.back [Row KR 76 (.slice An ((k + 1)) cn) (List.replicate k zr ++ [zr])] [] (Sep.store (Sep.front [Row KR 76 (.slice An ((k + 1)) cn) (List.replicate k zr ++ [zr])] [] S_wr_2.out) B_wr_2.out.size 0 (.slice An (k + 1) cn) (cs' := #[.slice An (k + 1) cn]) rfl)⟩; have c_gf_0_wr_3 := XW.cells1 (Sep.front [Row KR 76 (.slice An ((k + 1)) cn) (List.replicate k zr ++ [zr])] [] S_wr_3.out).blk; have z_gf_0_wr_3 := XW.froz1 (Sep.front [Row KR 76 (.slice An ((k + 1)) cn) (List.replicate k zr ++ [zr])] [] S_wr_3.out).blk; clear S_wr_2 c_gf_0_wr_2 z_gf_0_wr_2; clear hw)))
      go_roundw
      case rel => first | exact ⟨k + 1, An, cn, by omega, by go_num, ⟨by rw [List.replicate_succ']; exact S_wr_3.out⟩, B_wr_3⟩ | ((repeat apply Exists.intro); exact ⟨⟨k + 1, An, cn, by omega, by go_num, ⟨by rw [List.replicate_succ']; exact S_wr_3.out⟩, B_wr_3⟩, rfl⟩)
      case measure => simp [intOf]; omega
    · obtain rfl : k = n := by omega
      have hlt2 : ¬ (k : Int) < (k : Int) := by omega
      go_wp2
      go_ret2
      exact ⟨gf, rfl, (FA.close S_wr.out.swap).left, B_wr.out⟩
theorem front_none (w : World) (n : Int) (h : ¬ (1 ≤ n ∧ n ≤ 16)) : Calls Try.prog 35 #[.int .i64 n] w fun e w' => e = .returned (.tuple #[.pointer none, .int .i64 1]) ∧ Below w.heap.size w w' := by
  have HN : Aside0 (vec_New.f n = some ([], 1)) := ⟨by rw [new_is]; unfold fresh; rw [if_neg h]⟩
  clear h
  have B_w := Aside0.mk (Below.refl w.heap.size w)
  have S_w : Aside0 (Sep w.heap.size (Stars []) w) := ⟨Sep.emp _ _⟩
  go_enter Try.func35, Try.ntmps35
  go_wp2_with (first | (go_at_call 55; (with_reducible refine (vec_New.calls _ _ _ _ HN.out).mono ?_); rintro e w_1 ⟨v1, rfl, hr, hb⟩; clear hr; have B_w_1 : Aside0 (Below (w.heap.size) w w_1) := ⟨below_then B_w.out B_w.out.size hb⟩; have S_w_1 : Aside0 (Sep (w.heap.size) (Stars []) w_1) := ⟨Sep.below S_w.out hb⟩; have Q_w_1 : Aside0 (Below w.heap.size w w_1) := ⟨hb⟩; clear S_w; clear hb))
  go_ret2
  exact ⟨rfl, B_w_1.out⟩
set_option maxHeartbeats 2000000 in
set_option maxRecDepth 100000 in
theorem ref_new (w : World) (n : Nat) (h1 : 1 ≤ n) (h2 : n ≤ 16) : Calls Try.prog 36 #[.int .i64 (n : Int)] w fun e w' => ∃ g, e = .returned (.tuple #[.pointer (some ⟨g, 0, none⟩), .int .i64 0]) ∧ Sep w.heap.size (FA 105 50 g (none9 n)) w' ∧ Below w.heap.size w w' := by
  unfold none9
  obtain ⟨zr, hzr⟩ : ∃ zr : List Int, zr = List.replicate n 0 := ⟨_, rfl⟩
  rw [← hzr]
  have HN : Aside0 (duetref06_Zero.f 1000 (n : Int) = some zr) := ⟨by rw [zero_is n 1000 (by omega) (by omega), hzr]⟩
  clear hzr
  have d1 : decide ((n : Int) < 1) = false := decide_eq_false (by omega)
  have d2 : decide (16 < (n : Int)) = false := decide_eq_false (by omega)
  have B_w := Aside0.mk (Below.refl w.heap.size w)
  have S_w : Aside0 (Sep w.heap.size (Stars []) w) := ⟨Sep.emp _ _⟩
  have hu105 := Try.underlying105
  have hu83 := Try.underlying83
  go_enter Try.func36, Try.ntmps36
  go_wp2_with (first | ((with_reducible refine gate_dst (N := 13) rfl ?_); (try (refine gate_guard (by rfl) ?_; dsimp only)); refine box_event ?hg (N := 13) ?hd (cs := #[.slice none 0 0]) (t := 105) ?hr ?_; (case hd => rfl); (case hg => rfl); (case hr => first | (go_simp; done) | (go_simp; rfl)); intro gf hg_gf w_1 hX hb; have B_w_1 : Aside0 (Below (w.heap.size) w w_1) := ⟨below_then B_w.out B_w.out.size hb⟩; have S_w_1 : Aside0 (Sep (w.heap.size) (Stars [Blk gf #[.slice none 0 0] 105]) w_1) := ⟨Sep.new_blk S_w.out B_w.out.size hg_gf hb hX⟩; have Q_w_1 : Aside0 (Below w.heap.size w w_1) := ⟨hb⟩; have c_gf_0_w_1 := XW.cells1 (Sep.front [] [] S_w_1.out).blk; have z_gf_0_w_1 := XW.froz1 (Sep.front [] [] S_w_1.out).blk; clear S_w; clear hX hb hg_gf))
  go_loopw [5] (fun i wr => ∃ (k : Nat) (A : Option Addr) (c : Nat), k ≤ n ∧ i = .int .i64 k ∧ Aside0 (Sep w.heap.size (Stars [Row KR 50 (.slice A k c) (List.replicate k zr), Blk gf #[.slice A k c] 105]) wr) ∧ Aside0 (Below w.heap.size w wr)) (fun i _ => n - (intOf i).toNat)
  case atStart => exact ⟨0, none, 0, by omega, rfl, ⟨Sep.nil_row KR 50 S_w_1.out⟩, B_w_1⟩
  case round =>
    clear S_w_1 B_w_1 c_gf_0_w_1 z_gf_0_w_1
    obtain ⟨k, A, c, hk, rfl, S_wr, B_wr⟩ := hrel
    by_cases hlt : k < n
    · have hlt2 : (k : Int) < (n : Int) := by omega
      have c_gf_0_wr := XW.cells1 (Sep.front [Row KR 50 (.slice A k c) (List.replicate k zr)] [] S_wr.out).blk
      have z_gf_0_wr := XW.froz1 (Sep.front [Row KR 50 (.slice A k c) (List.replicate k zr)] [] S_wr.out).blk
      go_upto_region 7 with (fail)
      refine start_ (n := 12) (S := fun w' => w'.cell? ⟨gf, 0, none⟩ = some (.slice A k c)) (ds := [11]) Fd0 (by kernel_rfl) rfl rfl (c_gf_0_wr) (fun hHeld => ?_)
      generalize hdw : wr.drew = wr_1 at hHeld ⊢
      have HB_wr_1 : Aside0 (Below wr.heap.size wr wr_1) := ⟨by rw [← hdw]; exact below_drew1 (Below.refl _ _)⟩
      clear hdw
      have B_wr_1 : Aside0 (Below (w.heap.size) w wr_1) := ⟨below_then B_wr.out B_wr.out.size HB_wr_1.out⟩
      have S_wr_1 : Aside0 (Sep (w.heap.size) (Stars [Row KR 50 (.slice A k c) (List.replicate k zr), Blk gf #[.slice A k c] 105]) wr_1) := ⟨Sep.below S_wr.out HB_wr_1.out⟩
      have c_gf_0_wr_1 := XW.cells1 (Sep.front [Row KR 50 (.slice A k c) (List.replicate k zr)] [] S_wr_1.out).blk
      have z_gf_0_wr_1 := XW.froz1 (Sep.front [Row KR 50 (.slice A k c) (List.replicate k zr)] [] S_wr_1.out).blk
      clear S_wr c_gf_0_wr z_gf_0_wr
      refine pure_ (i := 0) (N := some 19) (v := ?_) (a' := ?_) Fd1 rfl rfl (by kernel_rfl) (fun _ _ _ h => h) (Or.inl ⟨by rfl, ?_⟩) ?_ ?_
      rotate_left
      · intro w'
        go_simp
        with_reducible rfl
      rotate_left
      · simp only [Act.put, List.setIfInBounds_toArray, List.set_cons_zero, List.set_cons_succ, i64_w, i32_w]
        rfl
      refine pure_ (i := 1) (N := some 20) (v := ?_) (a' := ?_) Fd2 rfl rfl (by kernel_rfl) (fun _ _ _ h => h) (Or.inl ⟨by rfl, ?_⟩) ?_ ?_
      rotate_left
      · intro w'
        go_simp
        with_reducible rfl
      rotate_left
      · simp only [Act.put, List.setIfInBounds_toArray, List.set_cons_zero, List.set_cons_succ, i64_w, i32_w]
        rfl
      refine pure_ (i := 2) (N := some 21) (v := ?_) (a' := ?_) Fd3 rfl rfl (by kernel_rfl) (fun _ _ _ h => h) (Or.inl ⟨by rfl, ?_⟩) ?_ ?_
      rotate_left
      · intro w'
        go_simp
        with_reducible rfl
      rotate_left
      · simp only [Act.put, List.setIfInBounds_toArray, List.set_cons_zero, List.set_cons_succ, i64_w, i32_w]
        rfl
      refine pure_ (i := 3) (N := some 22) (v := ?_) (a' := ?_) Fd4 rfl rfl (by kernel_rfl) (fun _ _ _ h => h) (Or.inl ⟨by rfl, ?_⟩) ?_ ?_
      rotate_left
      · intro w'
        go_simp
        with_reducible rfl
      rotate_left
      · simp only [Act.put, List.setIfInBounds_toArray, List.set_cons_zero, List.set_cons_succ, i64_w, i32_w]
        rfl
      refine pure_ (i := 5) (N := some 24) (v := ?_) (a' := ?_) Fd5 rfl rfl (by kernel_rfl) (fun _ _ _ h => h) (Or.inl ⟨by rfl, ?_⟩) ?_ ?_
      rotate_left
      · intro w'
        go_simp
        with_reducible rfl
      rotate_left
      · simp only [Act.put, List.setIfInBounds_toArray, List.set_cons_zero, List.set_cons_succ, i64_w, i32_w]
        rfl
      refine take_ (i := 4) (N := some 23) (v := ?_) (a' := ?_) Fd6 rfl rfl (by kernel_rfl) (fun _ _ _ h => h) (Or.inl ⟨by rfl, ?_⟩) hHeld ?_ ?_
      rotate_left
      · intro w' s0
        go_simp
        with_reducible rfl
      rotate_left
      · simp only [Act.put, List.setIfInBounds_toArray, List.set_cons_zero, List.set_cons_succ, i64_w, i32_w]
        rfl
      refine one_ (i := 6) (N := some 25) Fd7 rfl rfl (by kernel_rfl) (by decide) (fun K hK => ?_)
      refine goes_ Try.func48 (by kernel_rfl) rfl #[.int .i64 (n : Int)] (by rfl) rfl rfl (by simp only [List.map_toArray, List.map_cons, List.map_nil]; rfl) ?_
      with_reducible refine (duetref06_Zero.calls 1000 _ _ _ HN.out).mono ?_
      rintro e wr_2 ⟨v2, rfl, hr, hb⟩
      refine ⟨_, rfl, ?_⟩
      obtain ⟨A2, c2, hv, -, -⟩ := Kd.R_reads hr; subst hv
      have B_wr_2 : Aside0 (Below (w.heap.size) w wr_2) := ⟨below_then B_wr_1.out B_wr_1.out.size hb⟩
      have S_wr_2 : Aside0 (Sep (w.heap.size) (Stars [Row (Kd.int .i64) 3 (.slice A2 zr.length c2) (zr), Row KR 50 (.slice A k c) (List.replicate k zr), Blk gf #[.slice A k c] 105]) wr_2) := ⟨Sep.new_row S_wr_1.out B_wr_1.out.size hb hr⟩
      have c_gf_0_wr_2 := XW.cells1 (Sep.front [Row (Kd.int .i64) 3 (.slice A2 zr.length c2) (zr), Row KR 50 (.slice A k c) (List.replicate k zr)] [] S_wr_2.out).blk
      have z_gf_0_wr_2 := XW.froz1 (Sep.front [Row (Kd.int .i64) 3 (.slice A2 zr.length c2) (zr), Row KR 50 (.slice A k c) (List.replicate k zr)] [] S_wr_2.out).blk
      clear S_wr_1 c_gf_0_wr_1 z_gf_0_wr_1
      clear hb
      clear hr
      refine hK.out _ _ (c_gf_0_wr_2) (fun hHeld => ?_)
      clear hK K
      refine norm_ (a' := ?_) ?_ ?_
      rotate_left
      · show Act.put _ (some 25) _ = _
        simp only [Act.put, List.setIfInBounds_toArray, List.set_cons_zero, List.set_cons_succ, i64_w, i32_w]
        rfl
      refine one_ (i := 7) (N := some 26) Fd8 rfl rfl (by kernel_rfl) (by decide) (fun K hK => ?_)
      refine value_ (w1 := ?_) (v := ?_) (by rfl) rfl ?_ ?_
      rotate_left 2
      · go_simp
        constructor
        · rfl
        · rfl
      refine hK.out _ _ (((World.cell?_alloc_lt _ _ _ (World.block_lt_of_cell? _ _ c_gf_0_wr_2)).trans c_gf_0_wr_2)) (fun hHeld => ?_)
      clear hK K
      refine norm_ (a' := ?_) ?_ ?_
      rotate_left
      · show Act.put _ (some 26) _ = _
        simp only [Act.put, List.setIfInBounds_toArray, List.set_cons_zero, List.set_cons_succ, i64_w, i32_w]
        rfl
      refine one_ (i := 8) (N := some 27) Fd9 rfl rfl (by kernel_rfl) (by decide) (fun K hK => ?_)
      refine sep_append_elem_step KR (E := Row (Kd.int .i64) 3 (.slice A2 zr.length c2) (zr)) (F := Stars [Blk gf #[.slice A k c] 105]) (w.heap.size) (by rfl) (.tmp 23) (.tmp 26) 83 50 (.slice none 0 0) 24 rfl Try.underlying83 info50 rfl (by decide) (by decide) _ (List.replicate k zr) (zr) [.slice A2 zr.length c2] rfl rfl (fun _ h => row_elem h) (Sep.front [Row (Kd.int .i64) 3 (.slice A2 zr.length c2) (zr)] [Blk gf #[.slice A k c] 105] S_wr_2.out) B_wr_2.out.size ?al ?_
      (case al => rw [List.length_replicate]; omega)
      intro v_n wr_3 hS hb
      obtain ⟨An, cn, hv, -, -⟩ := Sep.row hS
      subst hv
      rw [show (List.replicate k zr ++ [zr]).length = (k + 1) by simp] at hS
      have B_wr_3 : Aside0 (Below (w.heap.size) w wr_3) := ⟨(Below.trans B_wr_2.out hb)⟩
      have S_wr_3 : Aside0 (Sep (w.heap.size) (Stars [Row KR 50 (.slice An ((k + 1)) cn) (List.replicate k zr ++ [zr]), Blk gf #[.slice A k c] 105]) wr_3) := ⟨hS⟩
      have c_gf_0_wr_3 := XW.cells1 (Sep.front [Row KR 50 (.slice An ((k + 1)) cn) (List.replicate k zr ++ [zr])] [] S_wr_3.out).blk
      have z_gf_0_wr_3 := XW.froz1 (Sep.front [Row KR 50 (.slice An ((k + 1)) cn) (List.replicate k zr ++ [zr])] [] S_wr_3.out).blk
      clear S_wr_2 c_gf_0_wr_2 z_gf_0_wr_2
      clear hS hb
      refine hK.out _ _ (c_gf_0_wr_3) (fun hHeld => ?_)
      clear hK K
      refine norm_ (a' := ?_) ?_ ?_
      rotate_left
      · show Act.put _ (some 27) _ = _
        simp only [Act.put, List.setIfInBounds_toArray, List.set_cons_zero, List.set_cons_succ, i64_w, i32_w]
        rfl
      refine pure_ (i := 9) (N := some 28) (v := ?_) (a' := ?_) Fd10 rfl rfl (by kernel_rfl) (fun _ _ _ h => h) (Or.inl ⟨by rfl, ?_⟩) ?_ ?_
      rotate_left
      · intro w'
        go_simp
        with_reducible rfl
      rotate_left
      · simp only [Act.put, List.setIfInBounds_toArray, List.set_cons_zero, List.set_cons_succ, i64_w, i32_w]
        rfl
      refine pure_ (i := 10) (N := some 29) (v := ?_) (a' := ?_) Fd11 rfl rfl (by kernel_rfl) (fun _ _ _ h => h) (Or.inl ⟨by rfl, ?_⟩) ?_ ?_
      rotate_left
      · intro w'
        go_simp
        with_reducible rfl
      rotate_left
      · simp only [Act.put, List.setIfInBounds_toArray, List.set_cons_zero, List.set_cons_succ, i64_w, i32_w]
        rfl
      refine last_ (i := 11) (N := none) Fd12 rfl rfl (by kernel_rfl) (by decide) (fun K hK => ?_)
      refine skip_ (w1 := ?_) (by rfl) rfl ?_ ?_
      rotate_left
      · go_simp
        rfl
      refine hK.out _ _ ?_
      clear hK K
      refine done_ (by kernel_rfl) ?_
      go_wp2
      have S_9 := Sep.back [Row KR 50 (.slice An ((k + 1)) cn) (List.replicate k zr ++ [zr])] [] (Sep.store (Sep.front [Row KR 50 (.slice An ((k + 1)) cn) (List.replicate k zr ++ [zr])] [] S_wr_3.out) B_wr_3.out.size 0 (.slice An (k + 1) cn) (cs' := #[.slice An (k + 1) cn]) rfl)
      have B_9 : Below w.heap.size w (wr_3.setCell ⟨gf, 0, none⟩ (.slice An (k + 1) cn)) := Below.setCell B_wr_3.out ((Sep.front [Row KR 50 (.slice An ((k + 1)) cn) (List.replicate k zr ++ [zr])] [] S_wr_3.out).blk_le) _
      have HS9 := Aside0.mk S_9
      have HB9 := Aside0.mk B_9
      clear S_9 B_9
      go_roundw
      case rel => first | exact ⟨k + 1, An, cn, by omega, by go_num, ⟨by rw [List.replicate_succ']; exact HS9.out⟩, HB9⟩ | ((repeat apply Exists.intro); exact ⟨⟨k + 1, An, cn, by omega, by go_num, ⟨by rw [List.replicate_succ']; exact HS9.out⟩, HB9⟩, rfl⟩)
      case measure => simp [intOf]; omega
    · obtain rfl : k = n := by omega
      have hlt2 : ¬ (k : Int) < (k : Int) := by omega
      go_wp2
      go_ret2
      exact ⟨gf, rfl, (FA.close S_wr.out.swap).left, B_wr.out⟩
theorem ref_none (w : World) (n : Int) (h : ¬ (1 ≤ n ∧ n ≤ 16)) : Calls Try.prog 36 #[.int .i64 n] w fun e w' => e = .returned (.tuple #[.pointer none, .int .i64 1]) ∧ w = w' := by
  by_cases h1 : n < 1
  · have d1 : decide (n < 1) = true := decide_eq_true h1
    clear h h1
    go_enter Try.func36, Try.ntmps36
    go_wp2
    go_ret2
    exact ⟨rfl, rfl⟩
  · have d1 : decide (n < 1) = false := decide_eq_false h1
    have d2 : decide (16 < n) = true := decide_eq_true (by omega)
    clear h h1
    go_enter Try.func36, Try.ntmps36
    go_wp2
    go_ret2
    exact ⟨rfl, rfl⟩
end Go.Proofs.Ytiplkmmppihilaa.FrontA
