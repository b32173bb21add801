/- Fronts: Late. Conditions: none beyond those that each theorem states. -/
import Derived.Test.YtiplkmmppihilaaFrontB
namespace Go.Proofs.Ytiplkmmppihilaa.FrontA
open Go.RowKit Go.Proofs.YtiplkmmppihilaaW.PrintWords Go.Proofs.YtiplkmmppihilaaW.PrintLast Go.Proofs.YtiplkmmppihilaaW.PrintMore Go.Proofs.Ytiplkmmppihilaa.XS Go.Proofs.Ytiplkmmppihilaa.PFront
set_option linter.unusedVariables false
set_option linter.unusedSimpArgs false
theorem equal_loop (a b : List Int) (h : a.length = b.length) (hb : a.length ≤ 1000) : ∀ (d j K : Nat), j + d = a.length → d < K → vec_Vec_int_65.l0 K a b (a.length : Int) j = some (decide (a.drop j = b.drop j)) := by
  intro d
  induction d with
  | zero =>
    intro j K hj hK
    obtain ⟨K, rfl⟩ : ∃ q, K = q + 1 := ⟨K - 1, by omega⟩
    simp only [vec_Vec_int_65.l0]
    rw [if_neg (by omega), List.drop_eq_nil_of_le (by omega), List.drop_eq_nil_of_le (by omega)]
    rfl
  | succ d ih =>
    intro j K hj hK
    obtain ⟨K, rfl⟩ : ∃ q, K = q + 1 := ⟨K - 1, by omega⟩
    simp only [vec_Vec_int_65.l0]
    rw [if_pos (by omega), if_pos (by omega), if_pos (by omega), if_pos (by omega), rd_drop a j (by omega), rd_drop b j (by omega)]
    by_cases c : rd a j = rd b j
    · rw [if_pos c, show wrap64 ((j : Int) + 1) = ((j + 1 : Nat) : Int) by unfold wrap64; omega, ih (j + 1) K (by omega) (by omega)]
      congr 1
      simp [c]
    · rw [if_neg c]
      congr 1
      simp [c]
theorem equal_is (a b : List Int) (K : Nat) (hb : a.length ≤ 1000) (hK : a.length < K) : vec_Vec_int_65.f K a b = some (decide (a = b)) := by
  unfold vec_Vec_int_65.f
  by_cases c : (a.length : Int) = (b.length : Int)
  · rw [if_pos c]
    exact equal_loop a b (by omega) hb a.length 0 K (by omega) hK
  · rw [if_neg c, decide_eq_false]
    intro h; rw [h] at c; exact c rfl
/-- The sites below k whose row is not the most. -/
def late (R : List (List Int)) : Nat → List Int
  | 0 => []
  | k + 1 => if rd_L1 R (k : Int) = most R then late R k else late R k ++ [(k : Int)]
theorem late_le (R : List (List Int)) (k : Nat) : (late R k).length ≤ k := by
  induction k with
  | zero => exact Nat.le_refl _
  | succ k ih =>
    unfold late
    split
    · omega
    · rw [List.length_append]; simp; exact ih
abbrev Fc0 : Array Bool := #[false, false, false, false, false, false, false, false, false, false, false]
abbrev Fc1 : Array Bool := #[true, false, false, false, false, false, false, false, false, false, false]
abbrev Fc2 : Array Bool := #[true, true, false, false, false, false, false, false, false, false, false]
abbrev Fc3 : Array Bool := #[true, true, true, false, false, false, false, false, false, false, false]
abbrev Fc4 : Array Bool := #[true, true, true, false, true, false, false, false, false, false, false]
abbrev Fc5 : Array Bool := #[true, true, true, false, true, false, false, true, false, false, false]
abbrev Fc6 : Array Bool := #[true, true, true, true, true, false, false, true, false, false, false]
abbrev Fc7 : Array Bool := #[true, true, true, true, true, true, false, true, false, false, false]
abbrev Fc8 : Array Bool := #[true, true, true, true, true, true, true, true, false, false, false]
abbrev Fc9 : Array Bool := #[true, true, true, true, true, true, true, true, true, false, false]
abbrev Fc10 : Array Bool := #[true, true, true, true, true, true, true, true, true, true, false]
abbrev Fc11 : Array Bool := #[true, true, true, true, true, true, true, true, true, true, true]
set_option maxHeartbeats 2000000 in
set_option maxRecDepth 100000 in
theorem late_is {g c : Nat} {A : Option Addr} {R : List (List Int)} (w : World) (h : Fr 103 g A c R w) (hG : Good R) : Calls Try.prog 44 #[.pointer (some ⟨g, 0, none⟩)] w fun e w' => ∃ A1 c1, e = .returned (.slice A1 (late R R.length).length c1) ∧ (late R R.length).length ≤ c1 ∧ (Kd.int .i64).C w' A1 (late R R.length).length (late R R.length) ∧ Below w.heap.size w w' := by
  have H := Aside0.mk h
  have x0 := h.2.1
  have hp16 : R.length ≤ 16 := hG.2.1
  have HG := Aside0.mk hG
  have HM := Aside0.mk (cum_good mx_or hG R.length (Nat.le_refl _))
  have B_w := Aside0.mk (Below.refl w.heap.size w)
  have S_w : Aside0 (Sep w.heap.size (Stars []) w) := ⟨Sep.emp _ _⟩
  clear h hG
  go_enter Try.func44, Try.ntmps44
  go_wp2_with (first | (go_at_call 42; (with_reducible refine (most_is _ H.out HG.out).mono ?_); rintro e w_1 ⟨vm, rfl, hr, hb⟩; have B_w_1 : Aside0 (Below (w.heap.size) w w_1) := ⟨below_then B_w.out B_w.out.size hb⟩; have S_w_1 : Aside0 (Sep (w.heap.size) (Stars [Row (Kd.int .i64) 3 (vm) (most R)]) w_1) := ⟨Sep.new_row S_w.out B_w.out.size hb hr⟩; have Q_w_1 : Aside0 (Below w.heap.size w w_1) := ⟨hb⟩; have x0_w_1 := pw_cell_below Q_w_1.out x0; clear S_w; obtain ⟨Am, cm, hv, -, -⟩ := Sep.row (Sep.front [] [] S_w_1.out); subst hv; clear hb hr))
  go_loopw [4, 16] (fun v4 i wr => ∃ k : Nat, k ≤ R.length ∧ i = .int .i64 k ∧ Aside0 (Sep w.heap.size (Stars [Row (Kd.int .i64) 3 v4 (late R k), Row (Kd.int .i64) 3 (.slice Am (most R).length cm) (most R)]) wr) ∧ Aside0 (Below w.heap.size w wr)) (fun _ i _ => R.length - (intOf i).toNat)
  case atStart => exact ⟨0, by omega, rfl, ⟨Sep.nil_row _ _ S_w_1.out⟩, B_w_1⟩
  case round =>
    clear S_w_1 B_w_1 x0_w_1 x0
    obtain ⟨k, hk, rfl, S_wr, B_wr⟩ := hrel
    by_cases hlt : k < R.length
    · have hlt2 : (k : Int) < (R.length : Int) := by omega
      have HL := Aside0.mk (late_le R k)
      have x0 := H.out.2.1
      obtain ⟨ad, Ak, ck, hA, xk, hck, hCk⟩ := at_row H.out.2.2 k hlt
      subst hA
      have HCk := Aside0.mk hCk; have Hck := Aside0.mk hck; clear hCk hck
      have HE : Aside0 (vec_Vec_int_65.f 1000 (rd_L1 R (k : Int)) (most R) = some (decide (rd_L1 R (k : Int) = most R))) := ⟨equal_is _ _ _ (by have := (HG.out.row k hlt).1; omega) (by have := (HG.out.row k hlt).1; omega)⟩
      have x0_wr := pw_cell_below B_wr.out x0
      have xk_wr := pw_cell_below B_wr.out xk
      by_cases hpk : rd_L1 R (k : Int) = most R
      · skip
        have HE2 : Aside0 (vec_Vec_int_65.f 1000 (rd_L1 R (k : Int)) (most R) = some true) := ⟨by rw [HE.out, decide_eq_true hpk]⟩
        have HK : Aside0 (late R (k + 1) = late R k) := ⟨by rw [late, if_pos hpk]⟩
        clear hpk HE
        go_wp2_with (first | (go_at_call 65; (with_reducible refine (vec_Vec_int_65.at 1000 _ _ _ _ _ _ _ _ true _ (Kd.C_below HCk.out B_wr.out) Hck.out (Sep.row_at (Sep.front [Row (Kd.int .i64) 3 (u4) (late R k)] [] S_wr.out)).1 (Sep.row_at (Sep.front [Row (Kd.int .i64) 3 (u4) (late R k)] [] S_wr.out)).2 HE2.out).mono ?_); rintro e wr_1 ⟨rfl, hb0⟩; have hb := Aside0.mk hb0; clear hb0; have B_wr_1 : Aside0 (Below (w.heap.size) w wr_1) := ⟨below_then B_wr.out B_wr.out.size hb.out.below⟩; have S_wr_1 : Aside0 (Sep (w.heap.size) (Stars [Row (Kd.int .i64) 3 (u4) (late R k), Row (Kd.int .i64) 3 (.slice Am (most R).length cm) (most R)]) wr_1) := ⟨Sep.below S_wr.out hb.out.below⟩; have x0_wr_1 := pw_cell_below B_wr_1.out x0; have xk_wr_1 := pw_cell_below B_wr_1.out xk; clear S_wr x0_wr xk_wr; clear hb))
        go_roundw
        case rel => first | exact ⟨k + 1, by omega, by go_num, ⟨by rw [HK.out]; exact S_wr_1.out⟩, B_wr_1⟩ | ((repeat apply Exists.intro); exact ⟨⟨k + 1, by omega, by go_num, ⟨by rw [HK.out]; exact S_wr_1.out⟩, B_wr_1⟩, rfl⟩)
        case measure => simp [intOf]; omega
      · skip
        have HE2 : Aside0 (vec_Vec_int_65.f 1000 (rd_L1 R (k : Int)) (most R) = some false) := ⟨by rw [HE.out, decide_eq_false hpk]⟩
        have HK : Aside0 (late R (k + 1) = late R k ++ [(k : Int)]) := ⟨by rw [late, if_neg hpk]⟩
        clear hpk HE
        go_wp2_with (first | (go_at_call 65; (with_reducible refine (vec_Vec_int_65.at 1000 _ _ _ _ _ _ _ _ false _ (Kd.C_below HCk.out B_wr.out) Hck.out (Sep.row_at (Sep.front [Row (Kd.int .i64) 3 (u4) (late R k)] [] S_wr.out)).1 (Sep.row_at (Sep.front [Row (Kd.int .i64) 3 (u4) (late R k)] [] S_wr.out)).2 HE2.out).mono ?_); rintro e wr_1 ⟨rfl, hb0⟩; have hb := Aside0.mk hb0; clear hb0; have B_wr_1 : Aside0 (Below (w.heap.size) w wr_1) := ⟨below_then B_wr.out B_wr.out.size hb.out.below⟩; have S_wr_1 : Aside0 (Sep (w.heap.size) (Stars [Row (Kd.int .i64) 3 (u4) (late R k), Row (Kd.int .i64) 3 (.slice Am (most R).length cm) (most R)]) wr_1) := ⟨Sep.below S_wr.out hb.out.below⟩; have x0_wr_1 := pw_cell_below B_wr_1.out x0; have xk_wr_1 := pw_cell_below B_wr_1.out xk; clear S_wr x0_wr xk_wr; clear hb) | ((with_reducible refine gate_builtin (b := .append) (xs := #[.tmp 25, .tmp 27]) rfl ?_); at_builtin; go_must (refine sep_append (enc := Value.int .i64) (h1 := fun _ => rfl) (w.heap.size) rfl (.tmp 25) (.tmp 27) 50 3 (.int .i64 0) 8 rfl Try.underlying50 info3 rfl (by decide) _ (late R k) ((k : Int)) rfl rfl (Sep.front [] [Row (Kd.int .i64) 3 (.slice Am (most R).length cm) (most R)] S_wr_1.out) B_wr_1.out.size ?al ?_); (case al => have := HL.out; omega); intro v6 wr_2 hS hb; have B_wr_2 : Aside0 (Below (w.heap.size) w wr_2) := ⟨(Below.trans B_wr_1.out hb)⟩; have S_wr_2 : Aside0 (Sep (w.heap.size) (Stars [Row (Kd.int .i64) 3 (v6) (late R k ++ [(k : Int)]), Row (Kd.int .i64) 3 (.slice Am (most R).length cm) (most R)]) wr_2) := ⟨Sep.back [] [Row (Kd.int .i64) 3 (.slice Am (most R).length cm) (most R)] hS⟩; have x0_wr_2 := pw_cell_below B_wr_2.out x0; have xk_wr_2 := pw_cell_below B_wr_2.out xk; clear S_wr_1 x0_wr_1 xk_wr_1; clear hS hb))
        go_roundw
        case rel => first | exact ⟨k + 1, by omega, by go_num, ⟨by rw [HK.out]; exact S_wr_2.out⟩, B_wr_2⟩ | ((repeat apply Exists.intro); exact ⟨⟨k + 1, by omega, by go_num, ⟨by rw [HK.out]; exact S_wr_2.out⟩, B_wr_2⟩, rfl⟩)
        case measure => simp [intOf]; omega
    · obtain rfl : k = R.length := by omega
      have x0 := H.out.2.1
      have x0_wr := pw_cell_below B_wr.out x0
      have hlt2 : ¬ (R.length : Int) < (R.length : Int) := by omega
      go_wp2
      have hS := Sep.left S_wr.out
      obtain ⟨A1, c1, hv, hle, hC⟩ := Sep.row1 hS
      subst hv
      go_ret
      exact ⟨A1, c1, rfl, hle, hC, B_wr.out⟩
theorem late_nil (w : World) : Calls Try.prog 44 #[.pointer none] w fun e w' => e = .returned (.slice none 0 0) ∧ w = w' := by
  go_enter Try.func44, Try.ntmps44
  go_wp2
  go_ret
  exact ⟨rfl, rfl⟩
set_option maxHeartbeats 2000000 in
set_option maxRecDepth 100000 in
theorem reflate_is {g c : Nat} {A : Option Addr} {R : List (List Int)} (w : World) (h : Fr 105 g A c R w) (hG : Good R) : Calls Try.prog 45 #[.pointer (some ⟨g, 0, none⟩)] w fun e w' => ∃ A1 c1, e = .returned (.slice A1 (late R R.length).length c1) ∧ (late R R.length).length ≤ c1 ∧ (Kd.int .i64).C w' A1 (late R R.length).length (late R R.length) ∧ Below w.heap.size w w' := by
  have H := Aside0.mk h
  have x0 := h.2.1
  have hp16 : R.length ≤ 16 := hG.2.1
  have HG := Aside0.mk hG
  clear h hG
  go_enter Try.func45, Try.ntmps45
  go_wp2
  go_loopw [3, 4] (fun v3 i wr => ∃ k : Nat, k ≤ R.length ∧ i = .int .i64 k ∧ Aside0 (Sep w.heap.size (Stars [Row (Kd.int .i64) 3 v3 (late R k)]) wr) ∧ Aside0 (Below w.heap.size w wr)) (fun _ i _ => R.length - (intOf i).toNat)
  case atStart => exact ⟨0, by omega, rfl, ⟨Sep.nil_row _ _ (Sep.emp _ _)⟩, ⟨Below.refl _ _⟩⟩
  case round =>
    clear x0
    obtain ⟨k, hk, rfl, S_wr, B_wr⟩ := hrel
    by_cases hlt : k < R.length
    · have hlt2 : (k : Int) < (R.length : Int) := by omega
      have hk0 : (0 : Int) ≤ (k : Int) := by omega
      have HL := Aside0.mk (late_le R k)
      have x0 := H.out.2.1
      obtain ⟨ad, Ak, ck, hA, xk, hck, hCk⟩ := at_row H.out.2.2 k hlt
      subst hA
      have HCk := Aside0.mk hCk; have Hck := Aside0.mk hck; clear hCk hck
      have HE : Aside0 (duetref01_Same.f 1000 (rd_L1 R (k : Int)) (most R) = some (decide (rd_L1 R (k : Int) = most R))) := ⟨same_is _ _ _ (by have := (HG.out.row k hlt).1; omega) (by have := (HG.out.row k hlt).1; omega)⟩
      have x0_wr := pw_cell_below B_wr.out x0
      have xk_wr := pw_cell_below B_wr.out xk
      by_cases hpk : rd_L1 R (k : Int) = most R
      · skip
        have HE2 : Aside0 (duetref01_Same.f 1000 (rd_L1 R (k : Int)) (most R) = some true) := ⟨by rw [HE.out, decide_eq_true hpk]⟩
        have HK : Aside0 (late R (k + 1) = late R k) := ⟨by rw [late, if_pos hpk]⟩
        clear hpk HE
        go_upto_region 5 with (fail)
        refine start_ (n := 11) (S := fun w' => w'.cell? ⟨g, 0, none⟩ = some (.slice (some ad) R.length c) ∧ w'.cell? (ad.add k) = some (.slice Ak (rd_L1 R (k : Int)).length ck)) (ds := []) Fc0 (by kernel_rfl) rfl rfl ⟨x0_wr, xk_wr⟩ (fun hHeld => ?_)
        generalize hdw : wr.drew = wr_1 at hHeld ⊢
        have HB_wr_1 : Aside0 (Below wr.heap.size wr wr_1) := ⟨by rw [← hdw]; exact below_drew1 (Below.refl _ _)⟩
        clear hdw
        have B_wr_1 : Aside0 (Below (w.heap.size) w wr_1) := ⟨below_then B_wr.out B_wr.out.size HB_wr_1.out⟩
        have S_wr_1 : Aside0 (Sep (w.heap.size) (Stars [Row (Kd.int .i64) 3 (u3) (late R k)]) wr_1) := ⟨Sep.below S_wr.out HB_wr_1.out⟩
        have x0_wr_1 := pw_cell_below B_wr_1.out x0
        have xk_wr_1 := pw_cell_below B_wr_1.out xk
        clear S_wr x0_wr xk_wr
        refine pure_ (i := 0) (N := some 14) (v := ?_) (a' := ?_) Fc1 rfl rfl (by kernel_rfl) (fun _ _ _ h => h) (Or.inl ⟨by rfl, ?_⟩) ?_ ?_
        rotate_left
        · intro w'
          go_simp
          with_reducible rfl
        rotate_left
        · simp only [Act.put, List.setIfInBounds_toArray, List.set_cons_zero, List.set_cons_succ, i64_w, i32_w]
          rfl
        refine pure_ (i := 1) (N := some 15) (v := ?_) (a' := ?_) Fc2 rfl rfl (by kernel_rfl) (fun _ _ _ h => h) (Or.inl ⟨by rfl, ?_⟩) ?_ ?_
        rotate_left
        · intro w'
          go_simp
          with_reducible rfl
        rotate_left
        · simp only [Act.put, List.setIfInBounds_toArray, List.set_cons_zero, List.set_cons_succ, i64_w, i32_w]
          rfl
        refine pure_ (i := 2) (N := some 16) (v := ?_) (a' := ?_) Fc3 rfl rfl (by kernel_rfl) (fun _ _ _ h => h) (Or.inl ⟨by rfl, ?_⟩) ?_ ?_
        rotate_left
        · intro w'
          go_simp
          with_reducible rfl
        rotate_left
        · simp only [Act.put, List.setIfInBounds_toArray, List.set_cons_zero, List.set_cons_succ, i64_w, i32_w]
          rfl
        refine pure_ (i := 4) (N := some 18) (v := ?_) (a' := ?_) Fc4 rfl rfl (by kernel_rfl) (fun _ _ _ h => h) (Or.inl ⟨by rfl, ?_⟩) ?_ ?_
        rotate_left
        · intro w'
          go_simp
          with_reducible rfl
        rotate_left
        · simp only [Act.put, List.setIfInBounds_toArray, List.set_cons_zero, List.set_cons_succ, i64_w, i32_w]
          rfl
        refine pure_ (i := 7) (N := some 21) (v := ?_) (a' := ?_) Fc5 rfl rfl (by kernel_rfl) (fun _ _ _ h => h) (Or.inl ⟨by rfl, ?_⟩) ?_ ?_
        rotate_left
        · intro w'
          go_simp
          with_reducible rfl
        rotate_left
        · simp only [Act.put, List.setIfInBounds_toArray, List.set_cons_zero, List.set_cons_succ, i64_w, i32_w]
          rfl
        refine take_ (i := 3) (N := some 17) (v := ?_) (a' := ?_) Fc6 rfl rfl (by kernel_rfl) (fun _ _ _ h => h) (Or.inl ⟨by rfl, ?_⟩) hHeld ?_ ?_
        rotate_left
        · rintro w' ⟨s0, s1⟩
          go_simp
          with_reducible rfl
        rotate_left
        · simp only [Act.put, List.setIfInBounds_toArray, List.set_cons_zero, List.set_cons_succ, i64_w, i32_w]
          rfl
        refine pure_ (i := 5) (N := some 19) (v := ?_) (a' := ?_) Fc7 rfl rfl (by kernel_rfl) (fun _ _ _ h => h) (Or.inl ⟨by rfl, ?_⟩) ?_ ?_
        rotate_left
        · intro w'
          go_simp
          with_reducible rfl
        rotate_left
        · simp only [Act.put, List.setIfInBounds_toArray, List.set_cons_zero, List.set_cons_succ, i64_w, i32_w]
          rfl
        refine take_ (i := 6) (N := some 20) (v := ?_) (a' := ?_) Fc8 rfl rfl (by kernel_rfl) (fun _ _ _ h => h) (Or.inl ⟨by rfl, ?_⟩) hHeld ?_ ?_
        rotate_left
        · rintro w' ⟨s0, s1⟩
          go_simp
          with_reducible rfl
        rotate_left
        · simp only [Act.put, List.setIfInBounds_toArray, List.set_cons_zero, List.set_cons_succ, i64_w, i32_w]
          rfl
        refine one_ (i := 8) (N := some 22) Fc9 rfl rfl (by kernel_rfl) (by decide) (fun K hK => ?_)
        refine goes_ Try.func43 (by kernel_rfl) rfl #[.pointer (some ⟨g, 0, none⟩)] (by rfl) rfl rfl (by simp only [List.map_toArray, List.map_cons, List.map_nil]; rfl) ?_
        with_reducible refine (refmost_is _ (H.out.below B_wr_1.out) HG.out).mono ?_
        rintro e wr_2 ⟨Am, cm, rfl, hcm, hCm, hb⟩
        refine ⟨_, rfl, ?_⟩
        have HCm := Aside0.mk hCm; have Hcm := Aside0.mk hcm; clear hCm hcm
        have B_wr_2 : Aside0 (Below (w.heap.size) w wr_2) := ⟨below_then B_wr_1.out B_wr_1.out.size hb⟩
        have S_wr_2 : Aside0 (Sep (w.heap.size) (Stars [Row (Kd.int .i64) 3 (u3) (late R k)]) wr_2) := ⟨Sep.below S_wr_1.out hb⟩
        have x0_wr_2 := pw_cell_below B_wr_2.out x0
        have xk_wr_2 := pw_cell_below B_wr_2.out xk
        clear S_wr_1 x0_wr_1 xk_wr_1
        clear hb
        refine hK.out _ _ ⟨x0_wr_2, xk_wr_2⟩ (fun hHeld => ?_)
        clear hK K
        refine norm_ (a' := ?_) ?_ ?_
        rotate_left
        · show Act.put _ (some 22) _ = _
          simp only [Act.put, List.setIfInBounds_toArray, List.set_cons_zero, List.set_cons_succ, i64_w, i32_w]
          rfl
        refine one_ (i := 9) (N := some 23) Fc10 rfl rfl (by kernel_rfl) (by decide) (fun K hK => ?_)
        refine goes_ Try.func32 (by kernel_rfl) rfl #[.slice Ak (rd_L1 R (k : Int)).length ck, .slice Am (most R).length cm] (by rfl) rfl rfl (by simp only [List.map_toArray, List.map_cons, List.map_nil]; rfl) ?_
        with_reducible refine (duetref01_Same.at 1000 _ _ _ _ _ _ _ _ true _ (Kd.C_below HCk.out B_wr_2.out) Hck.out HCm.out Hcm.out HE2.out).mono ?_
        rintro e wr_3 ⟨rfl, hb0⟩
        refine ⟨_, rfl, ?_⟩
        have hb := hb0.below
        clear hb0
        have B_wr_3 : Aside0 (Below (w.heap.size) w wr_3) := ⟨below_then B_wr_2.out B_wr_2.out.size hb⟩
        have S_wr_3 : Aside0 (Sep (w.heap.size) (Stars [Row (Kd.int .i64) 3 (u3) (late R k)]) wr_3) := ⟨Sep.below S_wr_2.out hb⟩
        have x0_wr_3 := pw_cell_below B_wr_3.out x0
        have xk_wr_3 := pw_cell_below B_wr_3.out xk
        clear S_wr_2 x0_wr_2 xk_wr_2
        clear hb
        refine hK.out _ _ ⟨x0_wr_3, xk_wr_3⟩ (fun hHeld => ?_)
        clear hK K
        refine norm_ (a' := ?_) ?_ ?_
        rotate_left
        · show Act.put _ (some 23) _ = _
          simp only [Act.put, List.setIfInBounds_toArray, List.set_cons_zero, List.set_cons_succ, i64_w, i32_w]
          rfl
        refine pure_ (i := 10) (N := some 24) (v := ?_) (a' := ?_) Fc11 rfl rfl (by kernel_rfl) (fun _ _ _ h => h) (Or.inl ⟨by rfl, ?_⟩) ?_ ?_
        rotate_left
        · intro w'
          go_simp
          with_reducible rfl
        rotate_left
        · simp only [Act.put, List.setIfInBounds_toArray, List.set_cons_zero, List.set_cons_succ, i64_w, i32_w]
          rfl
        refine done_ (by kernel_rfl) ?_
        go_wp2
        go_roundw
        case rel => first | exact ⟨k + 1, by omega, by go_num, ⟨by rw [HK.out]; exact S_wr_3.out⟩, B_wr_3⟩ | ((repeat apply Exists.intro); exact ⟨⟨k + 1, by omega, by go_num, ⟨by rw [HK.out]; exact S_wr_3.out⟩, B_wr_3⟩, rfl⟩)
        case measure => simp [intOf]; omega
      · skip
        have HE2 : Aside0 (duetref01_Same.f 1000 (rd_L1 R (k : Int)) (most R) = some false) := ⟨by rw [HE.out, decide_eq_false hpk]⟩
        have HK : Aside0 (late R (k + 1) = late R k ++ [(k : Int)]) := ⟨by rw [late, if_neg hpk]⟩
        clear hpk HE
        go_upto_region 5 with (fail)
        refine start_ (n := 11) (S := fun w' => w'.cell? ⟨g, 0, none⟩ = some (.slice (some ad) R.length c) ∧ w'.cell? (ad.add k) = some (.slice Ak (rd_L1 R (k : Int)).length ck)) (ds := []) Fc0 (by kernel_rfl) rfl rfl ⟨x0_wr, xk_wr⟩ (fun hHeld => ?_)
        generalize hdw : wr.drew = wr_1 at hHeld ⊢
        have HB_wr_1 : Aside0 (Below wr.heap.size wr wr_1) := ⟨by rw [← hdw]; exact below_drew1 (Below.refl _ _)⟩
        clear hdw
        have B_wr_1 : Aside0 (Below (w.heap.size) w wr_1) := ⟨below_then B_wr.out B_wr.out.size HB_wr_1.out⟩
        have S_wr_1 : Aside0 (Sep (w.heap.size) (Stars [Row (Kd.int .i64) 3 (u3) (late R k)]) wr_1) := ⟨Sep.below S_wr.out HB_wr_1.out⟩
        have x0_wr_1 := pw_cell_below B_wr_1.out x0
        have xk_wr_1 := pw_cell_below B_wr_1.out xk
        clear S_wr x0_wr xk_wr
        refine pure_ (i := 0) (N := some 14) (v := ?_) (a' := ?_) Fc1 rfl rfl (by kernel_rfl) (fun _ _ _ h => h) (Or.inl ⟨by rfl, ?_⟩) ?_ ?_
        rotate_left
        · intro w'
          go_simp
          with_reducible rfl
        rotate_left
        · simp only [Act.put, List.setIfInBounds_toArray, List.set_cons_zero, List.set_cons_succ, i64_w, i32_w]
          rfl
        refine pure_ (i := 1) (N := some 15) (v := ?_) (a' := ?_) Fc2 rfl rfl (by kernel_rfl) (fun _ _ _ h => h) (Or.inl ⟨by rfl, ?_⟩) ?_ ?_
        rotate_left
        · intro w'
          go_simp
          with_reducible rfl
        rotate_left
        · simp only [Act.put, List.setIfInBounds_toArray, List.set_cons_zero, List.set_cons_succ, i64_w, i32_w]
          rfl
        refine pure_ (i := 2) (N := some 16) (v := ?_) (a' := ?_) Fc3 rfl rfl (by kernel_rfl) (fun _ _ _ h => h) (Or.inl ⟨by rfl, ?_⟩) ?_ ?_
        rotate_left
        · intro w'
          go_simp
          with_reducible rfl
        rotate_left
        · simp only [Act.put, List.setIfInBounds_toArray, List.set_cons_zero, List.set_cons_succ, i64_w, i32_w]
          rfl
        refine pure_ (i := 4) (N := some 18) (v := ?_) (a' := ?_) Fc4 rfl rfl (by kernel_rfl) (fun _ _ _ h => h) (Or.inl ⟨by rfl, ?_⟩) ?_ ?_
        rotate_left
        · intro w'
          go_simp
          with_reducible rfl
        rotate_left
        · simp only [Act.put, List.setIfInBounds_toArray, List.set_cons_zero, List.set_cons_succ, i64_w, i32_w]
          rfl
        refine pure_ (i := 7) (N := some 21) (v := ?_) (a' := ?_) Fc5 rfl rfl (by kernel_rfl) (fun _ _ _ h => h) (Or.inl ⟨by rfl, ?_⟩) ?_ ?_
        rotate_left
        · intro w'
          go_simp
          with_reducible rfl
        rotate_left
        · simp only [Act.put, List.setIfInBounds_toArray, List.set_cons_zero, List.set_cons_succ, i64_w, i32_w]
          rfl
        refine take_ (i := 3) (N := some 17) (v := ?_) (a' := ?_) Fc6 rfl rfl (by kernel_rfl) (fun _ _ _ h => h) (Or.inl ⟨by rfl, ?_⟩) hHeld ?_ ?_
        rotate_left
        · rintro w' ⟨s0, s1⟩
          go_simp
          with_reducible rfl
        rotate_left
        · simp only [Act.put, List.setIfInBounds_toArray, List.set_cons_zero, List.set_cons_succ, i64_w, i32_w]
          rfl
        refine pure_ (i := 5) (N := some 19) (v := ?_) (a' := ?_) Fc7 rfl rfl (by kernel_rfl) (fun _ _ _ h => h) (Or.inl ⟨by rfl, ?_⟩) ?_ ?_
        rotate_left
        · intro w'
          go_simp
          with_reducible rfl
        rotate_left
        · simp only [Act.put, List.setIfInBounds_toArray, List.set_cons_zero, List.set_cons_succ, i64_w, i32_w]
          rfl
        refine take_ (i := 6) (N := some 20) (v := ?_) (a' := ?_) Fc8 rfl rfl (by kernel_rfl) (fun _ _ _ h => h) (Or.inl ⟨by rfl, ?_⟩) hHeld ?_ ?_
        rotate_left
        · rintro w' ⟨s0, s1⟩
          go_simp
          with_reducible rfl
        rotate_left
        · simp only [Act.put, List.setIfInBounds_toArray, List.set_cons_zero, List.set_cons_succ, i64_w, i32_w]
          rfl
        refine one_ (i := 8) (N := some 22) Fc9 rfl rfl (by kernel_rfl) (by decide) (fun K hK => ?_)
        refine goes_ Try.func43 (by kernel_rfl) rfl #[.pointer (some ⟨g, 0, none⟩)] (by rfl) rfl rfl (by simp only [List.map_toArray, List.map_cons, List.map_nil]; rfl) ?_
        with_reducible refine (refmost_is _ (H.out.below B_wr_1.out) HG.out).mono ?_
        rintro e wr_2 ⟨Am, cm, rfl, hcm, hCm, hb⟩
        refine ⟨_, rfl, ?_⟩
        have HCm := Aside0.mk hCm; have Hcm := Aside0.mk hcm; clear hCm hcm
        have B_wr_2 : Aside0 (Below (w.heap.size) w wr_2) := ⟨below_then B_wr_1.out B_wr_1.out.size hb⟩
        have S_wr_2 : Aside0 (Sep (w.heap.size) (Stars [Row (Kd.int .i64) 3 (u3) (late R k)]) wr_2) := ⟨Sep.below S_wr_1.out hb⟩
        have x0_wr_2 := pw_cell_below B_wr_2.out x0
        have xk_wr_2 := pw_cell_below B_wr_2.out xk
        clear S_wr_1 x0_wr_1 xk_wr_1
        clear hb
        refine hK.out _ _ ⟨x0_wr_2, xk_wr_2⟩ (fun hHeld => ?_)
        clear hK K
        refine norm_ (a' := ?_) ?_ ?_
        rotate_left
        · show Act.put _ (some 22) _ = _
          simp only [Act.put, List.setIfInBounds_toArray, List.set_cons_zero, List.set_cons_succ, i64_w, i32_w]
          rfl
        refine one_ (i := 9) (N := some 23) Fc10 rfl rfl (by kernel_rfl) (by decide) (fun K hK => ?_)
        refine goes_ Try.func32 (by kernel_rfl) rfl #[.slice Ak (rd_L1 R (k : Int)).length ck, .slice Am (most R).length cm] (by rfl) rfl rfl (by simp only [List.map_toArray, List.map_cons, List.map_nil]; rfl) ?_
        with_reducible refine (duetref01_Same.at 1000 _ _ _ _ _ _ _ _ false _ (Kd.C_below HCk.out B_wr_2.out) Hck.out HCm.out Hcm.out HE2.out).mono ?_
        rintro e wr_3 ⟨rfl, hb0⟩
        refine ⟨_, rfl, ?_⟩
        have hb := hb0.below
        clear hb0
        have B_wr_3 : Aside0 (Below (w.heap.size) w wr_3) := ⟨below_then B_wr_2.out B_wr_2.out.size hb⟩
        have S_wr_3 : Aside0 (Sep (w.heap.size) (Stars [Row (Kd.int .i64) 3 (u3) (late R k)]) wr_3) := ⟨Sep.below S_wr_2.out hb⟩
        have x0_wr_3 := pw_cell_below B_wr_3.out x0
        have xk_wr_3 := pw_cell_below B_wr_3.out xk
        clear S_wr_2 x0_wr_2 xk_wr_2
        clear hb
        refine hK.out _ _ ⟨x0_wr_3, xk_wr_3⟩ (fun hHeld => ?_)
        clear hK K
        refine norm_ (a' := ?_) ?_ ?_
        rotate_left
        · show Act.put _ (some 23) _ = _
          simp only [Act.put, List.setIfInBounds_toArray, List.set_cons_zero, List.set_cons_succ, i64_w, i32_w]
          rfl
        refine pure_ (i := 10) (N := some 24) (v := ?_) (a' := ?_) Fc11 rfl rfl (by kernel_rfl) (fun _ _ _ h => h) (Or.inl ⟨by rfl, ?_⟩) ?_ ?_
        rotate_left
        · intro w'
          go_simp
          with_reducible rfl
        rotate_left
        · simp only [Act.put, List.setIfInBounds_toArray, List.set_cons_zero, List.set_cons_succ, i64_w, i32_w]
          rfl
        refine done_ (by kernel_rfl) ?_
        go_wp2_with (first | ((with_reducible refine gate_builtin (b := .append) (xs := #[.tmp 25, .tmp 27]) rfl ?_); at_builtin; go_must (refine sep_append (enc := Value.int .i64) (h1 := fun _ => rfl) (w.heap.size) rfl (.tmp 25) (.tmp 27) 50 3 (.int .i64 0) 8 rfl Try.underlying50 info3 rfl (by decide) _ (late R k) ((k : Int)) rfl rfl (Sep.front [] [] S_wr_3.out) B_wr_3.out.size ?al ?_); (case al => have := HL.out; omega); intro v6 wr_4 hS hb; have B_wr_4 : Aside0 (Below (w.heap.size) w wr_4) := ⟨(Below.trans B_wr_3.out hb)⟩; have S_wr_4 : Aside0 (Sep (w.heap.size) (Stars [Row (Kd.int .i64) 3 (v6) (late R k ++ [(k : Int)])]) wr_4) := ⟨Sep.back [] [] hS⟩; have x0_wr_4 := pw_cell_below B_wr_4.out x0; have xk_wr_4 := pw_cell_below B_wr_4.out xk; clear S_wr_3 x0_wr_3 xk_wr_3; clear hS hb))
        go_roundw
        case rel => first | exact ⟨k + 1, by omega, by go_num, ⟨by rw [HK.out]; exact S_wr_4.out⟩, B_wr_4⟩ | ((repeat apply Exists.intro); exact ⟨⟨k + 1, by omega, by go_num, ⟨by rw [HK.out]; exact S_wr_4.out⟩, B_wr_4⟩, rfl⟩)
        case measure => simp [intOf]; omega
    · obtain rfl : k = R.length := by omega
      have x0 := H.out.2.1
      have x0_wr := pw_cell_below B_wr.out x0
      have hlt2 : ¬ (R.length : Int) < (R.length : Int) := by omega
      go_wp2
      have hS := Sep.left S_wr.out
      obtain ⟨A1, c1, hv, hle, hC⟩ := Sep.row1 hS
      subst hv
      go_ret
      exact ⟨A1, c1, rfl, hle, hC, B_wr.out⟩
end Go.Proofs.Ytiplkmmppihilaa.FrontA
