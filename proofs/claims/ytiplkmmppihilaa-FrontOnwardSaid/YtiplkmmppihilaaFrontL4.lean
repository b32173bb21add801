/- The law FrontOnward, walked. Conditions: none beyond those that each theorem states. -/
import Derived.Test.YtiplkmmppihilaaFrontN
namespace Go.Proofs.Ytiplkmmppihilaa.FrontA
open Go.RowKit Go.Proofs.YtiplkmmppihilaaW.PrintWords Go.Proofs.YtiplkmmppihilaaW.PrintLast Go.Proofs.YtiplkmmppihilaaW.PrintMore Go.Proofs.Ytiplkmmppihilaa.XS Go.Proofs.Ytiplkmmppihilaa.PFront
set_option linter.unusedVariables false
set_option linter.unusedSimpArgs false
abbrev Fn0 : Array Bool := #[false, false, false, false, false, false, false, false, false, false, false, false]
abbrev Fn1 : Array Bool := #[true, false, false, false, false, false, false, false, false, false, false, false]
abbrev Fn2 : Array Bool := #[true, true, false, false, false, false, false, false, false, false, false, false]
abbrev Fn3 : Array Bool := #[true, true, true, false, false, false, false, false, false, false, false, false]
abbrev Fn4 : Array Bool := #[true, true, true, true, false, false, false, false, false, false, false, false]
abbrev Fn5 : Array Bool := #[true, true, true, true, true, false, false, false, false, false, false, false]
abbrev Fn6 : Array Bool := #[true, true, true, true, true, false, true, false, false, false, false, false]
abbrev Fn7 : Array Bool := #[true, true, true, true, true, false, true, true, false, false, false, false]
abbrev Fn8 : Array Bool := #[true, true, true, true, true, false, true, true, true, false, false, false]
abbrev Fn9 : Array Bool := #[true, true, true, true, true, false, true, true, true, true, false, false]
abbrev Fn10 : Array Bool := #[true, true, true, true, true, true, true, true, true, true, false, false]
abbrev Fn11 : Array Bool := #[true, true, true, true, true, true, true, true, true, true, true, false]
abbrev Fn12 : Array Bool := #[true, true, true, true, true, true, true, true, true, true, true, true]
theorem none_at (n j : Nat) (hj : j < n) : rd_L1 (none9 n) (j : Int) = List.replicate n 0 := by
  unfold none9
  simp only [rd_L1, Int.toNat_natCast, List.getD_eq_getElem?_getD]
  rw [List.getElem?_replicate, if_pos hj]; rfl
theorem stable_none (n : Nat) (h : 1 ≤ n) : stable (none9 n) = List.replicate n 0 := by
  have : ∀ k : Nat, k ≤ n → cum mn (none9 n) k = List.replicate n 0 := by
    intro k
    induction k with
    | zero => intro _; exact none_at n 0 (by omega)
    | succ k ih =>
      intro hk
      show List.zipWith mn (cum mn (none9 n) k) (rd_L1 (none9 n) (k : Int)) = _
      rw [ih (by omega), none_at n k (by omega)]
      exact zip_same (fun a => by unfold mn; split <;> rfl) _
  unfold stable
  exact this _ (by unfold none9; rw [List.length_replicate]; exact Nat.le_refl _)
set_option maxHeartbeats 8000000 in
set_option maxRecDepth 100000 in
theorem frontOnward (sites : Int) (A0 : Option Addr) (c0 : Nat) (l0 : List (Int × List Int)) (w : World) (hr0 : Kd.C KOp w A0 l0.length l0) (hc0 : l0.length ≤ c0) (hn : l0.length ≤ 9223372036854775807) : Calls Try.prog 12 #[.int .i64 sites, .slice A0 l0.length c0] w fun e w' => e = .returned (.bool true) ∧ Below w.heap.size w w' := by
  have HR := Aside0.mk hr0
  clear hr0
  have B_w := Aside0.mk (Below.refl w.heap.size w)
  have S_w : Aside0 (Sep w.heap.size (Stars []) w) := ⟨Sep.emp _ _⟩
  by_cases hs : 1 ≤ sites ∧ sites ≤ 16
  case neg =>
    go_enter Try.func12, Try.ntmps12
    go_wp2_with (first | (go_at_call 35; (with_reducible refine (front_none _ sites hs).mono ?_); rintro e w_1 ⟨rfl, hb⟩; have B_w_1 : Aside0 (Below (w.heap.size) w w_1) := ⟨below_then B_w.out B_w.out.size hb⟩; have S_w_1 : Aside0 (Sep (w.heap.size) (Stars []) w_1) := ⟨Sep.below S_w.out hb⟩; have Q_w_1 : Aside0 (Below w.heap.size w w_1) := ⟨hb⟩; clear S_w; clear hb) | (go_at_call 37; (with_reducible refine (live9 _).mono ?_); rintro e2 w_l ⟨rfl, hb⟩; have HBl := Aside0.mk hb; clear hb))
    go_ret
    exact ⟨rfl, below_then B_w_1.out B_w_1.out.size HBl.out⟩
  obtain ⟨n, rfl⟩ : ∃ n : Nat, sites = (n : Int) := ⟨sites.toNat, by omega⟩
  have hs1 : 1 ≤ n := by omega
  have hs2 : n ≤ 16 := by omega
  clear hs
  obtain ⟨sl, hsl⟩ : ∃ sl, stable (none9 n) = sl := ⟨_, rfl⟩
  have HZ : Aside0 (duetref06_Zero.f 1000 (n : Int) = some sl) := ⟨by rw [zero_is n 1000 (by omega) (by omega), ← hsl, stable_none n hs1]⟩
  have Hsl := Aside0.mk hsl
  clear hsl
  go_enter Try.func12, Try.ntmps12
  go_wp2_with (first | (go_at_call 35; (with_reducible refine (new_at _ ((n : Int)) n (none9 n) hs1 hs2 rfl rfl).mono ?_); rintro e w_1 ⟨gf, rfl, hN, hb⟩; have B_w_1 : Aside0 (Below (w.heap.size) w w_1) := ⟨below_then B_w.out B_w.out.size hb⟩; have S_w_1 : Aside0 (Sep (w.heap.size) (Stars [FA 103 76 gf (none9 n)]) w_1) := ⟨Sep.more S_w.out hN hb B_w.out.size⟩; have Q_w_1 : Aside0 (Below w.heap.size w w_1) := ⟨hb⟩; clear S_w; clear hb) | (go_at_call 48; (with_reducible refine (duetref06_Zero.calls 1000 (n : Int) sl _ HZ.out).mono ?_); rintro e w_2 ⟨vz, rfl, hr, hb⟩; obtain ⟨Az, cz, hv, -, -⟩ := Kd.R_reads hr; replace hv : vz = .slice Az sl.length cz := hv; subst hv; have B_w_2 : Aside0 (Below (w.heap.size) w w_2) := ⟨below_then B_w_1.out B_w_1.out.size hb⟩; have S_w_2 : Aside0 (Sep (w.heap.size) (Stars [Row (Kd.int .i64) 3 (.slice Az sl.length cz) (sl), FA 103 76 gf (none9 n)]) w_2) := ⟨Sep.new_row S_w_1.out B_w_1.out.size hb hr⟩; have Q_w_2 : Aside0 (Below w.heap.size w w_2) := ⟨below_step Q_w_1.out hb⟩; clear S_w_1; clear hb; clear hr))
  go_loopw [7, 8] (fun v7 i wr => ∃ (k : Nat) (R : List (List Int)) (sl : List Int) (Az : Option Addr) (cz : Nat), k ≤ l0.length ∧ i = .int .i64 k ∧ v7 = .slice Az sl.length cz ∧ Aside0 (Good R ∧ R.length = n ∧ stable R = sl) ∧ Aside0 (Sep w.heap.size (Stars [Row (Kd.int .i64) 3 (.slice Az sl.length cz) (sl), FA 103 76 gf R]) wr) ∧ Aside0 (Below w.heap.size w wr)) (fun _ i _ => l0.length - (intOf i).toNat)
  case atStart => exact ⟨0, none9 n, sl, Az, cz, by omega, rfl, rfl, ⟨none_good n hs1 hs2, by unfold none9; rw [List.length_replicate], Hsl.out⟩, S_w_2, B_w_2⟩
  case round =>
    clear S_w_2 B_w_2 HZ Hsl
    skip
    obtain ⟨k, R, sl, Az, cz, hk, rfl, rfl, HG, S_wr, B_wr⟩ := hrel
    by_cases hlt : k < l0.length
    · have hlt2 : (k : Int) < (l0.length : Int) := by omega
      by_cases h60 : k < 60
      · have h60b : (k : Int) < 60 := by omega
        have hk0 : (0 : Int) ≤ (k : Int) := by omega
        obtain ⟨ad, A2, c2, s, v, rfl, x0, x1, hc2, hC2⟩ := at_op HR.out k hlt
        have HC2 := Aside0.mk hC2
        have Hc2 := Aside0.mk hc2
        clear hC2 hc2
        have x0_wr := pw_cell_below B_wr.out x0
        have x1_wr := pw_cell_below B_wr.out x1
        by_cases ht : 30 < v.length
        · have ht2 : (30 : Int) < (v.length : Int) := by omega
          go_wp2_with (first | (go_at_call 37; (with_reducible refine (live9 _).mono ?_); rintro e2 w_l ⟨rfl, hb⟩; have HBl := Aside0.mk hb; clear hb))
          go_ret
          exact ⟨rfl, below_then B_wr.out B_wr.out.size HBl.out⟩
        have ht2 : ¬ (30 : Int) < (v.length : Int) := by omega
        have hvl : v.length ≤ 1000 := by omega
        clear ht
        obtain ⟨r, hr⟩ : ∃ r, hearE R s v = r := ⟨_, rfl⟩
        obtain ⟨R2, hR2⟩ : ∃ R2, hearR R s v = R2 := ⟨_, rfl⟩
        have HE := Aside0.mk hr
        have HR2 := Aside0.mk hR2
        have HG2 : Aside0 (Good R2) := ⟨by rw [← hR2]; exact hear_good HG.out.1 s v⟩
        have HN2 : Aside0 (R2.length = n) := ⟨by rw [← hR2, hear_len]; exact HG.out.2.1⟩
        clear hr hR2
        obtain ⟨tl, htl⟩ : ∃ tl, stable R2 = tl := ⟨_, rfl⟩
        obtain ⟨ml, hml⟩ : ∃ ml, most R2 = ml := ⟨_, rfl⟩
        obtain ⟨ll, hll⟩ : ∃ ll, late R2 R2.length = ll := ⟨_, rfl⟩
        have HTL : Aside0 (tl.length = n) := ⟨by rw [← htl, stable_len HG2.out]; exact HN2.out⟩
        have HML : Aside0 (ml.length = n) := ⟨by rw [← hml, most_len HG2.out]; exact HN2.out⟩
        have HSL : Aside0 (sl.length = n) := ⟨by rw [← HG.out.2.2, stable_len HG.out.1]; exact HG.out.2.1⟩
        have HB0 : Aside0 (duetref06_Below.f 3000 sl tl = some true) := ⟨by
          rw [below_is _ _ _ (by have := HSL.out; omega) (by have := HSL.out; omega), ← htl, ← HR2.out, ← HG.out.2.2, stable_up HG.out.1 s v]; rfl⟩
        have HSM : Aside0 (duetref01_Same.f 1000 tl ml = some (decide (tl = ml))) := ⟨same_is _ _ _ (by have := HTL.out; omega) (by have := HTL.out; omega)⟩
        have HLL : Aside0 (ll.length = 0 ↔ tl = ml) := ⟨by rw [← hll, ← htl, ← hml]; exact late_len HG2.out⟩
        have Htl := Aside0.mk htl
        have Hml := Aside0.mk hml
        have Hll := Aside0.mk hll
        have bn : ((tl.length : Int) != (n : Int)) = false := bne_eq_false_iff_eq.mpr (by have := HTL.out; omega)
        clear htl hml hll
        go_upto_region 12 with (fail)
        refine start_ (n := 12) (S := fun w' => w'.cell? (ad.add (k * 2)) = some (.int .i64 s) ∧ w'.cell? ⟨(ad.add (k * 2)).block, (ad.add (k * 2)).off + 1, none⟩ = some (.slice A2 v.length c2)) (ds := []) Fn0 (by kernel_rfl) rfl rfl ⟨x0_wr, x1_wr⟩ (fun hHeld => ?_)
        generalize hdw : wr.drew = wr_1 at hHeld ⊢
        have HB_wr_1 : Aside0 (Below wr.heap.size wr wr_1) := ⟨by rw [← hdw]; exact below_drew1 (Below.refl _ _)⟩
        clear hdw
        have B_wr_1 : Aside0 (Below (w.heap.size) w wr_1) := ⟨below_then B_wr.out B_wr.out.size HB_wr_1.out⟩
        have S_wr_1 : Aside0 (Sep (w.heap.size) (Stars [Row (Kd.int .i64) 3 (.slice Az sl.length cz) (sl), FA 103 76 gf R]) wr_1) := ⟨Sep.below S_wr.out HB_wr_1.out⟩
        have x0_wr_1 := pw_cell_below B_wr_1.out x0
        have x1_wr_1 := pw_cell_below B_wr_1.out x1
        clear S_wr x0_wr x1_wr
        refine pure_ (i := 0) (N := some 46) (v := ?_) (a' := ?_) Fn1 rfl rfl (by kernel_rfl) (fun _ _ _ h => h) (Or.inl ⟨by rfl, ?_⟩) ?_ ?_
        rotate_left
        · intro w'
          go_simp
          with_reducible rfl
        rotate_left
        · simp only [Act.put, List.setIfInBounds_toArray, List.set_cons_zero, List.set_cons_succ, i64_w, i32_w]
          rfl
        refine pure_ (i := 1) (N := some 47) (v := ?_) (a' := ?_) Fn2 rfl rfl (by kernel_rfl) (fun _ _ _ h => h) (Or.inl ⟨by rfl, ?_⟩) ?_ ?_
        rotate_left
        · intro w'
          go_simp
          with_reducible rfl
        rotate_left
        · simp only [Act.put, List.setIfInBounds_toArray, List.set_cons_zero, List.set_cons_succ, i64_w, i32_w]
          rfl
        refine pure_ (i := 2) (N := some 48) (v := ?_) (a' := ?_) Fn3 rfl rfl (by kernel_rfl) (fun _ _ _ h => h) (Or.inl ⟨by rfl, ?_⟩) ?_ ?_
        rotate_left
        · intro w'
          go_simp
          with_reducible rfl
        rotate_left
        · simp only [Act.put, List.setIfInBounds_toArray, List.set_cons_zero, List.set_cons_succ, i64_w, i32_w]
          rfl
        refine pure_ (i := 3) (N := some 49) (v := ?_) (a' := ?_) Fn4 rfl rfl (by kernel_rfl) (fun _ _ _ h => h) (Or.inl ⟨by rfl, ?_⟩) ?_ ?_
        rotate_left
        · intro w'
          go_simp
          with_reducible rfl
        rotate_left
        · simp only [Act.put, List.setIfInBounds_toArray, List.set_cons_zero, List.set_cons_succ, i64_w, i32_w]
          rfl
        refine pure_ (i := 4) (N := some 50) (v := ?_) (a' := ?_) Fn5 rfl rfl (by kernel_rfl) (fun _ _ _ h => h) (Or.inl ⟨by rfl, ?_⟩) ?_ ?_
        rotate_left
        · intro w'
          go_simp
          with_reducible rfl
        rotate_left
        · simp only [Act.put, List.setIfInBounds_toArray, List.set_cons_zero, List.set_cons_succ, i64_w, i32_w]
          rfl
        refine pure_ (i := 6) (N := some 52) (v := ?_) (a' := ?_) Fn6 rfl rfl (by kernel_rfl) (fun _ _ _ h => h) (Or.inl ⟨by rfl, ?_⟩) ?_ ?_
        rotate_left
        · intro w'
          go_simp
          with_reducible rfl
        rotate_left
        · simp only [Act.put, List.setIfInBounds_toArray, List.set_cons_zero, List.set_cons_succ, i64_w, i32_w]
          rfl
        refine pure_ (i := 7) (N := some 53) (v := ?_) (a' := ?_) Fn7 rfl rfl (by kernel_rfl) (fun _ _ _ h => h) (Or.inl ⟨by rfl, ?_⟩) ?_ ?_
        rotate_left
        · intro w'
          go_simp
          with_reducible rfl
        rotate_left
        · simp only [Act.put, List.setIfInBounds_toArray, List.set_cons_zero, List.set_cons_succ, i64_w, i32_w]
          rfl
        refine pure_ (i := 8) (N := some 54) (v := ?_) (a' := ?_) Fn8 rfl rfl (by kernel_rfl) (fun _ _ _ h => h) (Or.inl ⟨by rfl, ?_⟩) ?_ ?_
        rotate_left
        · intro w'
          go_simp
          with_reducible rfl
        rotate_left
        · simp only [Act.put, List.setIfInBounds_toArray, List.set_cons_zero, List.set_cons_succ, i64_w, i32_w]
          rfl
        refine pure_ (i := 9) (N := some 55) (v := ?_) (a' := ?_) Fn9 rfl rfl (by kernel_rfl) (fun _ _ _ h => h) (Or.inl ⟨by rfl, ?_⟩) ?_ ?_
        rotate_left
        · intro w'
          go_simp
          with_reducible rfl
        rotate_left
        · simp only [Act.put, List.setIfInBounds_toArray, List.set_cons_zero, List.set_cons_succ, i64_w, i32_w]
          rfl
        refine take_ (i := 5) (N := some 51) (v := ?_) (a' := ?_) Fn10 rfl rfl (by kernel_rfl) (fun _ _ _ h => h) (Or.inl ⟨by rfl, ?_⟩) hHeld ?_ ?_
        rotate_left
        · rintro w' ⟨s0, s1⟩
          go_simp
          with_reducible rfl
        rotate_left
        · simp only [Act.put, List.setIfInBounds_toArray, List.set_cons_zero, List.set_cons_succ, i64_w, i32_w]
          rfl
        refine take_ (i := 10) (N := some 56) (v := ?_) (a' := ?_) Fn11 rfl rfl (by kernel_rfl) (fun _ _ _ h => h) (Or.inl ⟨by rfl, ?_⟩) hHeld ?_ ?_
        rotate_left
        · rintro w' ⟨s0, s1⟩
          go_simp
          with_reducible rfl
        rotate_left
        · simp only [Act.put, List.setIfInBounds_toArray, List.set_cons_zero, List.set_cons_succ, i64_w, i32_w]
          rfl
        refine one_ (i := 11) (N := some 57) Fn12 rfl rfl (by kernel_rfl) (by decide) (fun K hK => ?_)
        refine goes_ Try.func38 (by kernel_rfl) rfl #[.pointer (some ⟨gf, 0, none⟩), .int .i64 s, .slice A2 v.length c2] (by rfl) rfl rfl (by simp only [List.map_toArray, List.map_cons, List.map_nil]; rfl) ?_
        with_reducible refine (hear_at _ (Sep.front [Row (Kd.int .i64) 3 (.slice Az sl.length cz) (sl)] [] S_wr_1.out) B_wr_1.out.size HG.out.1 s A2 c2 v.length v (Kd.C_below HC2.out B_wr_1.out) Hc2.out hvl r R2 HE.out HR2.out).mono ?_
        rintro e wr_2 ⟨rfl, hS, hb⟩
        refine ⟨_, rfl, ?_⟩
        have B_wr_2 : Aside0 (Below (w.heap.size) w wr_2) := ⟨(Below.trans B_wr_1.out hb)⟩
        have S_wr_2 : Aside0 (Sep (w.heap.size) (Stars [Row (Kd.int .i64) 3 (.slice Az sl.length cz) (sl), FA 103 76 gf R2]) wr_2) := ⟨Sep.back [Row (Kd.int .i64) 3 (.slice Az sl.length cz) (sl)] [] hS⟩
        have x0_wr_2 := pw_cell_below B_wr_2.out x0
        have x1_wr_2 := pw_cell_below B_wr_2.out x1
        clear S_wr_1 x0_wr_1 x1_wr_1
        clear hS hb
        refine hK.out _ _ ⟨x0_wr_2, x1_wr_2⟩ (fun hHeld => ?_)
        clear hK K
        refine norm_ (a' := ?_) ?_ ?_
        rotate_left
        · show Act.put _ (some 57) _ = _
          simp only [Act.put, List.setIfInBounds_toArray, List.set_cons_zero, List.set_cons_succ, i64_w, i32_w]
          rfl
        refine done_ (by kernel_rfl) ?_
        go_wp2_with (first | (go_at_call 40; (with_reducible refine (stable_sep _ (Sep.front [Row (Kd.int .i64) 3 (.slice Az sl.length cz) (sl)] [] S_wr_2.out) HG2.out tl Htl.out).mono ?_); rintro e wr_3 ⟨va, rfl, hr, hb⟩; obtain ⟨Aa, ca, hv, -, -⟩ := Kd.R_reads hr; replace hv : va = .slice Aa tl.length ca := hv; subst hv; have B_wr_3 : Aside0 (Below (w.heap.size) w wr_3) := ⟨below_then B_wr_2.out B_wr_2.out.size hb⟩; have S_wr_3 : Aside0 (Sep (w.heap.size) (Stars [Row (Kd.int .i64) 3 (.slice Aa tl.length ca) (tl), Row (Kd.int .i64) 3 (.slice Az sl.length cz) (sl), FA 103 76 gf R2]) wr_3) := ⟨Sep.new_row S_wr_2.out B_wr_2.out.size hb hr⟩; clear S_wr_2; clear hb; clear hr) | (go_at_call 42; (with_reducible refine (most_sep _ (Sep.front [Row (Kd.int .i64) 3 (.slice Aa tl.length ca) (tl), Row (Kd.int .i64) 3 (.slice Az sl.length cz) (sl)] [] S_wr_3.out) HG2.out ml Hml.out).mono ?_); rintro e wr_4 ⟨vb, rfl, hr, hb⟩; obtain ⟨Ab, cb, hv, -, -⟩ := Kd.R_reads hr; replace hv : vb = .slice Ab ml.length cb := hv; subst hv; have B_wr_4 : Aside0 (Below (w.heap.size) w wr_4) := ⟨below_then B_wr_3.out B_wr_3.out.size hb⟩; have S_wr_4 : Aside0 (Sep (w.heap.size) (Stars [Row (Kd.int .i64) 3 (.slice Ab ml.length cb) (ml), Row (Kd.int .i64) 3 (.slice Aa tl.length ca) (tl), Row (Kd.int .i64) 3 (.slice Az sl.length cz) (sl), FA 103 76 gf R2]) wr_4) := ⟨Sep.new_row S_wr_3.out B_wr_3.out.size hb hr⟩; clear S_wr_3; clear hb; clear hr) | (go_at_call 49; (with_reducible refine (duetref06_Below.at 3000 Az cz (sl.length) (sl) Aa ca (tl.length) (tl) true _ (Sep.row_at (Sep.front [Row (Kd.int .i64) 3 (.slice Ab ml.length cb) (ml), Row (Kd.int .i64) 3 (.slice Aa tl.length ca) (tl)] [FA 103 76 gf R2] S_wr_4.out)).1 (Sep.row_at (Sep.front [Row (Kd.int .i64) 3 (.slice Ab ml.length cb) (ml), Row (Kd.int .i64) 3 (.slice Aa tl.length ca) (tl)] [FA 103 76 gf R2] S_wr_4.out)).2 (Sep.row_at (Sep.front [Row (Kd.int .i64) 3 (.slice Ab ml.length cb) (ml)] [Row (Kd.int .i64) 3 (.slice Az sl.length cz) (sl), FA 103 76 gf R2] S_wr_4.out)).1 (Sep.row_at (Sep.front [Row (Kd.int .i64) 3 (.slice Ab ml.length cb) (ml)] [Row (Kd.int .i64) 3 (.slice Az sl.length cz) (sl), FA 103 76 gf R2] S_wr_4.out)).2 HB0.out).mono ?_); rintro e wr_5 ⟨rfl, hb0⟩; have hb := Aside0.mk hb0; clear hb0; have B_wr_5 : Aside0 (Below (w.heap.size) w wr_5) := ⟨below_then B_wr_4.out B_wr_4.out.size hb.out.below⟩; have S_wr_5 : Aside0 (Sep (w.heap.size) (Stars [Row (Kd.int .i64) 3 (.slice Ab ml.length cb) (ml), Row (Kd.int .i64) 3 (.slice Aa tl.length ca) (tl), Row (Kd.int .i64) 3 (.slice Az sl.length cz) (sl), FA 103 76 gf R2]) wr_5) := ⟨Sep.below S_wr_4.out hb.out.below⟩; clear S_wr_4; clear hb))
        go_loopw [11] (fun i wr => ∃ j : Nat, j ≤ n ∧ i = .int .i64 j ∧ Aside0 (Sep w.heap.size (Stars [Row (Kd.int .i64) 3 (.slice Ab ml.length cb) (ml), Row (Kd.int .i64) 3 (.slice Aa tl.length ca) (tl), Row (Kd.int .i64) 3 (.slice Az sl.length cz) (sl), FA 103 76 gf R2]) wr) ∧ Aside0 (Below w.heap.size w wr)) (fun i _ => n - (intOf i).toNat)
        case atStart => exact ⟨0, by omega, rfl, S_wr_5, B_wr_5⟩
        case round =>
          clear S_wr_5
          obtain ⟨j, hj, rfl, S_wr, B_wr⟩ := hrel
          by_cases hlj : j < n
          · have hlj2 : (j : Int) < (n : Int) := by omega
            obtain ⟨rl, hrl⟩ : ∃ rl, rowOf R2 (j : Int) = rl := ⟨_, rfl⟩
            have hrl2 : rd_L1 R2 (j : Int) = rl := by rw [← hrl, rowOf_at j (by rw [HN2.out]; exact hlj)]
            have HRL : Aside0 (rl.length = n) := ⟨by rw [← hrl2, (HG2.out.row j (by rw [HN2.out]; exact hlj)).1]; exact HN2.out⟩
            have HB1 : Aside0 (duetref06_Below.f 3000 tl rl = some true) := ⟨by
              rw [below_is _ _ _ (by have := HTL.out; omega) (by have := HTL.out; omega), ← hrl2, ← Htl.out, row_over HG2.out j (by rw [HN2.out]; exact hlj)]; rfl⟩
            have HB2 : Aside0 (duetref06_Below.f 3000 rl ml = some true) := ⟨by
              rw [below_is _ _ _ (by have := HRL.out; omega) (by have := HRL.out; omega), ← hrl2, ← Hml.out, row_under HG2.out j (by rw [HN2.out]; exact hlj)]; rfl⟩
            have Hrl := Aside0.mk hrl
            clear hrl hrl2
            go_wp2_with (first | (go_at_call 46; (with_reducible refine (row_sep _ (Sep.front [Row (Kd.int .i64) 3 (.slice Ab ml.length cb) (ml), Row (Kd.int .i64) 3 (.slice Aa tl.length ca) (tl), Row (Kd.int .i64) 3 (.slice Az sl.length cz) (sl)] [] S_wr.out) HG2.out (j : Int) rl Hrl.out).mono ?_); rintro e wr_1 ⟨vd, rfl, hr, hb⟩; obtain ⟨Ad, cd, hv, -, -⟩ := Kd.R_reads hr; replace hv : vd = .slice Ad rl.length cd := hv; subst hv; have B_wr_1 : Aside0 (Below (w.heap.size) w wr_1) := ⟨below_then B_wr.out B_wr.out.size hb⟩; have S_wr_1 : Aside0 (Sep (w.heap.size) (Stars [Row (Kd.int .i64) 3 (.slice Ad rl.length cd) (rl), Row (Kd.int .i64) 3 (.slice Ab ml.length cb) (ml), Row (Kd.int .i64) 3 (.slice Aa tl.length ca) (tl), Row (Kd.int .i64) 3 (.slice Az sl.length cz) (sl), FA 103 76 gf R2]) wr_1) := ⟨Sep.new_row S_wr.out B_wr.out.size hb hr⟩; clear S_wr; clear hb; clear hr) | (go_at_call 49; (with_reducible refine (duetref06_Below.at 3000 Aa ca (tl.length) (tl) Ad cd (rl.length) (rl) true _ (Sep.row_at (Sep.front [Row (Kd.int .i64) 3 (.slice Ad rl.length cd) (rl), Row (Kd.int .i64) 3 (.slice Ab ml.length cb) (ml)] [Row (Kd.int .i64) 3 (.slice Az sl.length cz) (sl), FA 103 76 gf R2] S_wr_1.out)).1 (Sep.row_at (Sep.front [Row (Kd.int .i64) 3 (.slice Ad rl.length cd) (rl), Row (Kd.int .i64) 3 (.slice Ab ml.length cb) (ml)] [Row (Kd.int .i64) 3 (.slice Az sl.length cz) (sl), FA 103 76 gf R2] S_wr_1.out)).2 (Sep.row_at (Sep.front [] [Row (Kd.int .i64) 3 (.slice Ab ml.length cb) (ml), Row (Kd.int .i64) 3 (.slice Aa tl.length ca) (tl), Row (Kd.int .i64) 3 (.slice Az sl.length cz) (sl), FA 103 76 gf R2] S_wr_1.out)).1 (Sep.row_at (Sep.front [] [Row (Kd.int .i64) 3 (.slice Ab ml.length cb) (ml), Row (Kd.int .i64) 3 (.slice Aa tl.length ca) (tl), Row (Kd.int .i64) 3 (.slice Az sl.length cz) (sl), FA 103 76 gf R2] S_wr_1.out)).2 HB1.out).mono ?_); rintro e wr_2 ⟨rfl, hb0⟩; have hb := Aside0.mk hb0; clear hb0; have B_wr_2 : Aside0 (Below (w.heap.size) w wr_2) := ⟨below_then B_wr_1.out B_wr_1.out.size hb.out.below⟩; have S_wr_2 : Aside0 (Sep (w.heap.size) (Stars [Row (Kd.int .i64) 3 (.slice Ad rl.length cd) (rl), Row (Kd.int .i64) 3 (.slice Ab ml.length cb) (ml), Row (Kd.int .i64) 3 (.slice Aa tl.length ca) (tl), Row (Kd.int .i64) 3 (.slice Az sl.length cz) (sl), FA 103 76 gf R2]) wr_2) := ⟨Sep.below S_wr_1.out hb.out.below⟩; clear S_wr_1; clear hb) | (go_at_call 46; (with_reducible refine (row_sep _ (Sep.front [Row (Kd.int .i64) 3 (.slice Ad rl.length cd) (rl), Row (Kd.int .i64) 3 (.slice Ab ml.length cb) (ml), Row (Kd.int .i64) 3 (.slice Aa tl.length ca) (tl), Row (Kd.int .i64) 3 (.slice Az sl.length cz) (sl)] [] S_wr_2.out) HG2.out (j : Int) rl Hrl.out).mono ?_); rintro e wr_3 ⟨ve, rfl, hr, hb⟩; obtain ⟨Ae, ce, hv, -, -⟩ := Kd.R_reads hr; replace hv : ve = .slice Ae rl.length ce := hv; subst hv; have B_wr_3 : Aside0 (Below (w.heap.size) w wr_3) := ⟨below_then B_wr_2.out B_wr_2.out.size hb⟩; have S_wr_3 : Aside0 (Sep (w.heap.size) (Stars [Row (Kd.int .i64) 3 (.slice Ae rl.length ce) (rl), Row (Kd.int .i64) 3 (.slice Ad rl.length cd) (rl), Row (Kd.int .i64) 3 (.slice Ab ml.length cb) (ml), Row (Kd.int .i64) 3 (.slice Aa tl.length ca) (tl), Row (Kd.int .i64) 3 (.slice Az sl.length cz) (sl), FA 103 76 gf R2]) wr_3) := ⟨Sep.new_row S_wr_2.out B_wr_2.out.size hb hr⟩; clear S_wr_2; clear hb; clear hr) | (go_at_call 49; (with_reducible refine (duetref06_Below.at 3000 Ae ce (rl.length) (rl) Ab cb (ml.length) (ml) true _ (Sep.row_at (Sep.front [] [Row (Kd.int .i64) 3 (.slice Ad rl.length cd) (rl), Row (Kd.int .i64) 3 (.slice Ab ml.length cb) (ml), Row (Kd.int .i64) 3 (.slice Aa tl.length ca) (tl), Row (Kd.int .i64) 3 (.slice Az sl.length cz) (sl), FA 103 76 gf R2] S_wr_3.out)).1 (Sep.row_at (Sep.front [] [Row (Kd.int .i64) 3 (.slice Ad rl.length cd) (rl), Row (Kd.int .i64) 3 (.slice Ab ml.length cb) (ml), Row (Kd.int .i64) 3 (.slice Aa tl.length ca) (tl), Row (Kd.int .i64) 3 (.slice Az sl.length cz) (sl), FA 103 76 gf R2] S_wr_3.out)).2 (Sep.row_at (Sep.front [Row (Kd.int .i64) 3 (.slice Ae rl.length ce) (rl), Row (Kd.int .i64) 3 (.slice Ad rl.length cd) (rl)] [Row (Kd.int .i64) 3 (.slice Aa tl.length ca) (tl), Row (Kd.int .i64) 3 (.slice Az sl.length cz) (sl), FA 103 76 gf R2] S_wr_3.out)).1 (Sep.row_at (Sep.front [Row (Kd.int .i64) 3 (.slice Ae rl.length ce) (rl), Row (Kd.int .i64) 3 (.slice Ad rl.length cd) (rl)] [Row (Kd.int .i64) 3 (.slice Aa tl.length ca) (tl), Row (Kd.int .i64) 3 (.slice Az sl.length cz) (sl), FA 103 76 gf R2] S_wr_3.out)).2 HB2.out).mono ?_); rintro e wr_4 ⟨rfl, hb0⟩; have hb := Aside0.mk hb0; clear hb0; have B_wr_4 : Aside0 (Below (w.heap.size) w wr_4) := ⟨below_then B_wr_3.out B_wr_3.out.size hb.out.below⟩; have S_wr_4 : Aside0 (Sep (w.heap.size) (Stars [Row (Kd.int .i64) 3 (.slice Ae rl.length ce) (rl), Row (Kd.int .i64) 3 (.slice Ad rl.length cd) (rl), Row (Kd.int .i64) 3 (.slice Ab ml.length cb) (ml), Row (Kd.int .i64) 3 (.slice Aa tl.length ca) (tl), Row (Kd.int .i64) 3 (.slice Az sl.length cz) (sl), FA 103 76 gf R2]) wr_4) := ⟨Sep.below S_wr_3.out hb.out.below⟩; clear S_wr_3; clear hb))
            go_roundw
            case rel => exact ⟨j + 1, by omega, by go_num, ⟨Sep.right (Sep.right S_wr_4.out)⟩, B_wr_4⟩
            case measure => simp [intOf]; omega
          · obtain rfl : j = n := by omega
            have hlj2 : ¬ (j : Int) < (j : Int) := by omega
            by_cases e : tl = ml
            · have HS2 : Aside0 (duetref01_Same.f 1000 tl ml = some true) := ⟨by rw [HSM.out, decide_eq_true e]⟩
              have hz := HLL.out.mpr e
              have b1 : ((ll.length : Int) == 0) = true := by rw [beq_iff_eq]; omega
              have b2 : decide ((ll.length : Int) = 0) = true := decide_eq_true (by omega)
              have b3 : (ll.length : Int) = 0 := by omega
              have HZ0 := Aside0.mk hz
              clear hz e
              go_wp2_with (first | (go_at_call 44; (with_reducible refine (late_sep _ (Sep.front [Row (Kd.int .i64) 3 (.slice Ab ml.length cb) (ml), Row (Kd.int .i64) 3 (.slice Aa tl.length ca) (tl), Row (Kd.int .i64) 3 (.slice Az sl.length cz) (sl)] [] S_wr.out) HG2.out ll Hll.out).mono ?_); rintro e wr_1 ⟨Af, cf, rfl, hck, hCk, hb⟩; have Hf := Aside0.mk hck; have HCf := Aside0.mk hCk; clear hck hCk; have B_wr_1 : Aside0 (Below (w.heap.size) w wr_1) := ⟨below_then B_wr.out B_wr.out.size hb⟩; have S_wr_1 : Aside0 (Sep (w.heap.size) (Stars [Row (Kd.int .i64) 3 (.slice Ab ml.length cb) (ml), Row (Kd.int .i64) 3 (.slice Aa tl.length ca) (tl), Row (Kd.int .i64) 3 (.slice Az sl.length cz) (sl), FA 103 76 gf R2]) wr_1) := ⟨Sep.below S_wr.out hb⟩; clear S_wr; clear hb; have R_f_wr_1 : Aside0 (Kd.C (Kd.int .i64) wr_1 Af (ll.length) (ll)) := ⟨HCf.out⟩; clear HCf) | (go_at_call 32; (with_reducible refine (duetref01_Same.at 1000 Aa ca tl.length tl Ab cb ml.length ml true _ (Sep.row_at (Sep.front [Row (Kd.int .i64) 3 (.slice Ab ml.length cb) (ml)] [Row (Kd.int .i64) 3 (.slice Az sl.length cz) (sl), FA 103 76 gf R2] S_wr_1.out)).1 (Sep.row_at (Sep.front [Row (Kd.int .i64) 3 (.slice Ab ml.length cb) (ml)] [Row (Kd.int .i64) 3 (.slice Az sl.length cz) (sl), FA 103 76 gf R2] S_wr_1.out)).2 (Sep.row_at (Sep.front [] [Row (Kd.int .i64) 3 (.slice Aa tl.length ca) (tl), Row (Kd.int .i64) 3 (.slice Az sl.length cz) (sl), FA 103 76 gf R2] S_wr_1.out)).1 (Sep.row_at (Sep.front [] [Row (Kd.int .i64) 3 (.slice Aa tl.length ca) (tl), Row (Kd.int .i64) 3 (.slice Az sl.length cz) (sl), FA 103 76 gf R2] S_wr_1.out)).2 HS2.out).mono ?_); rintro e wr_2 ⟨rfl, hb0⟩; have hb := Aside0.mk hb0; clear hb0; have B_wr_2 : Aside0 (Below (w.heap.size) w wr_2) := ⟨below_then B_wr_1.out B_wr_1.out.size hb.out.below⟩; have S_wr_2 : Aside0 (Sep (w.heap.size) (Stars [Row (Kd.int .i64) 3 (.slice Ab ml.length cb) (ml), Row (Kd.int .i64) 3 (.slice Aa tl.length ca) (tl), Row (Kd.int .i64) 3 (.slice Az sl.length cz) (sl), FA 103 76 gf R2]) wr_2) := ⟨Sep.below S_wr_1.out hb.out.below⟩; have R_f_wr_2 : Aside0 (Kd.C (Kd.int .i64) wr_2 Af (ll.length) (ll)) := ⟨Kd.C_below R_f_wr_1.out hb.out.below⟩; clear S_wr_1 R_f_wr_1; clear hb))
              go_roundw
              case rel => first | exact ⟨k + 1, R2, tl, Aa, ca, by omega, by go_num, rfl, ⟨HG2.out, HN2.out, Htl.out⟩, ⟨(Sep.right (Sep.right (Sep.front [Row (Kd.int .i64) 3 (.slice Ab ml.length cb) (ml), Row (Kd.int .i64) 3 (.slice Aa tl.length ca) (tl)] [FA 103 76 gf R2] S_wr_2.out)))⟩, B_wr_2⟩ | ((repeat apply Exists.intro); exact ⟨⟨k + 1, R2, tl, Aa, ca, by omega, by go_num, rfl, ⟨HG2.out, HN2.out, Htl.out⟩, ⟨(Sep.right (Sep.right (Sep.front [Row (Kd.int .i64) 3 (.slice Ab ml.length cb) (ml), Row (Kd.int .i64) 3 (.slice Aa tl.length ca) (tl)] [FA 103 76 gf R2] S_wr_2.out)))⟩, B_wr_2⟩, rfl⟩)
              case measure => simp [intOf]; omega
            · have HS2 : Aside0 (duetref01_Same.f 1000 tl ml = some false) := ⟨by rw [HSM.out, decide_eq_false e]⟩
              have hz : ¬ ll.length = 0 := fun c => e (HLL.out.mp c)
              have b1 : ((ll.length : Int) == 0) = false := by rw [beq_eq_false_iff_ne]; omega
              have b2 : decide ((ll.length : Int) = 0) = false := decide_eq_false (by omega)
              have b3 : ¬ (ll.length : Int) = 0 := by omega
              have HZ0 := Aside0.mk hz
              clear hz e
              go_wp2_with (first | (go_at_call 44; (with_reducible refine (late_sep _ (Sep.front [Row (Kd.int .i64) 3 (.slice Ab ml.length cb) (ml), Row (Kd.int .i64) 3 (.slice Aa tl.length ca) (tl), Row (Kd.int .i64) 3 (.slice Az sl.length cz) (sl)] [] S_wr.out) HG2.out ll Hll.out).mono ?_); rintro e wr_1 ⟨Af, cf, rfl, hck, hCk, hb⟩; have Hf := Aside0.mk hck; have HCf := Aside0.mk hCk; clear hck hCk; have B_wr_1 : Aside0 (Below (w.heap.size) w wr_1) := ⟨below_then B_wr.out B_wr.out.size hb⟩; have S_wr_1 : Aside0 (Sep (w.heap.size) (Stars [Row (Kd.int .i64) 3 (.slice Ab ml.length cb) (ml), Row (Kd.int .i64) 3 (.slice Aa tl.length ca) (tl), Row (Kd.int .i64) 3 (.slice Az sl.length cz) (sl), FA 103 76 gf R2]) wr_1) := ⟨Sep.below S_wr.out hb⟩; clear S_wr; clear hb; have R_f_wr_1 : Aside0 (Kd.C (Kd.int .i64) wr_1 Af (ll.length) (ll)) := ⟨HCf.out⟩; clear HCf) | (go_at_call 32; (with_reducible refine (duetref01_Same.at 1000 Aa ca tl.length tl Ab cb ml.length ml false _ (Sep.row_at (Sep.front [Row (Kd.int .i64) 3 (.slice Ab ml.length cb) (ml)] [Row (Kd.int .i64) 3 (.slice Az sl.length cz) (sl), FA 103 76 gf R2] S_wr_1.out)).1 (Sep.row_at (Sep.front [Row (Kd.int .i64) 3 (.slice Ab ml.length cb) (ml)] [Row (Kd.int .i64) 3 (.slice Az sl.length cz) (sl), FA 103 76 gf R2] S_wr_1.out)).2 (Sep.row_at (Sep.front [] [Row (Kd.int .i64) 3 (.slice Aa tl.length ca) (tl), Row (Kd.int .i64) 3 (.slice Az sl.length cz) (sl), FA 103 76 gf R2] S_wr_1.out)).1 (Sep.row_at (Sep.front [] [Row (Kd.int .i64) 3 (.slice Aa tl.length ca) (tl), Row (Kd.int .i64) 3 (.slice Az sl.length cz) (sl), FA 103 76 gf R2] S_wr_1.out)).2 HS2.out).mono ?_); rintro e wr_2 ⟨rfl, hb0⟩; have hb := Aside0.mk hb0; clear hb0; have B_wr_2 : Aside0 (Below (w.heap.size) w wr_2) := ⟨below_then B_wr_1.out B_wr_1.out.size hb.out.below⟩; have S_wr_2 : Aside0 (Sep (w.heap.size) (Stars [Row (Kd.int .i64) 3 (.slice Ab ml.length cb) (ml), Row (Kd.int .i64) 3 (.slice Aa tl.length ca) (tl), Row (Kd.int .i64) 3 (.slice Az sl.length cz) (sl), FA 103 76 gf R2]) wr_2) := ⟨Sep.below S_wr_1.out hb.out.below⟩; have R_f_wr_2 : Aside0 (Kd.C (Kd.int .i64) wr_2 Af (ll.length) (ll)) := ⟨Kd.C_below R_f_wr_1.out hb.out.below⟩; clear S_wr_1 R_f_wr_1; clear hb))
              go_roundw
              case rel => first | exact ⟨k + 1, R2, tl, Aa, ca, by omega, by go_num, rfl, ⟨HG2.out, HN2.out, Htl.out⟩, ⟨(Sep.right (Sep.right (Sep.front [Row (Kd.int .i64) 3 (.slice Ab ml.length cb) (ml), Row (Kd.int .i64) 3 (.slice Aa tl.length ca) (tl)] [FA 103 76 gf R2] S_wr_2.out)))⟩, B_wr_2⟩ | ((repeat apply Exists.intro); exact ⟨⟨k + 1, R2, tl, Aa, ca, by omega, by go_num, rfl, ⟨HG2.out, HN2.out, Htl.out⟩, ⟨(Sep.right (Sep.right (Sep.front [Row (Kd.int .i64) 3 (.slice Ab ml.length cb) (ml), Row (Kd.int .i64) 3 (.slice Aa tl.length ca) (tl)] [FA 103 76 gf R2] S_wr_2.out)))⟩, B_wr_2⟩, rfl⟩)
              case measure => simp [intOf]; omega
      · have h60b : ¬ (k : Int) < 60 := by omega
        go_wp2_with (first | (go_at_call 37; (with_reducible refine (live9 _).mono ?_); rintro e2 w_l ⟨rfl, hb⟩; have HBl := Aside0.mk hb; clear hb))
        go_ret
        exact ⟨rfl, below_then B_wr.out B_wr.out.size HBl.out⟩
    · have hlt2 : ¬ (k : Int) < (l0.length : Int) := by omega
      go_wp2_with (first | (go_at_call 37; (with_reducible refine (live9 _).mono ?_); rintro e2 w_l ⟨rfl, hb⟩; have HBl := Aside0.mk hb; clear hb))
      go_ret
      exact ⟨rfl, below_then B_wr.out B_wr.out.size HBl.out⟩
end Go.Proofs.Ytiplkmmppihilaa.FrontA
