/- The law FrontScripts, walked. Conditions: none beyond those that each theorem states. -/
import Derived.Test.YtiplkmmppihilaaFrontN
namespace Go.Proofs.Ytiplkmmppihilaa.FrontA
open Go.RowKit Go.Proofs.YtiplkmmppihilaaW.PrintWords Go.Proofs.YtiplkmmppihilaaW.PrintLast Go.Proofs.YtiplkmmppihilaaW.PrintMore Go.Proofs.Ytiplkmmppihilaa.XS Go.Proofs.Ytiplkmmppihilaa.PFront
set_option linter.unusedVariables false
set_option linter.unusedSimpArgs false
abbrev Fs0 : Array Bool := #[false, false, false, false, false, false, false, false, false, false, false, false, false, false, false, false, false, false, false, false, false, false, false, false, false]
abbrev Fs1 : Array Bool := #[true, false, false, false, false, false, false, false, false, false, false, false, false, false, false, false, false, false, false, false, false, false, false, false, false]
abbrev Fs2 : Array Bool := #[true, true, false, false, false, false, false, false, false, false, false, false, false, false, false, false, false, false, false, false, false, false, false, false, false]
abbrev Fs3 : Array Bool := #[true, true, true, false, false, false, false, false, false, false, false, false, false, false, false, false, false, false, false, false, false, false, false, false, false]
abbrev Fs4 : Array Bool := #[true, true, true, true, false, false, false, false, false, false, false, false, false, false, false, false, false, false, false, false, false, false, false, false, false]
abbrev Fs5 : Array Bool := #[true, true, true, true, true, false, false, false, false, false, false, false, false, false, false, false, false, false, false, false, false, false, false, false, false]
abbrev Fs6 : Array Bool := #[true, true, true, true, true, false, true, false, false, false, false, false, false, false, false, false, false, false, false, false, false, false, false, false, false]
abbrev Fs7 : Array Bool := #[true, true, true, true, true, false, true, true, false, false, false, false, false, false, false, false, false, false, false, false, false, false, false, false, false]
abbrev Fs8 : Array Bool := #[true, true, true, true, true, false, true, true, true, false, false, false, false, false, false, false, false, false, false, false, false, false, false, false, false]
abbrev Fs9 : Array Bool := #[true, true, true, true, true, false, true, true, true, true, false, false, false, false, false, false, false, false, false, false, false, false, false, false, false]
abbrev Fs10 : Array Bool := #[true, true, true, true, true, false, true, true, true, true, false, false, true, false, false, false, false, false, false, false, false, false, false, false, false]
abbrev Fs11 : Array Bool := #[true, true, true, true, true, false, true, true, true, true, false, false, true, true, false, false, false, false, false, false, false, false, false, false, false]
abbrev Fs12 : Array Bool := #[true, true, true, true, true, false, true, true, true, true, false, false, true, true, true, false, false, false, false, false, false, false, false, false, false]
abbrev Fs13 : Array Bool := #[true, true, true, true, true, false, true, true, true, true, false, false, true, true, true, true, false, false, false, false, false, false, false, false, false]
abbrev Fs14 : Array Bool := #[true, true, true, true, true, false, true, true, true, true, false, false, true, true, true, true, true, false, false, false, false, false, false, false, false]
abbrev Fs15 : Array Bool := #[true, true, true, true, true, false, true, true, true, true, false, false, true, true, true, true, true, false, true, false, false, false, false, false, false]
abbrev Fs16 : Array Bool := #[true, true, true, true, true, false, true, true, true, true, false, false, true, true, true, true, true, false, true, true, false, false, false, false, false]
abbrev Fs17 : Array Bool := #[true, true, true, true, true, false, true, true, true, true, false, false, true, true, true, true, true, false, true, true, true, false, false, false, false]
abbrev Fs18 : Array Bool := #[true, true, true, true, true, false, true, true, true, true, false, false, true, true, true, true, true, false, true, true, true, true, false, false, false]
abbrev Fs19 : Array Bool := #[true, true, true, true, true, true, true, true, true, true, false, false, true, true, true, true, true, false, true, true, true, true, false, false, false]
abbrev Fs20 : Array Bool := #[true, true, true, true, true, true, true, true, true, true, true, false, true, true, true, true, true, false, true, true, true, true, false, false, false]
abbrev Fs21 : Array Bool := #[true, true, true, true, true, true, true, true, true, true, true, false, true, true, true, true, true, true, true, true, true, true, false, false, false]
abbrev Fs22 : Array Bool := #[true, true, true, true, true, true, true, true, true, true, true, false, true, true, true, true, true, true, true, true, true, true, true, false, false]
abbrev Fs23 : Array Bool := #[true, true, true, true, true, true, true, true, true, true, true, true, true, true, true, true, true, true, true, true, true, true, true, false, false]
abbrev Fs24 : Array Bool := #[true, true, true, true, true, true, true, true, true, true, true, true, true, true, true, true, true, true, true, true, true, true, true, true, false]
abbrev Fs25 : Array Bool := #[true, true, true, true, true, true, true, true, true, true, true, true, true, true, true, true, true, true, true, true, true, true, true, true, true]
set_option maxHeartbeats 8000000 in
set_option maxRecDepth 100000 in
theorem frontScripts (sites : Int) (A0 : Option Addr) (c0 : Nat) (l0 : List (Int × List Int)) (site : Int) (w : World) (hr0 : Kd.C KOp w A0 l0.length l0) (hc0 : l0.length ≤ c0) (hn : l0.length ≤ 9223372036854775807) : Calls Try.prog 10 #[.int .i64 sites, .slice A0 l0.length c0, .int .i64 site] w fun e w' => e = .returned (.bool true) ∧ Below w.heap.size w w' := by
  have HR := Aside0.mk hr0
  clear hr0
  have B_w := Aside0.mk (Below.refl w.heap.size w)
  have S_w : Aside0 (Sep w.heap.size (Stars []) w) := ⟨Sep.emp _ _⟩
  by_cases hs : 1 ≤ sites ∧ sites ≤ 16
  case neg =>
    go_enter Try.func10, Try.ntmps10
    go_wp2_with (first | (go_at_call 35; (with_reducible refine (front_none _ sites hs).mono ?_); rintro e w_1 ⟨rfl, hb⟩; have B_w_1 : Aside0 (Below (w.heap.size) w w_1) := ⟨below_then B_w.out B_w.out.size hb⟩; have S_w_1 : Aside0 (Sep (w.heap.size) (Stars []) w_1) := ⟨Sep.below S_w.out hb⟩; have Q_w_1 : Aside0 (Below w.heap.size w w_1) := ⟨hb⟩; clear S_w; clear hb) | (go_at_call 36; (with_reducible refine (ref_none _ sites hs).mono ?_); rintro e w' ⟨rfl, rfl⟩))
    go_loopw [11] (fun i wr => i = .int .i64 0 ∧ Aside0 (Below w.heap.size w wr)) (fun i _ => 0)
    case atStart => exact ⟨rfl, B_w_1⟩
    case round =>
      clear S_w_1
      obtain ⟨rfl, B_wr⟩ := hrel
      by_cases hlt : 0 < l0.length
      · have hlt2 : (0 : Int) < (l0.length : Int) := by omega
        go_wp2_with (first | (go_at_call 37; (with_reducible refine (live9 _).mono ?_); rintro e2 w_l ⟨rfl, hb⟩; have HBl := Aside0.mk hb; clear hb))
        go_ret
        exact ⟨rfl, below_then B_wr.out B_wr.out.size HBl.out⟩
      · have hlt2 : ¬ (0 : Int) < (l0.length : Int) := by omega
        go_wp2_with (first | (go_at_call 37; (with_reducible refine (live9 _).mono ?_); rintro e2 w_l ⟨rfl, hb⟩; have HBl := Aside0.mk hb; clear hb))
        go_ret
        exact ⟨rfl, below_then B_wr.out B_wr.out.size HBl.out⟩
  obtain ⟨n, rfl⟩ : ∃ n : Nat, sites = (n : Int) := ⟨sites.toNat, by omega⟩
  have hs1 : 1 ≤ n := by omega
  have hs2 : n ≤ 16 := by omega
  clear hs
  go_enter Try.func10, Try.ntmps10
  go_wp2_with (first | (go_at_call 35; (with_reducible refine (new_at _ ((n : Int)) n (none9 n) hs1 hs2 rfl rfl).mono ?_); rintro e w_1 ⟨gf, rfl, hN, hb⟩; have B_w_1 : Aside0 (Below (w.heap.size) w w_1) := ⟨below_then B_w.out B_w.out.size hb⟩; have S_w_1 : Aside0 (Sep (w.heap.size) (Stars [FA 103 76 gf (none9 n)]) w_1) := ⟨Sep.more S_w.out hN hb B_w.out.size⟩; have Q_w_1 : Aside0 (Below w.heap.size w w_1) := ⟨hb⟩; clear S_w; clear hb) | (go_at_call 36; (with_reducible refine (refnew_at _ ((n : Int)) n (none9 n) hs1 hs2 rfl rfl).mono ?_); rintro e w_2 ⟨gk, rfl, hN, hb⟩; have B_w_2 : Aside0 (Below (w.heap.size) w w_2) := ⟨below_then B_w_1.out B_w_1.out.size hb⟩; have S_w_2 : Aside0 (Sep (w.heap.size) (Stars [FA 105 50 gk (none9 n), FA 103 76 gf (none9 n)]) w_2) := ⟨Sep.more S_w_1.out hN hb B_w_1.out.size⟩; have Q_w_2 : Aside0 (Below w.heap.size w w_2) := ⟨below_step Q_w_1.out hb⟩; clear S_w_1; clear hb))
  go_loopw [11] (fun i wr => ∃ (k : Nat) (R : List (List Int)), k ≤ l0.length ∧ i = .int .i64 k ∧ Aside0 (Good R) ∧ Aside0 (Sep w.heap.size (Stars [FA 105 50 gk R, FA 103 76 gf R]) wr) ∧ Aside0 (Below w.heap.size w wr)) (fun i _ => l0.length - (intOf i).toNat)
  case atStart => exact ⟨0, _, by omega, rfl, ⟨none_good n hs1 hs2⟩, S_w_2, B_w_2⟩
  case round =>
    clear S_w_2
    obtain ⟨k, R, hk, rfl, HG, S_wr, B_wr⟩ := hrel
    by_cases hlt : k < l0.length
    · have hlt2 : (k : Int) < (l0.length : Int) := by omega
      by_cases h60 : k < 60
      · have h60b : (k : Int) < 60 := by omega
        have hk0 : (0 : Int) ≤ (k : Int) := by omega
        obtain ⟨ad, A2, c2, s, v, rfl, x0, x1, hc2, hC2⟩ := at_op HR.out k hlt
        have HC2 := Aside0.mk hC2
        have Hc2 := Aside0.mk hc2
        clear hC2 hc2
        have x0_wr := pw_cell_below B_wr.out x0
        have x1_wr := pw_cell_below B_wr.out x1
        by_cases ht : 30 < v.length
        · have ht2 : (30 : Int) < (v.length : Int) := by omega
          go_wp2_with (first | (go_at_call 37; (with_reducible refine (live9 _).mono ?_); rintro e2 w_l ⟨rfl, hb⟩; have HBl := Aside0.mk hb; clear hb))
          go_ret
          exact ⟨rfl, below_then B_wr.out B_wr.out.size HBl.out⟩
        have ht2 : ¬ (30 : Int) < (v.length : Int) := by omega
        have hvl : v.length ≤ 1000 := by omega
        clear ht
        obtain ⟨r, hr⟩ : ∃ r, hearE R s v = r := ⟨_, rfl⟩
        obtain ⟨R2, hR2⟩ : ∃ R2, hearR R s v = R2 := ⟨_, rfl⟩
        have HE := Aside0.mk hr
        have HR2 := Aside0.mk hR2
        have HG2 : Aside0 (Good R2) := ⟨by rw [← hR2]; exact hear_good HG.out s v⟩
        clear hr hR2
        obtain ⟨sl, hsl⟩ : ∃ sl, stable R2 = sl := ⟨_, rfl⟩
        obtain ⟨ml, hml⟩ : ∃ ml, most R2 = ml := ⟨_, rfl⟩
        obtain ⟨ll, hll⟩ : ∃ ll, late R2 R2.length = ll := ⟨_, rfl⟩
        obtain ⟨rl, hrl⟩ : ∃ rl, rowOf R2 site = rl := ⟨_, rfl⟩
        have Ssl : Aside0 (duetref01_Same.f (sl.length + 1) sl sl = some true) := ⟨same_l _ (by rw [← hsl, stable_len HG2.out]; have := HG2.out.2.1; omega)⟩
        have Sml : Aside0 (duetref01_Same.f (ml.length + 1) ml ml = some true) := ⟨same_l _ (by rw [← hml, most_len HG2.out]; have := HG2.out.2.1; omega)⟩
        have Sll : Aside0 (duetref01_Same.f (ll.length + 1) ll ll = some true) := ⟨same_l _ (by rw [← hll]; have := late_le R2 R2.length; have := HG2.out.2.1; omega)⟩
        have Srl : Aside0 (duetref01_Same.f (rl.length + 1) rl rl = some true) := ⟨same_l _ (by rw [← hrl]; have := rowOf_len HG2.out site; omega)⟩
        have Hsl := Aside0.mk hsl
        have Hml := Aside0.mk hml
        have Hll := Aside0.mk hll
        have Hrl := Aside0.mk hrl
        clear hsl hml hll hrl
        have br : (r != r) = false := by simp
        go_upto_region 10 with (fail)
        refine start_ (n := 25) (S := fun w' => w'.cell? (ad.add (k * 2)) = some (.int .i64 s) ∧ w'.cell? ⟨(ad.add (k * 2)).block, (ad.add (k * 2)).off + 1, none⟩ = some (.slice A2 v.length c2)) (ds := []) Fs0 (by kernel_rfl) rfl rfl ⟨x0_wr, x1_wr⟩ (fun hHeld => ?_)
        generalize hdw : wr.drew = wr_1 at hHeld ⊢
        have HB_wr_1 : Aside0 (Below wr.heap.size wr wr_1) := ⟨by rw [← hdw]; exact below_drew1 (Below.refl _ _)⟩
        clear hdw
        have B_wr_1 : Aside0 (Below (w.heap.size) w wr_1) := ⟨below_then B_wr.out B_wr.out.size HB_wr_1.out⟩
        have S_wr_1 : Aside0 (Sep (w.heap.size) (Stars [FA 105 50 gk R, FA 103 76 gf R]) wr_1) := ⟨Sep.below S_wr.out HB_wr_1.out⟩
        have x0_wr_1 := pw_cell_below B_wr_1.out x0
        have x1_wr_1 := pw_cell_below B_wr_1.out x1
        clear S_wr x0_wr x1_wr
        refine pure_ (i := 0) (N := some 54) (v := ?_) (a' := ?_) Fs1 rfl rfl (by kernel_rfl) (fun _ _ _ h => h) (Or.inl ⟨by rfl, ?_⟩) ?_ ?_
        rotate_left
        · intro w'
          go_simp
          with_reducible rfl
        rotate_left
        · simp only [Act.put, List.setIfInBounds_toArray, List.set_cons_zero, List.set_cons_succ, i64_w, i32_w]
          rfl
        refine pure_ (i := 1) (N := some 55) (v := ?_) (a' := ?_) Fs2 rfl rfl (by kernel_rfl) (fun _ _ _ h => h) (Or.inl ⟨by rfl, ?_⟩) ?_ ?_
        rotate_left
        · intro w'
          go_simp
          with_reducible rfl
        rotate_left
        · simp only [Act.put, List.setIfInBounds_toArray, List.set_cons_zero, List.set_cons_succ, i64_w, i32_w]
          rfl
        refine pure_ (i := 2) (N := some 56) (v := ?_) (a' := ?_) Fs3 rfl rfl (by kernel_rfl) (fun _ _ _ h => h) (Or.inl ⟨by rfl, ?_⟩) ?_ ?_
        rotate_left
        · intro w'
          go_simp
          with_reducible rfl
        rotate_left
        · simp only [Act.put, List.setIfInBounds_toArray, List.set_cons_zero, List.set_cons_succ, i64_w, i32_w]
          rfl
        refine pure_ (i := 3) (N := some 57) (v := ?_) (a' := ?_) Fs4 rfl rfl (by kernel_rfl) (fun _ _ _ h => h) (Or.inl ⟨by rfl, ?_⟩) ?_ ?_
        rotate_left
        · intro w'
          go_simp
          with_reducible rfl
        rotate_left
        · simp only [Act.put, List.setIfInBounds_toArray, List.set_cons_zero, List.set_cons_succ, i64_w, i32_w]
          rfl
        refine pure_ (i := 4) (N := some 58) (v := ?_) (a' := ?_) Fs5 rfl rfl (by kernel_rfl) (fun _ _ _ h => h) (Or.inl ⟨by rfl, ?_⟩) ?_ ?_
        rotate_left
        · intro w'
          go_simp
          with_reducible rfl
        rotate_left
        · simp only [Act.put, List.setIfInBounds_toArray, List.set_cons_zero, List.set_cons_succ, i64_w, i32_w]
          rfl
        refine pure_ (i := 6) (N := some 60) (v := ?_) (a' := ?_) Fs6 rfl rfl (by kernel_rfl) (fun _ _ _ h => h) (Or.inl ⟨by rfl, ?_⟩) ?_ ?_
        rotate_left
        · intro w'
          go_simp
          with_reducible rfl
        rotate_left
        · simp only [Act.put, List.setIfInBounds_toArray, List.set_cons_zero, List.set_cons_succ, i64_w, i32_w]
          rfl
        refine pure_ (i := 7) (N := some 61) (v := ?_) (a' := ?_) Fs7 rfl rfl (by kernel_rfl) (fun _ _ _ h => h) (Or.inl ⟨by rfl, ?_⟩) ?_ ?_
        rotate_left
        · intro w'
          go_simp
          with_reducible rfl
        rotate_left
        · simp only [Act.put, List.setIfInBounds_toArray, List.set_cons_zero, List.set_cons_succ, i64_w, i32_w]
          rfl
        refine pure_ (i := 8) (N := some 62) (v := ?_) (a' := ?_) Fs8 rfl rfl (by kernel_rfl) (fun _ _ _ h => h) (Or.inl ⟨by rfl, ?_⟩) ?_ ?_
        rotate_left
        · intro w'
          go_simp
          with_reducible rfl
        rotate_left
        · simp only [Act.put, List.setIfInBounds_toArray, List.set_cons_zero, List.set_cons_succ, i64_w, i32_w]
          rfl
        refine pure_ (i := 9) (N := some 63) (v := ?_) (a' := ?_) Fs9 rfl rfl (by kernel_rfl) (fun _ _ _ h => h) (Or.inl ⟨by rfl, ?_⟩) ?_ ?_
        rotate_left
        · intro w'
          go_simp
          with_reducible rfl
        rotate_left
        · simp only [Act.put, List.setIfInBounds_toArray, List.set_cons_zero, List.set_cons_succ, i64_w, i32_w]
          rfl
        refine pure_ (i := 12) (N := some 66) (v := ?_) (a' := ?_) Fs10 rfl rfl (by kernel_rfl) (fun _ _ _ h => h) (Or.inl ⟨by rfl, ?_⟩) ?_ ?_
        rotate_left
        · intro w'
          go_simp
          with_reducible rfl
        rotate_left
        · simp only [Act.put, List.setIfInBounds_toArray, List.set_cons_zero, List.set_cons_succ, i64_w, i32_w]
          rfl
        refine pure_ (i := 13) (N := some 67) (v := ?_) (a' := ?_) Fs11 rfl rfl (by kernel_rfl) (fun _ _ _ h => h) (Or.inl ⟨by rfl, ?_⟩) ?_ ?_
        rotate_left
        · intro w'
          go_simp
          with_reducible rfl
        rotate_left
        · simp only [Act.put, List.setIfInBounds_toArray, List.set_cons_zero, List.set_cons_succ, i64_w, i32_w]
          rfl
        refine pure_ (i := 14) (N := some 68) (v := ?_) (a' := ?_) Fs12 rfl rfl (by kernel_rfl) (fun _ _ _ h => h) (Or.inl ⟨by rfl, ?_⟩) ?_ ?_
        rotate_left
        · intro w'
          go_simp
          with_reducible rfl
        rotate_left
        · simp only [Act.put, List.setIfInBounds_toArray, List.set_cons_zero, List.set_cons_succ, i64_w, i32_w]
          rfl
        refine pure_ (i := 15) (N := some 69) (v := ?_) (a' := ?_) Fs13 rfl rfl (by kernel_rfl) (fun _ _ _ h => h) (Or.inl ⟨by rfl, ?_⟩) ?_ ?_
        rotate_left
        · intro w'
          go_simp
          with_reducible rfl
        rotate_left
        · simp only [Act.put, List.setIfInBounds_toArray, List.set_cons_zero, List.set_cons_succ, i64_w, i32_w]
          rfl
        refine pure_ (i := 16) (N := some 70) (v := ?_) (a' := ?_) Fs14 rfl rfl (by kernel_rfl) (fun _ _ _ h => h) (Or.inl ⟨by rfl, ?_⟩) ?_ ?_
        rotate_left
        · intro w'
          go_simp
          with_reducible rfl
        rotate_left
        · simp only [Act.put, List.setIfInBounds_toArray, List.set_cons_zero, List.set_cons_succ, i64_w, i32_w]
          rfl
        refine pure_ (i := 18) (N := some 72) (v := ?_) (a' := ?_) Fs15 rfl rfl (by kernel_rfl) (fun _ _ _ h => h) (Or.inl ⟨by rfl, ?_⟩) ?_ ?_
        rotate_left
        · intro w'
          go_simp
          with_reducible rfl
        rotate_left
        · simp only [Act.put, List.setIfInBounds_toArray, List.set_cons_zero, List.set_cons_succ, i64_w, i32_w]
          rfl
        refine pure_ (i := 19) (N := some 73) (v := ?_) (a' := ?_) Fs16 rfl rfl (by kernel_rfl) (fun _ _ _ h => h) (Or.inl ⟨by rfl, ?_⟩) ?_ ?_
        rotate_left
        · intro w'
          go_simp
          with_reducible rfl
        rotate_left
        · simp only [Act.put, List.setIfInBounds_toArray, List.set_cons_zero, List.set_cons_succ, i64_w, i32_w]
          rfl
        refine pure_ (i := 20) (N := some 74) (v := ?_) (a' := ?_) Fs17 rfl rfl (by kernel_rfl) (fun _ _ _ h => h) (Or.inl ⟨by rfl, ?_⟩) ?_ ?_
        rotate_left
        · intro w'
          go_simp
          with_reducible rfl
        rotate_left
        · simp only [Act.put, List.setIfInBounds_toArray, List.set_cons_zero, List.set_cons_succ, i64_w, i32_w]
          rfl
        refine pure_ (i := 21) (N := some 75) (v := ?_) (a' := ?_) Fs18 rfl rfl (by kernel_rfl) (fun _ _ _ h => h) (Or.inl ⟨by rfl, ?_⟩) ?_ ?_
        rotate_left
        · intro w'
          go_simp
          with_reducible rfl
        rotate_left
        · simp only [Act.put, List.setIfInBounds_toArray, List.set_cons_zero, List.set_cons_succ, i64_w, i32_w]
          rfl
        refine take_ (i := 5) (N := some 59) (v := ?_) (a' := ?_) Fs19 rfl rfl (by kernel_rfl) (fun _ _ _ h => h) (Or.inl ⟨by rfl, ?_⟩) hHeld ?_ ?_
        rotate_left
        · rintro w' ⟨s0, s1⟩
          go_simp
          with_reducible rfl
        rotate_left
        · simp only [Act.put, List.setIfInBounds_toArray, List.set_cons_zero, List.set_cons_succ, i64_w, i32_w]
          rfl
        refine take_ (i := 10) (N := some 64) (v := ?_) (a' := ?_) Fs20 rfl rfl (by kernel_rfl) (fun _ _ _ h => h) (Or.inl ⟨by rfl, ?_⟩) hHeld ?_ ?_
        rotate_left
        · rintro w' ⟨s0, s1⟩
          go_simp
          with_reducible rfl
        rotate_left
        · simp only [Act.put, List.setIfInBounds_toArray, List.set_cons_zero, List.set_cons_succ, i64_w, i32_w]
          rfl
        refine take_ (i := 17) (N := some 71) (v := ?_) (a' := ?_) Fs21 rfl rfl (by kernel_rfl) (fun _ _ _ h => h) (Or.inl ⟨by rfl, ?_⟩) hHeld ?_ ?_
        rotate_left
        · rintro w' ⟨s0, s1⟩
          go_simp
          with_reducible rfl
        rotate_left
        · simp only [Act.put, List.setIfInBounds_toArray, List.set_cons_zero, List.set_cons_succ, i64_w, i32_w]
          rfl
        refine take_ (i := 22) (N := some 76) (v := ?_) (a' := ?_) Fs22 rfl rfl (by kernel_rfl) (fun _ _ _ h => h) (Or.inl ⟨by rfl, ?_⟩) hHeld ?_ ?_
        rotate_left
        · rintro w' ⟨s0, s1⟩
          go_simp
          with_reducible rfl
        rotate_left
        · simp only [Act.put, List.setIfInBounds_toArray, List.set_cons_zero, List.set_cons_succ, i64_w, i32_w]
          rfl
        refine one_ (i := 11) (N := some 65) Fs23 rfl rfl (by kernel_rfl) (by decide) (fun K hK => ?_)
        refine goes_ Try.func38 (by kernel_rfl) rfl #[.pointer (some ⟨gf, 0, none⟩), .int .i64 s, .slice A2 v.length c2] (by rfl) rfl rfl (by simp only [List.map_toArray, List.map_cons, List.map_nil]; rfl) ?_
        with_reducible refine (hear_at _ (Sep.front [FA 105 50 gk R] [] S_wr_1.out) B_wr_1.out.size HG.out s A2 c2 v.length v (Kd.C_below HC2.out B_wr_1.out) Hc2.out hvl r R2 HE.out HR2.out).mono ?_
        rintro e wr_2 ⟨rfl, hS, hb⟩
        refine ⟨_, rfl, ?_⟩
        have B_wr_2 : Aside0 (Below (w.heap.size) w wr_2) := ⟨(Below.trans B_wr_1.out hb)⟩
        have S_wr_2 : Aside0 (Sep (w.heap.size) (Stars [FA 105 50 gk R, FA 103 76 gf R2]) wr_2) := ⟨Sep.back [FA 105 50 gk R] [] hS⟩
        have x0_wr_2 := pw_cell_below B_wr_2.out x0
        have x1_wr_2 := pw_cell_below B_wr_2.out x1
        clear S_wr_1 x0_wr_1 x1_wr_1
        clear hS hb
        refine hK.out _ _ ⟨x0_wr_2, x1_wr_2⟩ (fun hHeld => ?_)
        clear hK K
        refine norm_ (a' := ?_) ?_ ?_
        rotate_left
        · show Act.put _ (some 65) _ = _
          simp only [Act.put, List.setIfInBounds_toArray, List.set_cons_zero, List.set_cons_succ, i64_w, i32_w]
          rfl
        refine one_ (i := 23) (N := some 77) Fs24 rfl rfl (by kernel_rfl) (by decide) (fun K hK => ?_)
        refine goes_ Try.func39 (by kernel_rfl) rfl #[.pointer (some ⟨gk, 0, none⟩), .int .i64 s, .slice A2 v.length c2] (by rfl) rfl rfl (by simp only [List.map_toArray, List.map_cons, List.map_nil]; rfl) ?_
        with_reducible refine (refhear_at _ (Sep.front [] [FA 103 76 gf R2] S_wr_2.out) B_wr_2.out.size HG.out s A2 c2 v.length v (Kd.C_below HC2.out B_wr_2.out) Hc2.out hvl r R2 HE.out HR2.out).mono ?_
        rintro e wr_3 ⟨rfl, hS, hb⟩
        refine ⟨_, rfl, ?_⟩
        have B_wr_3 : Aside0 (Below (w.heap.size) w wr_3) := ⟨(Below.trans B_wr_2.out hb)⟩
        have S_wr_3 : Aside0 (Sep (w.heap.size) (Stars [FA 105 50 gk R2, FA 103 76 gf R2]) wr_3) := ⟨Sep.back [] [FA 103 76 gf R2] hS⟩
        have x0_wr_3 := pw_cell_below B_wr_3.out x0
        have x1_wr_3 := pw_cell_below B_wr_3.out x1
        clear S_wr_2 x0_wr_2 x1_wr_2
        clear hS hb
        refine hK.out _ _ ⟨x0_wr_3, x1_wr_3⟩ (fun hHeld => ?_)
        clear hK K
        refine norm_ (a' := ?_) ?_ ?_
        rotate_left
        · show Act.put _ (some 77) _ = _
          simp only [Act.put, List.setIfInBounds_toArray, List.set_cons_zero, List.set_cons_succ, i64_w, i32_w]
          rfl
        refine pure_ (i := 24) (N := some 78) (v := ?_) (a' := ?_) Fs25 rfl rfl (by kernel_rfl) (fun _ _ _ h => h) (Or.inl ⟨by rfl, ?_⟩) ?_ ?_
        rotate_left
        · intro w'
          go_simp
          with_reducible rfl
        rotate_left
        · simp only [Act.put, List.setIfInBounds_toArray, List.set_cons_zero, List.set_cons_succ, i64_w, i32_w]
          rfl
        refine done_ (by kernel_rfl) ?_
        go_wp2_with (first | (go_at_call 40; (with_reducible refine (stable_sep _ (Sep.front [FA 105 50 gk R2] [] S_wr_3.out) HG2.out sl Hsl.out).mono ?_); rintro e wr_4 ⟨va, rfl, hr, hb⟩; obtain ⟨Aa, ca, hv, -, -⟩ := Kd.R_reads hr; replace hv : va = .slice Aa sl.length ca := hv; subst hv; have B_wr_4 : Aside0 (Below (w.heap.size) w wr_4) := ⟨below_then B_wr_3.out B_wr_3.out.size hb⟩; have S_wr_4 : Aside0 (Sep (w.heap.size) (Stars [Row (Kd.int .i64) 3 (.slice Aa sl.length ca) (sl), FA 105 50 gk R2, FA 103 76 gf R2]) wr_4) := ⟨Sep.new_row S_wr_3.out B_wr_3.out.size hb hr⟩; clear S_wr_3; clear hb; clear hr) | (go_at_call 41; (with_reducible refine (refstable_sep _ (Sep.front [Row (Kd.int .i64) 3 (.slice Aa sl.length ca) (sl)] [FA 103 76 gf R2] S_wr_4.out) HG2.out sl Hsl.out).mono ?_); rintro e wr_5 ⟨Ab, cb, rfl, hck, hCk, hb⟩; have Hb := Aside0.mk hck; have HCb := Aside0.mk hCk; clear hck hCk; have B_wr_5 : Aside0 (Below (w.heap.size) w wr_5) := ⟨below_then B_wr_4.out B_wr_4.out.size hb⟩; have S_wr_5 : Aside0 (Sep (w.heap.size) (Stars [Row (Kd.int .i64) 3 (.slice Aa sl.length ca) (sl), FA 105 50 gk R2, FA 103 76 gf R2]) wr_5) := ⟨Sep.below S_wr_4.out hb⟩; clear S_wr_4; clear hb; have R_b_wr_5 : Aside0 (Kd.C (Kd.int .i64) wr_5 Ab (sl.length) (sl)) := ⟨HCb.out⟩; clear HCb) | (go_at_call 32; (with_reducible refine (duetref01_Same.at (sl.length + 1) Aa ca (sl.length) (sl) Ab cb (sl.length) (sl) true _ (Sep.row_at (Sep.front [] [FA 105 50 gk R2, FA 103 76 gf R2] S_wr_5.out)).1 (Sep.row_at (Sep.front [] [FA 105 50 gk R2, FA 103 76 gf R2] S_wr_5.out)).2 R_b_wr_5.out Hb.out Ssl.out).mono ?_); rintro e wr_6 ⟨rfl, hb0⟩; have hb := Aside0.mk hb0; clear hb0; have B_wr_6 : Aside0 (Below (w.heap.size) w wr_6) := ⟨below_then B_wr_5.out B_wr_5.out.size hb.out.below⟩; have S_wr_6 : Aside0 (Sep (w.heap.size) (Stars [Row (Kd.int .i64) 3 (.slice Aa sl.length ca) (sl), FA 105 50 gk R2, FA 103 76 gf R2]) wr_6) := ⟨Sep.below S_wr_5.out hb.out.below⟩; have R_b_wr_6 : Aside0 (Kd.C (Kd.int .i64) wr_6 Ab (sl.length) (sl)) := ⟨Kd.C_below R_b_wr_5.out hb.out.below⟩; clear S_wr_5 R_b_wr_5; clear hb) | (go_at_call 42; (with_reducible refine (most_sep _ (Sep.front [Row (Kd.int .i64) 3 (.slice Aa sl.length ca) (sl), FA 105 50 gk R2] [] S_wr_6.out) HG2.out ml Hml.out).mono ?_); rintro e wr_7 ⟨vd, rfl, hr, hb⟩; obtain ⟨Ad, cd, hv, -, -⟩ := Kd.R_reads hr; replace hv : vd = .slice Ad ml.length cd := hv; subst hv; have B_wr_7 : Aside0 (Below (w.heap.size) w wr_7) := ⟨below_then B_wr_6.out B_wr_6.out.size hb⟩; have S_wr_7 : Aside0 (Sep (w.heap.size) (Stars [Row (Kd.int .i64) 3 (.slice Ad ml.length cd) (ml), Row (Kd.int .i64) 3 (.slice Aa sl.length ca) (sl), FA 105 50 gk R2, FA 103 76 gf R2]) wr_7) := ⟨Sep.new_row S_wr_6.out B_wr_6.out.size hb hr⟩; have R_b_wr_7 : Aside0 (Kd.C (Kd.int .i64) wr_7 Ab (sl.length) (sl)) := ⟨Kd.C_below R_b_wr_6.out hb⟩; clear S_wr_6 R_b_wr_6; clear hb; clear hr) | (go_at_call 43; (with_reducible refine (refmost_sep _ (Sep.front [Row (Kd.int .i64) 3 (.slice Ad ml.length cd) (ml), Row (Kd.int .i64) 3 (.slice Aa sl.length ca) (sl)] [FA 103 76 gf R2] S_wr_7.out) HG2.out ml Hml.out).mono ?_); rintro e wr_8 ⟨Ae, ce, rfl, hck, hCk, hb⟩; have He := Aside0.mk hck; have HCe := Aside0.mk hCk; clear hck hCk; have B_wr_8 : Aside0 (Below (w.heap.size) w wr_8) := ⟨below_then B_wr_7.out B_wr_7.out.size hb⟩; have S_wr_8 : Aside0 (Sep (w.heap.size) (Stars [Row (Kd.int .i64) 3 (.slice Ad ml.length cd) (ml), Row (Kd.int .i64) 3 (.slice Aa sl.length ca) (sl), FA 105 50 gk R2, FA 103 76 gf R2]) wr_8) := ⟨Sep.below S_wr_7.out hb⟩; have R_b_wr_8 : Aside0 (Kd.C (Kd.int .i64) wr_8 Ab (sl.length) (sl)) := ⟨Kd.C_below R_b_wr_7.out hb⟩; clear S_wr_7 R_b_wr_7; clear hb; have R_e_wr_8 : Aside0 (Kd.C (Kd.int .i64) wr_8 Ae (ml.length) (ml)) := ⟨HCe.out⟩; clear HCe) | (go_at_call 32; (with_reducible refine (duetref01_Same.at (ml.length + 1) Ad cd (ml.length) (ml) Ae ce (ml.length) (ml) true _ (Sep.row_at (Sep.front [] [Row (Kd.int .i64) 3 (.slice Aa sl.length ca) (sl), FA 105 50 gk R2, FA 103 76 gf R2] S_wr_8.out)).1 (Sep.row_at (Sep.front [] [Row (Kd.int .i64) 3 (.slice Aa sl.length ca) (sl), FA 105 50 gk R2, FA 103 76 gf R2] S_wr_8.out)).2 R_e_wr_8.out He.out Sml.out).mono ?_); rintro e wr_9 ⟨rfl, hb0⟩; have hb := Aside0.mk hb0; clear hb0; have B_wr_9 : Aside0 (Below (w.heap.size) w wr_9) := ⟨below_then B_wr_8.out B_wr_8.out.size hb.out.below⟩; have S_wr_9 : Aside0 (Sep (w.heap.size) (Stars [Row (Kd.int .i64) 3 (.slice Ad ml.length cd) (ml), Row (Kd.int .i64) 3 (.slice Aa sl.length ca) (sl), FA 105 50 gk R2, FA 103 76 gf R2]) wr_9) := ⟨Sep.below S_wr_8.out hb.out.below⟩; have R_b_wr_9 : Aside0 (Kd.C (Kd.int .i64) wr_9 Ab (sl.length) (sl)) := ⟨Kd.C_below R_b_wr_8.out hb.out.below⟩; have R_e_wr_9 : Aside0 (Kd.C (Kd.int .i64) wr_9 Ae (ml.length) (ml)) := ⟨Kd.C_below R_e_wr_8.out hb.out.below⟩; clear S_wr_8 R_b_wr_8 R_e_wr_8; clear hb) | (go_at_call 44; (with_reducible refine (late_sep _ (Sep.front [Row (Kd.int .i64) 3 (.slice Ad ml.length cd) (ml), Row (Kd.int .i64) 3 (.slice Aa sl.length ca) (sl), FA 105 50 gk R2] [] S_wr_9.out) HG2.out ll Hll.out).mono ?_); rintro e wr_10 ⟨Af, cf, rfl, hck, hCk, hb⟩; have Hf := Aside0.mk hck; have HCf := Aside0.mk hCk; clear hck hCk; have B_wr_10 : Aside0 (Below (w.heap.size) w wr_10) := ⟨below_then B_wr_9.out B_wr_9.out.size hb⟩; have S_wr_10 : Aside0 (Sep (w.heap.size) (Stars [Row (Kd.int .i64) 3 (.slice Ad ml.length cd) (ml), Row (Kd.int .i64) 3 (.slice Aa sl.length ca) (sl), FA 105 50 gk R2, FA 103 76 gf R2]) wr_10) := ⟨Sep.below S_wr_9.out hb⟩; have R_b_wr_10 : Aside0 (Kd.C (Kd.int .i64) wr_10 Ab (sl.length) (sl)) := ⟨Kd.C_below R_b_wr_9.out hb⟩; have R_e_wr_10 : Aside0 (Kd.C (Kd.int .i64) wr_10 Ae (ml.length) (ml)) := ⟨Kd.C_below R_e_wr_9.out hb⟩; clear S_wr_9 R_b_wr_9 R_e_wr_9; clear hb; have R_f_wr_10 : Aside0 (Kd.C (Kd.int .i64) wr_10 Af (ll.length) (ll)) := ⟨HCf.out⟩; clear HCf) | (go_at_call 45; (with_reducible refine (reflate_sep _ (Sep.front [Row (Kd.int .i64) 3 (.slice Ad ml.length cd) (ml), Row (Kd.int .i64) 3 (.slice Aa sl.length ca) (sl)] [FA 103 76 gf R2] S_wr_10.out) HG2.out ll Hll.out).mono ?_); rintro e wr_11 ⟨Ah, ch, rfl, hck, hCk, hb⟩; have Hh := Aside0.mk hck; have HCh := Aside0.mk hCk; clear hck hCk; have B_wr_11 : Aside0 (Below (w.heap.size) w wr_11) := ⟨below_then B_wr_10.out B_wr_10.out.size hb⟩; have S_wr_11 : Aside0 (Sep (w.heap.size) (Stars [Row (Kd.int .i64) 3 (.slice Ad ml.length cd) (ml), Row (Kd.int .i64) 3 (.slice Aa sl.length ca) (sl), FA 105 50 gk R2, FA 103 76 gf R2]) wr_11) := ⟨Sep.below S_wr_10.out hb⟩; have R_b_wr_11 : Aside0 (Kd.C (Kd.int .i64) wr_11 Ab (sl.length) (sl)) := ⟨Kd.C_below R_b_wr_10.out hb⟩; have R_e_wr_11 : Aside0 (Kd.C (Kd.int .i64) wr_11 Ae (ml.length) (ml)) := ⟨Kd.C_below R_e_wr_10.out hb⟩; have R_f_wr_11 : Aside0 (Kd.C (Kd.int .i64) wr_11 Af (ll.length) (ll)) := ⟨Kd.C_below R_f_wr_10.out hb⟩; clear S_wr_10 R_b_wr_10 R_e_wr_10 R_f_wr_10; clear hb; have R_h_wr_11 : Aside0 (Kd.C (Kd.int .i64) wr_11 Ah (ll.length) (ll)) := ⟨HCh.out⟩; clear HCh) | (go_at_call 32; (with_reducible refine (duetref01_Same.at (ll.length + 1) Af cf (ll.length) (ll) Ah ch (ll.length) (ll) true _ R_f_wr_11.out Hf.out R_h_wr_11.out Hh.out Sll.out).mono ?_); rintro e wr_12 ⟨rfl, hb0⟩; have hb := Aside0.mk hb0; clear hb0; have B_wr_12 : Aside0 (Below (w.heap.size) w wr_12) := ⟨below_then B_wr_11.out B_wr_11.out.size hb.out.below⟩; have S_wr_12 : Aside0 (Sep (w.heap.size) (Stars [Row (Kd.int .i64) 3 (.slice Ad ml.length cd) (ml), Row (Kd.int .i64) 3 (.slice Aa sl.length ca) (sl), FA 105 50 gk R2, FA 103 76 gf R2]) wr_12) := ⟨Sep.below S_wr_11.out hb.out.below⟩; have R_b_wr_12 : Aside0 (Kd.C (Kd.int .i64) wr_12 Ab (sl.length) (sl)) := ⟨Kd.C_below R_b_wr_11.out hb.out.below⟩; have R_e_wr_12 : Aside0 (Kd.C (Kd.int .i64) wr_12 Ae (ml.length) (ml)) := ⟨Kd.C_below R_e_wr_11.out hb.out.below⟩; have R_f_wr_12 : Aside0 (Kd.C (Kd.int .i64) wr_12 Af (ll.length) (ll)) := ⟨Kd.C_below R_f_wr_11.out hb.out.below⟩; have R_h_wr_12 : Aside0 (Kd.C (Kd.int .i64) wr_12 Ah (ll.length) (ll)) := ⟨Kd.C_below R_h_wr_11.out hb.out.below⟩; clear S_wr_11 R_b_wr_11 R_e_wr_11 R_f_wr_11 R_h_wr_11; clear hb) | (go_at_call 46; (with_reducible refine (row_sep _ (Sep.front [Row (Kd.int .i64) 3 (.slice Ad ml.length cd) (ml), Row (Kd.int .i64) 3 (.slice Aa sl.length ca) (sl), FA 105 50 gk R2] [] S_wr_12.out) HG2.out site rl Hrl.out).mono ?_); rintro e wr_13 ⟨vj, rfl, hr, hb⟩; obtain ⟨Aj, cj, hv, -, -⟩ := Kd.R_reads hr; replace hv : vj = .slice Aj rl.length cj := hv; subst hv; have B_wr_13 : Aside0 (Below (w.heap.size) w wr_13) := ⟨below_then B_wr_12.out B_wr_12.out.size hb⟩; have S_wr_13 : Aside0 (Sep (w.heap.size) (Stars [Row (Kd.int .i64) 3 (.slice Aj rl.length cj) (rl), Row (Kd.int .i64) 3 (.slice Ad ml.length cd) (ml), Row (Kd.int .i64) 3 (.slice Aa sl.length ca) (sl), FA 105 50 gk R2, FA 103 76 gf R2]) wr_13) := ⟨Sep.new_row S_wr_12.out B_wr_12.out.size hb hr⟩; have R_b_wr_13 : Aside0 (Kd.C (Kd.int .i64) wr_13 Ab (sl.length) (sl)) := ⟨Kd.C_below R_b_wr_12.out hb⟩; have R_e_wr_13 : Aside0 (Kd.C (Kd.int .i64) wr_13 Ae (ml.length) (ml)) := ⟨Kd.C_below R_e_wr_12.out hb⟩; have R_f_wr_13 : Aside0 (Kd.C (Kd.int .i64) wr_13 Af (ll.length) (ll)) := ⟨Kd.C_below R_f_wr_12.out hb⟩; have R_h_wr_13 : Aside0 (Kd.C (Kd.int .i64) wr_13 Ah (ll.length) (ll)) := ⟨Kd.C_below R_h_wr_12.out hb⟩; clear S_wr_12 R_b_wr_12 R_e_wr_12 R_f_wr_12 R_h_wr_12; clear hb; clear hr) | (go_at_call 47; (with_reducible refine (refrow_sep _ (Sep.front [Row (Kd.int .i64) 3 (.slice Aj rl.length cj) (rl), Row (Kd.int .i64) 3 (.slice Ad ml.length cd) (ml), Row (Kd.int .i64) 3 (.slice Aa sl.length ca) (sl)] [FA 103 76 gf R2] S_wr_13.out) HG2.out site rl Hrl.out).mono ?_); rintro e w' ⟨Ap, cp, rfl, hck, hCk, rfl⟩; have Hp := Aside0.mk hck; have R_p_wr_13 : Aside0 (Kd.C (Kd.int .i64) wr_13 Ap rl.length rl) := ⟨hCk⟩; clear hck hCk) | (go_at_call 32; (with_reducible refine (duetref01_Same.at (rl.length + 1) Aj cj (rl.length) (rl) Ap cp (rl.length) (rl) true _ (Sep.row_at (Sep.front [] [Row (Kd.int .i64) 3 (.slice Ad ml.length cd) (ml), Row (Kd.int .i64) 3 (.slice Aa sl.length ca) (sl), FA 105 50 gk R2, FA 103 76 gf R2] S_wr_13.out)).1 (Sep.row_at (Sep.front [] [Row (Kd.int .i64) 3 (.slice Ad ml.length cd) (ml), Row (Kd.int .i64) 3 (.slice Aa sl.length ca) (sl), FA 105 50 gk R2, FA 103 76 gf R2] S_wr_13.out)).2 R_p_wr_13.out Hp.out Srl.out).mono ?_); rintro e wr_14 ⟨rfl, hb0⟩; have hb := Aside0.mk hb0; clear hb0; have B_wr_14 : Aside0 (Below (w.heap.size) w wr_14) := ⟨below_then B_wr_13.out B_wr_13.out.size hb.out.below⟩; have S_wr_14 : Aside0 (Sep (w.heap.size) (Stars [Row (Kd.int .i64) 3 (.slice Aj rl.length cj) (rl), Row (Kd.int .i64) 3 (.slice Ad ml.length cd) (ml), Row (Kd.int .i64) 3 (.slice Aa sl.length ca) (sl), FA 105 50 gk R2, FA 103 76 gf R2]) wr_14) := ⟨Sep.below S_wr_13.out hb.out.below⟩; have R_b_wr_14 : Aside0 (Kd.C (Kd.int .i64) wr_14 Ab (sl.length) (sl)) := ⟨Kd.C_below R_b_wr_13.out hb.out.below⟩; have R_e_wr_14 : Aside0 (Kd.C (Kd.int .i64) wr_14 Ae (ml.length) (ml)) := ⟨Kd.C_below R_e_wr_13.out hb.out.below⟩; have R_f_wr_14 : Aside0 (Kd.C (Kd.int .i64) wr_14 Af (ll.length) (ll)) := ⟨Kd.C_below R_f_wr_13.out hb.out.below⟩; have R_h_wr_14 : Aside0 (Kd.C (Kd.int .i64) wr_14 Ah (ll.length) (ll)) := ⟨Kd.C_below R_h_wr_13.out hb.out.below⟩; have R_p_wr_14 : Aside0 (Kd.C (Kd.int .i64) wr_14 Ap rl.length rl) := ⟨Kd.C_below R_p_wr_13.out hb.out.below⟩; clear S_wr_13 R_b_wr_13 R_e_wr_13 R_f_wr_13 R_h_wr_13 R_p_wr_13; clear hb))
        go_roundw
        case rel => exact ⟨k + 1, R2, by omega, by go_num, HG2, ⟨(Sep.right (Sep.right (Sep.right S_wr_14.out)))⟩, B_wr_14⟩
        case measure => simp [intOf]; omega
      · have h60b : ¬ (k : Int) < 60 := by omega
        go_wp2_with (first | (go_at_call 37; (with_reducible refine (live9 _).mono ?_); rintro e2 w_l ⟨rfl, hb⟩; have HBl := Aside0.mk hb; clear hb))
        go_ret
        exact ⟨rfl, below_then B_wr.out B_wr.out.size HBl.out⟩
    · have hlt2 : ¬ (k : Int) < (l0.length : Int) := by omega
      go_wp2_with (first | (go_at_call 37; (with_reducible refine (live9 _).mono ?_); rintro e2 w_l ⟨rfl, hb⟩; have HBl := Aside0.mk hb; clear hb))
      go_ret
      exact ⟨rfl, below_then B_wr.out B_wr.out.size HBl.out⟩
end Go.Proofs.Ytiplkmmppihilaa.FrontA
