/- The law PastGrows, walked. Conditions: none beyond those that each theorem states. -/
import Derived.Test.YtiplkmmppihilaaPastH
namespace Go.Proofs.Ytiplkmmppihilaa.PastA
open Go.RowKit Go.Proofs.YtiplkmmppihilaaW.PrintWords Go.Proofs.YtiplkmmppihilaaW.PrintLast Go.Proofs.YtiplkmmppihilaaW.PrintMore Go.Proofs.Ytiplkmmppihilaa.XS Go.Proofs.Ytiplkmmppihilaa.PPast
set_option linter.unusedVariables false
set_option linter.unusedSimpArgs false
set_option maxHeartbeats 8000000 in
set_option maxRecDepth 100000 in
theorem pastGrows (A0 : Option Addr) (c0 : Nat) (l0 : List (Int × ByteArray)) (cut : Int) (w : World) (hr0 : Kd.C KLine w A0 l0.length l0) (hc0 : l0.length ≤ c0) (hn : l0.length ≤ 9223372036854775807) :
    Calls Try.prog 7 #[.slice A0 l0.length c0, .int .i64 cut] w fun en w' => en = .returned (.bool true) ∧ Below w.heap.size w w' := by
  have HR := Aside0.mk hr0
  clear hr0
  have B_w := Aside0.mk (Below.refl w.heap.size w)
  have S_w : Aside0 (Sep w.heap.size (Stars []) w) := ⟨Sep.emp _ _⟩
  go_enter Try.func7, Try.ntmps7
  go_wp2_with (first | (go_at_call 15; (with_reducible refine (log_new _).mono ?_); rintro e w_1 ⟨ga, rfl, hN, hb⟩; have B_w_1 : Aside0 (Below (w.heap.size) w w_1) := ⟨below_then B_w.out B_w.out.size hb⟩; have S_w_1 : Aside0 (Sep (w.heap.size) (Stars [LogA 87 ga []]) w_1) := ⟨Sep.more S_w.out hN hb B_w.out.size⟩; have Q_w_1 : Aside0 (Below w.heap.size w w_1) := ⟨hb⟩; clear S_w; clear hb; have tk1 := Aside0.mk True.intro) | (have tk := tk1; clear tk; go_at_call 15; (with_reducible refine (log_new _).mono ?_); rintro e w_2 ⟨gb, rfl, hN, hb⟩; have B_w_2 : Aside0 (Below (w.heap.size) w w_2) := ⟨below_then B_w_1.out B_w_1.out.size hb⟩; have S_w_2 : Aside0 (Sep (w.heap.size) (Stars [LogA 87 gb [], LogA 87 ga []]) w_2) := ⟨Sep.more S_w_1.out hN hb B_w_1.out.size⟩; have Q_w_2 : Aside0 (Below w.heap.size w w_2) := ⟨below_step Q_w_1.out hb⟩; clear S_w_1; clear hb))
  clear tk1
  go_loopw [7] (fun i wr => ∃ (k : Nat) (la lb : List ByteArray), k ≤ l0.length ∧ i = .int .i64 k ∧ Aside0 (((k : Int) ≤ cut → la = lb) ∧ Pre lb la = true) ∧ Aside0 (Sep w.heap.size (Stars [LogA 87 gb lb, LogA 87 ga la]) wr) ∧ Aside0 (Below w.heap.size w wr)) (fun i _ => l0.length - (intOf i).toNat)
  case atStart => exact ⟨0, [], [], by omega, rfl, ⟨fun _ => rfl, rfl⟩, S_w_2, B_w_2⟩
  case round =>
    clear S_w_2
    obtain ⟨k, la, lb, hk, rfl, HP, S_wr, B_wr⟩ := hrel
    by_cases hlt : k < l0.length
    · have hlt2 : (k : Int) < (l0.length : Int) := by omega
      by_cases h60 : k < 60
      · have h60b : (k : Int) < 60 := by omega
        obtain ⟨ad, ep, t, rfl, x0, x1⟩ := at_line HR.out k hlt
        have x0_wr := pw_cell_below B_wr.out x0
        have x1_wr := pw_cell_below B_wr.out x1
        by_cases ht : 300 < t.size
        · have ht2 : (300 : Int) < t.size := by omega
          go_wp2_with (go_at_call 16; (with_reducible refine (live _).mono ?_); rintro e2 w_l ⟨rfl, hb⟩; have HBl := Aside0.mk hb; clear hb)
          go_ret
          exact ⟨rfl, below_then B_wr.out B_wr.out.size HBl.out⟩
        have ht2 : t.size ≤ 300 := by omega
        clear ht
        obtain ⟨r, hr⟩ : ∃ r, addE la ep t = r := ⟨_, rfl⟩
        obtain ⟨l2, hl2⟩ : ∃ l2, addL la ep t = l2 := ⟨_, rfl⟩
        have HE := Aside0.mk hr
        have HL2 := Aside0.mk hl2
        clear hr hl2
        have HPA : Aside0 (Pre la l2 = true) := ⟨by rw [← HL2.out]; exact Pre_add _ _ _⟩
        have LA : Aside0 (la.length ≤ 100000) := ⟨by have := LogA.le (Sep.front [LogA 87 gb lb] [] S_wr.out); omega⟩
        go_upto_region 11 with (first | (go_at_call 22; (with_reducible refine (log_all_own _ (Sep.front [LogA 87 gb lb] [] S_wr.out)).mono ?_); rintro e wr_1 ⟨va, rfl, hr, hb⟩; have B_wr_1 : Aside0 (Below (w.heap.size) w wr_1) := ⟨below_then B_wr.out B_wr.out.size hb⟩; have S_wr_1 : Aside0 (Sep (w.heap.size) (Stars [Row Kd.string 9 (va) (la), LogA 87 gb lb, LogA 87 ga la]) wr_1) := ⟨Sep.new_row S_wr.out B_wr.out.size hb hr⟩; have x0_wr_1 := pw_cell_below B_wr_1.out x0; have x1_wr_1 := pw_cell_below B_wr_1.out x1; clear S_wr x0_wr x1_wr; obtain ⟨Aa, ca, hv, -, -⟩ := Sep.row (Sep.front [] [LogA 87 gb lb, LogA 87 ga la] S_wr_1.out); subst hv; clear hb hr))
        refine start_ (n := 12) (S := fun w' => w'.cell? (ad.add (k * 2)) = some (.int .i64 ep) ∧ w'.cell? ⟨(ad.add (k * 2)).block, (ad.add (k * 2)).off + 1, none⟩ = some (.string t)) (ds := []) #[false, false, false, false, false, false, false, false, false, false, false, false] (by kernel_rfl) rfl rfl ⟨x0_wr_1, x1_wr_1⟩ (fun hHeld => ?_)
        generalize hdw : wr_1.drew = wr_2 at hHeld ⊢
        have HB_wr_2 : Aside0 (Below wr_1.heap.size wr_1 wr_2) := ⟨by rw [← hdw]; exact below_drew1 (Below.refl _ _)⟩
        clear hdw
        have B_wr_2 : Aside0 (Below (w.heap.size) w wr_2) := ⟨below_then B_wr_1.out B_wr_1.out.size HB_wr_2.out⟩
        have S_wr_2 : Aside0 (Sep (w.heap.size) (Stars [Row Kd.string 9 (.slice Aa la.length ca) (la), LogA 87 gb lb, LogA 87 ga la]) wr_2) := ⟨Sep.below S_wr_1.out HB_wr_2.out⟩
        have x0_wr_2 := pw_cell_below B_wr_2.out x0
        have x1_wr_2 := pw_cell_below B_wr_2.out x1
        clear S_wr_1 x0_wr_1 x1_wr_1
        refine pure_ (i := 0) (N := some 37) (v := ?_) (a' := ?_) #[true, false, false, false, false, false, false, false, false, false, false, false] rfl rfl (by kernel_rfl) (fun _ _ _ h => h) (Or.inl ⟨by rfl, ?_⟩) ?_ ?_
        rotate_left
        · intro w'
          go_simp
          with_reducible rfl
        rotate_left
        · simp only [Act.put, List.setIfInBounds_toArray, List.set_cons_zero, List.set_cons_succ, i64_w, i32_w]
          rfl
        refine pure_ (i := 1) (N := some 38) (v := ?_) (a' := ?_) #[true, true, false, false, false, false, false, false, false, false, false, false] rfl rfl (by kernel_rfl) (fun _ _ _ h => h) (Or.inl ⟨by rfl, ?_⟩) ?_ ?_
        rotate_left
        · intro w'
          go_simp
          with_reducible rfl
        rotate_left
        · simp only [Act.put, List.setIfInBounds_toArray, List.set_cons_zero, List.set_cons_succ, i64_w, i32_w]
          rfl
        refine pure_ (i := 2) (N := some 39) (v := ?_) (a' := ?_) #[true, true, true, false, false, false, false, false, false, false, false, false] rfl rfl (by kernel_rfl) (fun _ _ _ h => h) (Or.inl ⟨by rfl, ?_⟩) ?_ ?_
        rotate_left
        · intro w'
          go_simp
          with_reducible rfl
        rotate_left
        · simp only [Act.put, List.setIfInBounds_toArray, List.set_cons_zero, List.set_cons_succ, i64_w, i32_w]
          rfl
        refine pure_ (i := 3) (N := some 40) (v := ?_) (a' := ?_) #[true, true, true, true, false, false, false, false, false, false, false, false] rfl rfl (by kernel_rfl) (fun _ _ _ h => h) (Or.inl ⟨by rfl, ?_⟩) ?_ ?_
        rotate_left
        · intro w'
          go_simp
          with_reducible rfl
        rotate_left
        · simp only [Act.put, List.setIfInBounds_toArray, List.set_cons_zero, List.set_cons_succ, i64_w, i32_w]
          rfl
        refine pure_ (i := 4) (N := some 41) (v := ?_) (a' := ?_) #[true, true, true, true, true, false, false, false, false, false, false, false] rfl rfl (by kernel_rfl) (fun _ _ _ h => h) (Or.inl ⟨by rfl, ?_⟩) ?_ ?_
        rotate_left
        · intro w'
          go_simp
          with_reducible rfl
        rotate_left
        · simp only [Act.put, List.setIfInBounds_toArray, List.set_cons_zero, List.set_cons_succ, i64_w, i32_w]
          rfl
        refine pure_ (i := 6) (N := some 43) (v := ?_) (a' := ?_) #[true, true, true, true, true, false, true, false, false, false, false, false] rfl rfl (by kernel_rfl) (fun _ _ _ h => h) (Or.inl ⟨by rfl, ?_⟩) ?_ ?_
        rotate_left
        · intro w'
          go_simp
          with_reducible rfl
        rotate_left
        · simp only [Act.put, List.setIfInBounds_toArray, List.set_cons_zero, List.set_cons_succ, i64_w, i32_w]
          rfl
        refine pure_ (i := 7) (N := some 44) (v := ?_) (a' := ?_) #[true, true, true, true, true, false, true, true, false, false, false, false] rfl rfl (by kernel_rfl) (fun _ _ _ h => h) (Or.inl ⟨by rfl, ?_⟩) ?_ ?_
        rotate_left
        · intro w'
          go_simp
          with_reducible rfl
        rotate_left
        · simp only [Act.put, List.setIfInBounds_toArray, List.set_cons_zero, List.set_cons_succ, i64_w, i32_w]
          rfl
        refine pure_ (i := 8) (N := some 45) (v := ?_) (a' := ?_) #[true, true, true, true, true, false, true, true, true, false, false, false] rfl rfl (by kernel_rfl) (fun _ _ _ h => h) (Or.inl ⟨by rfl, ?_⟩) ?_ ?_
        rotate_left
        · intro w'
          go_simp
          with_reducible rfl
        rotate_left
        · simp only [Act.put, List.setIfInBounds_toArray, List.set_cons_zero, List.set_cons_succ, i64_w, i32_w]
          rfl
        refine pure_ (i := 9) (N := some 46) (v := ?_) (a' := ?_) #[true, true, true, true, true, false, true, true, true, true, false, false] rfl rfl (by kernel_rfl) (fun _ _ _ h => h) (Or.inl ⟨by rfl, ?_⟩) ?_ ?_
        rotate_left
        · intro w'
          go_simp
          with_reducible rfl
        rotate_left
        · simp only [Act.put, List.setIfInBounds_toArray, List.set_cons_zero, List.set_cons_succ, i64_w, i32_w]
          rfl
        refine take_ (i := 5) (N := some 42) (v := ?_) (a' := ?_) #[true, true, true, true, true, true, true, true, true, true, false, false] rfl rfl (by kernel_rfl) (fun _ _ _ h => h) (Or.inl ⟨by rfl, ?_⟩) hHeld ?_ ?_
        rotate_left
        · rintro w' ⟨s0, s1⟩
          go_simp
          with_reducible rfl
        rotate_left
        · simp only [Act.put, List.setIfInBounds_toArray, List.set_cons_zero, List.set_cons_succ, i64_w, i32_w]
          rfl
        refine take_ (i := 10) (N := some 47) (v := ?_) (a' := ?_) #[true, true, true, true, true, true, true, true, true, true, true, false] rfl rfl (by kernel_rfl) (fun _ _ _ h => h) (Or.inl ⟨by rfl, ?_⟩) hHeld ?_ ?_
        rotate_left
        · rintro w' ⟨s0, s1⟩
          go_simp
          with_reducible rfl
        rotate_left
        · simp only [Act.put, List.setIfInBounds_toArray, List.set_cons_zero, List.set_cons_succ, i64_w, i32_w]
          rfl
        refine one_ (i := 11) (N := some 48) #[true, true, true, true, true, true, true, true, true, true, true, true] rfl rfl (by kernel_rfl) (by decide) (fun K hK => ?_)
        refine goes_ Try.func17 (by kernel_rfl) rfl #[.pointer (some ⟨ga, 0, none⟩), .int .i64 ep, .string t] (by rfl) rfl rfl (by simp only [List.map_toArray, List.map_cons, List.map_nil]; rfl) ?_
        with_reducible refine (log_add _ ep t (Sep.front [Row Kd.string 9 (.slice Aa la.length ca) (la), LogA 87 gb lb] [] S_wr_2.out) B_wr_2.out.size r l2 HE.out HL2.out).mono ?_
        rintro e wr_3 ⟨rfl, hS, hb⟩
        refine ⟨_, rfl, ?_⟩
        have B_wr_3 : Aside0 (Below (w.heap.size) w wr_3) := ⟨(Below.trans B_wr_2.out hb)⟩
        have S_wr_3 : Aside0 (Sep (w.heap.size) (Stars [Row Kd.string 9 (.slice Aa la.length ca) (la), LogA 87 gb lb, LogA 87 ga l2]) wr_3) := ⟨Sep.back [Row Kd.string 9 (.slice Aa la.length ca) (la), LogA 87 gb lb] [] hS⟩
        have x0_wr_3 := pw_cell_below B_wr_3.out x0
        have x1_wr_3 := pw_cell_below B_wr_3.out x1
        clear S_wr_2 x0_wr_2 x1_wr_2
        clear hS hb
        refine hK.out _ _ ⟨x0_wr_3, x1_wr_3⟩ (fun hHeld => ?_)
        clear hK K
        refine norm_ (a' := ?_) ?_ ?_
        rotate_left
        · show Act.put _ (some 48) _ = _
          simp only [Act.put, List.setIfInBounds_toArray, List.set_cons_zero, List.set_cons_succ, i64_w, i32_w]
          rfl
        refine done_ (by kernel_rfl) ?_
        have LA2 : Aside0 (l2.length ≤ 100000) := ⟨by have := LogA.le (Sep.front [Row Kd.string 9 (.slice Aa la.length ca) (la), LogA 87 gb lb] [] S_wr_3.out); omega⟩
        by_cases hcut : (k : Int) < cut
        · have hcut2 : decide ((k : Int) < cut) = true := decide_eq_true hcut
          have HEQ : Aside0 (la = lb) := ⟨HP.out.1 (by omega)⟩
          go_upto_region 15 with (first | (go_at_call 22; (with_reducible refine (log_all_own _ (Sep.front [Row Kd.string 9 (.slice Aa la.length ca) (la), LogA 87 gb lb] [] S_wr_3.out)).mono ?_); rintro e wr_4 ⟨vc, rfl, hr, hb⟩; have B_wr_4 : Aside0 (Below (w.heap.size) w wr_4) := ⟨below_then B_wr_3.out B_wr_3.out.size hb⟩; have S_wr_4 : Aside0 (Sep (w.heap.size) (Stars [Row Kd.string 9 (vc) (l2), Row Kd.string 9 (.slice Aa la.length ca) (la), LogA 87 gb lb, LogA 87 ga l2]) wr_4) := ⟨Sep.new_row S_wr_3.out B_wr_3.out.size hb hr⟩; have x0_wr_4 := pw_cell_below B_wr_4.out x0; have x1_wr_4 := pw_cell_below B_wr_4.out x1; clear S_wr_3 x0_wr_3 x1_wr_3; obtain ⟨Ac, cc, hv, -, -⟩ := Sep.row (Sep.front [] [Row Kd.string 9 (.slice Aa la.length ca) (la), LogA 87 gb lb, LogA 87 ga l2] S_wr_4.out); subst hv; clear hb hr) | (go_at_call 23; (with_reducible refine (prefix_at Aa ca la.length la Ac cc l2.length l2 _ (Sep.row_cut (Sep.front [Row Kd.string 9 (.slice Ac l2.length cc) (l2)] [LogA 87 gb lb, LogA 87 ga l2] S_wr_4.out)).2.2 (Sep.row_cut (Sep.front [Row Kd.string 9 (.slice Ac l2.length cc) (l2)] [LogA 87 gb lb, LogA 87 ga l2] S_wr_4.out)).2.1 (Sep.row_cut (Sep.front [] [Row Kd.string 9 (.slice Aa la.length ca) (la), LogA 87 gb lb, LogA 87 ga l2] S_wr_4.out)).2.2 (Sep.row_cut (Sep.front [] [Row Kd.string 9 (.slice Aa la.length ca) (la), LogA 87 gb lb, LogA 87 ga l2] S_wr_4.out)).2.1 LA.out LA2.out true HPA.out).mono ?_); rintro e wr_5 ⟨rfl, hb0⟩; have hb := Aside0.mk hb0; clear hb0; have B_wr_5 : Aside0 (Below (w.heap.size) w wr_5) := ⟨below_then B_wr_4.out B_wr_4.out.size hb.out.below⟩; have S_wr_5 : Aside0 (Sep (w.heap.size) (Stars [Row Kd.string 9 (.slice Ac l2.length cc) (l2), Row Kd.string 9 (.slice Aa la.length ca) (la), LogA 87 gb lb, LogA 87 ga l2]) wr_5) := ⟨Sep.below S_wr_4.out hb.out.below⟩; have x0_wr_5 := pw_cell_below B_wr_5.out x0; have x1_wr_5 := pw_cell_below B_wr_5.out x1; clear S_wr_4 x0_wr_4 x1_wr_4; clear hb))
          refine start_ (n := 12) (S := fun w' => w'.cell? (ad.add (k * 2)) = some (.int .i64 ep) ∧ w'.cell? ⟨(ad.add (k * 2)).block, (ad.add (k * 2)).off + 1, none⟩ = some (.string t)) (ds := []) #[false, false, false, false, false, false, false, false, false, false, false, false] (by kernel_rfl) rfl rfl ⟨x0_wr_5, x1_wr_5⟩ (fun hHeld => ?_)
          generalize hdw : wr_5.drew = wr_6 at hHeld ⊢
          have HB_wr_6 : Aside0 (Below wr_5.heap.size wr_5 wr_6) := ⟨by rw [← hdw]; exact below_drew1 (Below.refl _ _)⟩
          clear hdw
          have B_wr_6 : Aside0 (Below (w.heap.size) w wr_6) := ⟨below_then B_wr_5.out B_wr_5.out.size HB_wr_6.out⟩
          have S_wr_6 : Aside0 (Sep (w.heap.size) (Stars [Row Kd.string 9 (.slice Ac l2.length cc) (l2), Row Kd.string 9 (.slice Aa la.length ca) (la), LogA 87 gb lb, LogA 87 ga l2]) wr_6) := ⟨Sep.below S_wr_5.out HB_wr_6.out⟩
          have x0_wr_6 := pw_cell_below B_wr_6.out x0
          have x1_wr_6 := pw_cell_below B_wr_6.out x1
          clear S_wr_5 x0_wr_5 x1_wr_5
          refine pure_ (i := 0) (N := some 57) (v := ?_) (a' := ?_) #[true, false, false, false, false, false, false, false, false, false, false, false] rfl rfl (by kernel_rfl) (fun _ _ _ h => h) (Or.inl ⟨by rfl, ?_⟩) ?_ ?_
          rotate_left
          · intro w'
            go_simp
            with_reducible rfl
          rotate_left
          · simp only [Act.put, List.setIfInBounds_toArray, List.set_cons_zero, List.set_cons_succ, i64_w, i32_w]
            rfl
          refine pure_ (i := 1) (N := some 58) (v := ?_) (a' := ?_) #[true, true, false, false, false, false, false, false, false, false, false, false] rfl rfl (by kernel_rfl) (fun _ _ _ h => h) (Or.inl ⟨by rfl, ?_⟩) ?_ ?_
          rotate_left
          · intro w'
            go_simp
            with_reducible rfl
          rotate_left
          · simp only [Act.put, List.setIfInBounds_toArray, List.set_cons_zero, List.set_cons_succ, i64_w, i32_w]
            rfl
          refine pure_ (i := 2) (N := some 59) (v := ?_) (a' := ?_) #[true, true, true, false, false, false, false, false, false, false, false, false] rfl rfl (by kernel_rfl) (fun _ _ _ h => h) (Or.inl ⟨by rfl, ?_⟩) ?_ ?_
          rotate_left
          · intro w'
            go_simp
            with_reducible rfl
          rotate_left
          · simp only [Act.put, List.setIfInBounds_toArray, List.set_cons_zero, List.set_cons_succ, i64_w, i32_w]
            rfl
          refine pure_ (i := 3) (N := some 60) (v := ?_) (a' := ?_) #[true, true, true, true, false, false, false, false, false, false, false, false] rfl rfl (by kernel_rfl) (fun _ _ _ h => h) (Or.inl ⟨by rfl, ?_⟩) ?_ ?_
          rotate_left
          · intro w'
            go_simp
            with_reducible rfl
          rotate_left
          · simp only [Act.put, List.setIfInBounds_toArray, List.set_cons_zero, List.set_cons_succ, i64_w, i32_w]
            rfl
          refine pure_ (i := 4) (N := some 61) (v := ?_) (a' := ?_) #[true, true, true, true, true, false, false, false, false, false, false, false] rfl rfl (by kernel_rfl) (fun _ _ _ h => h) (Or.inl ⟨by rfl, ?_⟩) ?_ ?_
          rotate_left
          · intro w'
            go_simp
            with_reducible rfl
          rotate_left
          · simp only [Act.put, List.setIfInBounds_toArray, List.set_cons_zero, List.set_cons_succ, i64_w, i32_w]
            rfl
          refine pure_ (i := 6) (N := some 63) (v := ?_) (a' := ?_) #[true, true, true, true, true, false, true, false, false, false, false, false] rfl rfl (by kernel_rfl) (fun _ _ _ h => h) (Or.inl ⟨by rfl, ?_⟩) ?_ ?_
          rotate_left
          · intro w'
            go_simp
            with_reducible rfl
          rotate_left
          · simp only [Act.put, List.setIfInBounds_toArray, List.set_cons_zero, List.set_cons_succ, i64_w, i32_w]
            rfl
          refine pure_ (i := 7) (N := some 64) (v := ?_) (a' := ?_) #[true, true, true, true, true, false, true, true, false, false, false, false] rfl rfl (by kernel_rfl) (fun _ _ _ h => h) (Or.inl ⟨by rfl, ?_⟩) ?_ ?_
          rotate_left
          · intro w'
            go_simp
            with_reducible rfl
          rotate_left
          · simp only [Act.put, List.setIfInBounds_toArray, List.set_cons_zero, List.set_cons_succ, i64_w, i32_w]
            rfl
          refine pure_ (i := 8) (N := some 65) (v := ?_) (a' := ?_) #[true, true, true, true, true, false, true, true, true, false, false, false] rfl rfl (by kernel_rfl) (fun _ _ _ h => h) (Or.inl ⟨by rfl, ?_⟩) ?_ ?_
          rotate_left
          · intro w'
            go_simp
            with_reducible rfl
          rotate_left
          · simp only [Act.put, List.setIfInBounds_toArray, List.set_cons_zero, List.set_cons_succ, i64_w, i32_w]
            rfl
          refine pure_ (i := 9) (N := some 66) (v := ?_) (a' := ?_) #[true, true, true, true, true, false, true, true, true, true, false, false] rfl rfl (by kernel_rfl) (fun _ _ _ h => h) (Or.inl ⟨by rfl, ?_⟩) ?_ ?_
          rotate_left
          · intro w'
            go_simp
            with_reducible rfl
          rotate_left
          · simp only [Act.put, List.setIfInBounds_toArray, List.set_cons_zero, List.set_cons_succ, i64_w, i32_w]
            rfl
          refine take_ (i := 5) (N := some 62) (v := ?_) (a' := ?_) #[true, true, true, true, true, true, true, true, true, true, false, false] rfl rfl (by kernel_rfl) (fun _ _ _ h => h) (Or.inl ⟨by rfl, ?_⟩) hHeld ?_ ?_
          rotate_left
          · rintro w' ⟨s0, s1⟩
            go_simp
            with_reducible rfl
          rotate_left
          · simp only [Act.put, List.setIfInBounds_toArray, List.set_cons_zero, List.set_cons_succ, i64_w, i32_w]
            rfl
          refine take_ (i := 10) (N := some 67) (v := ?_) (a' := ?_) #[true, true, true, true, true, true, true, true, true, true, true, false] rfl rfl (by kernel_rfl) (fun _ _ _ h => h) (Or.inl ⟨by rfl, ?_⟩) hHeld ?_ ?_
          rotate_left
          · rintro w' ⟨s0, s1⟩
            go_simp
            with_reducible rfl
          rotate_left
          · simp only [Act.put, List.setIfInBounds_toArray, List.set_cons_zero, List.set_cons_succ, i64_w, i32_w]
            rfl
          refine one_ (i := 11) (N := some 68) #[true, true, true, true, true, true, true, true, true, true, true, true] rfl rfl (by kernel_rfl) (by decide) (fun K hK => ?_)
          refine goes_ Try.func17 (by kernel_rfl) rfl #[.pointer (some ⟨gb, 0, none⟩), .int .i64 ep, .string t] (by rfl) rfl rfl (by simp only [List.map_toArray, List.map_cons, List.map_nil]; rfl) ?_
          with_reducible refine (log_add _ ep t (Sep.front [Row Kd.string 9 (.slice Ac l2.length cc) (l2), Row Kd.string 9 (.slice Aa la.length ca) (la)] [LogA 87 ga l2] S_wr_6.out) B_wr_6.out.size r l2 (by rw [← HEQ.out]; exact HE.out) (by rw [← HEQ.out]; exact HL2.out)).mono ?_
          rintro e wr_7 ⟨rfl, hS, hb⟩
          refine ⟨_, rfl, ?_⟩
          have B_wr_7 : Aside0 (Below (w.heap.size) w wr_7) := ⟨(Below.trans B_wr_6.out hb)⟩
          have S_wr_7 : Aside0 (Sep (w.heap.size) (Stars [Row Kd.string 9 (.slice Ac l2.length cc) (l2), Row Kd.string 9 (.slice Aa la.length ca) (la), LogA 87 gb l2, LogA 87 ga l2]) wr_7) := ⟨Sep.back [Row Kd.string 9 (.slice Ac l2.length cc) (l2), Row Kd.string 9 (.slice Aa la.length ca) (la)] [LogA 87 ga l2] hS⟩
          have x0_wr_7 := pw_cell_below B_wr_7.out x0
          have x1_wr_7 := pw_cell_below B_wr_7.out x1
          clear S_wr_6 x0_wr_6 x1_wr_6
          clear hS hb
          refine hK.out _ _ ⟨x0_wr_7, x1_wr_7⟩ (fun hHeld => ?_)
          clear hK K
          refine norm_ (a' := ?_) ?_ ?_
          rotate_left
          · show Act.put _ (some 68) _ = _
            simp only [Act.put, List.setIfInBounds_toArray, List.set_cons_zero, List.set_cons_succ, i64_w, i32_w]
            rfl
          refine done_ (by kernel_rfl) ?_
          go_wp2
          go_roundw
          case rel => exact ⟨k + 1, l2, l2, by omega, by go_num, ⟨fun _ => rfl, Pre_refl _⟩, ⟨Sep.right (Sep.right S_wr_7.out)⟩, B_wr_7⟩
          case measure => simp [intOf]; omega
        · have hcut2 : decide ((k : Int) < cut) = false := decide_eq_false hcut
          go_wp2_with (first | (go_at_call 22; (with_reducible refine (log_all_own _ (Sep.front [Row Kd.string 9 (.slice Aa la.length ca) (la), LogA 87 gb lb] [] S_wr_3.out)).mono ?_); rintro e wr_4 ⟨vc, rfl, hr, hb⟩; have B_wr_4 : Aside0 (Below (w.heap.size) w wr_4) := ⟨below_then B_wr_3.out B_wr_3.out.size hb⟩; have S_wr_4 : Aside0 (Sep (w.heap.size) (Stars [Row Kd.string 9 (vc) (l2), Row Kd.string 9 (.slice Aa la.length ca) (la), LogA 87 gb lb, LogA 87 ga l2]) wr_4) := ⟨Sep.new_row S_wr_3.out B_wr_3.out.size hb hr⟩; have x0_wr_4 := pw_cell_below B_wr_4.out x0; have x1_wr_4 := pw_cell_below B_wr_4.out x1; clear S_wr_3 x0_wr_3 x1_wr_3; obtain ⟨Ac, cc, hv, -, -⟩ := Sep.row (Sep.front [] [Row Kd.string 9 (.slice Aa la.length ca) (la), LogA 87 gb lb, LogA 87 ga l2] S_wr_4.out); subst hv; clear hb hr) | (go_at_call 23; (with_reducible refine (prefix_at Aa ca la.length la Ac cc l2.length l2 _ (Sep.row_cut (Sep.front [Row Kd.string 9 (.slice Ac l2.length cc) (l2)] [LogA 87 gb lb, LogA 87 ga l2] S_wr_4.out)).2.2 (Sep.row_cut (Sep.front [Row Kd.string 9 (.slice Ac l2.length cc) (l2)] [LogA 87 gb lb, LogA 87 ga l2] S_wr_4.out)).2.1 (Sep.row_cut (Sep.front [] [Row Kd.string 9 (.slice Aa la.length ca) (la), LogA 87 gb lb, LogA 87 ga l2] S_wr_4.out)).2.2 (Sep.row_cut (Sep.front [] [Row Kd.string 9 (.slice Aa la.length ca) (la), LogA 87 gb lb, LogA 87 ga l2] S_wr_4.out)).2.1 LA.out LA2.out true HPA.out).mono ?_); rintro e wr_5 ⟨rfl, hb0⟩; have hb := Aside0.mk hb0; clear hb0; have B_wr_5 : Aside0 (Below (w.heap.size) w wr_5) := ⟨below_then B_wr_4.out B_wr_4.out.size hb.out.below⟩; have S_wr_5 : Aside0 (Sep (w.heap.size) (Stars [Row Kd.string 9 (.slice Ac l2.length cc) (l2), Row Kd.string 9 (.slice Aa la.length ca) (la), LogA 87 gb lb, LogA 87 ga l2]) wr_5) := ⟨Sep.below S_wr_4.out hb.out.below⟩; have x0_wr_5 := pw_cell_below B_wr_5.out x0; have x1_wr_5 := pw_cell_below B_wr_5.out x1; clear S_wr_4 x0_wr_4 x1_wr_4; clear hb))
          go_roundw
          case rel => exact ⟨k + 1, l2, lb, by omega, by go_num, ⟨fun h => by omega, Pre_trans HP.out.2 HPA.out⟩, ⟨Sep.right (Sep.right S_wr_5.out)⟩, B_wr_5⟩
          case measure => simp [intOf]; omega
      · have h60b : ¬ (k : Int) < 60 := by omega
        have LB : Aside0 (lb.length ≤ 100000) := ⟨by have := LogA.le (Sep.front [] [LogA 87 ga la] S_wr.out); omega⟩
        have LA : Aside0 (la.length ≤ 100000) := ⟨by have := LogA.le (Sep.front [LogA 87 gb lb] [] S_wr.out); omega⟩
        have tk2 := Aside0.mk True.intro
        go_wp2_with (first | (have tk := tk2; clear tk; go_at_call 22; (with_reducible refine (log_all_own _ (Sep.front [] [LogA 87 ga la] S_wr.out)).mono ?_); rintro e wr_1 ⟨vb, rfl, hr, hb⟩; have B_wr_1 : Aside0 (Below (w.heap.size) w wr_1) := ⟨below_then B_wr.out B_wr.out.size hb⟩; have S_wr_1 : Aside0 (Sep (w.heap.size) (Stars [Row Kd.string 9 (vb) (lb), LogA 87 gb lb, LogA 87 ga la]) wr_1) := ⟨Sep.new_row S_wr.out B_wr.out.size hb hr⟩; clear S_wr; obtain ⟨Ab, cb, hv, -, -⟩ := Sep.row (Sep.front [] [LogA 87 gb lb, LogA 87 ga la] S_wr_1.out); subst hv; clear hb hr; clear tk2; have tk3 := Aside0.mk True.intro) | (have tk := tk3; clear tk; go_at_call 22; (with_reducible refine (log_all_own _ (Sep.front [Row Kd.string 9 (.slice Ab lb.length cb) (lb), LogA 87 gb lb] [] S_wr_1.out)).mono ?_); rintro e wr_2 ⟨va, rfl, hr, hb⟩; have B_wr_2 : Aside0 (Below (w.heap.size) w wr_2) := ⟨below_then B_wr_1.out B_wr_1.out.size hb⟩; have S_wr_2 : Aside0 (Sep (w.heap.size) (Stars [Row Kd.string 9 (va) (la), Row Kd.string 9 (.slice Ab lb.length cb) (lb), LogA 87 gb lb, LogA 87 ga la]) wr_2) := ⟨Sep.new_row S_wr_1.out B_wr_1.out.size hb hr⟩; clear S_wr_1; obtain ⟨Aa, ca, hv, -, -⟩ := Sep.row (Sep.front [] [Row Kd.string 9 (.slice Ab lb.length cb) (lb), LogA 87 gb lb, LogA 87 ga la] S_wr_2.out); subst hv; clear hb hr) | (go_at_call 23; (with_reducible refine (prefix_at Ab cb lb.length lb Aa ca la.length la _ (Sep.row_cut (Sep.front [Row Kd.string 9 (.slice Aa la.length ca) (la)] [LogA 87 gb lb, LogA 87 ga la] S_wr_2.out)).2.2 (Sep.row_cut (Sep.front [Row Kd.string 9 (.slice Aa la.length ca) (la)] [LogA 87 gb lb, LogA 87 ga la] S_wr_2.out)).2.1 (Sep.row_cut (Sep.front [] [Row Kd.string 9 (.slice Ab lb.length cb) (lb), LogA 87 gb lb, LogA 87 ga la] S_wr_2.out)).2.2 (Sep.row_cut (Sep.front [] [Row Kd.string 9 (.slice Ab lb.length cb) (lb), LogA 87 gb lb, LogA 87 ga la] S_wr_2.out)).2.1 LB.out LA.out true HP.out.2).mono ?_); rintro e wr_3 ⟨rfl, hb0⟩; have hb := Aside0.mk hb0; clear hb0; have B_wr_3 : Aside0 (Below (w.heap.size) w wr_3) := ⟨below_then B_wr_2.out B_wr_2.out.size hb.out.below⟩; have S_wr_3 : Aside0 (Sep (w.heap.size) (Stars [Row Kd.string 9 (.slice Aa la.length ca) (la), Row Kd.string 9 (.slice Ab lb.length cb) (lb), LogA 87 gb lb, LogA 87 ga la]) wr_3) := ⟨Sep.below S_wr_2.out hb.out.below⟩; clear S_wr_2; clear hb) | (go_at_call 16; (with_reducible refine (live _).mono ?_); rintro e2 w_l ⟨rfl, hb⟩; have HBl := Aside0.mk hb; clear hb))
        go_ret
        exact ⟨rfl, below_then B_wr_3.out B_wr_3.out.size HBl.out⟩
    · have hlt2 : ¬ (k : Int) < (l0.length : Int) := by omega
      have LB : Aside0 (lb.length ≤ 100000) := ⟨by have := LogA.le (Sep.front [] [LogA 87 ga la] S_wr.out); omega⟩
      have LA : Aside0 (la.length ≤ 100000) := ⟨by have := LogA.le (Sep.front [LogA 87 gb lb] [] S_wr.out); omega⟩
      have tk2 := Aside0.mk True.intro
      go_wp2_with (first | (have tk := tk2; clear tk; go_at_call 22; (with_reducible refine (log_all_own _ (Sep.front [] [LogA 87 ga la] S_wr.out)).mono ?_); rintro e wr_1 ⟨vb, rfl, hr, hb⟩; have B_wr_1 : Aside0 (Below (w.heap.size) w wr_1) := ⟨below_then B_wr.out B_wr.out.size hb⟩; have S_wr_1 : Aside0 (Sep (w.heap.size) (Stars [Row Kd.string 9 (vb) (lb), LogA 87 gb lb, LogA 87 ga la]) wr_1) := ⟨Sep.new_row S_wr.out B_wr.out.size hb hr⟩; clear S_wr; obtain ⟨Ab, cb, hv, -, -⟩ := Sep.row (Sep.front [] [LogA 87 gb lb, LogA 87 ga la] S_wr_1.out); subst hv; clear hb hr; clear tk2; have tk3 := Aside0.mk True.intro) | (have tk := tk3; clear tk; go_at_call 22; (with_reducible refine (log_all_own _ (Sep.front [Row Kd.string 9 (.slice Ab lb.length cb) (lb), LogA 87 gb lb] [] S_wr_1.out)).mono ?_); rintro e wr_2 ⟨va, rfl, hr, hb⟩; have B_wr_2 : Aside0 (Below (w.heap.size) w wr_2) := ⟨below_then B_wr_1.out B_wr_1.out.size hb⟩; have S_wr_2 : Aside0 (Sep (w.heap.size) (Stars [Row Kd.string 9 (va) (la), Row Kd.string 9 (.slice Ab lb.length cb) (lb), LogA 87 gb lb, LogA 87 ga la]) wr_2) := ⟨Sep.new_row S_wr_1.out B_wr_1.out.size hb hr⟩; clear S_wr_1; obtain ⟨Aa, ca, hv, -, -⟩ := Sep.row (Sep.front [] [Row Kd.string 9 (.slice Ab lb.length cb) (lb), LogA 87 gb lb, LogA 87 ga la] S_wr_2.out); subst hv; clear hb hr) | (go_at_call 23; (with_reducible refine (prefix_at Ab cb lb.length lb Aa ca la.length la _ (Sep.row_cut (Sep.front [Row Kd.string 9 (.slice Aa la.length ca) (la)] [LogA 87 gb lb, LogA 87 ga la] S_wr_2.out)).2.2 (Sep.row_cut (Sep.front [Row Kd.string 9 (.slice Aa la.length ca) (la)] [LogA 87 gb lb, LogA 87 ga la] S_wr_2.out)).2.1 (Sep.row_cut (Sep.front [] [Row Kd.string 9 (.slice Ab lb.length cb) (lb), LogA 87 gb lb, LogA 87 ga la] S_wr_2.out)).2.2 (Sep.row_cut (Sep.front [] [Row Kd.string 9 (.slice Ab lb.length cb) (lb), LogA 87 gb lb, LogA 87 ga la] S_wr_2.out)).2.1 LB.out LA.out true HP.out.2).mono ?_); rintro e wr_3 ⟨rfl, hb0⟩; have hb := Aside0.mk hb0; clear hb0; have B_wr_3 : Aside0 (Below (w.heap.size) w wr_3) := ⟨below_then B_wr_2.out B_wr_2.out.size hb.out.below⟩; have S_wr_3 : Aside0 (Sep (w.heap.size) (Stars [Row Kd.string 9 (.slice Aa la.length ca) (la), Row Kd.string 9 (.slice Ab lb.length cb) (lb), LogA 87 gb lb, LogA 87 ga la]) wr_3) := ⟨Sep.below S_wr_2.out hb.out.below⟩; clear S_wr_2; clear hb) | (go_at_call 16; (with_reducible refine (live _).mono ?_); rintro e2 w_l ⟨rfl, hb⟩; have HBl := Aside0.mk hb; clear hb))
      go_ret
      exact ⟨rfl, below_then B_wr_3.out B_wr_3.out.size HBl.out⟩
end Go.Proofs.Ytiplkmmppihilaa.PastA
