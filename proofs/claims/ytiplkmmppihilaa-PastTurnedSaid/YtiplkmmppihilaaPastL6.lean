/- The law PastTurned, walked. Conditions: none beyond those that each theorem states. -/
import Derived.Test.YtiplkmmppihilaaPastT
namespace Go.Proofs.Ytiplkmmppihilaa.PastA
open Go.RowKit Go.Proofs.YtiplkmmppihilaaW.PrintWords Go.Proofs.YtiplkmmppihilaaW.PrintLast Go.Proofs.YtiplkmmppihilaaW.PrintMore Go.Proofs.Ytiplkmmppihilaa.XS Go.Proofs.Ytiplkmmppihilaa.PPast
set_option linter.unusedVariables false
set_option linter.unusedSimpArgs false
set_option maxHeartbeats 8000000 in
set_option maxRecDepth 100000 in
theorem pastTurned (n : Int) (A0 : Option Addr) (c0 : Nat) (l0 : List S56) (e : Int) (w : World) (hr0 : Kd.C k56 w A0 l0.length l0) (hc0 : l0.length ≤ c0) (hn : l0.length ≤ 9223372036854775807) :
    Calls Try.prog 8 #[.int .i64 n, .slice A0 l0.length c0, .int .i64 e] w fun en w' => en = .returned (.bool true) ∧ Below w.heap.size w w' := by
  have HR := Aside0.mk hr0
  clear hr0
  have hu44 := Try.underlying44
  have hu52 := Try.underlying52
  have hu54 := Try.underlying54
  have hu56 := Try.underlying56
  have hu57 := Try.underlying57
  have B_w := Aside0.mk (Below.refl w.heap.size w)
  have S_w : Aside0 (Sep w.heap.size (Stars []) w) := ⟨Sep.emp _ _⟩
  obtain ⟨fw, hfw⟩ := few_some l0 hn
  have HF := Aside0.mk hfw
  cases fw with
  | false =>
    clear hfw
    go_enter Try.func8, Try.ntmps8
    go_wp2_with (first | (go_at_call 25; (with_reducible refine (duetref07_Few.calls (l0.length + 1) A0 c0 l0 false _ HR.out hc0 HF.out).mono ?_); rintro e w_1 ⟨rfl, hb0⟩; have hb := Aside0.mk hb0; clear hb0; have B_w_1 : Aside0 (Below (w.heap.size) w w_1) := ⟨below_then B_w.out B_w.out.size hb.out.below⟩; have S_w_1 : Aside0 (Sep (w.heap.size) (Stars []) w_1) := ⟨Sep.below S_w.out hb.out.below⟩; have Q_w_1 : Aside0 (Below w.heap.size w w_1) := ⟨hb.out.below⟩; clear S_w; clear hb) | (go_at_call 16; (with_reducible refine (live _).mono ?_); rintro e2 w_l ⟨rfl, hb⟩; have HBl := Aside0.mk hb; clear hb))
    go_ret
    exact ⟨rfl, below_then B_w_1.out B_w_1.out.size HBl.out⟩
  | true =>
    have hl60 := few_len hfw
    clear hfw
    by_cases hs : n < 1 ∨ 16 < n
    · go_enter Try.func8, Try.ntmps8
      go_wp2_with (first | (go_at_call 25; (with_reducible refine (duetref07_Few.calls (l0.length + 1) A0 c0 l0 true _ HR.out hc0 HF.out).mono ?_); rintro e w_1 ⟨rfl, hb0⟩; have hb := Aside0.mk hb0; clear hb0; have B_w_1 : Aside0 (Below (w.heap.size) w w_1) := ⟨below_then B_w.out B_w.out.size hb.out.below⟩; have S_w_1 : Aside0 (Sep (w.heap.size) (Stars []) w_1) := ⟨Sep.below S_w.out hb.out.below⟩; have Q_w_1 : Aside0 (Below w.heap.size w w_1) := ⟨hb.out.below⟩; clear S_w; clear hb) | (go_at_call 26; (with_reducible refine (nowhere_no _ n (by omega)).mono ?_); rintro e w' ⟨rfl, rfl⟩) | (go_at_call 16; (with_reducible refine (live _).mono ?_); rintro e2 w_l ⟨rfl, hb⟩; have HBl := Aside0.mk hb; clear hb))
      go_ret
      exact ⟨rfl, below_then B_w_1.out B_w_1.out.size HBl.out⟩
    have hs1 : 1 ≤ n := by omega
    have hs2 : n ≤ 16 := by omega
    clear hs
    go_enter Try.func8, Try.ntmps8
    go_wp2_with (first | (go_at_call 25; (with_reducible refine (duetref07_Few.calls (l0.length + 1) A0 c0 l0 true _ HR.out hc0 HF.out).mono ?_); rintro e w_1 ⟨rfl, hb0⟩; have hb := Aside0.mk hb0; clear hb0; have B_w_1 : Aside0 (Below (w.heap.size) w w_1) := ⟨below_then B_w.out B_w.out.size hb.out.below⟩; have S_w_1 : Aside0 (Sep (w.heap.size) (Stars []) w_1) := ⟨Sep.below S_w.out hb.out.below⟩; have Q_w_1 : Aside0 (Below w.heap.size w w_1) := ⟨hb.out.below⟩; clear S_w; clear hb) | (go_at_call 26; (with_reducible refine (nowhere_yes _ n hs1 hs2).mono ?_); rintro e w_2 ⟨gv, rfl, hN, hb⟩; have B_w_2 : Aside0 (Below (w.heap.size) w w_2) := ⟨below_then B_w_1.out B_w_1.out.size hb⟩; have S_w_2 : Aside0 (Sep (w.heap.size) (Stars [WA gv n (fun _ _ => 0)]) w_2) := ⟨Sep.more S_w_1.out hN hb B_w_1.out.size⟩; have Q_w_2 : Aside0 (Below w.heap.size w w_2) := ⟨below_step Q_w_1.out hb⟩; clear S_w_1; clear hb; have tk1 := Aside0.mk True.intro) | (have tk := tk1; clear tk; go_at_call 26; (with_reducible refine (nowhere_yes _ n hs1 hs2).mono ?_); rintro e w_3 ⟨gw, rfl, hN, hb⟩; have B_w_3 : Aside0 (Below (w.heap.size) w w_3) := ⟨below_then B_w_2.out B_w_2.out.size hb⟩; have S_w_3 : Aside0 (Sep (w.heap.size) (Stars [WA gw n (fun _ _ => 0), WA gv n (fun _ _ => 0)]) w_3) := ⟨Sep.more S_w_2.out hN hb B_w_2.out.size⟩; have Q_w_3 : Aside0 (Below w.heap.size w w_3) := ⟨below_step Q_w_2.out hb⟩; clear S_w_2; clear hb))
    clear tk1 HF
    go_loopw [11] (fun i wr => ∃ (k : Nat) (D : Int → Nat → Int), k ≤ l0.length ∧ i = .int .i64 k ∧ Aside0 (∀ i i' : Nat, i < k → i' < k → i ≠ i' → ¬ ((rd_T56 l0 (i : Int)).f0 = (rd_T56 l0 (i' : Int)).f0 ∧ (rd_T56 l0 (i : Int)).f1 = (rd_T56 l0 (i' : Int)).f1)) ∧ Aside0 (Inv n l0 (fun i => i < k) D) ∧ Aside0 (Sep w.heap.size (Stars [WA gw n (fun _ _ => 0), WA gv n D]) wr) ∧ Aside0 (Below w.heap.size w wr)) (fun i _ => l0.length - (intOf i).toNat)
    case atStart => exact ⟨0, (fun _ _ => 0), by omega, rfl, ⟨fun i i' hi => by omega⟩, ⟨Inv.none _ _ _ (fun i hi => by omega)⟩, S_w_3, B_w_3⟩
    case round =>
      clear S_w_3
      obtain ⟨k, D, hk, rfl, HD, HI, S_wo, B_wo⟩ := hrel
      by_cases hlt : k < l0.length
      · have hlt2 : (k : Int) < (l0.length : Int) := by omega
        obtain ⟨ad, A2, c2, s, q, kn, kd, ep, it, is, rt, rs, ru, had, HX, x0, x1, x2, x3, x4, x5, x6, x7, x8, x9, hl, hc⟩ := at_msg HR.out k hlt
        subst had
        go_wp2
        obtain ⟨wi, hwi⟩ : ∃ wi : World, wi = wr := ⟨_, rfl⟩
        subst hwi
        go_loopw [12] (fun i wr => ∃ j : Nat, j ≤ k ∧ i = .int .i64 j ∧ Aside0 (∀ i : Nat, i < j → ¬ ((rd_T56 l0 (i : Int)).f0 = s ∧ (rd_T56 l0 (i : Int)).f1 = q)) ∧ Aside0 (Sep w.heap.size (Stars [WA gw n (fun _ _ => 0), WA gv n D]) wr) ∧ Aside0 (Below w.heap.size w wr)) (fun i _ => k - (intOf i).toNat)
        case atStart => exact ⟨0, by omega, rfl, ⟨fun i hi => by omega⟩, S_wo, B_wo⟩
        case round =>
          clear S_wo B_wo
          obtain ⟨j, hj, rfl, HQ, S_wr, B_wr⟩ := hrel
          by_cases hjk : j < k
          · have hjk2 : (j : Int) < (k : Int) := by omega
            have hjl : j < l0.length := by omega
            have hjl2 : (j : Int) < (l0.length : Int) := by omega
            obtain ⟨ady, A2y, c2y, sy, qy, kny, kdy, epy, ity, isy, rty, rsy, ruy, hady, HXy, xy0, xy1, xy2, xy3, xy4, xy5, xy6, xy7, xy8, xy9, hly, hcy⟩ := at_msg HR.out j hjl
            obtain rfl := Option.some.inj hady
            have x0_wr := pw_cell_below B_wr.out x0
            have x1_wr := pw_cell_below B_wr.out x1
            have xy0_wr := pw_cell_below B_wr.out xy0
            have xy1_wr := pw_cell_below B_wr.out xy1
            by_cases e1 : sy = s
            · have b1 : (sy == s) = true := beq_iff_eq.mpr e1
              by_cases e2 : qy = q
              · have b2 : (qy == q) = true := beq_iff_eq.mpr e2
                have E1 := Aside0.mk e1
                have E2 := Aside0.mk e2
                clear e1 e2
                go_upto_region 15 with (fail)
                refine start_ (n := 24) (S := fun w' => w'.cell? (ad.add (k * 10)) = some (.int .i64 s) ∧ w'.cell? ⟨(ad.add (k * 10)).block, (ad.add (k * 10)).off + 1, none⟩ = some (.int .i64 q) ∧ w'.cell? (ad.add (j * 10)) = some (.int .i64 sy) ∧ w'.cell? ⟨(ad.add (j * 10)).block, (ad.add (j * 10)).off + 1, none⟩ = some (.int .i64 qy)) (ds := []) #[false, false, false, false, false, false, false, false, false, false, false, false, false, false, false, false, false, false, false, false, false, false, false, false] (by kernel_rfl) rfl rfl ⟨x0_wr, x1_wr, xy0_wr, xy1_wr⟩ (fun hHeld => ?_)
                generalize hdw : wr.drew = wr_1 at hHeld ⊢
                have HB_wr_1 : Aside0 (Below wr.heap.size wr wr_1) := ⟨by rw [← hdw]; exact below_drew1 (Below.refl _ _)⟩
                clear hdw
                have B_wr_1 : Aside0 (Below (w.heap.size) w wr_1) := ⟨below_then B_wr.out B_wr.out.size HB_wr_1.out⟩
                have S_wr_1 : Aside0 (Sep (w.heap.size) (Stars [WA gw n (fun _ _ => 0), WA gv n D]) wr_1) := ⟨Sep.below S_wr.out HB_wr_1.out⟩
                have x0_wr_1 := pw_cell_below B_wr_1.out x0
                have x1_wr_1 := pw_cell_below B_wr_1.out x1
                have xy0_wr_1 := pw_cell_below B_wr_1.out xy0
                have xy1_wr_1 := pw_cell_below B_wr_1.out xy1
                clear S_wr x0_wr x1_wr xy0_wr xy1_wr
                refine pure_ (i := 0) (N := some 57) (v := ?_) (a' := ?_) #[true, false, false, false, false, false, false, false, false, false, false, false, false, false, false, false, false, false, false, false, false, false, false, false] rfl rfl (by kernel_rfl) (fun _ _ _ h => h) (Or.inl ⟨by rfl, ?_⟩) ?_ ?_
                rotate_left
                · intro w'
                  go_simp
                  with_reducible rfl
                rotate_left
                · simp only [Act.put, List.setIfInBounds_toArray, List.set_cons_zero, List.set_cons_succ, i64_w, i32_w]
                  rfl
                refine pure_ (i := 1) (N := some 58) (v := ?_) (a' := ?_) #[true, true, false, false, false, false, false, false, false, false, false, false, false, false, false, false, false, false, false, false, false, false, false, false] rfl rfl (by kernel_rfl) (fun _ _ _ h => h) (Or.inl ⟨by rfl, ?_⟩) ?_ ?_
                rotate_left
                · intro w'
                  go_simp
                  with_reducible rfl
                rotate_left
                · simp only [Act.put, List.setIfInBounds_toArray, List.set_cons_zero, List.set_cons_succ, i64_w, i32_w]
                  rfl
                refine pure_ (i := 2) (N := some 59) (v := ?_) (a' := ?_) #[true, true, true, false, false, false, false, false, false, false, false, false, false, false, false, false, false, false, false, false, false, false, false, false] rfl rfl (by kernel_rfl) (fun _ _ _ h => h) (Or.inl ⟨by rfl, ?_⟩) ?_ ?_
                rotate_left
                · intro w'
                  go_simp
                  with_reducible rfl
                rotate_left
                · simp only [Act.put, List.setIfInBounds_toArray, List.set_cons_zero, List.set_cons_succ, i64_w, i32_w]
                  rfl
                refine pure_ (i := 3) (N := some 60) (v := ?_) (a' := ?_) #[true, true, true, true, false, false, false, false, false, false, false, false, false, false, false, false, false, false, false, false, false, false, false, false] rfl rfl (by kernel_rfl) (fun _ _ _ h => h) (Or.inl ⟨by rfl, ?_⟩) ?_ ?_
                rotate_left
                · intro w'
                  go_simp
                  with_reducible rfl
                rotate_left
                · simp only [Act.put, List.setIfInBounds_toArray, List.set_cons_zero, List.set_cons_succ, i64_w, i32_w]
                  rfl
                refine pure_ (i := 5) (N := some 62) (v := ?_) (a' := ?_) #[true, true, true, true, false, true, false, false, false, false, false, false, false, false, false, false, false, false, false, false, false, false, false, false] rfl rfl (by kernel_rfl) (fun _ _ _ h => h) (Or.inl ⟨by rfl, ?_⟩) ?_ ?_
                rotate_left
                · intro w'
                  go_simp
                  with_reducible rfl
                rotate_left
                · simp only [Act.put, List.setIfInBounds_toArray, List.set_cons_zero, List.set_cons_succ, i64_w, i32_w]
                  rfl
                refine pure_ (i := 6) (N := some 63) (v := ?_) (a' := ?_) #[true, true, true, true, false, true, true, false, false, false, false, false, false, false, false, false, false, false, false, false, false, false, false, false] rfl rfl (by kernel_rfl) (fun _ _ _ h => h) (Or.inl ⟨by rfl, ?_⟩) ?_ ?_
                rotate_left
                · intro w'
                  go_simp
                  with_reducible rfl
                rotate_left
                · simp only [Act.put, List.setIfInBounds_toArray, List.set_cons_zero, List.set_cons_succ, i64_w, i32_w]
                  rfl
                refine pure_ (i := 7) (N := some 64) (v := ?_) (a' := ?_) #[true, true, true, true, false, true, true, true, false, false, false, false, false, false, false, false, false, false, false, false, false, false, false, false] rfl rfl (by kernel_rfl) (fun _ _ _ h => h) (Or.inl ⟨by rfl, ?_⟩) ?_ ?_
                rotate_left
                · intro w'
                  go_simp
                  with_reducible rfl
                rotate_left
                · simp only [Act.put, List.setIfInBounds_toArray, List.set_cons_zero, List.set_cons_succ, i64_w, i32_w]
                  rfl
                refine pure_ (i := 8) (N := some 65) (v := ?_) (a' := ?_) #[true, true, true, true, false, true, true, true, true, false, false, false, false, false, false, false, false, false, false, false, false, false, false, false] rfl rfl (by kernel_rfl) (fun _ _ _ h => h) (Or.inl ⟨by rfl, ?_⟩) ?_ ?_
                rotate_left
                · intro w'
                  go_simp
                  with_reducible rfl
                rotate_left
                · simp only [Act.put, List.setIfInBounds_toArray, List.set_cons_zero, List.set_cons_succ, i64_w, i32_w]
                  rfl
                refine take_ (i := 4) (N := some 61) (v := ?_) (a' := ?_) #[true, true, true, true, true, true, true, true, true, false, false, false, false, false, false, false, false, false, false, false, false, false, false, false] rfl rfl (by kernel_rfl) (fun _ _ _ h => h) (Or.inl ⟨by rfl, ?_⟩) hHeld ?_ ?_
                rotate_left
                · rintro w' ⟨s0, s1, s2, s3⟩
                  go_simp
                  with_reducible rfl
                rotate_left
                · simp only [Act.put, List.setIfInBounds_toArray, List.set_cons_zero, List.set_cons_succ, i64_w, i32_w]
                  rfl
                refine take_ (i := 9) (N := some 66) (v := ?_) (a' := ?_) #[true, true, true, true, true, true, true, true, true, true, false, false, false, false, false, false, false, false, false, false, false, false, false, false] rfl rfl (by kernel_rfl) (fun _ _ _ h => h) (Or.inl ⟨by rfl, ?_⟩) hHeld ?_ ?_
                rotate_left
                · rintro w' ⟨s0, s1, s2, s3⟩
                  go_simp
                  with_reducible rfl
                rotate_left
                · simp only [Act.put, List.setIfInBounds_toArray, List.set_cons_zero, List.set_cons_succ, i64_w, i32_w]
                  rfl
                refine pure_ (i := 10) (N := some 67) (v := ?_) (a' := ?_) #[true, true, true, true, true, true, true, true, true, true, true, false, false, false, false, false, false, false, false, false, false, false, false, false] rfl rfl (by kernel_rfl) (fun _ _ _ h => h) (Or.inl ⟨by rfl, ?_⟩) ?_ ?_
                rotate_left
                · intro w'
                  go_simp
                  with_reducible rfl
                rotate_left
                · simp only [Act.put, List.setIfInBounds_toArray, List.set_cons_zero, List.set_cons_succ, i64_w, i32_w]
                  rfl
                refine pure_ (i := 11) (N := some 68) (v := ?_) (a' := ?_) #[true, true, true, true, true, true, true, true, true, true, true, true, false, false, false, false, false, false, false, false, false, false, false, false] rfl rfl (by kernel_rfl) (fun _ _ _ h => h) (Or.inl ⟨by rfl, ?_⟩) ?_ ?_
                rotate_left
                · intro w'
                  go_simp
                  with_reducible rfl
                rotate_left
                · simp only [Act.put, List.setIfInBounds_toArray, List.set_cons_zero, List.set_cons_succ, i64_w, i32_w]
                  rfl
                refine pure_ (i := 12) (N := some 69) (v := ?_) (a' := ?_) #[true, true, true, true, true, true, true, true, true, true, true, true, true, false, false, false, false, false, false, false, false, false, false, false] rfl rfl (by kernel_rfl) (fun _ _ _ h => h) (Or.inl ⟨by rfl, ?_⟩) ?_ ?_
                rotate_left
                · intro w'
                  go_simp
                  with_reducible rfl
                rotate_left
                · simp only [Act.put, List.setIfInBounds_toArray, List.set_cons_zero, List.set_cons_succ, i64_w, i32_w]
                  rfl
                refine pure_ (i := 13) (N := some 70) (v := ?_) (a' := ?_) #[true, true, true, true, true, true, true, true, true, true, true, true, true, true, false, false, false, false, false, false, false, false, false, false] rfl rfl (by kernel_rfl) (fun _ _ _ h => h) (Or.inl ⟨by rfl, ?_⟩) ?_ ?_
                rotate_left
                · intro w'
                  go_simp
                  with_reducible rfl
                rotate_left
                · simp only [Act.put, List.setIfInBounds_toArray, List.set_cons_zero, List.set_cons_succ, i64_w, i32_w]
                  rfl
                refine pure_ (i := 14) (N := some 71) (v := ?_) (a' := ?_) #[true, true, true, true, true, true, true, true, true, true, true, true, true, true, true, false, false, false, false, false, false, false, false, false] rfl rfl (by kernel_rfl) (fun _ _ _ h => h) (Or.inl ⟨by rfl, ?_⟩) ?_ ?_
                rotate_left
                · intro w'
                  go_simp
                  with_reducible rfl
                rotate_left
                · simp only [Act.put, List.setIfInBounds_toArray, List.set_cons_zero, List.set_cons_succ, i64_w, i32_w]
                  rfl
                refine pure_ (i := 15) (N := some 72) (v := ?_) (a' := ?_) #[true, true, true, true, true, true, true, true, true, true, true, true, true, true, true, true, false, false, false, false, false, false, false, false] rfl rfl (by kernel_rfl) (fun _ _ _ h => h) (Or.inl ⟨by rfl, ?_⟩) ?_ ?_
                rotate_left
                · intro w'
                  go_simp
                  with_reducible rfl
                rotate_left
                · simp only [Act.put, List.setIfInBounds_toArray, List.set_cons_zero, List.set_cons_succ, i64_w, i32_w]
                  rfl
                refine pure_ (i := 17) (N := some 74) (v := ?_) (a' := ?_) #[true, true, true, true, true, true, true, true, true, true, true, true, true, true, true, true, false, true, false, false, false, false, false, false] rfl rfl (by kernel_rfl) (fun _ _ _ h => h) (Or.inl ⟨by rfl, ?_⟩) ?_ ?_
                rotate_left
                · intro w'
                  go_simp
                  with_reducible rfl
                rotate_left
                · simp only [Act.put, List.setIfInBounds_toArray, List.set_cons_zero, List.set_cons_succ, i64_w, i32_w]
                  rfl
                refine pure_ (i := 18) (N := some 75) (v := ?_) (a' := ?_) #[true, true, true, true, true, true, true, true, true, true, true, true, true, true, true, true, false, true, true, false, false, false, false, false] rfl rfl (by kernel_rfl) (fun _ _ _ h => h) (Or.inl ⟨by rfl, ?_⟩) ?_ ?_
                rotate_left
                · intro w'
                  go_simp
                  with_reducible rfl
                rotate_left
                · simp only [Act.put, List.setIfInBounds_toArray, List.set_cons_zero, List.set_cons_succ, i64_w, i32_w]
                  rfl
                refine pure_ (i := 19) (N := some 76) (v := ?_) (a' := ?_) #[true, true, true, true, true, true, true, true, true, true, true, true, true, true, true, true, false, true, true, true, false, false, false, false] rfl rfl (by kernel_rfl) (fun _ _ _ h => h) (Or.inl ⟨by rfl, ?_⟩) ?_ ?_
                rotate_left
                · intro w'
                  go_simp
                  with_reducible rfl
                rotate_left
                · simp only [Act.put, List.setIfInBounds_toArray, List.set_cons_zero, List.set_cons_succ, i64_w, i32_w]
                  rfl
                refine pure_ (i := 20) (N := some 77) (v := ?_) (a' := ?_) #[true, true, true, true, true, true, true, true, true, true, true, true, true, true, true, true, false, true, true, true, true, false, false, false] rfl rfl (by kernel_rfl) (fun _ _ _ h => h) (Or.inl ⟨by rfl, ?_⟩) ?_ ?_
                rotate_left
                · intro w'
                  go_simp
                  with_reducible rfl
                rotate_left
                · simp only [Act.put, List.setIfInBounds_toArray, List.set_cons_zero, List.set_cons_succ, i64_w, i32_w]
                  rfl
                refine take_ (i := 16) (N := some 73) (v := ?_) (a' := ?_) #[true, true, true, true, true, true, true, true, true, true, true, true, true, true, true, true, true, true, true, true, true, false, false, false] rfl rfl (by kernel_rfl) (fun _ _ _ h => h) (Or.inl ⟨by rfl, ?_⟩) hHeld ?_ ?_
                rotate_left
                · rintro w' ⟨s0, s1, s2, s3⟩
                  go_simp
                  with_reducible rfl
                rotate_left
                · simp only [Act.put, List.setIfInBounds_toArray, List.set_cons_zero, List.set_cons_succ, i64_w, i32_w]
                  rfl
                refine take_ (i := 21) (N := some 78) (v := ?_) (a' := ?_) #[true, true, true, true, true, true, true, true, true, true, true, true, true, true, true, true, true, true, true, true, true, true, false, false] rfl rfl (by kernel_rfl) (fun _ _ _ h => h) (Or.inl ⟨by rfl, ?_⟩) hHeld ?_ ?_
                rotate_left
                · rintro w' ⟨s0, s1, s2, s3⟩
                  go_simp
                  with_reducible rfl
                rotate_left
                · simp only [Act.put, List.setIfInBounds_toArray, List.set_cons_zero, List.set_cons_succ, i64_w, i32_w]
                  rfl
                refine pure_ (i := 22) (N := some 79) (v := ?_) (a' := ?_) #[true, true, true, true, true, true, true, true, true, true, true, true, true, true, true, true, true, true, true, true, true, true, true, false] rfl rfl (by kernel_rfl) (fun _ _ _ h => h) (Or.inl ⟨by rfl, ?_⟩) ?_ ?_
                rotate_left
                · intro w'
                  go_simp
                  with_reducible rfl
                rotate_left
                · simp only [Act.put, List.setIfInBounds_toArray, List.set_cons_zero, List.set_cons_succ, i64_w, i32_w]
                  rfl
                refine pure_ (i := 23) (N := some 80) (v := ?_) (a' := ?_) #[true, true, true, true, true, true, true, true, true, true, true, true, true, true, true, true, true, true, true, true, true, true, true, true] rfl rfl (by kernel_rfl) (fun _ _ _ h => h) (Or.inl ⟨by rfl, ?_⟩) ?_ ?_
                rotate_left
                · intro w'
                  go_simp
                  with_reducible rfl
                rotate_left
                · simp only [Act.put, List.setIfInBounds_toArray, List.set_cons_zero, List.set_cons_succ, i64_w, i32_w]
                  rfl
                refine done_ (by kernel_rfl) ?_
                go_wp2_with (go_at_call 16; (with_reducible refine (live _).mono ?_); rintro e2 w_l ⟨rfl, hb⟩; have HBl := Aside0.mk hb; clear hb)
                go_ret
                exact ⟨rfl, below_then B_wr_1.out B_wr_1.out.size HBl.out⟩
              · have b2 : (qy == q) = false := beq_eq_false_iff_ne.mpr e2
                have E2 := Aside0.mk e2
                clear e1 e2
                go_upto_region 15 with (fail)
                refine start_ (n := 24) (S := fun w' => w'.cell? (ad.add (k * 10)) = some (.int .i64 s) ∧ w'.cell? ⟨(ad.add (k * 10)).block, (ad.add (k * 10)).off + 1, none⟩ = some (.int .i64 q) ∧ w'.cell? (ad.add (j * 10)) = some (.int .i64 sy) ∧ w'.cell? ⟨(ad.add (j * 10)).block, (ad.add (j * 10)).off + 1, none⟩ = some (.int .i64 qy)) (ds := []) #[false, false, false, false, false, false, false, false, false, false, false, false, false, false, false, false, false, false, false, false, false, false, false, false] (by kernel_rfl) rfl rfl ⟨x0_wr, x1_wr, xy0_wr, xy1_wr⟩ (fun hHeld => ?_)
                generalize hdw : wr.drew = wr_1 at hHeld ⊢
                have HB_wr_1 : Aside0 (Below wr.heap.size wr wr_1) := ⟨by rw [← hdw]; exact below_drew1 (Below.refl _ _)⟩
                clear hdw
                have B_wr_1 : Aside0 (Below (w.heap.size) w wr_1) := ⟨below_then B_wr.out B_wr.out.size HB_wr_1.out⟩
                have S_wr_1 : Aside0 (Sep (w.heap.size) (Stars [WA gw n (fun _ _ => 0), WA gv n D]) wr_1) := ⟨Sep.below S_wr.out HB_wr_1.out⟩
                have x0_wr_1 := pw_cell_below B_wr_1.out x0
                have x1_wr_1 := pw_cell_below B_wr_1.out x1
                have xy0_wr_1 := pw_cell_below B_wr_1.out xy0
                have xy1_wr_1 := pw_cell_below B_wr_1.out xy1
                clear S_wr x0_wr x1_wr xy0_wr xy1_wr
                refine pure_ (i := 0) (N := some 57) (v := ?_) (a' := ?_) #[true, false, false, false, false, false, false, false, false, false, false, false, false, false, false, false, false, false, false, false, false, false, false, false] rfl rfl (by kernel_rfl) (fun _ _ _ h => h) (Or.inl ⟨by rfl, ?_⟩) ?_ ?_
                rotate_left
                · intro w'
                  go_simp
                  with_reducible rfl
                rotate_left
                · simp only [Act.put, List.setIfInBounds_toArray, List.set_cons_zero, List.set_cons_succ, i64_w, i32_w]
                  rfl
                refine pure_ (i := 1) (N := some 58) (v := ?_) (a' := ?_) #[true, true, false, false, false, false, false, false, false, false, false, false, false, false, false, false, false, false, false, false, false, false, false, false] rfl rfl (by kernel_rfl) (fun _ _ _ h => h) (Or.inl ⟨by rfl, ?_⟩) ?_ ?_
                rotate_left
                · intro w'
                  go_simp
                  with_reducible rfl
                rotate_left
                · simp only [Act.put, List.setIfInBounds_toArray, List.set_cons_zero, List.set_cons_succ, i64_w, i32_w]
                  rfl
                refine pure_ (i := 2) (N := some 59) (v := ?_) (a' := ?_) #[true, true, true, false, false, false, false, false, false, false, false, false, false, false, false, false, false, false, false, false, false, false, false, false] rfl rfl (by kernel_rfl) (fun _ _ _ h => h) (Or.inl ⟨by rfl, ?_⟩) ?_ ?_
                rotate_left
                · intro w'
                  go_simp
                  with_reducible rfl
                rotate_left
                · simp only [Act.put, List.setIfInBounds_toArray, List.set_cons_zero, List.set_cons_succ, i64_w, i32_w]
                  rfl
                refine pure_ (i := 3) (N := some 60) (v := ?_) (a' := ?_) #[true, true, true, true, false, false, false, false, false, false, false, false, false, false, false, false, false, false, false, false, false, false, false, false] rfl rfl (by kernel_rfl) (fun _ _ _ h => h) (Or.inl ⟨by rfl, ?_⟩) ?_ ?_
                rotate_left
                · intro w'
                  go_simp
                  with_reducible rfl
                rotate_left
                · simp only [Act.put, List.setIfInBounds_toArray, List.set_cons_zero, List.set_cons_succ, i64_w, i32_w]
                  rfl
                refine pure_ (i := 5) (N := some 62) (v := ?_) (a' := ?_) #[true, true, true, true, false, true, false, false, false, false, false, false, false, false, false, false, false, false, false, false, false, false, false, false] rfl rfl (by kernel_rfl) (fun _ _ _ h => h) (Or.inl ⟨by rfl, ?_⟩) ?_ ?_
                rotate_left
                · intro w'
                  go_simp
                  with_reducible rfl
                rotate_left
                · simp only [Act.put, List.setIfInBounds_toArray, List.set_cons_zero, List.set_cons_succ, i64_w, i32_w]
                  rfl
                refine pure_ (i := 6) (N := some 63) (v := ?_) (a' := ?_) #[true, true, true, true, false, true, true, false, false, false, false, false, false, false, false, false, false, false, false, false, false, false, false, false] rfl rfl (by kernel_rfl) (fun _ _ _ h => h) (Or.inl ⟨by rfl, ?_⟩) ?_ ?_
                rotate_left
                · intro w'
                  go_simp
                  with_reducible rfl
                rotate_left
                · simp only [Act.put, List.setIfInBounds_toArray, List.set_cons_zero, List.set_cons_succ, i64_w, i32_w]
                  rfl
                refine pure_ (i := 7) (N := some 64) (v := ?_) (a' := ?_) #[true, true, true, true, false, true, true, true, false, false, false, false, false, false, false, false, false, false, false, false, false, false, false, false] rfl rfl (by kernel_rfl) (fun _ _ _ h => h) (Or.inl ⟨by rfl, ?_⟩) ?_ ?_
                rotate_left
                · intro w'
                  go_simp
                  with_reducible rfl
                rotate_left
                · simp only [Act.put, List.setIfInBounds_toArray, List.set_cons_zero, List.set_cons_succ, i64_w, i32_w]
                  rfl
                refine pure_ (i := 8) (N := some 65) (v := ?_) (a' := ?_) #[true, true, true, true, false, true, true, true, true, false, false, false, false, false, false, false, false, false, false, false, false, false, false, false] rfl rfl (by kernel_rfl) (fun _ _ _ h => h) (Or.inl ⟨by rfl, ?_⟩) ?_ ?_
                rotate_left
                · intro w'
                  go_simp
                  with_reducible rfl
                rotate_left
                · simp only [Act.put, List.setIfInBounds_toArray, List.set_cons_zero, List.set_cons_succ, i64_w, i32_w]
                  rfl
                refine take_ (i := 4) (N := some 61) (v := ?_) (a' := ?_) #[true, true, true, true, true, true, true, true, true, false, false, false, false, false, false, false, false, false, false, false, false, false, false, false] rfl rfl (by kernel_rfl) (fun _ _ _ h => h) (Or.inl ⟨by rfl, ?_⟩) hHeld ?_ ?_
                rotate_left
                · rintro w' ⟨s0, s1, s2, s3⟩
                  go_simp
                  with_reducible rfl
                rotate_left
                · simp only [Act.put, List.setIfInBounds_toArray, List.set_cons_zero, List.set_cons_succ, i64_w, i32_w]
                  rfl
                refine take_ (i := 9) (N := some 66) (v := ?_) (a' := ?_) #[true, true, true, true, true, true, true, true, true, true, false, false, false, false, false, false, false, false, false, false, false, false, false, false] rfl rfl (by kernel_rfl) (fun _ _ _ h => h) (Or.inl ⟨by rfl, ?_⟩) hHeld ?_ ?_
                rotate_left
                · rintro w' ⟨s0, s1, s2, s3⟩
                  go_simp
                  with_reducible rfl
                rotate_left
                · simp only [Act.put, List.setIfInBounds_toArray, List.set_cons_zero, List.set_cons_succ, i64_w, i32_w]
                  rfl
                refine pure_ (i := 10) (N := some 67) (v := ?_) (a' := ?_) #[true, true, true, true, true, true, true, true, true, true, true, false, false, false, false, false, false, false, false, false, false, false, false, false] rfl rfl (by kernel_rfl) (fun _ _ _ h => h) (Or.inl ⟨by rfl, ?_⟩) ?_ ?_
                rotate_left
                · intro w'
                  go_simp
                  with_reducible rfl
                rotate_left
                · simp only [Act.put, List.setIfInBounds_toArray, List.set_cons_zero, List.set_cons_succ, i64_w, i32_w]
                  rfl
                refine pure_ (i := 11) (N := some 68) (v := ?_) (a' := ?_) #[true, true, true, true, true, true, true, true, true, true, true, true, false, false, false, false, false, false, false, false, false, false, false, false] rfl rfl (by kernel_rfl) (fun _ _ _ h => h) (Or.inl ⟨by rfl, ?_⟩) ?_ ?_
                rotate_left
                · intro w'
                  go_simp
                  with_reducible rfl
                rotate_left
                · simp only [Act.put, List.setIfInBounds_toArray, List.set_cons_zero, List.set_cons_succ, i64_w, i32_w]
                  rfl
                refine pure_ (i := 12) (N := some 69) (v := ?_) (a' := ?_) #[true, true, true, true, true, true, true, true, true, true, true, true, true, false, false, false, false, false, false, false, false, false, false, false] rfl rfl (by kernel_rfl) (fun _ _ _ h => h) (Or.inl ⟨by rfl, ?_⟩) ?_ ?_
                rotate_left
                · intro w'
                  go_simp
                  with_reducible rfl
                rotate_left
                · simp only [Act.put, List.setIfInBounds_toArray, List.set_cons_zero, List.set_cons_succ, i64_w, i32_w]
                  rfl
                refine pure_ (i := 13) (N := some 70) (v := ?_) (a' := ?_) #[true, true, true, true, true, true, true, true, true, true, true, true, true, true, false, false, false, false, false, false, false, false, false, false] rfl rfl (by kernel_rfl) (fun _ _ _ h => h) (Or.inl ⟨by rfl, ?_⟩) ?_ ?_
                rotate_left
                · intro w'
                  go_simp
                  with_reducible rfl
                rotate_left
                · simp only [Act.put, List.setIfInBounds_toArray, List.set_cons_zero, List.set_cons_succ, i64_w, i32_w]
                  rfl
                refine pure_ (i := 14) (N := some 71) (v := ?_) (a' := ?_) #[true, true, true, true, true, true, true, true, true, true, true, true, true, true, true, false, false, false, false, false, false, false, false, false] rfl rfl (by kernel_rfl) (fun _ _ _ h => h) (Or.inl ⟨by rfl, ?_⟩) ?_ ?_
                rotate_left
                · intro w'
                  go_simp
                  with_reducible rfl
                rotate_left
                · simp only [Act.put, List.setIfInBounds_toArray, List.set_cons_zero, List.set_cons_succ, i64_w, i32_w]
                  rfl
                refine pure_ (i := 15) (N := some 72) (v := ?_) (a' := ?_) #[true, true, true, true, true, true, true, true, true, true, true, true, true, true, true, true, false, false, false, false, false, false, false, false] rfl rfl (by kernel_rfl) (fun _ _ _ h => h) (Or.inl ⟨by rfl, ?_⟩) ?_ ?_
                rotate_left
                · intro w'
                  go_simp
                  with_reducible rfl
                rotate_left
                · simp only [Act.put, List.setIfInBounds_toArray, List.set_cons_zero, List.set_cons_succ, i64_w, i32_w]
                  rfl
                refine pure_ (i := 17) (N := some 74) (v := ?_) (a' := ?_) #[true, true, true, true, true, true, true, true, true, true, true, true, true, true, true, true, false, true, false, false, false, false, false, false] rfl rfl (by kernel_rfl) (fun _ _ _ h => h) (Or.inl ⟨by rfl, ?_⟩) ?_ ?_
                rotate_left
                · intro w'
                  go_simp
                  with_reducible rfl
                rotate_left
                · simp only [Act.put, List.setIfInBounds_toArray, List.set_cons_zero, List.set_cons_succ, i64_w, i32_w]
                  rfl
                refine pure_ (i := 18) (N := some 75) (v := ?_) (a' := ?_) #[true, true, true, true, true, true, true, true, true, true, true, true, true, true, true, true, false, true, true, false, false, false, false, false] rfl rfl (by kernel_rfl) (fun _ _ _ h => h) (Or.inl ⟨by rfl, ?_⟩) ?_ ?_
                rotate_left
                · intro w'
                  go_simp
                  with_reducible rfl
                rotate_left
                · simp only [Act.put, List.setIfInBounds_toArray, List.set_cons_zero, List.set_cons_succ, i64_w, i32_w]
                  rfl
                refine pure_ (i := 19) (N := some 76) (v := ?_) (a' := ?_) #[true, true, true, true, true, true, true, true, true, true, true, true, true, true, true, true, false, true, true, true, false, false, false, false] rfl rfl (by kernel_rfl) (fun _ _ _ h => h) (Or.inl ⟨by rfl, ?_⟩) ?_ ?_
                rotate_left
                · intro w'
                  go_simp
                  with_reducible rfl
                rotate_left
                · simp only [Act.put, List.setIfInBounds_toArray, List.set_cons_zero, List.set_cons_succ, i64_w, i32_w]
                  rfl
                refine pure_ (i := 20) (N := some 77) (v := ?_) (a' := ?_) #[true, true, true, true, true, true, true, true, true, true, true, true, true, true, true, true, false, true, true, true, true, false, false, false] rfl rfl (by kernel_rfl) (fun _ _ _ h => h) (Or.inl ⟨by rfl, ?_⟩) ?_ ?_
                rotate_left
                · intro w'
                  go_simp
                  with_reducible rfl
                rotate_left
                · simp only [Act.put, List.setIfInBounds_toArray, List.set_cons_zero, List.set_cons_succ, i64_w, i32_w]
                  rfl
                refine take_ (i := 16) (N := some 73) (v := ?_) (a' := ?_) #[true, true, true, true, true, true, true, true, true, true, true, true, true, true, true, true, true, true, true, true, true, false, false, false] rfl rfl (by kernel_rfl) (fun _ _ _ h => h) (Or.inl ⟨by rfl, ?_⟩) hHeld ?_ ?_
                rotate_left
                · rintro w' ⟨s0, s1, s2, s3⟩
                  go_simp
                  with_reducible rfl
                rotate_left
                · simp only [Act.put, List.setIfInBounds_toArray, List.set_cons_zero, List.set_cons_succ, i64_w, i32_w]
                  rfl
                refine take_ (i := 21) (N := some 78) (v := ?_) (a' := ?_) #[true, true, true, true, true, true, true, true, true, true, true, true, true, true, true, true, true, true, true, true, true, true, false, false] rfl rfl (by kernel_rfl) (fun _ _ _ h => h) (Or.inl ⟨by rfl, ?_⟩) hHeld ?_ ?_
                rotate_left
                · rintro w' ⟨s0, s1, s2, s3⟩
                  go_simp
                  with_reducible rfl
                rotate_left
                · simp only [Act.put, List.setIfInBounds_toArray, List.set_cons_zero, List.set_cons_succ, i64_w, i32_w]
                  rfl
                refine pure_ (i := 22) (N := some 79) (v := ?_) (a' := ?_) #[true, true, true, true, true, true, true, true, true, true, true, true, true, true, true, true, true, true, true, true, true, true, true, false] rfl rfl (by kernel_rfl) (fun _ _ _ h => h) (Or.inl ⟨by rfl, ?_⟩) ?_ ?_
                rotate_left
                · intro w'
                  go_simp
                  with_reducible rfl
                rotate_left
                · simp only [Act.put, List.setIfInBounds_toArray, List.set_cons_zero, List.set_cons_succ, i64_w, i32_w]
                  rfl
                refine pure_ (i := 23) (N := some 80) (v := ?_) (a' := ?_) #[true, true, true, true, true, true, true, true, true, true, true, true, true, true, true, true, true, true, true, true, true, true, true, true] rfl rfl (by kernel_rfl) (fun _ _ _ h => h) (Or.inl ⟨by rfl, ?_⟩) ?_ ?_
                rotate_left
                · intro w'
                  go_simp
                  with_reducible rfl
                rotate_left
                · simp only [Act.put, List.setIfInBounds_toArray, List.set_cons_zero, List.set_cons_succ, i64_w, i32_w]
                  rfl
                refine done_ (by kernel_rfl) ?_
                go_wp2
                go_roundw
                case rel => exact ⟨j + 1, by omega, by go_num, ⟨fun i hi => by
                    by_cases c : i = j
                    · subst c; rw [HXy]; exact fun h => E2.out h.2
                    · exact HQ.out i (by omega)⟩, S_wr_1, B_wr_1⟩
                case measure => simp [intOf]; omega
            · have b1 : (sy == s) = false := beq_eq_false_iff_ne.mpr e1
              have E1 := Aside0.mk e1
              clear e1
              go_upto_region 15 with (fail)
              refine start_ (n := 24) (S := fun w' => w'.cell? (ad.add (k * 10)) = some (.int .i64 s) ∧ w'.cell? ⟨(ad.add (k * 10)).block, (ad.add (k * 10)).off + 1, none⟩ = some (.int .i64 q) ∧ w'.cell? (ad.add (j * 10)) = some (.int .i64 sy) ∧ w'.cell? ⟨(ad.add (j * 10)).block, (ad.add (j * 10)).off + 1, none⟩ = some (.int .i64 qy)) (ds := []) #[false, false, false, false, false, false, false, false, false, false, false, false, false, false, false, false, false, false, false, false, false, false, false, false] (by kernel_rfl) rfl rfl ⟨x0_wr, x1_wr, xy0_wr, xy1_wr⟩ (fun hHeld => ?_)
              generalize hdw : wr.drew = wr_1 at hHeld ⊢
              have HB_wr_1 : Aside0 (Below wr.heap.size wr wr_1) := ⟨by rw [← hdw]; exact below_drew1 (Below.refl _ _)⟩
              clear hdw
              have B_wr_1 : Aside0 (Below (w.heap.size) w wr_1) := ⟨below_then B_wr.out B_wr.out.size HB_wr_1.out⟩
              have S_wr_1 : Aside0 (Sep (w.heap.size) (Stars [WA gw n (fun _ _ => 0), WA gv n D]) wr_1) := ⟨Sep.below S_wr.out HB_wr_1.out⟩
              have x0_wr_1 := pw_cell_below B_wr_1.out x0
              have x1_wr_1 := pw_cell_below B_wr_1.out x1
              have xy0_wr_1 := pw_cell_below B_wr_1.out xy0
              have xy1_wr_1 := pw_cell_below B_wr_1.out xy1
              clear S_wr x0_wr x1_wr xy0_wr xy1_wr
              refine pure_ (i := 0) (N := some 57) (v := ?_) (a' := ?_) #[true, false, false, false, false, false, false, false, false, false, false, false, false, false, false, false, false, false, false, false, false, false, false, false] rfl rfl (by kernel_rfl) (fun _ _ _ h => h) (Or.inl ⟨by rfl, ?_⟩) ?_ ?_
              rotate_left
              · intro w'
                go_simp
                with_reducible rfl
              rotate_left
              · simp only [Act.put, List.setIfInBounds_toArray, List.set_cons_zero, List.set_cons_succ, i64_w, i32_w]
                rfl
              refine pure_ (i := 1) (N := some 58) (v := ?_) (a' := ?_) #[true, true, false, false, false, false, false, false, false, false, false, false, false, false, false, false, false, false, false, false, false, false, false, false] rfl rfl (by kernel_rfl) (fun _ _ _ h => h) (Or.inl ⟨by rfl, ?_⟩) ?_ ?_
              rotate_left
              · intro w'
                go_simp
                with_reducible rfl
              rotate_left
              · simp only [Act.put, List.setIfInBounds_toArray, List.set_cons_zero, List.set_cons_succ, i64_w, i32_w]
                rfl
              refine pure_ (i := 2) (N := some 59) (v := ?_) (a' := ?_) #[true, true, true, false, false, false, false, false, false, false, false, false, false, false, false, false, false, false, false, false, false, false, false, false] rfl rfl (by kernel_rfl) (fun _ _ _ h => h) (Or.inl ⟨by rfl, ?_⟩) ?_ ?_
              rotate_left
              · intro w'
                go_simp
                with_reducible rfl
              rotate_left
              · simp only [Act.put, List.setIfInBounds_toArray, List.set_cons_zero, List.set_cons_succ, i64_w, i32_w]
                rfl
              refine pure_ (i := 3) (N := some 60) (v := ?_) (a' := ?_) #[true, true, true, true, false, false, false, false, false, false, false, false, false, false, false, false, false, false, false, false, false, false, false, false] rfl rfl (by kernel_rfl) (fun _ _ _ h => h) (Or.inl ⟨by rfl, ?_⟩) ?_ ?_
              rotate_left
              · intro w'
                go_simp
                with_reducible rfl
              rotate_left
              · simp only [Act.put, List.setIfInBounds_toArray, List.set_cons_zero, List.set_cons_succ, i64_w, i32_w]
                rfl
              refine pure_ (i := 5) (N := some 62) (v := ?_) (a' := ?_) #[true, true, true, true, false, true, false, false, false, false, false, false, false, false, false, false, false, false, false, false, false, false, false, false] rfl rfl (by kernel_rfl) (fun _ _ _ h => h) (Or.inl ⟨by rfl, ?_⟩) ?_ ?_
              rotate_left
              · intro w'
                go_simp
                with_reducible rfl
              rotate_left
              · simp only [Act.put, List.setIfInBounds_toArray, List.set_cons_zero, List.set_cons_succ, i64_w, i32_w]
                rfl
              refine pure_ (i := 6) (N := some 63) (v := ?_) (a' := ?_) #[true, true, true, true, false, true, true, false, false, false, false, false, false, false, false, false, false, false, false, false, false, false, false, false] rfl rfl (by kernel_rfl) (fun _ _ _ h => h) (Or.inl ⟨by rfl, ?_⟩) ?_ ?_
              rotate_left
              · intro w'
                go_simp
                with_reducible rfl
              rotate_left
              · simp only [Act.put, List.setIfInBounds_toArray, List.set_cons_zero, List.set_cons_succ, i64_w, i32_w]
                rfl
              refine pure_ (i := 7) (N := some 64) (v := ?_) (a' := ?_) #[true, true, true, true, false, true, true, true, false, false, false, false, false, false, false, false, false, false, false, false, false, false, false, false] rfl rfl (by kernel_rfl) (fun _ _ _ h => h) (Or.inl ⟨by rfl, ?_⟩) ?_ ?_
              rotate_left
              · intro w'
                go_simp
                with_reducible rfl
              rotate_left
              · simp only [Act.put, List.setIfInBounds_toArray, List.set_cons_zero, List.set_cons_succ, i64_w, i32_w]
                rfl
              refine pure_ (i := 8) (N := some 65) (v := ?_) (a' := ?_) #[true, true, true, true, false, true, true, true, true, false, false, false, false, false, false, false, false, false, false, false, false, false, false, false] rfl rfl (by kernel_rfl) (fun _ _ _ h => h) (Or.inl ⟨by rfl, ?_⟩) ?_ ?_
              rotate_left
              · intro w'
                go_simp
                with_reducible rfl
              rotate_left
              · simp only [Act.put, List.setIfInBounds_toArray, List.set_cons_zero, List.set_cons_succ, i64_w, i32_w]
                rfl
              refine take_ (i := 4) (N := some 61) (v := ?_) (a' := ?_) #[true, true, true, true, true, true, true, true, true, false, false, false, false, false, false, false, false, false, false, false, false, false, false, false] rfl rfl (by kernel_rfl) (fun _ _ _ h => h) (Or.inl ⟨by rfl, ?_⟩) hHeld ?_ ?_
              rotate_left
              · rintro w' ⟨s0, s1, s2, s3⟩
                go_simp
                with_reducible rfl
              rotate_left
              · simp only [Act.put, List.setIfInBounds_toArray, List.set_cons_zero, List.set_cons_succ, i64_w, i32_w]
                rfl
              refine take_ (i := 9) (N := some 66) (v := ?_) (a' := ?_) #[true, true, true, true, true, true, true, true, true, true, false, false, false, false, false, false, false, false, false, false, false, false, false, false] rfl rfl (by kernel_rfl) (fun _ _ _ h => h) (Or.inl ⟨by rfl, ?_⟩) hHeld ?_ ?_
              rotate_left
              · rintro w' ⟨s0, s1, s2, s3⟩
                go_simp
                with_reducible rfl
              rotate_left
              · simp only [Act.put, List.setIfInBounds_toArray, List.set_cons_zero, List.set_cons_succ, i64_w, i32_w]
                rfl
              refine pure_ (i := 10) (N := some 67) (v := ?_) (a' := ?_) #[true, true, true, true, true, true, true, true, true, true, true, false, false, false, false, false, false, false, false, false, false, false, false, false] rfl rfl (by kernel_rfl) (fun _ _ _ h => h) (Or.inl ⟨by rfl, ?_⟩) ?_ ?_
              rotate_left
              · intro w'
                go_simp
                with_reducible rfl
              rotate_left
              · simp only [Act.put, List.setIfInBounds_toArray, List.set_cons_zero, List.set_cons_succ, i64_w, i32_w]
                rfl
              refine pure_ (i := 11) (N := some 68) (v := ?_) (a' := ?_) #[true, true, true, true, true, true, true, true, true, true, true, true, false, false, false, false, false, false, false, false, false, false, false, false] rfl rfl (by kernel_rfl) (fun _ _ _ h => h) (Or.inl ⟨by rfl, ?_⟩) ?_ ?_
              rotate_left
              · intro w'
                go_simp
                with_reducible rfl
              rotate_left
              · simp only [Act.put, List.setIfInBounds_toArray, List.set_cons_zero, List.set_cons_succ, i64_w, i32_w]
                rfl
              refine pure_ (i := 12) (N := some 69) (v := undef) (a' := ?_) #[true, true, true, true, true, true, true, true, true, true, true, true, true, false, false, false, false, false, false, false, false, false, false, false] rfl rfl (by kernel_rfl) (fun _ _ _ h => h) (Or.inr ⟨by rfl, rfl⟩) ?_ ?_
              rotate_left
              · simp only [Act.put, List.setIfInBounds_toArray, List.set_cons_zero, List.set_cons_succ, i64_w, i32_w]
                rfl
              refine pure_ (i := 13) (N := some 70) (v := undef) (a' := ?_) #[true, true, true, true, true, true, true, true, true, true, true, true, true, true, false, false, false, false, false, false, false, false, false, false] rfl rfl (by kernel_rfl) (fun _ _ _ h => h) (Or.inr ⟨by rfl, rfl⟩) ?_ ?_
              rotate_left
              · simp only [Act.put, List.setIfInBounds_toArray, List.set_cons_zero, List.set_cons_succ, i64_w, i32_w]
                rfl
              refine pure_ (i := 14) (N := some 71) (v := undef) (a' := ?_) #[true, true, true, true, true, true, true, true, true, true, true, true, true, true, true, false, false, false, false, false, false, false, false, false] rfl rfl (by kernel_rfl) (fun _ _ _ h => h) (Or.inr ⟨by rfl, rfl⟩) ?_ ?_
              rotate_left
              · simp only [Act.put, List.setIfInBounds_toArray, List.set_cons_zero, List.set_cons_succ, i64_w, i32_w]
                rfl
              refine pure_ (i := 15) (N := some 72) (v := undef) (a' := ?_) #[true, true, true, true, true, true, true, true, true, true, true, true, true, true, true, true, false, false, false, false, false, false, false, false] rfl rfl (by kernel_rfl) (fun _ _ _ h => h) (Or.inr ⟨by rfl, rfl⟩) ?_ ?_
              rotate_left
              · simp only [Act.put, List.setIfInBounds_toArray, List.set_cons_zero, List.set_cons_succ, i64_w, i32_w]
                rfl
              refine pure_ (i := 16) (N := some 73) (v := undef) (a' := ?_) #[true, true, true, true, true, true, true, true, true, true, true, true, true, true, true, true, true, false, false, false, false, false, false, false] rfl rfl (by kernel_rfl) (fun _ _ _ h => h) (Or.inr ⟨by rfl, rfl⟩) ?_ ?_
              rotate_left
              · simp only [Act.put, List.setIfInBounds_toArray, List.set_cons_zero, List.set_cons_succ, i64_w, i32_w]
                rfl
              refine pure_ (i := 17) (N := some 74) (v := undef) (a' := ?_) #[true, true, true, true, true, true, true, true, true, true, true, true, true, true, true, true, true, true, false, false, false, false, false, false] rfl rfl (by kernel_rfl) (fun _ _ _ h => h) (Or.inr ⟨by rfl, rfl⟩) ?_ ?_
              rotate_left
              · simp only [Act.put, List.setIfInBounds_toArray, List.set_cons_zero, List.set_cons_succ, i64_w, i32_w]
                rfl
              refine pure_ (i := 18) (N := some 75) (v := undef) (a' := ?_) #[true, true, true, true, true, true, true, true, true, true, true, true, true, true, true, true, true, true, true, false, false, false, false, false] rfl rfl (by kernel_rfl) (fun _ _ _ h => h) (Or.inr ⟨by rfl, rfl⟩) ?_ ?_
              rotate_left
              · simp only [Act.put, List.setIfInBounds_toArray, List.set_cons_zero, List.set_cons_succ, i64_w, i32_w]
                rfl
              refine pure_ (i := 19) (N := some 76) (v := undef) (a' := ?_) #[true, true, true, true, true, true, true, true, true, true, true, true, true, true, true, true, true, true, true, true, false, false, false, false] rfl rfl (by kernel_rfl) (fun _ _ _ h => h) (Or.inr ⟨by rfl, rfl⟩) ?_ ?_
              rotate_left
              · simp only [Act.put, List.setIfInBounds_toArray, List.set_cons_zero, List.set_cons_succ, i64_w, i32_w]
                rfl
              refine pure_ (i := 20) (N := some 77) (v := undef) (a' := ?_) #[true, true, true, true, true, true, true, true, true, true, true, true, true, true, true, true, true, true, true, true, true, false, false, false] rfl rfl (by kernel_rfl) (fun _ _ _ h => h) (Or.inr ⟨by rfl, rfl⟩) ?_ ?_
              rotate_left
              · simp only [Act.put, List.setIfInBounds_toArray, List.set_cons_zero, List.set_cons_succ, i64_w, i32_w]
                rfl
              refine pure_ (i := 21) (N := some 78) (v := undef) (a' := ?_) #[true, true, true, true, true, true, true, true, true, true, true, true, true, true, true, true, true, true, true, true, true, true, false, false] rfl rfl (by kernel_rfl) (fun _ _ _ h => h) (Or.inr ⟨by rfl, rfl⟩) ?_ ?_
              rotate_left
              · simp only [Act.put, List.setIfInBounds_toArray, List.set_cons_zero, List.set_cons_succ, i64_w, i32_w]
                rfl
              refine pure_ (i := 22) (N := some 79) (v := undef) (a' := ?_) #[true, true, true, true, true, true, true, true, true, true, true, true, true, true, true, true, true, true, true, true, true, true, true, false] rfl rfl (by kernel_rfl) (fun _ _ _ h => h) (Or.inr ⟨by rfl, rfl⟩) ?_ ?_
              rotate_left
              · simp only [Act.put, List.setIfInBounds_toArray, List.set_cons_zero, List.set_cons_succ, i64_w, i32_w]
                rfl
              refine pure_ (i := 23) (N := some 80) (v := ?_) (a' := ?_) #[true, true, true, true, true, true, true, true, true, true, true, true, true, true, true, true, true, true, true, true, true, true, true, true] rfl rfl (by kernel_rfl) (fun _ _ _ h => h) (Or.inl ⟨by rfl, ?_⟩) ?_ ?_
              rotate_left
              · intro w'
                go_simp
                with_reducible rfl
              rotate_left
              · simp only [Act.put, List.setIfInBounds_toArray, List.set_cons_zero, List.set_cons_succ, i64_w, i32_w]
                rfl
              refine done_ (by kernel_rfl) ?_
              go_wp2
              go_roundw
              case rel => exact ⟨j + 1, by omega, by go_num, ⟨fun i hi => by
                  by_cases c : i = j
                  · subst c; rw [HXy]; exact fun h => E1.out h.1
                  · exact HQ.out i (by omega)⟩, S_wr_1, B_wr_1⟩
              case measure => simp [intOf]; omega
          · obtain rfl : j = k := by omega
            have hjk2 : ¬ (j : Int) < (j : Int) := by omega
            have x0_wr := pw_cell_below B_wr.out x0
            have x1_wr := pw_cell_below B_wr.out x1
            have x2_wr := pw_cell_below B_wr.out x2
            have x3_wr := pw_cell_below B_wr.out x3
            have x4_wr := pw_cell_below B_wr.out x4
            have x5_wr := pw_cell_below B_wr.out x5
            have x6_wr := pw_cell_below B_wr.out x6
            have x7_wr := pw_cell_below B_wr.out x7
            have x8_wr := pw_cell_below B_wr.out x8
            have x9_wr := pw_cell_below B_wr.out x9
            obtain ⟨kk, hkk⟩ : ∃ kk, mesg_Check.f s q kn kd ep it is rt rs ru = some kk := ⟨_, rfl⟩
            have HI2 := Aside0.mk (Inv.step HI.out j HX kk hkk)
            obtain ⟨r, hr⟩ : ∃ r, moveE n D kk s q kn kd = r := ⟨_, rfl⟩
            obtain ⟨D2, hD2⟩ : ∃ D2, moveD n D kk s q kn kd ep it is rt rs ru = D2 := ⟨_, rfl⟩
            have HK := Aside0.mk hkk
            have HE := Aside0.mk hr
            have HD2 := Aside0.mk hD2
            have HC := Aside0.mk hc
            have HXX := Aside0.mk HX
            clear hkk hr hD2 hc HX
            go_wp2_with (first | (go_at_call 28; (with_reducible refine (where_move_at _ (Sep.front [WA gw n (fun _ _ => 0)] [] S_wr.out) B_wr.out.size hs2 s q A2 c2 kn.length kn kd ep it is rt rs ru (Kd.C_below HC.out B_wr.out) hl kk HK.out (fun h => check_zero (by rw [← h]; exact HK.out)) r D2 HE.out HD2.out).mono ?_); rintro e wr_1 ⟨rfl, hS, hb⟩; have B_wr_1 : Aside0 (Below (w.heap.size) w wr_1) := ⟨(Below.trans B_wr.out hb)⟩; have S_wr_1 : Aside0 (Sep (w.heap.size) (Stars [WA gw n (fun _ _ => 0), WA gv n D2]) wr_1) := ⟨Sep.back [WA gw n (fun _ _ => 0)] [] hS⟩; have x0_wr_1 := pw_cell_below B_wr_1.out x0; have x1_wr_1 := pw_cell_below B_wr_1.out x1; have x2_wr_1 := pw_cell_below B_wr_1.out x2; have x3_wr_1 := pw_cell_below B_wr_1.out x3; have x4_wr_1 := pw_cell_below B_wr_1.out x4; have x5_wr_1 := pw_cell_below B_wr_1.out x5; have x6_wr_1 := pw_cell_below B_wr_1.out x6; have x7_wr_1 := pw_cell_below B_wr_1.out x7; have x8_wr_1 := pw_cell_below B_wr_1.out x8; have x9_wr_1 := pw_cell_below B_wr_1.out x9; clear S_wr x0_wr x1_wr x2_wr x3_wr x4_wr x5_wr x6_wr x7_wr x8_wr x9_wr; clear hS hb))
            go_roundw
            case rel => exact ⟨j + 1, D2, by omega, by go_num, ⟨fun i i' hi hi' hne => by
                by_cases c : i = j
                · subst c; rw [HXX.out]; intro h; exact HQ.out i' (by omega) ⟨h.1.symm, h.2.symm⟩
                · by_cases c' : i' = j
                  · subst c'; rw [HXX.out]; exact HQ.out i (by omega)
                  · exact HD.out i i' (by omega) (by omega) hne⟩, ⟨by
                have := HI2.out
                rw [HD2.out] at this
                exact this.congr (fun i => by omega)⟩, S_wr_1, B_wr_1⟩
            case measure => simp [intOf]; omega
      · obtain rfl : k = l0.length := by omega
        have hlt2 : ¬ (l0.length : Int) < (l0.length : Int) := by omega
        go_wp2
        obtain ⟨wp, hwp⟩ : ∃ wp : World, wp = wr := ⟨_, rfl⟩
        subst hwp
        go_loopw [13] (fun i wr => ∃ (k : Nat) (D' : Int → Nat → Int), k ≤ l0.length ∧ i = .int .i64 ((k : Int) - 1) ∧ Aside0 (Inv n l0 (fun i => k ≤ i ∧ i < l0.length) D') ∧ Aside0 (Sep w.heap.size (Stars [WA gw n D', WA gv n D]) wr) ∧ Aside0 (Below w.heap.size w wr)) (fun i _ => (intOf i + 1).toNat)
        case atStart => exact ⟨l0.length, (fun _ _ => 0), by omega, by go_num, ⟨Inv.none _ _ _ (fun i hi => by omega)⟩, S_wo, B_wo⟩
        case round =>
          clear S_wo B_wo
          obtain ⟨k, D', hk, rfl, HJ, S_wr, B_wr⟩ := hrel
          by_cases hk0 : 0 < k
          · obtain ⟨k, rfl⟩ : ∃ q, k = q + 1 := ⟨k - 1, by omega⟩
            have hlt : k < l0.length := by omega
            have hlt2 : (k : Int) < (l0.length : Int) := by omega
            have ek : ((k + 1 : Nat) : Int) - 1 = (k : Int) := by omega
            rw [ek]
            obtain ⟨ad, A2, c2, s, q, kn, kd, ep, it, is, rt, rs, ru, had, HX, x0, x1, x2, x3, x4, x5, x6, x7, x8, x9, hl, hc⟩ := at_msg HR.out k hlt
            subst had
            have x0_wr := pw_cell_below B_wr.out x0
            have x1_wr := pw_cell_below B_wr.out x1
            have x2_wr := pw_cell_below B_wr.out x2
            have x3_wr := pw_cell_below B_wr.out x3
            have x4_wr := pw_cell_below B_wr.out x4
            have x5_wr := pw_cell_below B_wr.out x5
            have x6_wr := pw_cell_below B_wr.out x6
            have x7_wr := pw_cell_below B_wr.out x7
            have x8_wr := pw_cell_below B_wr.out x8
            have x9_wr := pw_cell_below B_wr.out x9
            obtain ⟨kk, hkk⟩ : ∃ kk, mesg_Check.f s q kn kd ep it is rt rs ru = some kk := ⟨_, rfl⟩
            have HI2 := Aside0.mk (Inv.step HJ.out k HX kk hkk)
            obtain ⟨r, hr⟩ : ∃ r, moveE n D' kk s q kn kd = r := ⟨_, rfl⟩
            obtain ⟨D2, hD2⟩ : ∃ D2, moveD n D' kk s q kn kd ep it is rt rs ru = D2 := ⟨_, rfl⟩
            have HK := Aside0.mk hkk
            have HE := Aside0.mk hr
            have HD2 := Aside0.mk hD2
            have HC := Aside0.mk hc
            clear hkk hr hD2 hc HX ek
            go_wp2_with (first | (go_at_call 28; (with_reducible refine (where_move_at _ (Sep.front [] [WA gv n D] S_wr.out) B_wr.out.size hs2 s q A2 c2 kn.length kn kd ep it is rt rs ru (Kd.C_below HC.out B_wr.out) hl kk HK.out (fun h => check_zero (by rw [← h]; exact HK.out)) r D2 HE.out HD2.out).mono ?_); rintro e wr_1 ⟨rfl, hS, hb⟩; have B_wr_1 : Aside0 (Below (w.heap.size) w wr_1) := ⟨(Below.trans B_wr.out hb)⟩; have S_wr_1 : Aside0 (Sep (w.heap.size) (Stars [WA gw n D2, WA gv n D]) wr_1) := ⟨Sep.back [] [WA gv n D] hS⟩; have x0_wr_1 := pw_cell_below B_wr_1.out x0; have x1_wr_1 := pw_cell_below B_wr_1.out x1; have x2_wr_1 := pw_cell_below B_wr_1.out x2; have x3_wr_1 := pw_cell_below B_wr_1.out x3; have x4_wr_1 := pw_cell_below B_wr_1.out x4; have x5_wr_1 := pw_cell_below B_wr_1.out x5; have x6_wr_1 := pw_cell_below B_wr_1.out x6; have x7_wr_1 := pw_cell_below B_wr_1.out x7; have x8_wr_1 := pw_cell_below B_wr_1.out x8; have x9_wr_1 := pw_cell_below B_wr_1.out x9; clear S_wr x0_wr x1_wr x2_wr x3_wr x4_wr x5_wr x6_wr x7_wr x8_wr x9_wr; clear hS hb))
            go_roundw
            case rel => exact ⟨k, D2, by omega, by go_num, ⟨by
                have := HI2.out
                rw [HD2.out] at this
                exact this.congr (fun i => by omega)⟩, S_wr_1, B_wr_1⟩
            case measure => simp [intOf] <;> omega
          · obtain rfl : k = 0 := by omega
            have HS : Aside0 (∀ s e : Int, atV n D s e = atV n D' s e) := ⟨fun s e => Inv.same HI.out (HJ.out.congr (fun i => by omega)) (fun i i' hi hi' => HD.out i i' hi hi') s e⟩
            go_wp2
            obtain ⟨wq, hwq⟩ : ∃ wq : World, wq = wr := ⟨_, rfl⟩
            subst hwq
            go_loopw [14] (fun i wr => ∃ k : Nat, (k : Int) ≤ n ∧ i = .int .i64 k ∧ Aside0 (Sep w.heap.size (Stars [WA gw n D', WA gv n D]) wr) ∧ Aside0 (Below w.heap.size w wr)) (fun i _ => (n - intOf i).toNat)
            case atStart => exact ⟨0, by omega, rfl, S_wr, B_wr⟩
            case round =>
              clear S_wr B_wr
              obtain ⟨k, hk, rfl, S_wr, B_wr⟩ := hrel
              by_cases hkn : (k : Int) < n
              · obtain ⟨r0, r1, b, hat⟩ : ∃ r0 r1 b, atV n D (k : Int) e = (r0, r1, b) := ⟨_, _, _, rfl⟩
                have HA := Aside0.mk hat
                have HA2 := Aside0.mk ((HS.out (k : Int) e).symm.trans hat)
                clear hat
                have b0 : (b != b) = false := by simp
                go_wp2_with (first | (go_at_call 30; (with_reducible refine (where_at _ (k : Int) e hs2 (Sep.front [WA gw n D'] [] S_wr.out) (r0, r1, b) HA.out).mono ?_); rintro e wr_1 ⟨rfl, hb⟩; have B_wr_1 : Aside0 (Below (w.heap.size) w wr_1) := ⟨below_then B_wr.out B_wr.out.size hb⟩; have S_wr_1 : Aside0 (Sep (w.heap.size) (Stars [WA gw n D', WA gv n D]) wr_1) := ⟨Sep.below S_wr.out hb⟩; clear S_wr; clear hb) | ((with_reducible refine gate_dst (N := 15) rfl ?_); (try (refine gate_guard (by rfl) ?_; dsimp only)); refine box_event ?hg (N := 15) ?hd (cs := #[.int .i64 0, .int .i64 0]) (t := 52) ?hr ?_; (case hd => rfl); (case hg => rfl); (case hr => first | (go_simp; done) | (go_simp; rfl)); intro gx hg_gx wr_2 hX hb; have B_wr_2 : Aside0 (Below (w.heap.size) w wr_2) := ⟨below_then B_wr_1.out B_wr_1.out.size hb⟩; have S_wr_2 : Aside0 (Sep (w.heap.size) (Stars [Blk gx #[.int .i64 0, .int .i64 0] 52, WA gw n D', WA gv n D]) wr_2) := ⟨Sep.new_blk S_wr_1.out B_wr_1.out.size hg_gx hb hX⟩; obtain ⟨c_gx_0_wr_2, c_gx_1_wr_2⟩ := XW.cells2 (Sep.front [] [WA gw n D', WA gv n D] S_wr_2.out).blk; obtain ⟨z_gx_0_wr_2, z_gx_1_wr_2⟩ := XW.froz2 (Sep.front [] [WA gw n D', WA gv n D] S_wr_2.out).blk; clear S_wr_1; clear hX hb hg_gx) | ((with_reducible refine gate_store (t := 52) (p := 15) rfl ?_); go_must (refine store_event (t := 52) (p := 15) (v := ?vo_1) (w1 := ((wr_2.setCell ⟨gx, 0, none⟩ (.int .i64 r0)).setCell ⟨gx, 1, none⟩ (.int .i64 r1))) ?hg ?ho ?hn ?hr ?_; (case ho => rfl); (case hg => rfl); (case hn => rfl); (case hr => first | (go_simp; done) | (go_simp; rfl)); intro wr_3 hw; have B_wr_3 : Aside0 (Below (w.heap.size) w wr_3) := ⟨by rw [hw]; exact (Below.setCell (Below.setCell B_wr_2.out ((Sep.front [] [WA gw n D', WA gv n D] S_wr_2.out).blk_le) _) ((Sep.front [] [WA gw n D', WA gv n D] S_wr_2.out).blk_le) _)⟩; have S_wr_3 : Aside0 (Sep (w.heap.size) (Stars [Blk gx #[.int .i64 r0, .int .i64 r1] 52, WA gw n D', WA gv n D]) wr_3) := ⟨by rw [hw]; exact Sep.back [] [WA gw n D', WA gv n D] (Sep.store (Sep.store (Sep.front [] [WA gw n D', WA gv n D] S_wr_2.out) B_wr_2.out.size 0 (.int .i64 r0) (cs' := #[.int .i64 r0, .int .i64 0]) rfl) (Sep.size_store B_wr_2.out.size) 1 (.int .i64 r1) (cs' := #[.int .i64 r0, .int .i64 r1]) rfl)⟩; obtain ⟨c_gx_0_wr_3, c_gx_1_wr_3⟩ := XW.cells2 (Sep.front [] [WA gw n D', WA gv n D] S_wr_3.out).blk; obtain ⟨z_gx_0_wr_3, z_gx_1_wr_3⟩ := XW.froz2 (Sep.front [] [WA gw n D', WA gv n D] S_wr_3.out).blk; clear S_wr_2 c_gx_0_wr_2 c_gx_1_wr_2 z_gx_0_wr_2 z_gx_1_wr_2; clear hw)) | (go_at_call 30; (with_reducible refine (where_at _ (k : Int) e hs2 (Sep.front [Blk gx #[.int .i64 r0, .int .i64 r1] 52] [WA gv n D] S_wr_3.out) (r0, r1, b) HA2.out).mono ?_); rintro e wr_4 ⟨rfl, hb⟩; have B_wr_4 : Aside0 (Below (w.heap.size) w wr_4) := ⟨below_then B_wr_3.out B_wr_3.out.size hb⟩; have S_wr_4 : Aside0 (Sep (w.heap.size) (Stars [Blk gx #[.int .i64 r0, .int .i64 r1] 52, WA gw n D', WA gv n D]) wr_4) := ⟨Sep.below S_wr_3.out hb⟩; obtain ⟨c_gx_0_wr_4, c_gx_1_wr_4⟩ := XW.cells2 (Sep.front [] [WA gw n D', WA gv n D] S_wr_4.out).blk; obtain ⟨z_gx_0_wr_4, z_gx_1_wr_4⟩ := XW.froz2 (Sep.front [] [WA gw n D', WA gv n D] S_wr_4.out).blk; clear S_wr_3 c_gx_0_wr_3 c_gx_1_wr_3 z_gx_0_wr_3 z_gx_1_wr_3; clear hb) | ((with_reducible refine gate_dst (N := 17) rfl ?_); (try (refine gate_guard (by rfl) ?_; dsimp only)); refine box_event ?hg (N := 17) ?hd (cs := #[.int .i64 0, .int .i64 0]) (t := 52) ?hr ?_; (case hd => rfl); (case hg => rfl); (case hr => first | (go_simp; done) | (go_simp; rfl)); intro gy hg_gy wr_5 hX hb; have B_wr_5 : Aside0 (Below (w.heap.size) w wr_5) := ⟨below_then B_wr_4.out B_wr_4.out.size hb⟩; have S_wr_5 : Aside0 (Sep (w.heap.size) (Stars [Blk gy #[.int .i64 0, .int .i64 0] 52, Blk gx #[.int .i64 r0, .int .i64 r1] 52, WA gw n D', WA gv n D]) wr_5) := ⟨Sep.new_blk S_wr_4.out B_wr_4.out.size hg_gy hb hX⟩; obtain ⟨c_gy_0_wr_5, c_gy_1_wr_5⟩ := XW.cells2 (Sep.front [] [Blk gx #[.int .i64 r0, .int .i64 r1] 52, WA gw n D', WA gv n D] S_wr_5.out).blk; obtain ⟨z_gy_0_wr_5, z_gy_1_wr_5⟩ := XW.froz2 (Sep.front [] [Blk gx #[.int .i64 r0, .int .i64 r1] 52, WA gw n D', WA gv n D] S_wr_5.out).blk; obtain ⟨c_gx_0_wr_5, c_gx_1_wr_5⟩ := XW.cells2 (Sep.front [Blk gy #[.int .i64 0, .int .i64 0] 52] [WA gw n D', WA gv n D] S_wr_5.out).blk; obtain ⟨z_gx_0_wr_5, z_gx_1_wr_5⟩ := XW.froz2 (Sep.front [Blk gy #[.int .i64 0, .int .i64 0] 52] [WA gw n D', WA gv n D] S_wr_5.out).blk; clear S_wr_4 c_gx_0_wr_4 c_gx_1_wr_4 z_gx_0_wr_4 z_gx_1_wr_4; clear hX hb hg_gy) | ((with_reducible refine gate_store (t := 52) (p := 17) rfl ?_); go_must (refine store_event (t := 52) (p := 17) (v := ?vo_2) (w1 := ((wr_5.setCell ⟨gy, 0, none⟩ (.int .i64 r0)).setCell ⟨gy, 1, none⟩ (.int .i64 r1))) ?hg ?ho ?hn ?hr ?_; (case ho => rfl); (case hg => rfl); (case hn => rfl); (case hr => first | (go_simp; done) | (go_simp; rfl)); intro wr_6 hw; have B_wr_6 : Aside0 (Below (w.heap.size) w wr_6) := ⟨by rw [hw]; exact (Below.setCell (Below.setCell B_wr_5.out ((Sep.front [] [Blk gx #[.int .i64 r0, .int .i64 r1] 52, WA gw n D', WA gv n D] S_wr_5.out).blk_le) _) ((Sep.front [] [Blk gx #[.int .i64 r0, .int .i64 r1] 52, WA gw n D', WA gv n D] S_wr_5.out).blk_le) _)⟩; have S_wr_6 : Aside0 (Sep (w.heap.size) (Stars [Blk gy #[.int .i64 r0, .int .i64 r1] 52, Blk gx #[.int .i64 r0, .int .i64 r1] 52, WA gw n D', WA gv n D]) wr_6) := ⟨by rw [hw]; exact Sep.back [] [Blk gx #[.int .i64 r0, .int .i64 r1] 52, WA gw n D', WA gv n D] (Sep.store (Sep.store (Sep.front [] [Blk gx #[.int .i64 r0, .int .i64 r1] 52, WA gw n D', WA gv n D] S_wr_5.out) B_wr_5.out.size 0 (.int .i64 r0) (cs' := #[.int .i64 r0, .int .i64 0]) rfl) (Sep.size_store B_wr_5.out.size) 1 (.int .i64 r1) (cs' := #[.int .i64 r0, .int .i64 r1]) rfl)⟩; obtain ⟨c_gy_0_wr_6, c_gy_1_wr_6⟩ := XW.cells2 (Sep.front [] [Blk gx #[.int .i64 r0, .int .i64 r1] 52, WA gw n D', WA gv n D] S_wr_6.out).blk; obtain ⟨z_gy_0_wr_6, z_gy_1_wr_6⟩ := XW.froz2 (Sep.front [] [Blk gx #[.int .i64 r0, .int .i64 r1] 52, WA gw n D', WA gv n D] S_wr_6.out).blk; obtain ⟨c_gx_0_wr_6, c_gx_1_wr_6⟩ := XW.cells2 (Sep.front [Blk gy #[.int .i64 r0, .int .i64 r1] 52] [WA gw n D', WA gv n D] S_wr_6.out).blk; obtain ⟨z_gx_0_wr_6, z_gx_1_wr_6⟩ := XW.froz2 (Sep.front [Blk gy #[.int .i64 r0, .int .i64 r1] 52] [WA gw n D', WA gv n D] S_wr_6.out).blk; clear S_wr_5 c_gy_0_wr_5 c_gy_1_wr_5 z_gy_0_wr_5 z_gy_1_wr_5 c_gx_0_wr_5 c_gx_1_wr_5 z_gx_0_wr_5 z_gx_1_wr_5; clear hw)))
                go_roundw
                case rel => first | exact ⟨k + 1, by omega, by go_num, ⟨Sep.right (Sep.right S_wr_6.out)⟩, B_wr_6⟩ | ((repeat apply Exists.intro); exact ⟨⟨k + 1, by omega, by go_num, ⟨Sep.right (Sep.right S_wr_6.out)⟩, B_wr_6⟩, rfl⟩)
                case measure => simp [intOf]; omega
              · go_wp2_with (go_at_call 16; (with_reducible refine (live _).mono ?_); rintro e2 w_l ⟨rfl, hb⟩; have HBl := Aside0.mk hb; clear hb)
                go_ret
                exact ⟨rfl, below_then B_wr.out B_wr.out.size HBl.out⟩
end Go.Proofs.Ytiplkmmppihilaa.PastA
