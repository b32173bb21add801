/- The law PastWhere, walked. Conditions: none beyond those that each theorem states. -/
import Derived.Test.YtiplkmmppihilaaPastT
import Derived.Test.YtiplkmmppihilaaPastS
namespace Go.Proofs.Ytiplkmmppihilaa.PastA
open Go.RowKit Go.Proofs.YtiplkmmppihilaaW.PrintWords Go.Proofs.YtiplkmmppihilaaW.PrintLast Go.Proofs.YtiplkmmppihilaaW.PrintMore Go.Proofs.Ytiplkmmppihilaa.XS Go.Proofs.Ytiplkmmppihilaa.PPast
set_option linter.unusedVariables false
set_option linter.unusedSimpArgs false
theorem rd_drop (l : List Int) (j : Nat) (h : j < l.length) : l.drop j = rd l (j : Int) :: l.drop (j + 1) := by
  rw [List.drop_eq_getElem_cons h]
  simp [rd, List.getD_eq_getElem?_getD, List.getElem?_eq_getElem h]
theorem same_loop (a b : List Int) (h : a.length = b.length) (hb : a.length ≤ 140737488351232) : ∀ (d j K : Nat), j + d = a.length → d < K → duetref01_Same.l0 K a b j = some (decide (a.drop j = b.drop j)) := by
  intro d
  induction d with
  | zero =>
    intro j K hj hK
    obtain ⟨K, rfl⟩ : ∃ q, K = q + 1 := ⟨K - 1, by omega⟩
    simp only [duetref01_Same.l0]
    rw [if_neg (by omega), List.drop_eq_nil_of_le (by omega), List.drop_eq_nil_of_le (by omega)]
    rfl
  | succ d ih =>
    intro j K hj hK
    obtain ⟨K, rfl⟩ : ∃ q, K = q + 1 := ⟨K - 1, by omega⟩
    simp only [duetref01_Same.l0]
    rw [if_pos (by omega), if_pos (by omega), if_pos (by omega), rd_drop a j (by omega), rd_drop b j (by omega)]
    by_cases c : rd a j = rd b j
    · rw [if_pos c, show wrap64 ((j : Int) + 1) = ((j + 1 : Nat) : Int) by unfold wrap64; omega, ih (j + 1) K (by omega) (by omega)]
      congr 1
      simp [c]
    · rw [if_neg c]
      congr 1
      simp [c]
theorem same_is (a b : List Int) (K : Nat) (hb : a.length ≤ 140737488351232) (hK : a.length < K) : duetref01_Same.f K a b = some (decide (a = b)) := by
  unfold duetref01_Same.f
  by_cases c : (a.length : Int) = (b.length : Int)
  · rw [if_pos c]
    exact same_loop a b (by omega) hb a.length 0 K (by omega) hK
  · rw [if_neg c, decide_eq_false]
    intro h; rw [h] at c; exact c rfl
set_option maxHeartbeats 8000000 in
set_option maxRecDepth 100000 in
theorem pastWhere (n s0 e : Int) (A0 : Option Addr) (c0 : Nat) (l0 : List S56) (w : World) (hr0 : Kd.C k56 w A0 l0.length l0) (hc0 : l0.length ≤ c0) (hn : l0.length ≤ 9223372036854775807) :
    Calls Try.prog 5 #[.agg #[.int .i64 n, .slice A0 l0.length c0, .int .i64 s0, .int .i64 e]] w fun en w' => en = .returned (.bool true) ∧ Below w.heap.size w w' := by
  have HR := Aside0.mk hr0
  clear hr0
  have hu41 := Try.underlying41
  have hu44 := Try.underlying44
  have hu47 := Try.underlying47
  have hu52 := Try.underlying52
  have hu54 := Try.underlying54
  have hu56 := Try.underlying56
  have hu57 := Try.underlying57
  have B_w := Aside0.mk (Below.refl w.heap.size w)
  have S_w : Aside0 (Sep w.heap.size (Stars []) w) := ⟨Sep.emp _ _⟩
  obtain ⟨fw, hfw⟩ := few_some l0 hn
  have HF := Aside0.mk hfw
  go_enter Try.func5, Try.ntmps5
  go_upto_region 1 with (first | ((with_reducible refine gate_dst (N := 1) rfl ?_); (try (refine gate_guard (by rfl) ?_; dsimp only)); refine box_event ?hg (N := 1) ?hd (cs := #[.int .i64 n, .slice A0 l0.length c0, .int .i64 s0, .int .i64 e]) (t := 41) ?hr ?_; (case hd => rfl); (case hg => rfl); (case hr => first | (go_simp; done) | (go_simp; rfl)); intro gc hg_gc w_1 hX hb; have B_w_1 : Aside0 (Below (w.heap.size) w w_1) := ⟨below_then B_w.out B_w.out.size hb⟩; have S_w_1 : Aside0 (Sep (w.heap.size) (Stars [Blk gc #[.int .i64 n, .slice A0 l0.length c0, .int .i64 s0, .int .i64 e] 41]) w_1) := ⟨Sep.new_blk S_w.out B_w.out.size hg_gc hb hX⟩; have Q_w_1 : Aside0 (Below w.heap.size w w_1) := ⟨hb⟩; obtain ⟨c_gc_0_w_1, c_gc_1_w_1, c_gc_2_w_1, c_gc_3_w_1⟩ := XW.cells4 (Sep.front [] [] S_w_1.out).blk; obtain ⟨z_gc_0_w_1, z_gc_1_w_1, z_gc_2_w_1, z_gc_3_w_1⟩ := XW.froz4 (Sep.front [] [] S_w_1.out).blk; clear S_w; clear hX hb hg_gc))
  refine start_ (n := 12) (S := fun w' => w'.cell? ⟨gc, 0, none⟩ = some (.int .i64 n) ∧ w'.cell? ⟨gc, 1, none⟩ = some (.slice A0 l0.length c0) ∧ w'.cell? ⟨gc, 2, none⟩ = some (.int .i64 s0) ∧ w'.cell? ⟨gc, 3, none⟩ = some (.int .i64 e)) (ds := []) #[false, false, false, false, false, false, false, false, false, false, false, false] (by kernel_rfl) rfl rfl ⟨c_gc_0_w_1, c_gc_1_w_1, c_gc_2_w_1, c_gc_3_w_1⟩ (fun hHeld => ?_)
  generalize hdw : w_1.drew = w_2 at hHeld ⊢
  have HB_w_2 : Aside0 (Below w_1.heap.size w_1 w_2) := ⟨by rw [← hdw]; exact below_drew1 (Below.refl _ _)⟩
  clear hdw
  have B_w_2 : Aside0 (Below (w.heap.size) w w_2) := ⟨below_then B_w_1.out B_w_1.out.size HB_w_2.out⟩
  have S_w_2 : Aside0 (Sep (w.heap.size) (Stars [Blk gc #[.int .i64 n, .slice A0 l0.length c0, .int .i64 s0, .int .i64 e] 41]) w_2) := ⟨Sep.below S_w_1.out HB_w_2.out⟩
  have Q_w_2 : Aside0 (Below w.heap.size w w_2) := ⟨below_step Q_w_1.out HB_w_2.out⟩
  obtain ⟨c_gc_0_w_2, c_gc_1_w_2, c_gc_2_w_2, c_gc_3_w_2⟩ := XW.cells4 (Sep.front [] [] S_w_2.out).blk
  obtain ⟨z_gc_0_w_2, z_gc_1_w_2, z_gc_2_w_2, z_gc_3_w_2⟩ := XW.froz4 (Sep.front [] [] S_w_2.out).blk
  clear S_w_1 c_gc_0_w_1 c_gc_1_w_1 c_gc_2_w_1 c_gc_3_w_1 z_gc_0_w_1 z_gc_1_w_1 z_gc_2_w_1 z_gc_3_w_1
  refine pure_ (i := 0) (N := some 16) (v := ?_) (a' := ?_) #[true, false, false, false, false, false, false, false, false, false, false, false] rfl rfl (by kernel_rfl) (fun _ _ _ h => h) (Or.inl ⟨by rfl, ?_⟩) ?_ ?_
  rotate_left
  · intro w'
    go_simp
    with_reducible rfl
  rotate_left
  · simp only [Act.put, List.setIfInBounds_toArray, List.set_cons_zero, List.set_cons_succ, i64_w, i32_w]
    rfl
  refine pure_ (i := 2) (N := some 18) (v := ?_) (a' := ?_) #[true, false, true, false, false, false, false, false, false, false, false, false] rfl rfl (by kernel_rfl) (fun _ _ _ h => h) (Or.inl ⟨by rfl, ?_⟩) ?_ ?_
  rotate_left
  · intro w'
    go_simp
    with_reducible rfl
  rotate_left
  · simp only [Act.put, List.setIfInBounds_toArray, List.set_cons_zero, List.set_cons_succ, i64_w, i32_w]
    rfl
  refine pure_ (i := 4) (N := some 20) (v := ?_) (a' := ?_) #[true, false, true, false, true, false, false, false, false, false, false, false] rfl rfl (by kernel_rfl) (fun _ _ _ h => h) (Or.inl ⟨by rfl, ?_⟩) ?_ ?_
  rotate_left
  · intro w'
    go_simp
    with_reducible rfl
  rotate_left
  · simp only [Act.put, List.setIfInBounds_toArray, List.set_cons_zero, List.set_cons_succ, i64_w, i32_w]
    rfl
  refine pure_ (i := 6) (N := some 22) (v := ?_) (a' := ?_) #[true, false, true, false, true, false, true, false, false, false, false, false] rfl rfl (by kernel_rfl) (fun _ _ _ h => h) (Or.inl ⟨by rfl, ?_⟩) ?_ ?_
  rotate_left
  · intro w'
    go_simp
    with_reducible rfl
  rotate_left
  · simp only [Act.put, List.setIfInBounds_toArray, List.set_cons_zero, List.set_cons_succ, i64_w, i32_w]
    rfl
  refine take_ (i := 1) (N := some 17) (v := ?_) (a' := ?_) #[true, true, true, false, true, false, true, false, false, false, false, false] rfl rfl (by kernel_rfl) (fun _ _ _ h => h) (Or.inl ⟨by rfl, ?_⟩) hHeld ?_ ?_
  rotate_left
  · rintro w' ⟨s0, s1, s2, s3⟩
    go_simp
    with_reducible rfl
  rotate_left
  · simp only [Act.put, List.setIfInBounds_toArray, List.set_cons_zero, List.set_cons_succ, i64_w, i32_w]
    rfl
  refine pure_ (i := 8) (N := some 3) (v := ?_) (a' := ?_) #[true, true, true, false, true, false, true, false, true, false, false, false] rfl rfl (by kernel_rfl) (fun _ _ _ h => h) (Or.inl ⟨by rfl, ?_⟩) ?_ ?_
  rotate_left
  · intro w'
    go_simp
    with_reducible rfl
  rotate_left
  · simp only [Act.put, List.setIfInBounds_toArray, List.set_cons_zero, List.set_cons_succ, i64_w, i32_w]
    rfl
  refine take_ (i := 3) (N := some 19) (v := ?_) (a' := ?_) #[true, true, true, true, true, false, true, false, true, false, false, false] rfl rfl (by kernel_rfl) (fun _ _ _ h => h) (Or.inl ⟨by rfl, ?_⟩) hHeld ?_ ?_
  rotate_left
  · rintro w' ⟨s0, s1, s2, s3⟩
    go_simp
    with_reducible rfl
  rotate_left
  · simp only [Act.put, List.setIfInBounds_toArray, List.set_cons_zero, List.set_cons_succ, i64_w, i32_w]
    rfl
  refine pure_ (i := 9) (N := some 4) (v := ?_) (a' := ?_) #[true, true, true, true, true, false, true, false, true, true, false, false] rfl rfl (by kernel_rfl) (fun _ _ _ h => h) (Or.inl ⟨by rfl, ?_⟩) ?_ ?_
  rotate_left
  · intro w'
    go_simp
    with_reducible rfl
  rotate_left
  · simp only [Act.put, List.setIfInBounds_toArray, List.set_cons_zero, List.set_cons_succ, i64_w, i32_w]
    rfl
  refine take_ (i := 5) (N := some 21) (v := ?_) (a' := ?_) #[true, true, true, true, true, true, true, false, true, true, false, false] rfl rfl (by kernel_rfl) (fun _ _ _ h => h) (Or.inl ⟨by rfl, ?_⟩) hHeld ?_ ?_
  rotate_left
  · rintro w' ⟨s0, s1, s2, s3⟩
    go_simp
    with_reducible rfl
  rotate_left
  · simp only [Act.put, List.setIfInBounds_toArray, List.set_cons_zero, List.set_cons_succ, i64_w, i32_w]
    rfl
  refine pure_ (i := 10) (N := some 5) (v := ?_) (a' := ?_) #[true, true, true, true, true, true, true, false, true, true, true, false] rfl rfl (by kernel_rfl) (fun _ _ _ h => h) (Or.inl ⟨by rfl, ?_⟩) ?_ ?_
  rotate_left
  · intro w'
    go_simp
    with_reducible rfl
  rotate_left
  · simp only [Act.put, List.setIfInBounds_toArray, List.set_cons_zero, List.set_cons_succ, i64_w, i32_w]
    rfl
  refine take_ (i := 7) (N := some 23) (v := ?_) (a' := ?_) #[true, true, true, true, true, true, true, true, true, true, true, false] rfl rfl (by kernel_rfl) (fun _ _ _ h => h) (Or.inl ⟨by rfl, ?_⟩) hHeld ?_ ?_
  rotate_left
  · rintro w' ⟨s0, s1, s2, s3⟩
    go_simp
    with_reducible rfl
  rotate_left
  · simp only [Act.put, List.setIfInBounds_toArray, List.set_cons_zero, List.set_cons_succ, i64_w, i32_w]
    rfl
  refine pure_ (i := 11) (N := some 6) (v := ?_) (a' := ?_) #[true, true, true, true, true, true, true, true, true, true, true, true] rfl rfl (by kernel_rfl) (fun _ _ _ h => h) (Or.inl ⟨by rfl, ?_⟩) ?_ ?_
  rotate_left
  · intro w'
    go_simp
    with_reducible rfl
  rotate_left
  · simp only [Act.put, List.setIfInBounds_toArray, List.set_cons_zero, List.set_cons_succ, i64_w, i32_w]
    rfl
  refine done_ (by kernel_rfl) ?_
  cases fw with
  | false =>
    clear hfw
    go_wp2_with (first | (go_at_call 25; (with_reducible refine (duetref07_Few.calls (l0.length + 1) A0 c0 l0 false _ (Kd.C_below HR.out B_w_2.out) hc0 HF.out).mono ?_); rintro e w_3 ⟨rfl, hb0⟩; have hb := Aside0.mk hb0; clear hb0; have B_w_3 : Aside0 (Below (w.heap.size) w w_3) := ⟨below_then B_w_2.out B_w_2.out.size hb.out.below⟩; have S_w_3 : Aside0 (Sep (w.heap.size) (Stars [Blk gc #[.int .i64 n, .slice A0 l0.length c0, .int .i64 s0, .int .i64 e] 41]) w_3) := ⟨Sep.below S_w_2.out hb.out.below⟩; have Q_w_3 : Aside0 (Below w.heap.size w w_3) := ⟨below_step Q_w_2.out hb.out.below⟩; obtain ⟨c_gc_0_w_3, c_gc_1_w_3, c_gc_2_w_3, c_gc_3_w_3⟩ := XW.cells4 (Sep.front [] [] S_w_3.out).blk; obtain ⟨z_gc_0_w_3, z_gc_1_w_3, z_gc_2_w_3, z_gc_3_w_3⟩ := XW.froz4 (Sep.front [] [] S_w_3.out).blk; clear S_w_2 c_gc_0_w_2 c_gc_1_w_2 c_gc_2_w_2 c_gc_3_w_2 z_gc_0_w_2 z_gc_1_w_2 z_gc_2_w_2 z_gc_3_w_2; clear hb) | (go_at_call 16; (with_reducible refine (live _).mono ?_); rintro e2 w_l ⟨rfl, hb⟩; have HBl := Aside0.mk hb; clear hb))
    go_ret
    exact ⟨rfl, below_then B_w_3.out B_w_3.out.size HBl.out⟩
  | true =>
    have hl60 := few_len hfw
    clear hfw
    by_cases hs : n < 1 ∨ 16 < n
    · go_wp2_with (first | (go_at_call 25; (with_reducible refine (duetref07_Few.calls (l0.length + 1) A0 c0 l0 true _ (Kd.C_below HR.out B_w_2.out) hc0 HF.out).mono ?_); rintro e w_3 ⟨rfl, hb0⟩; have hb := Aside0.mk hb0; clear hb0; have B_w_3 : Aside0 (Below (w.heap.size) w w_3) := ⟨below_then B_w_2.out B_w_2.out.size hb.out.below⟩; have S_w_3 : Aside0 (Sep (w.heap.size) (Stars [Blk gc #[.int .i64 n, .slice A0 l0.length c0, .int .i64 s0, .int .i64 e] 41]) w_3) := ⟨Sep.below S_w_2.out hb.out.below⟩; have Q_w_3 : Aside0 (Below w.heap.size w w_3) := ⟨below_step Q_w_2.out hb.out.below⟩; obtain ⟨c_gc_0_w_3, c_gc_1_w_3, c_gc_2_w_3, c_gc_3_w_3⟩ := XW.cells4 (Sep.front [] [] S_w_3.out).blk; obtain ⟨z_gc_0_w_3, z_gc_1_w_3, z_gc_2_w_3, z_gc_3_w_3⟩ := XW.froz4 (Sep.front [] [] S_w_3.out).blk; clear S_w_2 c_gc_0_w_2 c_gc_1_w_2 c_gc_2_w_2 c_gc_3_w_2 z_gc_0_w_2 z_gc_1_w_2 z_gc_2_w_2 z_gc_3_w_2; clear hb) | (go_at_call 26; (with_reducible refine (nowhere_no _ n (by omega)).mono ?_); rintro e w' ⟨rfl, rfl⟩) | (go_at_call 27; (with_reducible refine (rnowhere_no _ n (by omega)).mono ?_); rintro e w' ⟨rfl, rfl⟩))
      go_loopw [11] (fun i wr => i = .int .i64 0 ∧ Aside0 (Below w.heap.size w wr)) (fun i _ => 0)
      case atStart => exact ⟨rfl, B_w_3⟩
      case round =>
        clear S_w_3
        obtain ⟨rfl, B_wr⟩ := hrel
        by_cases hlt : 0 < l0.length
        · have hlt2 : (0 : Int) < (l0.length : Int) := by omega
          go_wp2_with (go_at_call 16; (with_reducible refine (live _).mono ?_); rintro e2 w_l ⟨rfl, hb⟩; have HBl := Aside0.mk hb; clear hb)
          go_ret
          exact ⟨rfl, below_then B_wr.out B_wr.out.size HBl.out⟩
        · have hlt2 : ¬ (0 : Int) < (l0.length : Int) := by omega
          go_wp2_with (go_at_call 16; (with_reducible refine (live _).mono ?_); rintro e2 w_l ⟨rfl, hb⟩; have HBl := Aside0.mk hb; clear hb)
          go_ret
          exact ⟨rfl, below_then B_wr.out B_wr.out.size HBl.out⟩
    have hs1 : 1 ≤ n := by omega
    have hs2 : n ≤ 16 := by omega
    have hs0 : 0 ≤ n := by omega
    clear hs
    go_wp2_with (first | (go_at_call 25; (with_reducible refine (duetref07_Few.calls (l0.length + 1) A0 c0 l0 true _ (Kd.C_below HR.out B_w_2.out) hc0 HF.out).mono ?_); rintro e w_3 ⟨rfl, hb0⟩; have hb := Aside0.mk hb0; clear hb0; have B_w_3 : Aside0 (Below (w.heap.size) w w_3) := ⟨below_then B_w_2.out B_w_2.out.size hb.out.below⟩; have S_w_3 : Aside0 (Sep (w.heap.size) (Stars [Blk gc #[.int .i64 n, .slice A0 l0.length c0, .int .i64 s0, .int .i64 e] 41]) w_3) := ⟨Sep.below S_w_2.out hb.out.below⟩; have Q_w_3 : Aside0 (Below w.heap.size w w_3) := ⟨below_step Q_w_2.out hb.out.below⟩; obtain ⟨c_gc_0_w_3, c_gc_1_w_3, c_gc_2_w_3, c_gc_3_w_3⟩ := XW.cells4 (Sep.front [] [] S_w_3.out).blk; obtain ⟨z_gc_0_w_3, z_gc_1_w_3, z_gc_2_w_3, z_gc_3_w_3⟩ := XW.froz4 (Sep.front [] [] S_w_3.out).blk; clear S_w_2 c_gc_0_w_2 c_gc_1_w_2 c_gc_2_w_2 c_gc_3_w_2 z_gc_0_w_2 z_gc_1_w_2 z_gc_2_w_2 z_gc_3_w_2; clear hb) | (go_at_call 26; (with_reducible refine (nowhere_yes _ n hs1 hs2).mono ?_); rintro e w_4 ⟨gv, rfl, hN, hb⟩; have B_w_4 : Aside0 (Below (w.heap.size) w w_4) := ⟨below_then B_w_3.out B_w_3.out.size hb⟩; have S_w_4 : Aside0 (Sep (w.heap.size) (Stars [WA gv n (fun _ _ => 0), Blk gc #[.int .i64 n, .slice A0 l0.length c0, .int .i64 s0, .int .i64 e] 41]) w_4) := ⟨Sep.more S_w_3.out hN hb B_w_3.out.size⟩; have Q_w_4 : Aside0 (Below w.heap.size w w_4) := ⟨below_step Q_w_3.out hb⟩; obtain ⟨c_gc_0_w_4, c_gc_1_w_4, c_gc_2_w_4, c_gc_3_w_4⟩ := XW.cells4 (Sep.front [WA gv n (fun _ _ => 0)] [] S_w_4.out).blk; obtain ⟨z_gc_0_w_4, z_gc_1_w_4, z_gc_2_w_4, z_gc_3_w_4⟩ := XW.froz4 (Sep.front [WA gv n (fun _ _ => 0)] [] S_w_4.out).blk; clear S_w_3 c_gc_0_w_3 c_gc_1_w_3 c_gc_2_w_3 c_gc_3_w_3 z_gc_0_w_3 z_gc_1_w_3 z_gc_2_w_3 z_gc_3_w_3; clear hb) | (go_at_call 27; (with_reducible refine (rnowhere_yes _ n hs1 hs2).mono ?_); rintro e w_5 ⟨gk, rfl, hN, hb⟩; have B_w_5 : Aside0 (Below (w.heap.size) w w_5) := ⟨below_then B_w_4.out B_w_4.out.size hb⟩; have S_w_5 : Aside0 (Sep (w.heap.size) (Stars [RA gk n (fun _ _ => 0), WA gv n (fun _ _ => 0), Blk gc #[.int .i64 n, .slice A0 l0.length c0, .int .i64 s0, .int .i64 e] 41]) w_5) := ⟨Sep.more S_w_4.out hN hb B_w_4.out.size⟩; have Q_w_5 : Aside0 (Below w.heap.size w w_5) := ⟨below_step Q_w_4.out hb⟩; obtain ⟨c_gc_0_w_5, c_gc_1_w_5, c_gc_2_w_5, c_gc_3_w_5⟩ := XW.cells4 (Sep.front [RA gk n (fun _ _ => 0), WA gv n (fun _ _ => 0)] [] S_w_5.out).blk; obtain ⟨z_gc_0_w_5, z_gc_1_w_5, z_gc_2_w_5, z_gc_3_w_5⟩ := XW.froz4 (Sep.front [RA gk n (fun _ _ => 0), WA gv n (fun _ _ => 0)] [] S_w_5.out).blk; clear S_w_4 c_gc_0_w_4 c_gc_1_w_4 c_gc_2_w_4 c_gc_3_w_4 z_gc_0_w_4 z_gc_1_w_4 z_gc_2_w_4 z_gc_3_w_4; clear hb))
    have S0 : Aside0 (Sep w.heap.size (Stars [RA gk n (fun _ _ => 0), WA gv n (fun _ _ => 0)]) w_5) := ⟨Sep.right (Sep.front [RA gk n (fun _ _ => 0), WA gv n (fun _ _ => 0)] [] S_w_5.out)⟩
    clear S_w_5
    go_loopw [11] (fun i wr => ∃ (k : Nat) (D : Int → Nat → Int), k ≤ l0.length ∧ i = .int .i64 k ∧ Aside0 (Sep w.heap.size (Stars [RA gk n D, WA gv n D]) wr) ∧ Aside0 (Below w.heap.size w wr)) (fun i _ => l0.length - (intOf i).toNat)
    case atStart => exact ⟨0, (fun _ _ => 0), by omega, rfl, S0, B_w_5⟩
    case round =>
      clear S0
      obtain ⟨k, D, hk, rfl, S_wr, B_wr⟩ := hrel
      by_cases hlt : k < l0.length
      · have hlt2 : (k : Int) < (l0.length : Int) := by omega
        have hk0 : (0 : Int) ≤ (k : Int) := by omega
        obtain ⟨ad, A2, c2, s, q, kn, kd, ep, it, is, rt, rs, ru, had, HX, x0, x1, x2, x3, x4, x5, x6, x7, x8, x9, hl, hc⟩ := at_msg HR.out k hlt
        subst had
        have x0_wr := pw_cell_below B_wr.out x0
        have x1_wr := pw_cell_below B_wr.out x1
        have x2_wr := pw_cell_below B_wr.out x2
        have x3_wr := pw_cell_below B_wr.out x3
        have x4_wr := pw_cell_below B_wr.out x4
        have x5_wr := pw_cell_below B_wr.out x5
        have x6_wr := pw_cell_below B_wr.out x6
        have x7_wr := pw_cell_below B_wr.out x7
        have x8_wr := pw_cell_below B_wr.out x8
        have x9_wr := pw_cell_below B_wr.out x9
        obtain ⟨kk, hkk⟩ : ∃ kk, mesg_Check.f s q kn kd ep it is rt rs ru = some kk := ⟨_, rfl⟩
        obtain ⟨r, hr⟩ : ∃ r, moveE n D kk s q kn kd = r := ⟨_, rfl⟩
        obtain ⟨D2, hD2⟩ : ∃ D2, moveD n D kk s q kn kd ep it is rt rs ru = D2 := ⟨_, rfl⟩
        obtain ⟨r0, r1, b, hat⟩ : ∃ r0 r1 b, atV n D2 s0 e = (r0, r1, b) := ⟨_, _, _, rfl⟩
        obtain ⟨ys, hys⟩ : ∃ ys, sitesL (fun i : Nat => (atV n D2 (i : Int) e).2.2) n.toNat = ys := ⟨_, rfl⟩
        have HS16 : Aside0 (sitesL (fun i : Nat => (atV n D2 (i : Int) e).2.2) 16 = ys) := ⟨(sitesL_more _ n.toNat (fun i hi => by show (atV n D2 (i : Int) e).2.2 = false; unfold atV; rw [if_neg (by omega)]) 16 (by omega)).trans hys⟩
        have HYL : Aside0 (ys.length ≤ 16) := ⟨by rw [← hys]; exact Nat.le_trans (sitesL_le _ _) (by omega)⟩
        have HSAME : Aside0 (duetref01_Same.f (ys.length + 1) ys ys = some true) := ⟨by rw [same_is _ _ _ (by have := HYL.out; omega) (by omega), decide_eq_true rfl]⟩
        have HK := Aside0.mk hkk
        have HE := Aside0.mk hr
        have HD2 := Aside0.mk hD2
        have HA := Aside0.mk hat
        have HYS := Aside0.mk hys
        have HC := Aside0.mk hc
        clear hkk hr hD2 hat hys hc HX
        have b0 : (b != b) = false := by simp
        have br : (r != r) = false := by simp
        go_wp2
        refine start_ (n := 13) (S := fun w' => w'.cell? (ad.add (k * 10)) = some (.int .i64 s) ∧ w'.cell? ⟨(ad.add (k * 10)).block, (ad.add (k * 10)).off + 1, none⟩ = some (.int .i64 q) ∧ w'.cell? ⟨(ad.add (k * 10)).block, (ad.add (k * 10)).off + 2, none⟩ = some (.slice A2 kn.length c2) ∧ w'.cell? ⟨(ad.add (k * 10)).block, (ad.add (k * 10)).off + 3, none⟩ = some (.int .i64 kd) ∧ w'.cell? ⟨(ad.add (k * 10)).block, (ad.add (k * 10)).off + 4, none⟩ = some (.int .i64 ep) ∧ w'.cell? ⟨(ad.add (k * 10)).block, (ad.add (k * 10)).off + 5, none⟩ = some (.int .i64 it) ∧ w'.cell? ⟨(ad.add (k * 10)).block, (ad.add (k * 10)).off + 6, none⟩ = some (.int .i64 is) ∧ w'.cell? ⟨(ad.add (k * 10)).block, (ad.add (k * 10)).off + 7, none⟩ = some (.int .i64 rt) ∧ w'.cell? ⟨(ad.add (k * 10)).block, (ad.add (k * 10)).off + 8, none⟩ = some (.int .i64 rs) ∧ w'.cell? ⟨(ad.add (k * 10)).block, (ad.add (k * 10)).off + 9, none⟩ = some (.int .i64 ru)) (ds := []) #[false, false, false, false, false, false, false, false, false, false, false, false, false] (by kernel_rfl) rfl rfl ⟨x0_wr, x1_wr, x2_wr, x3_wr, x4_wr, x5_wr, x6_wr, x7_wr, x8_wr, x9_wr⟩ (fun hHeld => ?_)
        generalize hdw : wr.drew = wr_1 at hHeld ⊢
        have HB_wr_1 : Aside0 (Below wr.heap.size wr wr_1) := ⟨by rw [← hdw]; exact below_drew1 (Below.refl _ _)⟩
        clear hdw
        have B_wr_1 : Aside0 (Below (w.heap.size) w wr_1) := ⟨below_then B_wr.out B_wr.out.size HB_wr_1.out⟩
        have S_wr_1 : Aside0 (Sep (w.heap.size) (Stars [RA gk n D, WA gv n D]) wr_1) := ⟨Sep.below S_wr.out HB_wr_1.out⟩
        have x0_wr_1 := pw_cell_below B_wr_1.out x0
        have x1_wr_1 := pw_cell_below B_wr_1.out x1
        have x2_wr_1 := pw_cell_below B_wr_1.out x2
        have x3_wr_1 := pw_cell_below B_wr_1.out x3
        have x4_wr_1 := pw_cell_below B_wr_1.out x4
        have x5_wr_1 := pw_cell_below B_wr_1.out x5
        have x6_wr_1 := pw_cell_below B_wr_1.out x6
        have x7_wr_1 := pw_cell_below B_wr_1.out x7
        have x8_wr_1 := pw_cell_below B_wr_1.out x8
        have x9_wr_1 := pw_cell_below B_wr_1.out x9
        clear S_wr x0_wr x1_wr x2_wr x3_wr x4_wr x5_wr x6_wr x7_wr x8_wr x9_wr
        refine pure_ (i := 0) (N := some 58) (v := ?_) (a' := ?_) #[true, false, false, false, false, false, false, false, false, false, false, false, false] rfl rfl (by kernel_rfl) (fun _ _ _ h => h) (Or.inl ⟨by rfl, ?_⟩) ?_ ?_
        rotate_left
        · intro w'
          go_simp
          with_reducible rfl
        rotate_left
        · simp only [Act.put, List.setIfInBounds_toArray, List.set_cons_zero, List.set_cons_succ, i64_w, i32_w]
          rfl
        refine pure_ (i := 1) (N := some 59) (v := ?_) (a' := ?_) #[true, true, false, false, false, false, false, false, false, false, false, false, false] rfl rfl (by kernel_rfl) (fun _ _ _ h => h) (Or.inl ⟨by rfl, ?_⟩) ?_ ?_
        rotate_left
        · intro w'
          go_simp
          with_reducible rfl
        rotate_left
        · simp only [Act.put, List.setIfInBounds_toArray, List.set_cons_zero, List.set_cons_succ, i64_w, i32_w]
          rfl
        refine pure_ (i := 2) (N := some 60) (v := ?_) (a' := ?_) #[true, true, true, false, false, false, false, false, false, false, false, false, false] rfl rfl (by kernel_rfl) (fun _ _ _ h => h) (Or.inl ⟨by rfl, ?_⟩) ?_ ?_
        rotate_left
        · intro w'
          go_simp
          with_reducible rfl
        rotate_left
        · simp only [Act.put, List.setIfInBounds_toArray, List.set_cons_zero, List.set_cons_succ, i64_w, i32_w]
          rfl
        refine pure_ (i := 3) (N := some 61) (v := ?_) (a' := ?_) #[true, true, true, true, false, false, false, false, false, false, false, false, false] rfl rfl (by kernel_rfl) (fun _ _ _ h => h) (Or.inl ⟨by rfl, ?_⟩) ?_ ?_
        rotate_left
        · intro w'
          go_simp
          with_reducible rfl
        rotate_left
        · simp only [Act.put, List.setIfInBounds_toArray, List.set_cons_zero, List.set_cons_succ, i64_w, i32_w]
          rfl
        refine pure_ (i := 6) (N := some 64) (v := ?_) (a' := ?_) #[true, true, true, true, false, false, true, false, false, false, false, false, false] rfl rfl (by kernel_rfl) (fun _ _ _ h => h) (Or.inl ⟨by rfl, ?_⟩) ?_ ?_
        rotate_left
        · intro w'
          go_simp
          with_reducible rfl
        rotate_left
        · simp only [Act.put, List.setIfInBounds_toArray, List.set_cons_zero, List.set_cons_succ, i64_w, i32_w]
          rfl
        refine pure_ (i := 7) (N := some 65) (v := ?_) (a' := ?_) #[true, true, true, true, false, false, true, true, false, false, false, false, false] rfl rfl (by kernel_rfl) (fun _ _ _ h => h) (Or.inl ⟨by rfl, ?_⟩) ?_ ?_
        rotate_left
        · intro w'
          go_simp
          with_reducible rfl
        rotate_left
        · simp only [Act.put, List.setIfInBounds_toArray, List.set_cons_zero, List.set_cons_succ, i64_w, i32_w]
          rfl
        refine pure_ (i := 8) (N := some 66) (v := ?_) (a' := ?_) #[true, true, true, true, false, false, true, true, true, false, false, false, false] rfl rfl (by kernel_rfl) (fun _ _ _ h => h) (Or.inl ⟨by rfl, ?_⟩) ?_ ?_
        rotate_left
        · intro w'
          go_simp
          with_reducible rfl
        rotate_left
        · simp only [Act.put, List.setIfInBounds_toArray, List.set_cons_zero, List.set_cons_succ, i64_w, i32_w]
          rfl
        refine pure_ (i := 9) (N := some 67) (v := ?_) (a' := ?_) #[true, true, true, true, false, false, true, true, true, true, false, false, false] rfl rfl (by kernel_rfl) (fun _ _ _ h => h) (Or.inl ⟨by rfl, ?_⟩) ?_ ?_
        rotate_left
        · intro w'
          go_simp
          with_reducible rfl
        rotate_left
        · simp only [Act.put, List.setIfInBounds_toArray, List.set_cons_zero, List.set_cons_succ, i64_w, i32_w]
          rfl
        refine take_ (i := 4) (N := some 62) (v := ?_) (a' := ?_) #[true, true, true, true, true, false, true, true, true, true, false, false, false] rfl rfl (by kernel_rfl) (fun _ _ _ h => h) (Or.inl ⟨by rfl, ?_⟩) hHeld ?_ ?_
        rotate_left
        · rintro w' ⟨s0, s1, s2, s3, s4, s5, s6, s7, s8, s9⟩
          go_simp
          with_reducible rfl
        rotate_left
        · simp only [Act.put, List.setIfInBounds_toArray, List.set_cons_zero, List.set_cons_succ, i64_w, i32_w]
          rfl
        refine take_ (i := 10) (N := some 68) (v := ?_) (a' := ?_) #[true, true, true, true, true, false, true, true, true, true, true, false, false] rfl rfl (by kernel_rfl) (fun _ _ _ h => h) (Or.inl ⟨by rfl, ?_⟩) hHeld ?_ ?_
        rotate_left
        · rintro w' ⟨s0, s1, s2, s3, s4, s5, s6, s7, s8, s9⟩
          go_simp
          with_reducible rfl
        rotate_left
        · simp only [Act.put, List.setIfInBounds_toArray, List.set_cons_zero, List.set_cons_succ, i64_w, i32_w]
          rfl
        refine one_ (i := 5) (N := some 63) #[true, true, true, true, true, true, true, true, true, true, true, false, false] rfl rfl (by kernel_rfl) (by decide) (fun K hK => ?_)
        refine goes_ Try.func28 (by kernel_rfl) rfl #[.pointer (some ⟨gv, 0, none⟩), .agg #[.int .i64 s, .int .i64 q, .slice A2 kn.length c2, .int .i64 kd, .int .i64 ep, .int .i64 it, .int .i64 is, .int .i64 rt, .int .i64 rs, .int .i64 ru]] (by rfl) rfl rfl (by simp only [List.map_toArray, List.map_cons, List.map_nil]; rfl) ?_
        with_reducible refine (where_move_at _ (Sep.front [RA gk n D] [] S_wr_1.out) B_wr_1.out.size hs2 s q A2 c2 kn.length kn kd ep it is rt rs ru (Kd.C_below HC.out B_wr_1.out) hl kk HK.out (fun h => check_zero (by rw [← h]; exact HK.out)) r D2 HE.out HD2.out).mono ?_
        rintro e wr_2 ⟨rfl, hS, hb⟩
        refine ⟨_, rfl, ?_⟩
        have B_wr_2 : Aside0 (Below (w.heap.size) w wr_2) := ⟨(Below.trans B_wr_1.out hb)⟩
        have S_wr_2 : Aside0 (Sep (w.heap.size) (Stars [RA gk n D, WA gv n D2]) wr_2) := ⟨Sep.back [RA gk n D] [] hS⟩
        have x0_wr_2 := pw_cell_below B_wr_2.out x0
        have x1_wr_2 := pw_cell_below B_wr_2.out x1
        have x2_wr_2 := pw_cell_below B_wr_2.out x2
        have x3_wr_2 := pw_cell_below B_wr_2.out x3
        have x4_wr_2 := pw_cell_below B_wr_2.out x4
        have x5_wr_2 := pw_cell_below B_wr_2.out x5
        have x6_wr_2 := pw_cell_below B_wr_2.out x6
        have x7_wr_2 := pw_cell_below B_wr_2.out x7
        have x8_wr_2 := pw_cell_below B_wr_2.out x8
        have x9_wr_2 := pw_cell_below B_wr_2.out x9
        clear S_wr_1 x0_wr_1 x1_wr_1 x2_wr_1 x3_wr_1 x4_wr_1 x5_wr_1 x6_wr_1 x7_wr_1 x8_wr_1 x9_wr_1
        clear hS hb
        refine hK.out _ _ ⟨x0_wr_2, x1_wr_2, x2_wr_2, x3_wr_2, x4_wr_2, x5_wr_2, x6_wr_2, x7_wr_2, x8_wr_2, x9_wr_2⟩ (fun hHeld => ?_)
        clear hK K
        refine norm_ (a' := ?_) ?_ ?_
        rotate_left
        · show Act.put _ (some 63) _ = _
          simp only [Act.put, List.setIfInBounds_toArray, List.set_cons_zero, List.set_cons_succ, i64_w, i32_w]
          rfl
        refine one_ (i := 11) (N := some 69) #[true, true, true, true, true, true, true, true, true, true, true, true, false] rfl rfl (by kernel_rfl) (by decide) (fun K hK => ?_)
        refine goes_ Try.func29 (by kernel_rfl) rfl #[.pointer (some ⟨gk, 0, none⟩), .agg #[.int .i64 s, .int .i64 q, .slice A2 kn.length c2, .int .i64 kd, .int .i64 ep, .int .i64 it, .int .i64 is, .int .i64 rt, .int .i64 rs, .int .i64 ru]] (by rfl) rfl rfl (by simp only [List.map_toArray, List.map_cons, List.map_nil]; rfl) ?_
        with_reducible refine (rwhere_move_at _ (Sep.front [] [WA gv n D2] S_wr_2.out) B_wr_2.out.size hs2 hs0 s q A2 c2 kn.length kn kd ep it is rt rs ru (Kd.C_below HC.out B_wr_2.out) hl kk HK.out (fun h => check_zero (by rw [← h]; exact HK.out)) r D2 HE.out HD2.out).mono ?_
        rintro e wr_3 ⟨rfl, hS, hb⟩
        refine ⟨_, rfl, ?_⟩
        have B_wr_3 : Aside0 (Below (w.heap.size) w wr_3) := ⟨(Below.trans B_wr_2.out hb)⟩
        have S_wr_3 : Aside0 (Sep (w.heap.size) (Stars [RA gk n D2, WA gv n D2]) wr_3) := ⟨Sep.back [] [WA gv n D2] hS⟩
        have x0_wr_3 := pw_cell_below B_wr_3.out x0
        have x1_wr_3 := pw_cell_below B_wr_3.out x1
        have x2_wr_3 := pw_cell_below B_wr_3.out x2
        have x3_wr_3 := pw_cell_below B_wr_3.out x3
        have x4_wr_3 := pw_cell_below B_wr_3.out x4
        have x5_wr_3 := pw_cell_below B_wr_3.out x5
        have x6_wr_3 := pw_cell_below B_wr_3.out x6
        have x7_wr_3 := pw_cell_below B_wr_3.out x7
        have x8_wr_3 := pw_cell_below B_wr_3.out x8
        have x9_wr_3 := pw_cell_below B_wr_3.out x9
        clear S_wr_2 x0_wr_2 x1_wr_2 x2_wr_2 x3_wr_2 x4_wr_2 x5_wr_2 x6_wr_2 x7_wr_2 x8_wr_2 x9_wr_2
        clear hS hb
        refine hK.out _ _ ⟨x0_wr_3, x1_wr_3, x2_wr_3, x3_wr_3, x4_wr_3, x5_wr_3, x6_wr_3, x7_wr_3, x8_wr_3, x9_wr_3⟩ (fun hHeld => ?_)
        clear hK K
        refine norm_ (a' := ?_) ?_ ?_
        rotate_left
        · show Act.put _ (some 69) _ = _
          simp only [Act.put, List.setIfInBounds_toArray, List.set_cons_zero, List.set_cons_succ, i64_w, i32_w]
          rfl
        refine pure_ (i := 12) (N := some 70) (v := ?_) (a' := ?_) #[true, true, true, true, true, true, true, true, true, true, true, true, true] rfl rfl (by kernel_rfl) (fun _ _ _ h => h) (Or.inl ⟨by rfl, ?_⟩) ?_ ?_
        rotate_left
        · intro w'
          go_simp
          with_reducible rfl
        rotate_left
        · simp only [Act.put, List.setIfInBounds_toArray, List.set_cons_zero, List.set_cons_succ, i64_w, i32_w]
          rfl
        refine done_ (by kernel_rfl) ?_
        go_wp2_with (first | (go_at_call 30; (with_reducible refine (where_at _ s0 e hs2 (Sep.front [RA gk n D2] [] S_wr_3.out) (r0, r1, b) HA.out).mono ?_); rintro e wr_4 ⟨rfl, hb⟩; have B_wr_4 : Aside0 (Below (w.heap.size) w wr_4) := ⟨below_then B_wr_3.out B_wr_3.out.size hb⟩; have S_wr_4 : Aside0 (Sep (w.heap.size) (Stars [RA gk n D2, WA gv n D2]) wr_4) := ⟨Sep.below S_wr_3.out hb⟩; clear S_wr_3; clear hb) | ((with_reducible refine gate_dst (N := 12) rfl ?_); (try (refine gate_guard (by rfl) ?_; dsimp only)); refine box_event ?hg (N := 12) ?hd (cs := #[.int .i64 0, .int .i64 0]) (t := 52) ?hr ?_; (case hd => rfl); (case hg => rfl); (case hr => first | (go_simp; done) | (go_simp; rfl)); intro gx hg_gx wr_5 hX hb; have B_wr_5 : Aside0 (Below (w.heap.size) w wr_5) := ⟨below_then B_wr_4.out B_wr_4.out.size hb⟩; have S_wr_5 : Aside0 (Sep (w.heap.size) (Stars [Blk gx #[.int .i64 0, .int .i64 0] 52, RA gk n D2, WA gv n D2]) wr_5) := ⟨Sep.new_blk S_wr_4.out B_wr_4.out.size hg_gx hb hX⟩; obtain ⟨c_gx_0_wr_5, c_gx_1_wr_5⟩ := XW.cells2 (Sep.front [] [RA gk n D2, WA gv n D2] S_wr_5.out).blk; obtain ⟨z_gx_0_wr_5, z_gx_1_wr_5⟩ := XW.froz2 (Sep.front [] [RA gk n D2, WA gv n D2] S_wr_5.out).blk; clear S_wr_4; clear hX hb hg_gx) | ((with_reducible refine gate_store (t := 52) (p := 12) rfl ?_); go_must (refine store_event (t := 52) (p := 12) (v := ?vo_1) (w1 := ((wr_5.setCell ⟨gx, 0, none⟩ (.int .i64 r0)).setCell ⟨gx, 1, none⟩ (.int .i64 r1))) ?hg ?ho ?hn ?hr ?_; (case ho => rfl); (case hg => rfl); (case hn => rfl); (case hr => first | (go_simp; done) | (go_simp; rfl)); intro wr_6 hw; have B_wr_6 : Aside0 (Below (w.heap.size) w wr_6) := ⟨by rw [hw]; exact (Below.setCell (Below.setCell B_wr_5.out ((Sep.front [] [RA gk n D2, WA gv n D2] S_wr_5.out).blk_le) _) ((Sep.front [] [RA gk n D2, WA gv n D2] S_wr_5.out).blk_le) _)⟩; have S_wr_6 : Aside0 (Sep (w.heap.size) (Stars [Blk gx #[.int .i64 r0, .int .i64 r1] 52, RA gk n D2, WA gv n D2]) wr_6) := ⟨by rw [hw]; exact Sep.back [] [RA gk n D2, WA gv n D2] (Sep.store (Sep.store (Sep.front [] [RA gk n D2, WA gv n D2] S_wr_5.out) B_wr_5.out.size 0 (.int .i64 r0) (cs' := #[.int .i64 r0, .int .i64 0]) rfl) (Sep.size_store B_wr_5.out.size) 1 (.int .i64 r1) (cs' := #[.int .i64 r0, .int .i64 r1]) rfl)⟩; obtain ⟨c_gx_0_wr_6, c_gx_1_wr_6⟩ := XW.cells2 (Sep.front [] [RA gk n D2, WA gv n D2] S_wr_6.out).blk; obtain ⟨z_gx_0_wr_6, z_gx_1_wr_6⟩ := XW.froz2 (Sep.front [] [RA gk n D2, WA gv n D2] S_wr_6.out).blk; clear S_wr_5 c_gx_0_wr_5 c_gx_1_wr_5 z_gx_0_wr_5 z_gx_1_wr_5; clear hw)) | (go_at_call 31; (with_reducible refine (rwhere_at _ s0 e hs2 hs0 (Sep.front [Blk gx #[.int .i64 r0, .int .i64 r1] 52] [WA gv n D2] S_wr_6.out) (r0, r1, b) HA.out).mono ?_); rintro e wr_7 ⟨rfl, hb⟩; have B_wr_7 : Aside0 (Below (w.heap.size) w wr_7) := ⟨below_then B_wr_6.out B_wr_6.out.size hb⟩; have S_wr_7 : Aside0 (Sep (w.heap.size) (Stars [Blk gx #[.int .i64 r0, .int .i64 r1] 52, RA gk n D2, WA gv n D2]) wr_7) := ⟨Sep.below S_wr_6.out hb⟩; obtain ⟨c_gx_0_wr_7, c_gx_1_wr_7⟩ := XW.cells2 (Sep.front [] [RA gk n D2, WA gv n D2] S_wr_7.out).blk; obtain ⟨z_gx_0_wr_7, z_gx_1_wr_7⟩ := XW.froz2 (Sep.front [] [RA gk n D2, WA gv n D2] S_wr_7.out).blk; clear S_wr_6 c_gx_0_wr_6 c_gx_1_wr_6 z_gx_0_wr_6 z_gx_1_wr_6; clear hb) | ((with_reducible refine gate_dst (N := 14) rfl ?_); (try (refine gate_guard (by rfl) ?_; dsimp only)); refine box_event ?hg (N := 14) ?hd (cs := #[.int .i64 0, .int .i64 0]) (t := 52) ?hr ?_; (case hd => rfl); (case hg => rfl); (case hr => first | (go_simp; done) | (go_simp; rfl)); intro gy hg_gy wr_8 hX hb; have B_wr_8 : Aside0 (Below (w.heap.size) w wr_8) := ⟨below_then B_wr_7.out B_wr_7.out.size hb⟩; have S_wr_8 : Aside0 (Sep (w.heap.size) (Stars [Blk gy #[.int .i64 0, .int .i64 0] 52, Blk gx #[.int .i64 r0, .int .i64 r1] 52, RA gk n D2, WA gv n D2]) wr_8) := ⟨Sep.new_blk S_wr_7.out B_wr_7.out.size hg_gy hb hX⟩; obtain ⟨c_gy_0_wr_8, c_gy_1_wr_8⟩ := XW.cells2 (Sep.front [] [Blk gx #[.int .i64 r0, .int .i64 r1] 52, RA gk n D2, WA gv n D2] S_wr_8.out).blk; obtain ⟨z_gy_0_wr_8, z_gy_1_wr_8⟩ := XW.froz2 (Sep.front [] [Blk gx #[.int .i64 r0, .int .i64 r1] 52, RA gk n D2, WA gv n D2] S_wr_8.out).blk; obtain ⟨c_gx_0_wr_8, c_gx_1_wr_8⟩ := XW.cells2 (Sep.front [Blk gy #[.int .i64 0, .int .i64 0] 52] [RA gk n D2, WA gv n D2] S_wr_8.out).blk; obtain ⟨z_gx_0_wr_8, z_gx_1_wr_8⟩ := XW.froz2 (Sep.front [Blk gy #[.int .i64 0, .int .i64 0] 52] [RA gk n D2, WA gv n D2] S_wr_8.out).blk; clear S_wr_7 c_gx_0_wr_7 c_gx_1_wr_7 z_gx_0_wr_7 z_gx_1_wr_7; clear hX hb hg_gy) | ((with_reducible refine gate_store (t := 52) (p := 14) rfl ?_); go_must (refine store_event (t := 52) (p := 14) (v := ?vo_2) (w1 := ((wr_8.setCell ⟨gy, 0, none⟩ (.int .i64 r0)).setCell ⟨gy, 1, none⟩ (.int .i64 r1))) ?hg ?ho ?hn ?hr ?_; (case ho => rfl); (case hg => rfl); (case hn => rfl); (case hr => first | (go_simp; done) | (go_simp; rfl)); intro wr_9 hw; have B_wr_9 : Aside0 (Below (w.heap.size) w wr_9) := ⟨by rw [hw]; exact (Below.setCell (Below.setCell B_wr_8.out ((Sep.front [] [Blk gx #[.int .i64 r0, .int .i64 r1] 52, RA gk n D2, WA gv n D2] S_wr_8.out).blk_le) _) ((Sep.front [] [Blk gx #[.int .i64 r0, .int .i64 r1] 52, RA gk n D2, WA gv n D2] S_wr_8.out).blk_le) _)⟩; have S_wr_9 : Aside0 (Sep (w.heap.size) (Stars [Blk gy #[.int .i64 r0, .int .i64 r1] 52, Blk gx #[.int .i64 r0, .int .i64 r1] 52, RA gk n D2, WA gv n D2]) wr_9) := ⟨by rw [hw]; exact Sep.back [] [Blk gx #[.int .i64 r0, .int .i64 r1] 52, RA gk n D2, WA gv n D2] (Sep.store (Sep.store (Sep.front [] [Blk gx #[.int .i64 r0, .int .i64 r1] 52, RA gk n D2, WA gv n D2] S_wr_8.out) B_wr_8.out.size 0 (.int .i64 r0) (cs' := #[.int .i64 r0, .int .i64 0]) rfl) (Sep.size_store B_wr_8.out.size) 1 (.int .i64 r1) (cs' := #[.int .i64 r0, .int .i64 r1]) rfl)⟩; obtain ⟨c_gy_0_wr_9, c_gy_1_wr_9⟩ := XW.cells2 (Sep.front [] [Blk gx #[.int .i64 r0, .int .i64 r1] 52, RA gk n D2, WA gv n D2] S_wr_9.out).blk; obtain ⟨z_gy_0_wr_9, z_gy_1_wr_9⟩ := XW.froz2 (Sep.front [] [Blk gx #[.int .i64 r0, .int .i64 r1] 52, RA gk n D2, WA gv n D2] S_wr_9.out).blk; obtain ⟨c_gx_0_wr_9, c_gx_1_wr_9⟩ := XW.cells2 (Sep.front [Blk gy #[.int .i64 r0, .int .i64 r1] 52] [RA gk n D2, WA gv n D2] S_wr_9.out).blk; obtain ⟨z_gx_0_wr_9, z_gx_1_wr_9⟩ := XW.froz2 (Sep.front [Blk gy #[.int .i64 r0, .int .i64 r1] 52] [RA gk n D2, WA gv n D2] S_wr_9.out).blk; clear S_wr_8 c_gy_0_wr_8 c_gy_1_wr_8 z_gy_0_wr_8 z_gy_1_wr_8 c_gx_0_wr_8 c_gx_1_wr_8 z_gx_0_wr_8 z_gx_1_wr_8; clear hw)) | (go_at_call 33; (with_reducible refine (where_sites_at _ e hs2 (Sep.front [Blk gy #[.int .i64 r0, .int .i64 r1] 52, Blk gx #[.int .i64 r0, .int .i64 r1] 52, RA gk n D2] [] S_wr_9.out) (fun i : Nat => (atV n D2 (i : Int) e).2.2) (fun _ => rfl) ys HS16.out).mono ?_); rintro e wr_10 ⟨As, cs, rfl, hls, hcs, hb⟩; have B_wr_10 : Aside0 (Below (w.heap.size) w wr_10) := ⟨below_then B_wr_9.out B_wr_9.out.size hb⟩; have S_wr_10 : Aside0 (Sep (w.heap.size) (Stars [Blk gy #[.int .i64 r0, .int .i64 r1] 52, Blk gx #[.int .i64 r0, .int .i64 r1] 52, RA gk n D2, WA gv n D2]) wr_10) := ⟨Sep.below S_wr_9.out hb⟩; obtain ⟨c_gy_0_wr_10, c_gy_1_wr_10⟩ := XW.cells2 (Sep.front [] [Blk gx #[.int .i64 r0, .int .i64 r1] 52, RA gk n D2, WA gv n D2] S_wr_10.out).blk; obtain ⟨z_gy_0_wr_10, z_gy_1_wr_10⟩ := XW.froz2 (Sep.front [] [Blk gx #[.int .i64 r0, .int .i64 r1] 52, RA gk n D2, WA gv n D2] S_wr_10.out).blk; obtain ⟨c_gx_0_wr_10, c_gx_1_wr_10⟩ := XW.cells2 (Sep.front [Blk gy #[.int .i64 r0, .int .i64 r1] 52] [RA gk n D2, WA gv n D2] S_wr_10.out).blk; obtain ⟨z_gx_0_wr_10, z_gx_1_wr_10⟩ := XW.froz2 (Sep.front [Blk gy #[.int .i64 r0, .int .i64 r1] 52] [RA gk n D2, WA gv n D2] S_wr_10.out).blk; clear S_wr_9 c_gy_0_wr_9 c_gy_1_wr_9 z_gy_0_wr_9 z_gy_1_wr_9 c_gx_0_wr_9 c_gx_1_wr_9 z_gx_0_wr_9 z_gx_1_wr_9; have R_s_wr_10 : Aside0 (Kd.C (Kd.int .i64) wr_10 As ys.length ys) := ⟨hcs⟩; have HLs := Aside0.mk hls; clear hb hcs hls) | (go_at_call 34; (with_reducible refine (rwhere_sites _ e hs2 hs0 (Sep.front [Blk gy #[.int .i64 r0, .int .i64 r1] 52, Blk gx #[.int .i64 r0, .int .i64 r1] 52] [WA gv n D2] S_wr_10.out) (fun i : Nat => (atV n D2 (i : Int) e).2.2) (fun _ => rfl) ys HYS.out).mono ?_); rintro e wr_11 ⟨At, ct, rfl, hlt_, hct, hb⟩; have B_wr_11 : Aside0 (Below (w.heap.size) w wr_11) := ⟨below_then B_wr_10.out B_wr_10.out.size hb⟩; have S_wr_11 : Aside0 (Sep (w.heap.size) (Stars [Blk gy #[.int .i64 r0, .int .i64 r1] 52, Blk gx #[.int .i64 r0, .int .i64 r1] 52, RA gk n D2, WA gv n D2]) wr_11) := ⟨Sep.below S_wr_10.out hb⟩; have R_s_wr_11 : Aside0 (Kd.C (Kd.int .i64) wr_11 As ys.length ys) := ⟨Kd.C_below R_s_wr_10.out hb⟩; obtain ⟨c_gy_0_wr_11, c_gy_1_wr_11⟩ := XW.cells2 (Sep.front [] [Blk gx #[.int .i64 r0, .int .i64 r1] 52, RA gk n D2, WA gv n D2] S_wr_11.out).blk; obtain ⟨z_gy_0_wr_11, z_gy_1_wr_11⟩ := XW.froz2 (Sep.front [] [Blk gx #[.int .i64 r0, .int .i64 r1] 52, RA gk n D2, WA gv n D2] S_wr_11.out).blk; obtain ⟨c_gx_0_wr_11, c_gx_1_wr_11⟩ := XW.cells2 (Sep.front [Blk gy #[.int .i64 r0, .int .i64 r1] 52] [RA gk n D2, WA gv n D2] S_wr_11.out).blk; obtain ⟨z_gx_0_wr_11, z_gx_1_wr_11⟩ := XW.froz2 (Sep.front [Blk gy #[.int .i64 r0, .int .i64 r1] 52] [RA gk n D2, WA gv n D2] S_wr_11.out).blk; clear S_wr_10 c_gy_0_wr_10 c_gy_1_wr_10 z_gy_0_wr_10 z_gy_1_wr_10 c_gx_0_wr_10 c_gx_1_wr_10 z_gx_0_wr_10 z_gx_1_wr_10 R_s_wr_10; have R_t_wr_11 : Aside0 (Kd.C (Kd.int .i64) wr_11 At ys.length ys) := ⟨hct⟩; have HLt := Aside0.mk hlt_; clear hb hct hlt_) | (go_at_call 32; (with_reducible refine (duetref01_Same.calls (ys.length + 1) As cs ys At ct ys true _ R_s_wr_11.out HLs.out R_t_wr_11.out HLt.out HSAME.out).mono ?_); rintro e wr_12 ⟨rfl, hb0⟩; have hb := Aside0.mk hb0; clear hb0; have B_wr_12 : Aside0 (Below (w.heap.size) w wr_12) := ⟨below_then B_wr_11.out B_wr_11.out.size hb.out.below⟩; have S_wr_12 : Aside0 (Sep (w.heap.size) (Stars [Blk gy #[.int .i64 r0, .int .i64 r1] 52, Blk gx #[.int .i64 r0, .int .i64 r1] 52, RA gk n D2, WA gv n D2]) wr_12) := ⟨Sep.below S_wr_11.out hb.out.below⟩; have R_s_wr_12 : Aside0 (Kd.C (Kd.int .i64) wr_12 As ys.length ys) := ⟨Kd.C_below R_s_wr_11.out hb.out.below⟩; obtain ⟨c_gy_0_wr_12, c_gy_1_wr_12⟩ := XW.cells2 (Sep.front [] [Blk gx #[.int .i64 r0, .int .i64 r1] 52, RA gk n D2, WA gv n D2] S_wr_12.out).blk; obtain ⟨z_gy_0_wr_12, z_gy_1_wr_12⟩ := XW.froz2 (Sep.front [] [Blk gx #[.int .i64 r0, .int .i64 r1] 52, RA gk n D2, WA gv n D2] S_wr_12.out).blk; obtain ⟨c_gx_0_wr_12, c_gx_1_wr_12⟩ := XW.cells2 (Sep.front [Blk gy #[.int .i64 r0, .int .i64 r1] 52] [RA gk n D2, WA gv n D2] S_wr_12.out).blk; obtain ⟨z_gx_0_wr_12, z_gx_1_wr_12⟩ := XW.froz2 (Sep.front [Blk gy #[.int .i64 r0, .int .i64 r1] 52] [RA gk n D2, WA gv n D2] S_wr_12.out).blk; clear S_wr_11 c_gy_0_wr_11 c_gy_1_wr_11 z_gy_0_wr_11 z_gy_1_wr_11 c_gx_0_wr_11 c_gx_1_wr_11 z_gx_0_wr_11 z_gx_1_wr_11 R_s_wr_11; clear hb))
        go_roundw
        case rel => first | exact ⟨k + 1, D2, by omega, by go_num, ⟨Sep.right (Sep.right S_wr_12.out)⟩, B_wr_12⟩ | ((repeat apply Exists.intro); exact ⟨⟨k + 1, D2, by omega, by go_num, ⟨Sep.right (Sep.right S_wr_12.out)⟩, B_wr_12⟩, rfl⟩)
        case measure => simp [intOf] <;> omega
      · have hlt2 : ¬ (k : Int) < (l0.length : Int) := by omega
        go_wp2_with (go_at_call 16; (with_reducible refine (live _).mono ?_); rintro e2 w_l ⟨rfl, hb⟩; have HBl := Aside0.mk hb; clear hb)
        go_ret
        exact ⟨rfl, below_then B_wr.out B_wr.out.size HBl.out⟩
end Go.Proofs.Ytiplkmmppihilaa.PastA
