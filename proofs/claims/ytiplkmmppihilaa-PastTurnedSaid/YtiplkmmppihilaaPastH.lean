/- Logs and carets that are none; copies of one's own. Conditions: none beyond those that each theorem states. -/
import Derived.Test.YtiplkmmppihilaaPastL1
import Derived.Test.YtiplkmmppihilaaXT
namespace Go.Proofs.Ytiplkmmppihilaa.PastA
open Go.RowKit Go.Proofs.YtiplkmmppihilaaW.PrintWords Go.Proofs.YtiplkmmppihilaaW.PrintLast Go.Proofs.YtiplkmmppihilaaW.PrintMore Go.Proofs.Ytiplkmmppihilaa.XS Go.Proofs.Ytiplkmmppihilaa.PPast
set_option linter.unusedVariables false
set_option linter.unusedSimpArgs false
set_option maxHeartbeats 1000000 in
theorem log_all_own {base g : Nat} {ls : List ByteArray} {F : Assn} (w : World) (h : Sep base (Star (LogA 87 g ls) F) w) :
    Calls Try.prog 22 #[.pointer (some ⟨g, 0, none⟩)] w fun e w' => ∃ v, e = .returned v ∧ Kd.R Kd.string 9 w' w.heap.size (fun _ => True) v ls ∧ Below w.heap.size w w' := by
  obtain ⟨A, c, hl, hc, hb, hC, -⟩ := LogA.open h
  clear h
  have c0 := XW.cells1 hb
  have HC := Aside0.mk hC
  clear hb hC
  go_enter Try.func22, Try.ntmps22
  go_wp2_with (first | (go_at_call 51; (with_reducible refine (clone _ _ _ _ HC.out hc (by omega)).mono ?_); rintro e w1 ⟨v, rfl, hr, hb⟩; have HR1 := Aside0.mk hr; have HB1 := Aside0.mk hb; clear hr hb))
  go_ret
  exact ⟨_, rfl, HR1.out, HB1.out⟩
theorem LogA.le {T base g : Nat} {ls : List ByteArray} {F : Assn} {w : World} (h : Sep base (Star (LogA T g ls) F) w) : ls.length ≤ 10000 := by
  obtain ⟨v, h⟩ := h.ex
  exact h.only.1
theorem Pre_refl (a : List ByteArray) : Pre a a = true := by unfold Pre; rw [decide_eq_true]; exact ⟨Nat.le_refl _, by rw [List.take_length]⟩
theorem Pre_append (a b : List ByteArray) : Pre a (a ++ b) = true := by unfold Pre; rw [decide_eq_true]; exact ⟨by rw [List.length_append]; omega, by rw [List.take_left']; rfl⟩
theorem Pre_add (a : List ByteArray) (e : Int) (t : ByteArray) : Pre a (addL a e t) = true := by
  unfold addL
  split
  · exact Pre_append _ _
  · exact Pre_refl _
theorem Pre_iff {a b : List ByteArray} : Pre a b = true ↔ ∃ c, b = a ++ c := by
  unfold Pre
  rw [decide_eq_true_iff]
  constructor
  · rintro ⟨h1, h2⟩
    exact ⟨b.drop a.length, by conv => lhs; rw [← List.take_append_drop a.length b]; rw [← h2]⟩
  · rintro ⟨c, rfl⟩
    exact ⟨by rw [List.length_append]; omega, by rw [List.take_left']; rfl⟩
theorem Pre_trans {a b c : List ByteArray} (h : Pre a b = true) (k : Pre b c = true) : Pre a c = true := by
  rw [Pre_iff] at *
  obtain ⟨x, rfl⟩ := h
  obtain ⟨y, rfl⟩ := k
  exact ⟨x ++ y, by rw [List.append_assoc]⟩
theorem Pre_both (a b : List ByteArray) : (Pre a b && Pre b a) = decide (a = b) := by
  rw [Bool.eq_iff_iff, Bool.and_eq_true, Pre_iff, Pre_iff, decide_eq_true_iff]
  constructor
  · rintro ⟨⟨x, hx⟩, y, hy⟩
    have h1 := congrArg List.length hx
    have h2 := congrArg List.length hy
    rw [List.length_append] at h1 h2
    have : x = [] := List.eq_nil_of_length_eq_zero (by omega)
    rw [hx, this, List.append_nil]
  · rintro rfl
    exact ⟨⟨[], by simp⟩, [], by simp⟩
set_option maxHeartbeats 1000000 in
theorem nil_add (e : Int) (t : ByteArray) (w : World) : Calls Try.prog 17 #[.pointer none, .int .i64 e, .string t] w fun en w' => en = .returned (.int .i64 1) ∧ w = w' := by
  go_enter Try.func17, Try.ntmps17
  go_wp2
  go_ret
  exact ⟨rfl, rfl⟩
set_option maxHeartbeats 1000000 in
theorem nil_get (e : Int) (w : World) : Calls Try.prog 19 #[.pointer none, .int .i64 e] w fun en w' => en = .returned (.tuple #[.string ⟨#[]⟩, .bool false]) ∧ w = w' := by
  go_enter Try.func19, Try.ntmps19
  go_wp2
  go_ret2
  exact ⟨rfl, rfl⟩
set_option maxHeartbeats 1000000 in
theorem nil_all (w : World) : Calls Try.prog 22 #[.pointer none] w fun en w' => en = .returned (.slice none 0 0) ∧ w = w' := by
  go_enter Try.func22, Try.ntmps22
  go_wp2
  go_ret
  exact ⟨rfl, rfl⟩
set_option maxHeartbeats 2000000 in
set_option maxRecDepth 100000 in
theorem nil_move (s q : Int) (A : Option Addr) (c nl : Nat) (kd ep it is rt rs ru : Int) (w : World) : Calls Try.prog 28 #[.pointer none, .agg #[.int .i64 s, .int .i64 q, .slice A nl c, .int .i64 kd, .int .i64 ep, .int .i64 it, .int .i64 is, .int .i64 rt, .int .i64 rs, .int .i64 ru]] w fun en w' => en = .returned (.int .i64 1) ∧ Below w.heap.size w w' := by
  have hu52 := Try.underlying52
  have hu54 := Try.underlying54
  have hu56 := Try.underlying56
  have B_w := Aside0.mk (Below.refl w.heap.size w)
  have S_w : Aside0 (Sep w.heap.size (Stars []) w) := ⟨Sep.emp _ _⟩
  go_enter Try.func28, Try.ntmps28
  go_upto_region 1 with (first | ((with_reducible refine gate_dst (N := 3) rfl ?_); (try (refine gate_guard (by rfl) ?_; dsimp only)); refine box_event ?hg (N := 3) ?hd (cs := #[.int .i64 s, .int .i64 q, .slice A nl c, .int .i64 kd, .int .i64 ep, .int .i64 it, .int .i64 is, .int .i64 rt, .int .i64 rs, .int .i64 ru]) (t := 56) ?hr ?_; (case hd => rfl); (case hg => rfl); (case hr => first | (go_simp; done) | (go_simp; rfl)); intro gm hg_gm w_1 hX hb; have B_w_1 : Aside0 (Below (w.heap.size) w w_1) := ⟨below_then B_w.out B_w.out.size hb⟩; have S_w_1 : Aside0 (Sep (w.heap.size) (Stars [Blk gm #[.int .i64 s, .int .i64 q, .slice A nl c, .int .i64 kd, .int .i64 ep, .int .i64 it, .int .i64 is, .int .i64 rt, .int .i64 rs, .int .i64 ru] 56]) w_1) := ⟨Sep.new_blk S_w.out B_w.out.size hg_gm hb hX⟩; have Q_w_1 : Aside0 (Below w.heap.size w w_1) := ⟨hb⟩; obtain ⟨c_gm_0_w_1, c_gm_1_w_1, c_gm_2_w_1, c_gm_3_w_1, c_gm_4_w_1, c_gm_5_w_1, c_gm_6_w_1, c_gm_7_w_1, c_gm_8_w_1, c_gm_9_w_1⟩ := XW.cells10 (Sep.front [] [] S_w_1.out).blk; obtain ⟨z_gm_0_w_1, z_gm_1_w_1, z_gm_2_w_1, z_gm_3_w_1, z_gm_4_w_1, z_gm_5_w_1, z_gm_6_w_1, z_gm_7_w_1, z_gm_8_w_1, z_gm_9_w_1⟩ := XW.froz10 (Sep.front [] [] S_w_1.out).blk; clear S_w; clear hX hb hg_gm))
  refine start_ (n := 24) (S := fun w' => True) (ds := []) #[false, false, false, false, false, false, false, false, false, false, false, false, false, false, false, false, false, false, false, false, false, false, false, false] (by kernel_rfl) rfl rfl trivial (fun hHeld => ?_)
  generalize hdw : w_1.drew = w_2 at hHeld ⊢
  have HB_w_2 : Aside0 (Below w_1.heap.size w_1 w_2) := ⟨by rw [← hdw]; exact below_drew1 (Below.refl _ _)⟩
  clear hdw
  have B_w_2 : Aside0 (Below (w.heap.size) w w_2) := ⟨below_then B_w_1.out B_w_1.out.size HB_w_2.out⟩
  have S_w_2 : Aside0 (Sep (w.heap.size) (Stars [Blk gm #[.int .i64 s, .int .i64 q, .slice A nl c, .int .i64 kd, .int .i64 ep, .int .i64 it, .int .i64 is, .int .i64 rt, .int .i64 rs, .int .i64 ru] 56]) w_2) := ⟨Sep.below S_w_1.out HB_w_2.out⟩
  have Q_w_2 : Aside0 (Below w.heap.size w w_2) := ⟨below_step Q_w_1.out HB_w_2.out⟩
  obtain ⟨c_gm_0_w_2, c_gm_1_w_2, c_gm_2_w_2, c_gm_3_w_2, c_gm_4_w_2, c_gm_5_w_2, c_gm_6_w_2, c_gm_7_w_2, c_gm_8_w_2, c_gm_9_w_2⟩ := XW.cells10 (Sep.front [] [] S_w_2.out).blk
  obtain ⟨z_gm_0_w_2, z_gm_1_w_2, z_gm_2_w_2, z_gm_3_w_2, z_gm_4_w_2, z_gm_5_w_2, z_gm_6_w_2, z_gm_7_w_2, z_gm_8_w_2, z_gm_9_w_2⟩ := XW.froz10 (Sep.front [] [] S_w_2.out).blk
  clear S_w_1 c_gm_0_w_1 c_gm_1_w_1 c_gm_2_w_1 c_gm_3_w_1 c_gm_4_w_1 c_gm_5_w_1 c_gm_6_w_1 c_gm_7_w_1 c_gm_8_w_1 c_gm_9_w_1 z_gm_0_w_1 z_gm_1_w_1 z_gm_2_w_1 z_gm_3_w_1 z_gm_4_w_1 z_gm_5_w_1 z_gm_6_w_1 z_gm_7_w_1 z_gm_8_w_1 z_gm_9_w_1
  refine pure_ (i := 0) (N := some 6) (v := ?_) (a' := ?_) #[true, false, false, false, false, false, false, false, false, false, false, false, false, false, false, false, false, false, false, false, false, false, false, false] rfl rfl (by kernel_rfl) (fun _ _ _ h => h) (Or.inl ⟨by rfl, ?_⟩) ?_ ?_
  rotate_left
  · intro w'
    go_simp
    with_reducible rfl
  rotate_left
  · simp only [Act.put, List.setIfInBounds_toArray, List.set_cons_zero, List.set_cons_succ, i64_w, i32_w]
    rfl
  refine pure_ (i := 1) (N := some 7) (v := ?_) (a' := ?_) #[true, true, false, false, false, false, false, false, false, false, false, false, false, false, false, false, false, false, false, false, false, false, false, false] rfl rfl (by kernel_rfl) (fun _ _ _ h => h) (Or.inl ⟨by rfl, ?_⟩) ?_ ?_
  rotate_left
  · intro w'
    go_simp
    with_reducible rfl
  rotate_left
  · simp only [Act.put, List.setIfInBounds_toArray, List.set_cons_zero, List.set_cons_succ, i64_w, i32_w]
    rfl
  refine pure_ (i := 2) (N := some 8) (v := ?_) (a' := ?_) #[true, true, true, false, false, false, false, false, false, false, false, false, false, false, false, false, false, false, false, false, false, false, false, false] rfl rfl (by kernel_rfl) (fun _ _ _ h => h) (Or.inl ⟨by rfl, ?_⟩) ?_ ?_
  rotate_left
  · intro w'
    go_simp
    with_reducible rfl
  rotate_left
  · simp only [Act.put, List.setIfInBounds_toArray, List.set_cons_zero, List.set_cons_succ, i64_w, i32_w]
    rfl
  refine pure_ (i := 3) (N := some 9) (v := undef) (a' := ?_) #[true, true, true, true, false, false, false, false, false, false, false, false, false, false, false, false, false, false, false, false, false, false, false, false] rfl rfl (by kernel_rfl) (fun _ _ _ h => h) (Or.inr ⟨by rfl, rfl⟩) ?_ ?_
  rotate_left
  · simp only [Act.put, List.setIfInBounds_toArray, List.set_cons_zero, List.set_cons_succ, i64_w, i32_w]
    rfl
  refine pure_ (i := 4) (N := some 10) (v := undef) (a' := ?_) #[true, true, true, true, true, false, false, false, false, false, false, false, false, false, false, false, false, false, false, false, false, false, false, false] rfl rfl (by kernel_rfl) (fun _ _ _ h => h) (Or.inr ⟨by rfl, rfl⟩) ?_ ?_
  rotate_left
  · simp only [Act.put, List.setIfInBounds_toArray, List.set_cons_zero, List.set_cons_succ, i64_w, i32_w]
    rfl
  refine pure_ (i := 5) (N := some 11) (v := undef) (a' := ?_) #[true, true, true, true, true, true, false, false, false, false, false, false, false, false, false, false, false, false, false, false, false, false, false, false] rfl rfl (by kernel_rfl) (fun _ _ _ h => h) (Or.inr ⟨by rfl, rfl⟩) ?_ ?_
  rotate_left
  · simp only [Act.put, List.setIfInBounds_toArray, List.set_cons_zero, List.set_cons_succ, i64_w, i32_w]
    rfl
  refine pure_ (i := 6) (N := some 12) (v := ?_) (a' := ?_) #[true, true, true, true, true, true, true, false, false, false, false, false, false, false, false, false, false, false, false, false, false, false, false, false] rfl rfl (by kernel_rfl) (fun _ _ _ h => h) (Or.inl ⟨by rfl, ?_⟩) ?_ ?_
  rotate_left
  · intro w'
    go_simp
    with_reducible rfl
  rotate_left
  · simp only [Act.put, List.setIfInBounds_toArray, List.set_cons_zero, List.set_cons_succ, i64_w, i32_w]
    rfl
  refine pure_ (i := 7) (N := some 13) (v := ?_) (a' := ?_) #[true, true, true, true, true, true, true, true, false, false, false, false, false, false, false, false, false, false, false, false, false, false, false, false] rfl rfl (by kernel_rfl) (fun _ _ _ h => h) (Or.inl ⟨by rfl, ?_⟩) ?_ ?_
  rotate_left
  · intro w'
    go_simp
    with_reducible rfl
  rotate_left
  · simp only [Act.put, List.setIfInBounds_toArray, List.set_cons_zero, List.set_cons_succ, i64_w, i32_w]
    rfl
  refine pure_ (i := 8) (N := some 14) (v := undef) (a' := ?_) #[true, true, true, true, true, true, true, true, true, false, false, false, false, false, false, false, false, false, false, false, false, false, false, false] rfl rfl (by kernel_rfl) (fun _ _ _ h => h) (Or.inr ⟨by rfl, rfl⟩) ?_ ?_
  rotate_left
  · simp only [Act.put, List.setIfInBounds_toArray, List.set_cons_zero, List.set_cons_succ, i64_w, i32_w]
    rfl
  refine pure_ (i := 9) (N := some 15) (v := undef) (a' := ?_) #[true, true, true, true, true, true, true, true, true, true, false, false, false, false, false, false, false, false, false, false, false, false, false, false] rfl rfl (by kernel_rfl) (fun _ _ _ h => h) (Or.inr ⟨by rfl, rfl⟩) ?_ ?_
  rotate_left
  · simp only [Act.put, List.setIfInBounds_toArray, List.set_cons_zero, List.set_cons_succ, i64_w, i32_w]
    rfl
  refine pure_ (i := 10) (N := some 16) (v := undef) (a' := ?_) #[true, true, true, true, true, true, true, true, true, true, true, false, false, false, false, false, false, false, false, false, false, false, false, false] rfl rfl (by kernel_rfl) (fun _ _ _ h => h) (Or.inr ⟨by rfl, rfl⟩) ?_ ?_
  rotate_left
  · simp only [Act.put, List.setIfInBounds_toArray, List.set_cons_zero, List.set_cons_succ, i64_w, i32_w]
    rfl
  refine pure_ (i := 11) (N := some 17) (v := undef) (a' := ?_) #[true, true, true, true, true, true, true, true, true, true, true, true, false, false, false, false, false, false, false, false, false, false, false, false] rfl rfl (by kernel_rfl) (fun _ _ _ h => h) (Or.inr ⟨by rfl, rfl⟩) ?_ ?_
  rotate_left
  · simp only [Act.put, List.setIfInBounds_toArray, List.set_cons_zero, List.set_cons_succ, i64_w, i32_w]
    rfl
  refine pure_ (i := 12) (N := some 18) (v := undef) (a' := ?_) #[true, true, true, true, true, true, true, true, true, true, true, true, true, false, false, false, false, false, false, false, false, false, false, false] rfl rfl (by kernel_rfl) (fun _ _ _ h => h) (Or.inr ⟨by rfl, rfl⟩) ?_ ?_
  rotate_left
  · simp only [Act.put, List.setIfInBounds_toArray, List.set_cons_zero, List.set_cons_succ, i64_w, i32_w]
    rfl
  refine pure_ (i := 13) (N := some 19) (v := undef) (a' := ?_) #[true, true, true, true, true, true, true, true, true, true, true, true, true, true, false, false, false, false, false, false, false, false, false, false] rfl rfl (by kernel_rfl) (fun _ _ _ h => h) (Or.inr ⟨by rfl, rfl⟩) ?_ ?_
  rotate_left
  · simp only [Act.put, List.setIfInBounds_toArray, List.set_cons_zero, List.set_cons_succ, i64_w, i32_w]
    rfl
  refine pure_ (i := 14) (N := some 20) (v := undef) (a' := ?_) #[true, true, true, true, true, true, true, true, true, true, true, true, true, true, true, false, false, false, false, false, false, false, false, false] rfl rfl (by kernel_rfl) (fun _ _ _ h => h) (Or.inr ⟨by rfl, rfl⟩) ?_ ?_
  rotate_left
  · simp only [Act.put, List.setIfInBounds_toArray, List.set_cons_zero, List.set_cons_succ, i64_w, i32_w]
    rfl
  refine pure_ (i := 15) (N := some 21) (v := undef) (a' := ?_) #[true, true, true, true, true, true, true, true, true, true, true, true, true, true, true, true, false, false, false, false, false, false, false, false] rfl rfl (by kernel_rfl) (fun _ _ _ h => h) (Or.inr ⟨by rfl, rfl⟩) ?_ ?_
  rotate_left
  · simp only [Act.put, List.setIfInBounds_toArray, List.set_cons_zero, List.set_cons_succ, i64_w, i32_w]
    rfl
  refine pure_ (i := 16) (N := some 22) (v := ?_) (a' := ?_) #[true, true, true, true, true, true, true, true, true, true, true, true, true, true, true, true, true, false, false, false, false, false, false, false] rfl rfl (by kernel_rfl) (fun _ _ _ h => h) (Or.inl ⟨by rfl, ?_⟩) ?_ ?_
  rotate_left
  · intro w'
    go_simp
    with_reducible rfl
  rotate_left
  · simp only [Act.put, List.setIfInBounds_toArray, List.set_cons_zero, List.set_cons_succ, i64_w, i32_w]
    rfl
  refine pure_ (i := 17) (N := some 23) (v := ?_) (a' := ?_) #[true, true, true, true, true, true, true, true, true, true, true, true, true, true, true, true, true, true, false, false, false, false, false, false] rfl rfl (by kernel_rfl) (fun _ _ _ h => h) (Or.inl ⟨by rfl, ?_⟩) ?_ ?_
  rotate_left
  · intro w'
    go_simp
    with_reducible rfl
  rotate_left
  · simp only [Act.put, List.setIfInBounds_toArray, List.set_cons_zero, List.set_cons_succ, i64_w, i32_w]
    rfl
  refine pure_ (i := 18) (N := some 24) (v := undef) (a' := ?_) #[true, true, true, true, true, true, true, true, true, true, true, true, true, true, true, true, true, true, true, false, false, false, false, false] rfl rfl (by kernel_rfl) (fun _ _ _ h => h) (Or.inr ⟨by rfl, rfl⟩) ?_ ?_
  rotate_left
  · simp only [Act.put, List.setIfInBounds_toArray, List.set_cons_zero, List.set_cons_succ, i64_w, i32_w]
    rfl
  refine pure_ (i := 19) (N := some 25) (v := undef) (a' := ?_) #[true, true, true, true, true, true, true, true, true, true, true, true, true, true, true, true, true, true, true, true, false, false, false, false] rfl rfl (by kernel_rfl) (fun _ _ _ h => h) (Or.inr ⟨by rfl, rfl⟩) ?_ ?_
  rotate_left
  · simp only [Act.put, List.setIfInBounds_toArray, List.set_cons_zero, List.set_cons_succ, i64_w, i32_w]
    rfl
  refine pure_ (i := 20) (N := some 26) (v := undef) (a' := ?_) #[true, true, true, true, true, true, true, true, true, true, true, true, true, true, true, true, true, true, true, true, true, false, false, false] rfl rfl (by kernel_rfl) (fun _ _ _ h => h) (Or.inr ⟨by rfl, rfl⟩) ?_ ?_
  rotate_left
  · simp only [Act.put, List.setIfInBounds_toArray, List.set_cons_zero, List.set_cons_succ, i64_w, i32_w]
    rfl
  refine pure_ (i := 21) (N := some 27) (v := undef) (a' := ?_) #[true, true, true, true, true, true, true, true, true, true, true, true, true, true, true, true, true, true, true, true, true, true, false, false] rfl rfl (by kernel_rfl) (fun _ _ _ h => h) (Or.inr ⟨by rfl, rfl⟩) ?_ ?_
  rotate_left
  · simp only [Act.put, List.setIfInBounds_toArray, List.set_cons_zero, List.set_cons_succ, i64_w, i32_w]
    rfl
  refine pure_ (i := 22) (N := some 28) (v := ?_) (a' := ?_) #[true, true, true, true, true, true, true, true, true, true, true, true, true, true, true, true, true, true, true, true, true, true, true, false] rfl rfl (by kernel_rfl) (fun _ _ _ h => h) (Or.inl ⟨by rfl, ?_⟩) ?_ ?_
  rotate_left
  · intro w'
    go_simp
    with_reducible rfl
  rotate_left
  · simp only [Act.put, List.setIfInBounds_toArray, List.set_cons_zero, List.set_cons_succ, i64_w, i32_w]
    rfl
  refine pure_ (i := 23) (N := some 5) (v := ?_) (a' := ?_) #[true, true, true, true, true, true, true, true, true, true, true, true, true, true, true, true, true, true, true, true, true, true, true, true] rfl rfl (by kernel_rfl) (fun _ _ _ h => h) (Or.inl ⟨by rfl, ?_⟩) ?_ ?_
  rotate_left
  · intro w'
    go_simp
    with_reducible rfl
  rotate_left
  · simp only [Act.put, List.setIfInBounds_toArray, List.set_cons_zero, List.set_cons_succ, i64_w, i32_w]
    rfl
  refine done_ (by kernel_rfl) ?_
  go_wp2
  go_ret
  exact ⟨rfl, B_w_2.out⟩
set_option maxHeartbeats 2000000 in
set_option maxRecDepth 100000 in
theorem nil_at (s e : Int) (w : World) : Calls Try.prog 30 #[.pointer none, .int .i64 s, .int .i64 e] w fun en w' => en = .returned (.tuple #[.agg #[.int .i64 0, .int .i64 0], .bool false]) ∧ Below w.heap.size w w' := by
  have hu52 := Try.underlying52
  have hu90 := Try.underlying90
  have B_w := Aside0.mk (Below.refl w.heap.size w)
  have S_w : Aside0 (Sep w.heap.size (Stars []) w) := ⟨Sep.emp _ _⟩
  go_enter Try.func30, Try.ntmps30
  go_wp2_with (first | ((with_reducible refine gate_dst (N := 6) rfl ?_); (try (refine gate_guard (by rfl) ?_; dsimp only)); refine box_event ?hg (N := 6) ?hd (cs := #[.int .i64 0, .int .i64 0]) (t := 52) ?hr ?_; (case hd => rfl); (case hg => rfl); (case hr => first | (go_simp; done) | (go_simp; rfl)); intro gr hg_gr w_1 hX hb; have B_w_1 : Aside0 (Below (w.heap.size) w w_1) := ⟨below_then B_w.out B_w.out.size hb⟩; have S_w_1 : Aside0 (Sep (w.heap.size) (Stars [Blk gr #[.int .i64 0, .int .i64 0] 52]) w_1) := ⟨Sep.new_blk S_w.out B_w.out.size hg_gr hb hX⟩; have Q_w_1 : Aside0 (Below w.heap.size w w_1) := ⟨hb⟩; obtain ⟨c_gr_0_w_1, c_gr_1_w_1⟩ := XW.cells2 (Sep.front [] [] S_w_1.out).blk; obtain ⟨z_gr_0_w_1, z_gr_1_w_1⟩ := XW.froz2 (Sep.front [] [] S_w_1.out).blk; clear S_w; clear hX hb hg_gr) | ((with_reducible refine gate_store (t := 52) (p := 6) rfl ?_); go_must (refine store_event (t := 52) (p := 6) (v := ?vo_1) (w1 := ((w_1.setCell ⟨gr, 0, none⟩ (.int .i64 0)).setCell ⟨gr, 1, none⟩ (.int .i64 0))) ?hg ?ho ?hn ?hr ?_; (case ho => rfl); (case hg => rfl); (case hn => rfl); (case hr => first | (go_simp; done) | (go_simp; rfl)); intro w_2 hw; have B_w_2 : Aside0 (Below (w.heap.size) w w_2) := ⟨by rw [hw]; exact (Below.setCell (Below.setCell B_w_1.out ((Sep.front [] [] S_w_1.out).blk_le) _) ((Sep.front [] [] S_w_1.out).blk_le) _)⟩; have S_w_2 : Aside0 (Sep (w.heap.size) (Stars [Blk gr #[.int .i64 0, .int .i64 0] 52]) w_2) := ⟨by rw [hw]; exact Sep.back [] [] (Sep.store (Sep.store (Sep.front [] [] S_w_1.out) B_w_1.out.size 0 (.int .i64 0) (cs' := #[.int .i64 0, .int .i64 0]) rfl) (Sep.size_store B_w_1.out.size) 1 (.int .i64 0) (cs' := #[.int .i64 0, .int .i64 0]) rfl)⟩; obtain ⟨c_gr_0_w_2, c_gr_1_w_2⟩ := XW.cells2 (Sep.front [] [] S_w_2.out).blk; obtain ⟨z_gr_0_w_2, z_gr_1_w_2⟩ := XW.froz2 (Sep.front [] [] S_w_2.out).blk; clear S_w_1 c_gr_0_w_1 c_gr_1_w_1 z_gr_0_w_1 z_gr_1_w_1; clear hw)))
  refine bodyPost_ret (results_ct rfl _ _ gr 52 #[.int .i64 0, .int .i64 0] (0, 0) _ rfl (Sep.front [] [] S_w_2.out).blk Try.underlying52 rfl (by kernel_rfl)) rfl ?_
  exact ⟨rfl, B_w_2.out⟩
set_option maxHeartbeats 2000000 in
set_option maxRecDepth 100000 in
theorem nil_sites (e : Int) (w : World) : Calls Try.prog 33 #[.pointer none, .int .i64 e] w fun en w' => en = .returned (.slice none 0 0) ∧ Below w.heap.size w w' := by
  have hu52 := Try.underlying52
  have hu57 := Try.underlying57
  go_enter Try.func33, Try.ntmps33
  go_wp2
  go_loopw [5, 9] (fun v5 i wr => ∃ k : Nat, k ≤ 16 ∧ i = .int .i64 k ∧ v5 = .slice none 0 0 ∧ Aside0 (Sep w.heap.size (Stars []) wr) ∧ Aside0 (Below w.heap.size w wr)) (fun _ i _ => 16 - (intOf i).toNat)
  case atStart => exact ⟨0, by omega, rfl, rfl, ⟨Sep.emp _ _⟩, ⟨Below.refl _ _⟩⟩
  case round =>
    obtain ⟨k, hk, rfl, rfl, S_wr, B_wr⟩ := hrel
    by_cases hlt : k < 16
    · go_wp2_with (first | (go_at_call 30; (with_reducible refine (nil_at _ _ _).mono ?_); rintro e wr_1 ⟨rfl, hb⟩; have B_wr_1 : Aside0 (Below (w.heap.size) w wr_1) := ⟨below_then B_wr.out B_wr.out.size hb⟩; have S_wr_1 : Aside0 (Sep (w.heap.size) (Stars []) wr_1) := ⟨Sep.below S_wr.out hb⟩; clear S_wr; clear hb) | ((with_reducible refine gate_dst (N := 7) rfl ?_); (try (refine gate_guard (by rfl) ?_; dsimp only)); refine box_event ?hg (N := 7) ?hd (cs := #[.int .i64 0, .int .i64 0]) (t := 52) ?hr ?_; (case hd => rfl); (case hg => rfl); (case hr => first | (go_simp; done) | (go_simp; rfl)); intro gx hg_gx wr_2 hX hb; have B_wr_2 : Aside0 (Below (w.heap.size) w wr_2) := ⟨below_then B_wr_1.out B_wr_1.out.size hb⟩; have S_wr_2 : Aside0 (Sep (w.heap.size) (Stars [Blk gx #[.int .i64 0, .int .i64 0] 52]) wr_2) := ⟨Sep.new_blk S_wr_1.out B_wr_1.out.size hg_gx hb hX⟩; obtain ⟨c_gx_0_wr_2, c_gx_1_wr_2⟩ := XW.cells2 (Sep.front [] [] S_wr_2.out).blk; obtain ⟨z_gx_0_wr_2, z_gx_1_wr_2⟩ := XW.froz2 (Sep.front [] [] S_wr_2.out).blk; clear S_wr_1; clear hX hb hg_gx) | ((with_reducible refine gate_store (t := 52) (p := 7) rfl ?_); go_must (refine store_event (t := 52) (p := 7) (v := ?vo_2) (w1 := ((wr_2.setCell ⟨gx, 0, none⟩ (.int .i64 0)).setCell ⟨gx, 1, none⟩ (.int .i64 0))) ?hg ?ho ?hn ?hr ?_; (case ho => rfl); (case hg => rfl); (case hn => rfl); (case hr => first | (go_simp; done) | (go_simp; rfl)); intro wr_3 hw; have B_wr_3 : Aside0 (Below (w.heap.size) w wr_3) := ⟨by rw [hw]; exact (Below.setCell (Below.setCell B_wr_2.out ((Sep.front [] [] S_wr_2.out).blk_le) _) ((Sep.front [] [] S_wr_2.out).blk_le) _)⟩; have S_wr_3 : Aside0 (Sep (w.heap.size) (Stars [Blk gx #[.int .i64 0, .int .i64 0] 52]) wr_3) := ⟨by rw [hw]; exact Sep.back [] [] (Sep.store (Sep.store (Sep.front [] [] S_wr_2.out) B_wr_2.out.size 0 (.int .i64 0) (cs' := #[.int .i64 0, .int .i64 0]) rfl) (Sep.size_store B_wr_2.out.size) 1 (.int .i64 0) (cs' := #[.int .i64 0, .int .i64 0]) rfl)⟩; obtain ⟨c_gx_0_wr_3, c_gx_1_wr_3⟩ := XW.cells2 (Sep.front [] [] S_wr_3.out).blk; obtain ⟨z_gx_0_wr_3, z_gx_1_wr_3⟩ := XW.froz2 (Sep.front [] [] S_wr_3.out).blk; clear S_wr_2 c_gx_0_wr_2 c_gx_1_wr_2 z_gx_0_wr_2 z_gx_1_wr_2; clear hw)))
      go_roundw
      case rel => exact ⟨k + 1, by omega, by go_num, rfl, ⟨Sep.emp _ _⟩, B_wr_3⟩
      case measure => simp [intOf]; omega
    · go_wp2
      go_ret
      exact ⟨rfl, B_wr.out⟩
end Go.Proofs.Ytiplkmmppihilaa.PastA
