/- The document's check of a message, walked. Conditions: none beyond those that each theorem states. -/
import Derived.Test.YtiplkmmppihilaaPastQ0
namespace Go.Proofs.Ytiplkmmppihilaa.PastA
open Go.RowKit Go.Proofs.YtiplkmmppihilaaW.PrintWords Go.Proofs.YtiplkmmppihilaaW.PrintLast Go.Proofs.YtiplkmmppihilaaW.PrintMore Go.Proofs.Ytiplkmmppihilaa.XS Go.Proofs.Ytiplkmmppihilaa.PPast
set_option linter.unusedVariables false
set_option linter.unusedSimpArgs false
set_option maxHeartbeats 8000000 in
set_option maxRecDepth 100000 in
theorem ref_check_0 (s q : Int) (A : Option Addr) (c : Nat) (l : List Int) (kd ep it is rt rs ru : Int) (w : World) (hC : (Kd.int .i64).C w A l.length l) (hc : l.length ≤ c)  (h0 : (l.length : Int) < 1) :
    Calls Try.prog 54 #[.agg #[.int .i64 s, .int .i64 q, .slice A l.length c, .int .i64 kd, .int .i64 ep, .int .i64 it, .int .i64 is, .int .i64 rt, .int .i64 rs, .int .i64 ru]] w fun en w' => en = .returned (.int .i64 1) ∧ Below w.heap.size w w' := by
  have HC := Aside0.mk hC
  clear hC
  have hu50 := Try.underlying50
  have hu52 := Try.underlying52
  have hu54 := Try.underlying54
  have hu56 := Try.underlying56
  have B_w := Aside0.mk (Below.refl w.heap.size w)
  have S_w : Aside0 (Sep w.heap.size (Stars []) w) := ⟨Sep.emp _ _⟩
  have t0 : decide ((l.length : Int) < 1) = true := decide_eq_true h0
  clear h0
  go_enter Try.func54, Try.ntmps54
  go_upto_region 2 with (first | ((with_reducible refine gate_dst (N := 1) rfl ?_); (try (refine gate_guard (by rfl) ?_; dsimp only)); refine box_event ?hg (N := 1) ?hd (cs := #[.int .i64 s, .int .i64 q, .slice A l.length c, .int .i64 kd, .int .i64 ep, .int .i64 it, .int .i64 is, .int .i64 rt, .int .i64 rs, .int .i64 ru]) (t := 56) ?hr ?_; (case hd => rfl); (case hg => rfl); (case hr => first | (go_simp; done) | (go_simp; rfl)); intro gm hg_gm w_1 hX hb; have B_w_1 : Aside0 (Below (w.heap.size) w w_1) := ⟨below_then B_w.out B_w.out.size hb⟩; have S_w_1 : Aside0 (Sep (w.heap.size) (Stars [Blk gm #[.int .i64 s, .int .i64 q, .slice A l.length c, .int .i64 kd, .int .i64 ep, .int .i64 it, .int .i64 is, .int .i64 rt, .int .i64 rs, .int .i64 ru] 56]) w_1) := ⟨Sep.new_blk S_w.out B_w.out.size hg_gm hb hX⟩; have Q_w_1 : Aside0 (Below w.heap.size w w_1) := ⟨hb⟩; obtain ⟨c_gm_0_w_1, c_gm_1_w_1, c_gm_2_w_1, c_gm_3_w_1, c_gm_4_w_1, c_gm_5_w_1, c_gm_6_w_1, c_gm_7_w_1, c_gm_8_w_1, c_gm_9_w_1⟩ := XW.cells10 (Sep.front [] [] S_w_1.out).blk; obtain ⟨z_gm_0_w_1, z_gm_1_w_1, z_gm_2_w_1, z_gm_3_w_1, z_gm_4_w_1, z_gm_5_w_1, z_gm_6_w_1, z_gm_7_w_1, z_gm_8_w_1, z_gm_9_w_1⟩ := XW.froz10 (Sep.front [] [] S_w_1.out).blk; clear S_w; clear hX hb hg_gm))
  go_quiet (fail)
  go_wp2
  go_ret
  exact ⟨rfl, pw_below_drewN B_w_1.out _⟩
set_option maxHeartbeats 8000000 in
set_option maxRecDepth 100000 in
theorem ref_check_1 (s q : Int) (A : Option Addr) (c : Nat) (l : List Int) (kd ep it is rt rs ru : Int) (w : World) (hC : (Kd.int .i64).C w A l.length l) (hc : l.length ≤ c) (h0 : ¬ ((l.length : Int) < 1)) (h1 : 16 < (l.length : Int)) :
    Calls Try.prog 54 #[.agg #[.int .i64 s, .int .i64 q, .slice A l.length c, .int .i64 kd, .int .i64 ep, .int .i64 it, .int .i64 is, .int .i64 rt, .int .i64 rs, .int .i64 ru]] w fun en w' => en = .returned (.int .i64 1) ∧ Below w.heap.size w w' := by
  have HC := Aside0.mk hC
  clear hC
  have hu50 := Try.underlying50
  have hu52 := Try.underlying52
  have hu54 := Try.underlying54
  have hu56 := Try.underlying56
  have B_w := Aside0.mk (Below.refl w.heap.size w)
  have S_w : Aside0 (Sep w.heap.size (Stars []) w) := ⟨Sep.emp _ _⟩
  have t0 : decide ((l.length : Int) < 1) = false := decide_eq_false h0
  have t1 : decide (16 < (l.length : Int)) = true := decide_eq_true h1
  clear h0 h1
  go_enter Try.func54, Try.ntmps54
  go_upto_region 2 with (first | ((with_reducible refine gate_dst (N := 1) rfl ?_); (try (refine gate_guard (by rfl) ?_; dsimp only)); refine box_event ?hg (N := 1) ?hd (cs := #[.int .i64 s, .int .i64 q, .slice A l.length c, .int .i64 kd, .int .i64 ep, .int .i64 it, .int .i64 is, .int .i64 rt, .int .i64 rs, .int .i64 ru]) (t := 56) ?hr ?_; (case hd => rfl); (case hg => rfl); (case hr => first | (go_simp; done) | (go_simp; rfl)); intro gm hg_gm w_1 hX hb; have B_w_1 : Aside0 (Below (w.heap.size) w w_1) := ⟨below_then B_w.out B_w.out.size hb⟩; have S_w_1 : Aside0 (Sep (w.heap.size) (Stars [Blk gm #[.int .i64 s, .int .i64 q, .slice A l.length c, .int .i64 kd, .int .i64 ep, .int .i64 it, .int .i64 is, .int .i64 rt, .int .i64 rs, .int .i64 ru] 56]) w_1) := ⟨Sep.new_blk S_w.out B_w.out.size hg_gm hb hX⟩; have Q_w_1 : Aside0 (Below w.heap.size w w_1) := ⟨hb⟩; obtain ⟨c_gm_0_w_1, c_gm_1_w_1, c_gm_2_w_1, c_gm_3_w_1, c_gm_4_w_1, c_gm_5_w_1, c_gm_6_w_1, c_gm_7_w_1, c_gm_8_w_1, c_gm_9_w_1⟩ := XW.cells10 (Sep.front [] [] S_w_1.out).blk; obtain ⟨z_gm_0_w_1, z_gm_1_w_1, z_gm_2_w_1, z_gm_3_w_1, z_gm_4_w_1, z_gm_5_w_1, z_gm_6_w_1, z_gm_7_w_1, z_gm_8_w_1, z_gm_9_w_1⟩ := XW.froz10 (Sep.front [] [] S_w_1.out).blk; clear S_w; clear hX hb hg_gm))
  go_quiet (fail)
  go_wp2
  go_ret
  exact ⟨rfl, pw_below_drewN B_w_1.out _⟩
set_option maxHeartbeats 8000000 in
set_option maxRecDepth 100000 in
theorem ref_check_2 (s q : Int) (A : Option Addr) (c : Nat) (l : List Int) (kd ep it is rt rs ru : Int) (w : World) (hC : (Kd.int .i64).C w A l.length l) (hc : l.length ≤ c) (h0 : ¬ ((l.length : Int) < 1)) (h1 : ¬ (16 < (l.length : Int))) (h2 : s < 0) :
    Calls Try.prog 54 #[.agg #[.int .i64 s, .int .i64 q, .slice A l.length c, .int .i64 kd, .int .i64 ep, .int .i64 it, .int .i64 is, .int .i64 rt, .int .i64 rs, .int .i64 ru]] w fun en w' => en = .returned (.int .i64 1) ∧ Below w.heap.size w w' := by
  have HC := Aside0.mk hC
  clear hC
  have hu50 := Try.underlying50
  have hu52 := Try.underlying52
  have hu54 := Try.underlying54
  have hu56 := Try.underlying56
  have B_w := Aside0.mk (Below.refl w.heap.size w)
  have S_w : Aside0 (Sep w.heap.size (Stars []) w) := ⟨Sep.emp _ _⟩
  have t0 : decide ((l.length : Int) < 1) = false := decide_eq_false h0
  have t1 : decide (16 < (l.length : Int)) = false := decide_eq_false h1
  have t2 : decide (s < 0) = true := decide_eq_true h2
  clear h0 h1 h2
  go_enter Try.func54, Try.ntmps54
  go_upto_region 2 with (first | ((with_reducible refine gate_dst (N := 1) rfl ?_); (try (refine gate_guard (by rfl) ?_; dsimp only)); refine box_event ?hg (N := 1) ?hd (cs := #[.int .i64 s, .int .i64 q, .slice A l.length c, .int .i64 kd, .int .i64 ep, .int .i64 it, .int .i64 is, .int .i64 rt, .int .i64 rs, .int .i64 ru]) (t := 56) ?hr ?_; (case hd => rfl); (case hg => rfl); (case hr => first | (go_simp; done) | (go_simp; rfl)); intro gm hg_gm w_1 hX hb; have B_w_1 : Aside0 (Below (w.heap.size) w w_1) := ⟨below_then B_w.out B_w.out.size hb⟩; have S_w_1 : Aside0 (Sep (w.heap.size) (Stars [Blk gm #[.int .i64 s, .int .i64 q, .slice A l.length c, .int .i64 kd, .int .i64 ep, .int .i64 it, .int .i64 is, .int .i64 rt, .int .i64 rs, .int .i64 ru] 56]) w_1) := ⟨Sep.new_blk S_w.out B_w.out.size hg_gm hb hX⟩; have Q_w_1 : Aside0 (Below w.heap.size w w_1) := ⟨hb⟩; obtain ⟨c_gm_0_w_1, c_gm_1_w_1, c_gm_2_w_1, c_gm_3_w_1, c_gm_4_w_1, c_gm_5_w_1, c_gm_6_w_1, c_gm_7_w_1, c_gm_8_w_1, c_gm_9_w_1⟩ := XW.cells10 (Sep.front [] [] S_w_1.out).blk; obtain ⟨z_gm_0_w_1, z_gm_1_w_1, z_gm_2_w_1, z_gm_3_w_1, z_gm_4_w_1, z_gm_5_w_1, z_gm_6_w_1, z_gm_7_w_1, z_gm_8_w_1, z_gm_9_w_1⟩ := XW.froz10 (Sep.front [] [] S_w_1.out).blk; clear S_w; clear hX hb hg_gm))
  go_quiet (fail)
  go_wp2
  go_ret
  exact ⟨rfl, pw_below_drewN B_w_1.out _⟩
set_option maxHeartbeats 8000000 in
set_option maxRecDepth 100000 in
theorem ref_check_3 (s q : Int) (A : Option Addr) (c : Nat) (l : List Int) (kd ep it is rt rs ru : Int) (w : World) (hC : (Kd.int .i64).C w A l.length l) (hc : l.length ≤ c) (h0 : ¬ ((l.length : Int) < 1)) (h1 : ¬ (16 < (l.length : Int))) (h2 : ¬ (s < 0)) (h3 : (l.length : Int) ≤ s) :
    Calls Try.prog 54 #[.agg #[.int .i64 s, .int .i64 q, .slice A l.length c, .int .i64 kd, .int .i64 ep, .int .i64 it, .int .i64 is, .int .i64 rt, .int .i64 rs, .int .i64 ru]] w fun en w' => en = .returned (.int .i64 1) ∧ Below w.heap.size w w' := by
  have HC := Aside0.mk hC
  clear hC
  have hu50 := Try.underlying50
  have hu52 := Try.underlying52
  have hu54 := Try.underlying54
  have hu56 := Try.underlying56
  have B_w := Aside0.mk (Below.refl w.heap.size w)
  have S_w : Aside0 (Sep w.heap.size (Stars []) w) := ⟨Sep.emp _ _⟩
  have t0 : decide ((l.length : Int) < 1) = false := decide_eq_false h0
  have t1 : decide (16 < (l.length : Int)) = false := decide_eq_false h1
  have t2 : decide (s < 0) = false := decide_eq_false h2
  have t3 : decide ((l.length : Int) ≤ s) = true := decide_eq_true h3
  clear h0 h1 h2 h3
  go_enter Try.func54, Try.ntmps54
  go_upto_region 2 with (first | ((with_reducible refine gate_dst (N := 1) rfl ?_); (try (refine gate_guard (by rfl) ?_; dsimp only)); refine box_event ?hg (N := 1) ?hd (cs := #[.int .i64 s, .int .i64 q, .slice A l.length c, .int .i64 kd, .int .i64 ep, .int .i64 it, .int .i64 is, .int .i64 rt, .int .i64 rs, .int .i64 ru]) (t := 56) ?hr ?_; (case hd => rfl); (case hg => rfl); (case hr => first | (go_simp; done) | (go_simp; rfl)); intro gm hg_gm w_1 hX hb; have B_w_1 : Aside0 (Below (w.heap.size) w w_1) := ⟨below_then B_w.out B_w.out.size hb⟩; have S_w_1 : Aside0 (Sep (w.heap.size) (Stars [Blk gm #[.int .i64 s, .int .i64 q, .slice A l.length c, .int .i64 kd, .int .i64 ep, .int .i64 it, .int .i64 is, .int .i64 rt, .int .i64 rs, .int .i64 ru] 56]) w_1) := ⟨Sep.new_blk S_w.out B_w.out.size hg_gm hb hX⟩; have Q_w_1 : Aside0 (Below w.heap.size w w_1) := ⟨hb⟩; obtain ⟨c_gm_0_w_1, c_gm_1_w_1, c_gm_2_w_1, c_gm_3_w_1, c_gm_4_w_1, c_gm_5_w_1, c_gm_6_w_1, c_gm_7_w_1, c_gm_8_w_1, c_gm_9_w_1⟩ := XW.cells10 (Sep.front [] [] S_w_1.out).blk; obtain ⟨z_gm_0_w_1, z_gm_1_w_1, z_gm_2_w_1, z_gm_3_w_1, z_gm_4_w_1, z_gm_5_w_1, z_gm_6_w_1, z_gm_7_w_1, z_gm_8_w_1, z_gm_9_w_1⟩ := XW.froz10 (Sep.front [] [] S_w_1.out).blk; clear S_w; clear hX hb hg_gm))
  go_quiet (fail)
  go_wp2
  go_ret
  exact ⟨rfl, pw_below_drewN B_w_1.out _⟩
end Go.Proofs.Ytiplkmmppihilaa.PastA
