/- The law FrontNil, walked. Conditions: none beyond those that each theorem states. -/
import Derived.Test.YtiplkmmppihilaaFrontG
namespace Go.Proofs.Ytiplkmmppihilaa.FrontA
open Go.RowKit Go.Proofs.YtiplkmmppihilaaW.PrintWords Go.Proofs.YtiplkmmppihilaaW.PrintLast Go.Proofs.YtiplkmmppihilaaW.PrintMore Go.Proofs.Ytiplkmmppihilaa.XS Go.Proofs.Ytiplkmmppihilaa.PFront
set_option linter.unusedVariables false
set_option linter.unusedSimpArgs false
theorem hear_nil (w : World) (s : Int) (A : Option Addr) (n c : Nat) : Calls Try.prog 38 #[.pointer none, .int .i64 s, .slice A n c] w fun e w' => e = .returned (.int .i64 1) ∧ w = w' := by
  go_enter Try.func38, Try.ntmps38
  go_wp2_with (first | (go_at_call 56; (with_reducible refine (has_nil _ _).mono ?_); rintro e w' ⟨rfl, rfl⟩))
  go_ret
  exact ⟨rfl, rfl⟩
set_option maxHeartbeats 4000000 in
set_option maxRecDepth 100000 in
theorem frontNil (s : Int) (A : Option Addr) (c : Nat) (l : List Int) (w : World) (hC : (Kd.int .i64).C w A l.length l) (hc : l.length ≤ c) : Calls Try.prog 11 #[.agg #[.int .i64 s, .slice A l.length c]] w fun e w' => e = .returned (.bool true) ∧ Below w.heap.size w w' := by
  clear hC hc
  have hu73 := Try.underlying73
  have B_w := Aside0.mk (Below.refl w.heap.size w)
  have S_w : Aside0 (Sep w.heap.size (Stars []) w) := ⟨Sep.emp _ _⟩
  by_cases hl : 30 < l.length
  · have hl2 : (30 : Int) < (l.length : Int) := by omega
    go_enter Try.func11, Try.ntmps11
    go_wp2_with (first | ((with_reducible refine gate_dst (N := 1) rfl ?_); (try (refine gate_guard (by rfl) ?_; dsimp only)); refine box_event ?hg (N := 1) ?hd (cs := #[.int .i64 s, .slice A l.length c]) (t := 73) ?hr ?_; (case hd => rfl); (case hg => rfl); (case hr => first | (go_simp; done) | (go_simp; rfl)); intro go hg_go w_1 hX hb; have B_w_1 : Aside0 (Below (w.heap.size) w w_1) := ⟨below_then B_w.out B_w.out.size hb⟩; have S_w_1 : Aside0 (Sep (w.heap.size) (Stars [Blk go #[.int .i64 s, .slice A l.length c] 73]) w_1) := ⟨Sep.new_blk S_w.out B_w.out.size hg_go hb hX⟩; have Q_w_1 : Aside0 (Below w.heap.size w w_1) := ⟨hb⟩; obtain ⟨c_go_0_w_1, c_go_1_w_1⟩ := XW.cells2 (Sep.front [] [] S_w_1.out).blk; obtain ⟨z_go_0_w_1, z_go_1_w_1⟩ := XW.froz2 (Sep.front [] [] S_w_1.out).blk; clear S_w; clear hX hb hg_go) | (go_at_call 37; (with_reducible refine (live9 _).mono ?_); rintro e w_2 ⟨rfl, hb⟩; have B_w_2 : Aside0 (Below (w.heap.size) w w_2) := ⟨below_then B_w_1.out B_w_1.out.size hb⟩; have S_w_2 : Aside0 (Sep (w.heap.size) (Stars [Blk go #[.int .i64 s, .slice A l.length c] 73]) w_2) := ⟨Sep.below S_w_1.out hb⟩; have Q_w_2 : Aside0 (Below w.heap.size w w_2) := ⟨below_step Q_w_1.out hb⟩; obtain ⟨c_go_0_w_2, c_go_1_w_2⟩ := XW.cells2 (Sep.front [] [] S_w_2.out).blk; obtain ⟨z_go_0_w_2, z_go_1_w_2⟩ := XW.froz2 (Sep.front [] [] S_w_2.out).blk; clear S_w_1 c_go_0_w_1 c_go_1_w_1 z_go_0_w_1 z_go_1_w_1; clear hb))
    go_ret
    exact ⟨rfl, B_w_2.out⟩
  have hl2 : ¬ (30 : Int) < (l.length : Int) := by omega
  go_enter Try.func11, Try.ntmps11
  go_wp2_with (first | ((with_reducible refine gate_dst (N := 1) rfl ?_); (try (refine gate_guard (by rfl) ?_; dsimp only)); refine box_event ?hg (N := 1) ?hd (cs := #[.int .i64 s, .slice A l.length c]) (t := 73) ?hr ?_; (case hd => rfl); (case hg => rfl); (case hr => first | (go_simp; done) | (go_simp; rfl)); intro go hg_go w_1 hX hb; have B_w_1 : Aside0 (Below (w.heap.size) w w_1) := ⟨below_then B_w.out B_w.out.size hb⟩; have S_w_1 : Aside0 (Sep (w.heap.size) (Stars [Blk go #[.int .i64 s, .slice A l.length c] 73]) w_1) := ⟨Sep.new_blk S_w.out B_w.out.size hg_go hb hX⟩; have Q_w_1 : Aside0 (Below w.heap.size w w_1) := ⟨hb⟩; obtain ⟨c_go_0_w_1, c_go_1_w_1⟩ := XW.cells2 (Sep.front [] [] S_w_1.out).blk; obtain ⟨z_go_0_w_1, z_go_1_w_1⟩ := XW.froz2 (Sep.front [] [] S_w_1.out).blk; clear S_w; clear hX hb hg_go) | (go_at_call 35; (with_reducible refine (front_none _ 0 (by decide)).mono ?_); rintro e w_2 ⟨rfl, hb⟩; have B_w_2 : Aside0 (Below (w.heap.size) w w_2) := ⟨below_then B_w_1.out B_w_1.out.size hb⟩; have S_w_2 : Aside0 (Sep (w.heap.size) (Stars [Blk go #[.int .i64 s, .slice A l.length c] 73]) w_2) := ⟨Sep.below S_w_1.out hb⟩; have Q_w_2 : Aside0 (Below w.heap.size w w_2) := ⟨below_step Q_w_1.out hb⟩; obtain ⟨c_go_0_w_2, c_go_1_w_2⟩ := XW.cells2 (Sep.front [] [] S_w_2.out).blk; obtain ⟨z_go_0_w_2, z_go_1_w_2⟩ := XW.froz2 (Sep.front [] [] S_w_2.out).blk; clear S_w_1 c_go_0_w_1 c_go_1_w_1 z_go_0_w_1 z_go_1_w_1; clear hb) | (go_at_call 38; (with_reducible refine (hear_nil _ s _ _ _).mono ?_); rintro e w' ⟨rfl, rfl⟩) | (go_at_call 46; (with_reducible refine (row_nil _ s).mono ?_); rintro e w' ⟨rfl, rfl⟩) | (go_at_call 40; (with_reducible refine (stable_nil _).mono ?_); rintro e w' ⟨rfl, rfl⟩) | (go_at_call 42; (with_reducible refine (most_nil _).mono ?_); rintro e w' ⟨rfl, rfl⟩) | (go_at_call 44; (with_reducible refine (late_nil _).mono ?_); rintro e w' ⟨rfl, rfl⟩) | (go_at_call 37; (with_reducible refine (live9 _).mono ?_); rintro e w_3 ⟨rfl, hb⟩; have B_w_3 : Aside0 (Below (w.heap.size) w w_3) := ⟨below_then B_w_2.out B_w_2.out.size hb⟩; have S_w_3 : Aside0 (Sep (w.heap.size) (Stars [Blk go #[.int .i64 s, .slice A l.length c] 73]) w_3) := ⟨Sep.below S_w_2.out hb⟩; have Q_w_3 : Aside0 (Below w.heap.size w w_3) := ⟨below_step Q_w_2.out hb⟩; obtain ⟨c_go_0_w_3, c_go_1_w_3⟩ := XW.cells2 (Sep.front [] [] S_w_3.out).blk; obtain ⟨z_go_0_w_3, z_go_1_w_3⟩ := XW.froz2 (Sep.front [] [] S_w_3.out).blk; clear S_w_2 c_go_0_w_2 c_go_1_w_2 z_go_0_w_2 z_go_1_w_2; clear hb))
  go_ret
  exact ⟨rfl, B_w_3.out⟩
end Go.Proofs.Ytiplkmmppihilaa.FrontA
