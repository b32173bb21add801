/- The law FrontOne, walked. Conditions: none beyond those that each theorem states. -/
import Derived.Test.YtiplkmmppihilaaFrontN
namespace Go.Proofs.Ytiplkmmppihilaa.FrontA
open Go.RowKit Go.Proofs.YtiplkmmppihilaaW.PrintWords Go.Proofs.YtiplkmmppihilaaW.PrintLast Go.Proofs.YtiplkmmppihilaaW.PrintMore Go.Proofs.Ytiplkmmppihilaa.XS Go.Proofs.Ytiplkmmppihilaa.PFront
set_option linter.unusedVariables false
set_option linter.unusedSimpArgs false
abbrev Fo0 : Array Bool := #[false, false, false, false, false, false, false, false, false, false, false, false, false, false, false, false, false, false, false]
abbrev Fo1 : Array Bool := #[true, false, false, false, false, false, false, false, false, false, false, false, false, false, false, false, false, false, false]
abbrev Fo2 : Array Bool := #[true, true, false, false, false, false, false, false, false, false, false, false, false, false, false, false, false, false, false]
abbrev Fo3 : Array Bool := #[true, true, true, false, false, false, false, false, false, false, false, false, false, false, false, false, false, false, false]
abbrev Fo4 : Array Bool := #[true, true, true, true, false, false, false, false, false, false, false, false, false, false, false, false, false, false, false]
abbrev Fo5 : Array Bool := #[true, true, true, true, true, false, false, false, false, false, false, false, false, false, false, false, false, false, false]
abbrev Fo6 : Array Bool := #[true, true, true, true, true, true, false, false, false, false, false, false, false, false, false, false, false, false, false]
abbrev Fo7 : Array Bool := #[true, true, true, true, true, true, true, false, false, false, false, false, false, false, false, false, false, false, false]
abbrev Fo8 : Array Bool := #[true, true, true, true, true, true, true, true, false, false, false, false, false, false, false, false, false, false, false]
abbrev Fo9 : Array Bool := #[true, true, true, true, true, true, true, true, true, false, false, false, false, false, false, false, false, false, false]
abbrev Fo10 : Array Bool := #[true, true, true, true, true, true, true, true, true, true, false, false, false, false, false, false, false, false, false]
abbrev Fo11 : Array Bool := #[true, true, true, true, true, true, true, true, true, true, true, false, false, false, false, false, false, false, false]
abbrev Fo12 : Array Bool := #[true, true, true, true, true, true, true, true, true, true, true, false, true, false, false, false, false, false, false]
abbrev Fo13 : Array Bool := #[true, true, true, true, true, true, true, true, true, true, true, false, true, true, false, false, false, false, false]
abbrev Fo14 : Array Bool := #[true, true, true, true, true, true, true, true, true, true, true, false, true, true, true, false, false, false, false]
abbrev Fo15 : Array Bool := #[true, true, true, true, true, true, true, true, true, true, true, false, true, true, true, true, false, false, false]
abbrev Fo16 : Array Bool := #[true, true, true, true, true, true, true, true, true, true, true, true, true, true, true, true, false, false, false]
abbrev Fo17 : Array Bool := #[true, true, true, true, true, true, true, true, true, true, true, true, true, true, true, true, true, false, false]
abbrev Fo18 : Array Bool := #[true, true, true, true, true, true, true, true, true, true, true, true, true, true, true, true, true, true, false]
abbrev Fo19 : Array Bool := #[true, true, true, true, true, true, true, true, true, true, true, true, true, true, true, true, true, true, true]
abbrev Fo20 : Array Bool := #[true, true, true, true, true, true, true, true, true, true, true, true, false, false, false, false, false, false, false]
abbrev Fo21 : Array Bool := #[true, true, true, true, true, true, true, true, true, true, true, true, true, false, false, false, false, false, false]
abbrev Fo22 : Array Bool := #[true, true, true, true, true, true, true, true, true, true, true, true, true, true, false, false, false, false, false]
abbrev Fo23 : Array Bool := #[true, true, true, true, true, true, true, true, true, true, true, true, true, true, true, false, false, false, false]
abbrev Fo24 : Array Bool := #[false, false, false, false, false, false, false, false, false, false, false, false, false, false, false]
abbrev Fo25 : Array Bool := #[true, false, false, false, false, false, false, false, false, false, false, false, false, false, false]
abbrev Fo26 : Array Bool := #[true, true, false, false, false, false, false, false, false, false, false, false, false, false, false]
abbrev Fo27 : Array Bool := #[true, true, true, false, false, false, false, false, false, false, false, false, false, false, false]
abbrev Fo28 : Array Bool := #[true, true, true, true, false, false, false, false, false, false, false, false, false, false, false]
abbrev Fo29 : Array Bool := #[true, true, true, true, true, false, false, false, false, false, false, false, false, false, false]
abbrev Fo30 : Array Bool := #[true, true, true, true, true, true, false, false, false, false, false, false, false, false, false]
abbrev Fo31 : Array Bool := #[true, true, true, true, true, true, true, false, false, false, false, false, false, false, false]
abbrev Fo32 : Array Bool := #[true, true, true, true, true, true, true, true, false, false, false, false, false, false, false]
abbrev Fo33 : Array Bool := #[true, true, true, true, true, true, true, true, true, false, false, false, false, false, false]
abbrev Fo34 : Array Bool := #[true, true, true, true, true, true, true, true, true, true, false, false, false, false, false]
abbrev Fo35 : Array Bool := #[true, true, true, true, true, true, true, true, true, true, true, false, false, false, false]
abbrev Fo36 : Array Bool := #[true, true, true, true, true, true, true, true, true, true, true, true, false, false, false]
abbrev Fo37 : Array Bool := #[true, true, true, true, true, true, true, true, true, true, true, true, true, false, false]
abbrev Fo38 : Array Bool := #[true, true, true, true, true, true, true, true, true, true, true, true, true, true, false]
abbrev Fo39 : Array Bool := #[true, true, true, true, true, true, true, true, true, true, true, true, true, true, true]
abbrev Fo40 : Array Bool := #[true, true, true, true, false, true, false, false, false, false, false, false, false, false, false]
abbrev Fo41 : Array Bool := #[true, true, true, true, false, true, true, false, false, false, false, false, false, false, false]
/-- The rows that the first k sites tell. -/
def rowsUp (R : List (List Int)) : Nat → List (List Int)
  | 0 => []
  | k + 1 => rowsUp R k ++ [rowOf R (k : Int)]
theorem rowsUp_len (R : List (List Int)) : ∀ k : Nat, (rowsUp R k).length = k
  | 0 => rfl
  | k + 1 => by rw [rowsUp, List.length_append, rowsUp_len R k]; rfl
theorem rowsUp_at (R : List (List Int)) : ∀ (k j : Nat), j < k → rd_L1 (rowsUp R k) (j : Int) = rowOf R (j : Int)
  | 0, j, h => by omega
  | k + 1, j, h => by
    simp only [rd_L1, Int.toNat_natCast, List.getD_eq_getElem?_getD, rowsUp]
    by_cases c : j < k
    · rw [List.getElem?_append_left (by rw [rowsUp_len]; exact c)]
      have := rowsUp_at R k j c
      simp only [rd_L1, Int.toNat_natCast, List.getD_eq_getElem?_getD] at this
      exact this
    · obtain rfl : j = k := by omega
      rw [List.getElem?_append_right (by rw [rowsUp_len]; omega), rowsUp_len, Nat.sub_self]; rfl
set_option maxHeartbeats 8000000 in
set_option maxRecDepth 100000 in
theorem frontOne (sites so : Int) (Ao : Option Addr) (co : Nat) (vo : List Int) (sp : Int) (Ap : Option Addr) (cp : Nat) (vp : List Int) (w : World) (hro : (Kd.int .i64).C w Ao vo.length vo) (hco : vo.length ≤ co) (hrp : (Kd.int .i64).C w Ap vp.length vp) (hcp : vp.length ≤ cp) : Calls Try.prog 13 #[.int .i64 sites, .agg #[.int .i64 so, .slice Ao vo.length co], .agg #[.int .i64 sp, .slice Ap vp.length cp]] w fun e w' => e = .returned (.bool true) ∧ Below w.heap.size w w' := by
  have HO := Aside0.mk hro
  have HP := Aside0.mk hrp
  have Ho := Aside0.mk hco
  have Hp := Aside0.mk hcp
  clear hro hrp hco hcp
  have hu73 := Try.underlying73
  have B_w := Aside0.mk (Below.refl w.heap.size w)
  have S_w : Aside0 (Sep w.heap.size (Stars []) w) := ⟨Sep.emp _ _⟩
  by_cases hs : 1 ≤ sites ∧ sites ≤ 16
  case neg =>
    go_enter Try.func13, Try.ntmps13
    go_wp2_with (first | ((with_reducible refine gate_dst (N := 4) rfl ?_); (try (refine gate_guard (by rfl) ?_; dsimp only)); refine box_event ?hg (N := 4) ?hd (cs := #[.int .i64 so, .slice Ao vo.length co]) (t := 73) ?hr ?_; (case hd => rfl); (case hg => rfl); (case hr => first | (go_simp; done) | (go_simp; rfl)); intro go hg_go w_1 hX hb; have B_w_1 : Aside0 (Below (w.heap.size) w w_1) := ⟨below_then B_w.out B_w.out.size hb⟩; have S_w_1 : Aside0 (Sep (w.heap.size) (Stars [Blk go #[.int .i64 so, .slice Ao vo.length co] 73]) w_1) := ⟨Sep.new_blk S_w.out B_w.out.size hg_go hb hX⟩; have Q_w_1 : Aside0 (Below w.heap.size w w_1) := ⟨hb⟩; obtain ⟨c_go_0_w_1, c_go_1_w_1⟩ := XW.cells2 (Sep.front [] [] S_w_1.out).blk; obtain ⟨z_go_0_w_1, z_go_1_w_1⟩ := XW.froz2 (Sep.front [] [] S_w_1.out).blk; clear S_w; clear hX hb hg_go) | ((with_reducible refine gate_dst (N := 5) rfl ?_); (try (refine gate_guard (by rfl) ?_; dsimp only)); refine box_event ?hg (N := 5) ?hd (cs := #[.int .i64 sp, .slice Ap vp.length cp]) (t := 73) ?hr ?_; (case hd => rfl); (case hg => rfl); (case hr => first | (go_simp; done) | (go_simp; rfl)); intro gp hg_gp w_2 hX hb; have B_w_2 : Aside0 (Below (w.heap.size) w w_2) := ⟨below_then B_w_1.out B_w_1.out.size hb⟩; have S_w_2 : Aside0 (Sep (w.heap.size) (Stars [Blk gp #[.int .i64 sp, .slice Ap vp.length cp] 73, Blk go #[.int .i64 so, .slice Ao vo.length co] 73]) w_2) := ⟨Sep.new_blk S_w_1.out B_w_1.out.size hg_gp hb hX⟩; have Q_w_2 : Aside0 (Below w.heap.size w w_2) := ⟨below_step Q_w_1.out hb⟩; obtain ⟨c_gp_0_w_2, c_gp_1_w_2⟩ := XW.cells2 (Sep.front [] [Blk go #[.int .i64 so, .slice Ao vo.length co] 73] S_w_2.out).blk; obtain ⟨z_gp_0_w_2, z_gp_1_w_2⟩ := XW.froz2 (Sep.front [] [Blk go #[.int .i64 so, .slice Ao vo.length co] 73] S_w_2.out).blk; obtain ⟨c_go_0_w_2, c_go_1_w_2⟩ := XW.cells2 (Sep.front [Blk gp #[.int .i64 sp, .slice Ap vp.length cp] 73] [] S_w_2.out).blk; obtain ⟨z_go_0_w_2, z_go_1_w_2⟩ := XW.froz2 (Sep.front [Blk gp #[.int .i64 sp, .slice Ap vp.length cp] 73] [] S_w_2.out).blk; clear S_w_1 c_go_0_w_1 c_go_1_w_1 z_go_0_w_1 z_go_1_w_1; clear hX hb hg_gp) | (go_at_call 35; (with_reducible refine (front_none _ sites hs).mono ?_); rintro e w_3 ⟨rfl, hb⟩; have B_w_3 : Aside0 (Below (w.heap.size) w w_3) := ⟨below_then B_w_2.out B_w_2.out.size hb⟩; have S_w_3 : Aside0 (Sep (w.heap.size) (Stars [Blk gp #[.int .i64 sp, .slice Ap vp.length cp] 73, Blk go #[.int .i64 so, .slice Ao vo.length co] 73]) w_3) := ⟨Sep.below S_w_2.out hb⟩; have Q_w_3 : Aside0 (Below w.heap.size w w_3) := ⟨below_step Q_w_2.out hb⟩; obtain ⟨c_gp_0_w_3, c_gp_1_w_3⟩ := XW.cells2 (Sep.front [] [Blk go #[.int .i64 so, .slice Ao vo.length co] 73] S_w_3.out).blk; obtain ⟨z_gp_0_w_3, z_gp_1_w_3⟩ := XW.froz2 (Sep.front [] [Blk go #[.int .i64 so, .slice Ao vo.length co] 73] S_w_3.out).blk; obtain ⟨c_go_0_w_3, c_go_1_w_3⟩ := XW.cells2 (Sep.front [Blk gp #[.int .i64 sp, .slice Ap vp.length cp] 73] [] S_w_3.out).blk; obtain ⟨z_go_0_w_3, z_go_1_w_3⟩ := XW.froz2 (Sep.front [Blk gp #[.int .i64 sp, .slice Ap vp.length cp] 73] [] S_w_3.out).blk; clear S_w_2 c_gp_0_w_2 c_gp_1_w_2 z_gp_0_w_2 z_gp_1_w_2 c_go_0_w_2 c_go_1_w_2 z_go_0_w_2 z_go_1_w_2; clear hb) | (go_at_call 37; (with_reducible refine (live9 _).mono ?_); rintro e2 w_l ⟨rfl, hb⟩; have HBl := Aside0.mk hb; clear hb))
    go_ret
    exact ⟨rfl, below_then B_w_3.out B_w_3.out.size HBl.out⟩
  obtain ⟨n, rfl⟩ : ∃ n : Nat, sites = (n : Int) := ⟨sites.toNat, by omega⟩
  have hs1 : 1 ≤ n := by omega
  have hs2 : n ≤ 16 := by omega
  clear hs
  by_cases lo : 30 < vo.length
  case pos =>
    have lo2 : (30 : Int) < (vo.length : Int) := by omega
    go_enter Try.func13, Try.ntmps13
    go_wp2_with (first | ((with_reducible refine gate_dst (N := 4) rfl ?_); (try (refine gate_guard (by rfl) ?_; dsimp only)); refine box_event ?hg (N := 4) ?hd (cs := #[.int .i64 so, .slice Ao vo.length co]) (t := 73) ?hr ?_; (case hd => rfl); (case hg => rfl); (case hr => first | (go_simp; done) | (go_simp; rfl)); intro go hg_go w_1 hX hb; have B_w_1 : Aside0 (Below (w.heap.size) w w_1) := ⟨below_then B_w.out B_w.out.size hb⟩; have S_w_1 : Aside0 (Sep (w.heap.size) (Stars [Blk go #[.int .i64 so, .slice Ao vo.length co] 73]) w_1) := ⟨Sep.new_blk S_w.out B_w.out.size hg_go hb hX⟩; have Q_w_1 : Aside0 (Below w.heap.size w w_1) := ⟨hb⟩; obtain ⟨c_go_0_w_1, c_go_1_w_1⟩ := XW.cells2 (Sep.front [] [] S_w_1.out).blk; obtain ⟨z_go_0_w_1, z_go_1_w_1⟩ := XW.froz2 (Sep.front [] [] S_w_1.out).blk; clear S_w; clear hX hb hg_go) | ((with_reducible refine gate_dst (N := 5) rfl ?_); (try (refine gate_guard (by rfl) ?_; dsimp only)); refine box_event ?hg (N := 5) ?hd (cs := #[.int .i64 sp, .slice Ap vp.length cp]) (t := 73) ?hr ?_; (case hd => rfl); (case hg => rfl); (case hr => first | (go_simp; done) | (go_simp; rfl)); intro gp hg_gp w_2 hX hb; have B_w_2 : Aside0 (Below (w.heap.size) w w_2) := ⟨below_then B_w_1.out B_w_1.out.size hb⟩; have S_w_2 : Aside0 (Sep (w.heap.size) (Stars [Blk gp #[.int .i64 sp, .slice Ap vp.length cp] 73, Blk go #[.int .i64 so, .slice Ao vo.length co] 73]) w_2) := ⟨Sep.new_blk S_w_1.out B_w_1.out.size hg_gp hb hX⟩; have Q_w_2 : Aside0 (Below w.heap.size w w_2) := ⟨below_step Q_w_1.out hb⟩; obtain ⟨c_gp_0_w_2, c_gp_1_w_2⟩ := XW.cells2 (Sep.front [] [Blk go #[.int .i64 so, .slice Ao vo.length co] 73] S_w_2.out).blk; obtain ⟨z_gp_0_w_2, z_gp_1_w_2⟩ := XW.froz2 (Sep.front [] [Blk go #[.int .i64 so, .slice Ao vo.length co] 73] S_w_2.out).blk; obtain ⟨c_go_0_w_2, c_go_1_w_2⟩ := XW.cells2 (Sep.front [Blk gp #[.int .i64 sp, .slice Ap vp.length cp] 73] [] S_w_2.out).blk; obtain ⟨z_go_0_w_2, z_go_1_w_2⟩ := XW.froz2 (Sep.front [Blk gp #[.int .i64 sp, .slice Ap vp.length cp] 73] [] S_w_2.out).blk; clear S_w_1 c_go_0_w_1 c_go_1_w_1 z_go_0_w_1 z_go_1_w_1; clear hX hb hg_gp) | (go_at_call 35; (with_reducible refine (new_at _ ((n : Int)) n (none9 n) hs1 hs2 rfl rfl).mono ?_); rintro e w_3 ⟨gf, rfl, hN, hb⟩; have B_w_3 : Aside0 (Below (w.heap.size) w w_3) := ⟨below_then B_w_2.out B_w_2.out.size hb⟩; have S_w_3 : Aside0 (Sep (w.heap.size) (Stars [FA 103 76 gf (none9 n), Blk gp #[.int .i64 sp, .slice Ap vp.length cp] 73, Blk go #[.int .i64 so, .slice Ao vo.length co] 73]) w_3) := ⟨Sep.more S_w_2.out hN hb B_w_2.out.size⟩; have Q_w_3 : Aside0 (Below w.heap.size w w_3) := ⟨below_step Q_w_2.out hb⟩; obtain ⟨c_gp_0_w_3, c_gp_1_w_3⟩ := XW.cells2 (Sep.front [FA 103 76 gf (none9 n)] [Blk go #[.int .i64 so, .slice Ao vo.length co] 73] S_w_3.out).blk; obtain ⟨z_gp_0_w_3, z_gp_1_w_3⟩ := XW.froz2 (Sep.front [FA 103 76 gf (none9 n)] [Blk go #[.int .i64 so, .slice Ao vo.length co] 73] S_w_3.out).blk; obtain ⟨c_go_0_w_3, c_go_1_w_3⟩ := XW.cells2 (Sep.front [FA 103 76 gf (none9 n), Blk gp #[.int .i64 sp, .slice Ap vp.length cp] 73] [] S_w_3.out).blk; obtain ⟨z_go_0_w_3, z_go_1_w_3⟩ := XW.froz2 (Sep.front [FA 103 76 gf (none9 n), Blk gp #[.int .i64 sp, .slice Ap vp.length cp] 73] [] S_w_3.out).blk; clear S_w_2 c_gp_0_w_2 c_gp_1_w_2 z_gp_0_w_2 z_gp_1_w_2 c_go_0_w_2 c_go_1_w_2 z_go_0_w_2 z_go_1_w_2; clear hb) | (go_at_call 37; (with_reducible refine (live9 _).mono ?_); rintro e2 w_l ⟨rfl, hb⟩; have HBl := Aside0.mk hb; clear hb))
    go_ret
    exact ⟨rfl, below_then B_w_3.out B_w_3.out.size HBl.out⟩
  have lo2 : ¬ (30 : Int) < (vo.length : Int) := by omega
  have lo3 : vo.length ≤ 1000 := by omega
  clear lo
  by_cases lp : 30 < vp.length
  case pos =>
    have lp2 : (30 : Int) < (vp.length : Int) := by omega
    go_enter Try.func13, Try.ntmps13
    go_wp2_with (first | ((with_reducible refine gate_dst (N := 4) rfl ?_); (try (refine gate_guard (by rfl) ?_; dsimp only)); refine box_event ?hg (N := 4) ?hd (cs := #[.int .i64 so, .slice Ao vo.length co]) (t := 73) ?hr ?_; (case hd => rfl); (case hg => rfl); (case hr => first | (go_simp; done) | (go_simp; rfl)); intro go hg_go w_1 hX hb; have B_w_1 : Aside0 (Below (w.heap.size) w w_1) := ⟨below_then B_w.out B_w.out.size hb⟩; have S_w_1 : Aside0 (Sep (w.heap.size) (Stars [Blk go #[.int .i64 so, .slice Ao vo.length co] 73]) w_1) := ⟨Sep.new_blk S_w.out B_w.out.size hg_go hb hX⟩; have Q_w_1 : Aside0 (Below w.heap.size w w_1) := ⟨hb⟩; obtain ⟨c_go_0_w_1, c_go_1_w_1⟩ := XW.cells2 (Sep.front [] [] S_w_1.out).blk; obtain ⟨z_go_0_w_1, z_go_1_w_1⟩ := XW.froz2 (Sep.front [] [] S_w_1.out).blk; clear S_w; clear hX hb hg_go) | ((with_reducible refine gate_dst (N := 5) rfl ?_); (try (refine gate_guard (by rfl) ?_; dsimp only)); refine box_event ?hg (N := 5) ?hd (cs := #[.int .i64 sp, .slice Ap vp.length cp]) (t := 73) ?hr ?_; (case hd => rfl); (case hg => rfl); (case hr => first | (go_simp; done) | (go_simp; rfl)); intro gp hg_gp w_2 hX hb; have B_w_2 : Aside0 (Below (w.heap.size) w w_2) := ⟨below_then B_w_1.out B_w_1.out.size hb⟩; have S_w_2 : Aside0 (Sep (w.heap.size) (Stars [Blk gp #[.int .i64 sp, .slice Ap vp.length cp] 73, Blk go #[.int .i64 so, .slice Ao vo.length co] 73]) w_2) := ⟨Sep.new_blk S_w_1.out B_w_1.out.size hg_gp hb hX⟩; have Q_w_2 : Aside0 (Below w.heap.size w w_2) := ⟨below_step Q_w_1.out hb⟩; obtain ⟨c_gp_0_w_2, c_gp_1_w_2⟩ := XW.cells2 (Sep.front [] [Blk go #[.int .i64 so, .slice Ao vo.length co] 73] S_w_2.out).blk; obtain ⟨z_gp_0_w_2, z_gp_1_w_2⟩ := XW.froz2 (Sep.front [] [Blk go #[.int .i64 so, .slice Ao vo.length co] 73] S_w_2.out).blk; obtain ⟨c_go_0_w_2, c_go_1_w_2⟩ := XW.cells2 (Sep.front [Blk gp #[.int .i64 sp, .slice Ap vp.length cp] 73] [] S_w_2.out).blk; obtain ⟨z_go_0_w_2, z_go_1_w_2⟩ := XW.froz2 (Sep.front [Blk gp #[.int .i64 sp, .slice Ap vp.length cp] 73] [] S_w_2.out).blk; clear S_w_1 c_go_0_w_1 c_go_1_w_1 z_go_0_w_1 z_go_1_w_1; clear hX hb hg_gp) | (go_at_call 35; (with_reducible refine (new_at _ ((n : Int)) n (none9 n) hs1 hs2 rfl rfl).mono ?_); rintro e w_3 ⟨gf, rfl, hN, hb⟩; have B_w_3 : Aside0 (Below (w.heap.size) w w_3) := ⟨below_then B_w_2.out B_w_2.out.size hb⟩; have S_w_3 : Aside0 (Sep (w.heap.size) (Stars [FA 103 76 gf (none9 n), Blk gp #[.int .i64 sp, .slice Ap vp.length cp] 73, Blk go #[.int .i64 so, .slice Ao vo.length co] 73]) w_3) := ⟨Sep.more S_w_2.out hN hb B_w_2.out.size⟩; have Q_w_3 : Aside0 (Below w.heap.size w w_3) := ⟨below_step Q_w_2.out hb⟩; obtain ⟨c_gp_0_w_3, c_gp_1_w_3⟩ := XW.cells2 (Sep.front [FA 103 76 gf (none9 n)] [Blk go #[.int .i64 so, .slice Ao vo.length co] 73] S_w_3.out).blk; obtain ⟨z_gp_0_w_3, z_gp_1_w_3⟩ := XW.froz2 (Sep.front [FA 103 76 gf (none9 n)] [Blk go #[.int .i64 so, .slice Ao vo.length co] 73] S_w_3.out).blk; obtain ⟨c_go_0_w_3, c_go_1_w_3⟩ := XW.cells2 (Sep.front [FA 103 76 gf (none9 n), Blk gp #[.int .i64 sp, .slice Ap vp.length cp] 73] [] S_w_3.out).blk; obtain ⟨z_go_0_w_3, z_go_1_w_3⟩ := XW.froz2 (Sep.front [FA 103 76 gf (none9 n), Blk gp #[.int .i64 sp, .slice Ap vp.length cp] 73] [] S_w_3.out).blk; clear S_w_2 c_gp_0_w_2 c_gp_1_w_2 z_gp_0_w_2 z_gp_1_w_2 c_go_0_w_2 c_go_1_w_2 z_go_0_w_2 z_go_1_w_2; clear hb) | (go_at_call 37; (with_reducible refine (live9 _).mono ?_); rintro e2 w_l ⟨rfl, hb⟩; have HBl := Aside0.mk hb; clear hb))
    go_ret
    exact ⟨rfl, below_then B_w_3.out B_w_3.out.size HBl.out⟩
  have lp2 : ¬ (30 : Int) < (vp.length : Int) := by omega
  have lp3 : vp.length ≤ 1000 := by omega
  clear lp
  obtain ⟨r1, hr1⟩ : ∃ r, hearE (none9 n) so vo = r := ⟨_, rfl⟩
  obtain ⟨R1, hR1⟩ : ∃ R, hearR (none9 n) so vo = R := ⟨_, rfl⟩
  obtain ⟨r2, hr2⟩ : ∃ r, hearE R1 sp vp = r := ⟨_, rfl⟩
  obtain ⟨R2, hR2⟩ : ∃ R, hearR R1 sp vp = R := ⟨_, rfl⟩
  have HG0 := Aside0.mk (none_good n hs1 hs2)
  have HG1 : Aside0 (Good R1) := ⟨by rw [← hR1]; exact hear_good HG0.out so vo⟩
  have HG2 : Aside0 (Good R2) := ⟨by rw [← hR2]; exact hear_good HG1.out sp vp⟩
  have HL1 : Aside0 (R1.length = n) := ⟨by rw [← hR1, hear_len]; unfold none9; rw [List.length_replicate]⟩
  have HL2 : Aside0 (R2.length = n) := ⟨by rw [← hR2, hear_len]; exact HL1.out⟩
  have HE1 := Aside0.mk hr1
  have HR1 := Aside0.mk hR1
  have HE2 := Aside0.mk hr2
  have HR2 := Aside0.mk hR2
  clear hr1 hR1 hr2 hR2
  go_enter Try.func13, Try.ntmps13
  go_wp2_with (first | ((with_reducible refine gate_dst (N := 4) rfl ?_); (try (refine gate_guard (by rfl) ?_; dsimp only)); refine box_event ?hg (N := 4) ?hd (cs := #[.int .i64 so, .slice Ao vo.length co]) (t := 73) ?hr ?_; (case hd => rfl); (case hg => rfl); (case hr => first | (go_simp; done) | (go_simp; rfl)); intro go hg_go w_1 hX hb; have B_w_1 : Aside0 (Below (w.heap.size) w w_1) := ⟨below_then B_w.out B_w.out.size hb⟩; have S_w_1 : Aside0 (Sep (w.heap.size) (Stars [Blk go #[.int .i64 so, .slice Ao vo.length co] 73]) w_1) := ⟨Sep.new_blk S_w.out B_w.out.size hg_go hb hX⟩; have Q_w_1 : Aside0 (Below w.heap.size w w_1) := ⟨hb⟩; obtain ⟨c_go_0_w_1, c_go_1_w_1⟩ := XW.cells2 (Sep.front [] [] S_w_1.out).blk; obtain ⟨z_go_0_w_1, z_go_1_w_1⟩ := XW.froz2 (Sep.front [] [] S_w_1.out).blk; clear S_w; clear hX hb hg_go) | ((with_reducible refine gate_dst (N := 5) rfl ?_); (try (refine gate_guard (by rfl) ?_; dsimp only)); refine box_event ?hg (N := 5) ?hd (cs := #[.int .i64 sp, .slice Ap vp.length cp]) (t := 73) ?hr ?_; (case hd => rfl); (case hg => rfl); (case hr => first | (go_simp; done) | (go_simp; rfl)); intro gp hg_gp w_2 hX hb; have B_w_2 : Aside0 (Below (w.heap.size) w w_2) := ⟨below_then B_w_1.out B_w_1.out.size hb⟩; have S_w_2 : Aside0 (Sep (w.heap.size) (Stars [Blk gp #[.int .i64 sp, .slice Ap vp.length cp] 73, Blk go #[.int .i64 so, .slice Ao vo.length co] 73]) w_2) := ⟨Sep.new_blk S_w_1.out B_w_1.out.size hg_gp hb hX⟩; have Q_w_2 : Aside0 (Below w.heap.size w w_2) := ⟨below_step Q_w_1.out hb⟩; obtain ⟨c_gp_0_w_2, c_gp_1_w_2⟩ := XW.cells2 (Sep.front [] [Blk go #[.int .i64 so, .slice Ao vo.length co] 73] S_w_2.out).blk; obtain ⟨z_gp_0_w_2, z_gp_1_w_2⟩ := XW.froz2 (Sep.front [] [Blk go #[.int .i64 so, .slice Ao vo.length co] 73] S_w_2.out).blk; obtain ⟨c_go_0_w_2, c_go_1_w_2⟩ := XW.cells2 (Sep.front [Blk gp #[.int .i64 sp, .slice Ap vp.length cp] 73] [] S_w_2.out).blk; obtain ⟨z_go_0_w_2, z_go_1_w_2⟩ := XW.froz2 (Sep.front [Blk gp #[.int .i64 sp, .slice Ap vp.length cp] 73] [] S_w_2.out).blk; clear S_w_1 c_go_0_w_1 c_go_1_w_1 z_go_0_w_1 z_go_1_w_1; clear hX hb hg_gp) | (go_at_call 35; (with_reducible refine (new_at _ ((n : Int)) n (none9 n) hs1 hs2 rfl rfl).mono ?_); rintro e w_3 ⟨gf, rfl, hN, hb⟩; have B_w_3 : Aside0 (Below (w.heap.size) w w_3) := ⟨below_then B_w_2.out B_w_2.out.size hb⟩; have S_w_3 : Aside0 (Sep (w.heap.size) (Stars [FA 103 76 gf (none9 n), Blk gp #[.int .i64 sp, .slice Ap vp.length cp] 73, Blk go #[.int .i64 so, .slice Ao vo.length co] 73]) w_3) := ⟨Sep.more S_w_2.out hN hb B_w_2.out.size⟩; have Q_w_3 : Aside0 (Below w.heap.size w w_3) := ⟨below_step Q_w_2.out hb⟩; obtain ⟨c_gp_0_w_3, c_gp_1_w_3⟩ := XW.cells2 (Sep.front [FA 103 76 gf (none9 n)] [Blk go #[.int .i64 so, .slice Ao vo.length co] 73] S_w_3.out).blk; obtain ⟨z_gp_0_w_3, z_gp_1_w_3⟩ := XW.froz2 (Sep.front [FA 103 76 gf (none9 n)] [Blk go #[.int .i64 so, .slice Ao vo.length co] 73] S_w_3.out).blk; obtain ⟨c_go_0_w_3, c_go_1_w_3⟩ := XW.cells2 (Sep.front [FA 103 76 gf (none9 n), Blk gp #[.int .i64 sp, .slice Ap vp.length cp] 73] [] S_w_3.out).blk; obtain ⟨z_go_0_w_3, z_go_1_w_3⟩ := XW.froz2 (Sep.front [FA 103 76 gf (none9 n), Blk gp #[.int .i64 sp, .slice Ap vp.length cp] 73] [] S_w_3.out).blk; clear S_w_2 c_gp_0_w_2 c_gp_1_w_2 z_gp_0_w_2 z_gp_1_w_2 c_go_0_w_2 c_go_1_w_2 z_go_0_w_2 z_go_1_w_2; clear hb) | (go_at_call 38; (with_reducible refine (hear_at _ (Sep.front [] [Blk gp #[.int .i64 sp, .slice Ap vp.length cp] 73, Blk go #[.int .i64 so, .slice Ao vo.length co] 73] S_w_3.out) B_w_3.out.size HG0.out so Ao co vo.length vo (Kd.C_below HO.out B_w_3.out) Ho.out lo3 r1 R1 HE1.out HR1.out).mono ?_); rintro e w_4 ⟨rfl, hS, hb⟩; have B_w_4 : Aside0 (Below (w.heap.size) w w_4) := ⟨(Below.trans B_w_3.out hb)⟩; have S_w_4 : Aside0 (Sep (w.heap.size) (Stars [FA 103 76 gf R1, Blk gp #[.int .i64 sp, .slice Ap vp.length cp] 73, Blk go #[.int .i64 so, .slice Ao vo.length co] 73]) w_4) := ⟨Sep.back [] [Blk gp #[.int .i64 sp, .slice Ap vp.length cp] 73, Blk go #[.int .i64 so, .slice Ao vo.length co] 73] hS⟩; obtain ⟨c_gp_0_w_4, c_gp_1_w_4⟩ := XW.cells2 (Sep.front [FA 103 76 gf R1] [Blk go #[.int .i64 so, .slice Ao vo.length co] 73] S_w_4.out).blk; obtain ⟨z_gp_0_w_4, z_gp_1_w_4⟩ := XW.froz2 (Sep.front [FA 103 76 gf R1] [Blk go #[.int .i64 so, .slice Ao vo.length co] 73] S_w_4.out).blk; obtain ⟨c_go_0_w_4, c_go_1_w_4⟩ := XW.cells2 (Sep.front [FA 103 76 gf R1, Blk gp #[.int .i64 sp, .slice Ap vp.length cp] 73] [] S_w_4.out).blk; obtain ⟨z_go_0_w_4, z_go_1_w_4⟩ := XW.froz2 (Sep.front [FA 103 76 gf R1, Blk gp #[.int .i64 sp, .slice Ap vp.length cp] 73] [] S_w_4.out).blk; clear S_w_3 c_gp_0_w_3 c_gp_1_w_3 z_gp_0_w_3 z_gp_1_w_3 c_go_0_w_3 c_go_1_w_3 z_go_0_w_3 z_go_1_w_3; clear hS hb))
  go_loopw [9, 10] (fun v9 i wr => ∃ (k : Nat) (A : Option Addr) (c : Nat), k ≤ n ∧ i = .int .i64 k ∧ v9 = .slice A k c ∧ Aside0 (Sep w.heap.size (Stars [Row KR 50 (.slice A k c) (rowsUp R1 k), FA 103 76 gf R1, Blk gp #[.int .i64 sp, .slice Ap vp.length cp] 73, Blk go #[.int .i64 so, .slice Ao vo.length co] 73]) wr) ∧ Aside0 (Below w.heap.size w wr)) (fun _ i _ => n - (intOf i).toNat)
  case atStart => exact ⟨0, none, 0, by omega, rfl, rfl, ⟨Sep.nil_row KR 50 S_w_4.out⟩, B_w_4⟩
  case round =>
    clear S_w_4 c_gp_0_w_4 c_gp_1_w_4 z_gp_0_w_4 z_gp_1_w_4 c_go_0_w_4 c_go_1_w_4 z_go_0_w_4 z_go_1_w_4
    obtain ⟨k, A, c, hk, rfl, rfl, S_wr, B_wr⟩ := hrel
    by_cases hlt : k < n
    · have hlt2 : (k : Int) < (n : Int) := by omega
      obtain ⟨rl, hrl⟩ : ∃ rl, rowOf R1 (k : Int) = rl := ⟨_, rfl⟩
      have Hrl := Aside0.mk hrl
      have HK : Aside0 (rowsUp R1 (k + 1) = rowsUp R1 k ++ [rl]) := ⟨by rw [rowsUp, hrl]⟩
      have HKL := Aside0.mk (rowsUp_len R1 k)
      clear hrl
      obtain ⟨c_gp_0_wr, c_gp_1_wr⟩ := XW.cells2 (Sep.front [Row KR 50 (.slice A k c) (rowsUp R1 k), FA 103 76 gf R1] [Blk go #[.int .i64 so, .slice Ao vo.length co] 73] S_wr.out).blk
      obtain ⟨z_gp_0_wr, z_gp_1_wr⟩ := XW.froz2 (Sep.front [Row KR 50 (.slice A k c) (rowsUp R1 k), FA 103 76 gf R1] [Blk go #[.int .i64 so, .slice Ao vo.length co] 73] S_wr.out).blk
      obtain ⟨c_go_0_wr, c_go_1_wr⟩ := XW.cells2 (Sep.front [Row KR 50 (.slice A k c) (rowsUp R1 k), FA 103 76 gf R1, Blk gp #[.int .i64 sp, .slice Ap vp.length cp] 73] [] S_wr.out).blk
      obtain ⟨z_go_0_wr, z_go_1_wr⟩ := XW.froz2 (Sep.front [Row KR 50 (.slice A k c) (rowsUp R1 k), FA 103 76 gf R1, Blk gp #[.int .i64 sp, .slice Ap vp.length cp] 73] [] S_wr.out).blk
      go_wp2_with (first | (go_at_call 46; (with_reducible refine (row_sep _ (Sep.front [Row KR 50 (.slice A k c) (rowsUp R1 k)] [Blk gp #[.int .i64 sp, .slice Ap vp.length cp] 73, Blk go #[.int .i64 so, .slice Ao vo.length co] 73] S_wr.out) HG1.out (k : Int) rl Hrl.out).mono ?_); rintro e wr_1 ⟨vq, rfl, hr, hb⟩; obtain ⟨Aq, cq, hv, -, -⟩ := Kd.R_reads hr; replace hv : vq = .slice Aq rl.length cq := hv; subst hv; have B_wr_1 : Aside0 (Below (w.heap.size) w wr_1) := ⟨below_then B_wr.out B_wr.out.size hb⟩; have S_wr_1 : Aside0 (Sep (w.heap.size) (Stars [Row (Kd.int .i64) 3 (.slice Aq rl.length cq) (rl), Row KR 50 (.slice A k c) (rowsUp R1 k), FA 103 76 gf R1, Blk gp #[.int .i64 sp, .slice Ap vp.length cp] 73, Blk go #[.int .i64 so, .slice Ao vo.length co] 73]) wr_1) := ⟨Sep.new_row S_wr.out B_wr.out.size hb hr⟩; obtain ⟨c_gp_0_wr_1, c_gp_1_wr_1⟩ := XW.cells2 (Sep.front [Row (Kd.int .i64) 3 (.slice Aq rl.length cq) (rl), Row KR 50 (.slice A k c) (rowsUp R1 k), FA 103 76 gf R1] [Blk go #[.int .i64 so, .slice Ao vo.length co] 73] S_wr_1.out).blk; obtain ⟨z_gp_0_wr_1, z_gp_1_wr_1⟩ := XW.froz2 (Sep.front [Row (Kd.int .i64) 3 (.slice Aq rl.length cq) (rl), Row KR 50 (.slice A k c) (rowsUp R1 k), FA 103 76 gf R1] [Blk go #[.int .i64 so, .slice Ao vo.length co] 73] S_wr_1.out).blk; obtain ⟨c_go_0_wr_1, c_go_1_wr_1⟩ := XW.cells2 (Sep.front [Row (Kd.int .i64) 3 (.slice Aq rl.length cq) (rl), Row KR 50 (.slice A k c) (rowsUp R1 k), FA 103 76 gf R1, Blk gp #[.int .i64 sp, .slice Ap vp.length cp] 73] [] S_wr_1.out).blk; obtain ⟨z_go_0_wr_1, z_go_1_wr_1⟩ := XW.froz2 (Sep.front [Row (Kd.int .i64) 3 (.slice Aq rl.length cq) (rl), Row KR 50 (.slice A k c) (rowsUp R1 k), FA 103 76 gf R1, Blk gp #[.int .i64 sp, .slice Ap vp.length cp] 73] [] S_wr_1.out).blk; clear S_wr c_gp_0_wr c_gp_1_wr z_gp_0_wr z_gp_1_wr c_go_0_wr c_go_1_wr z_go_0_wr z_go_1_wr; clear hb; clear hr) | ((with_reducible refine gate_builtin (b := .append) (xs := #[.tmp 46, .tmp 50]) rfl ?_); at_builtin; go_must (refine sep_append_elem KR (E := Row (Kd.int .i64) 3 (.slice Aq rl.length cq) (rl)) (F := Stars [FA 103 76 gf R1, Blk gp #[.int .i64 sp, .slice Ap vp.length cp] 73, Blk go #[.int .i64 so, .slice Ao vo.length co] 73]) (w.heap.size) rfl (.tmp 46) (.tmp 50) 83 50 (.slice none 0 0) 24 rfl Try.underlying83 info50 rfl (by decide) (by decide) _ (rowsUp R1 k) (rl) [.slice Aq rl.length cq] rfl rfl (fun _ h => row_elem h) (Sep.front [Row (Kd.int .i64) 3 (.slice Aq rl.length cq) (rl)] [FA 103 76 gf R1, Blk gp #[.int .i64 sp, .slice Ap vp.length cp] 73, Blk go #[.int .i64 so, .slice Ao vo.length co] 73] S_wr_1.out) B_wr_1.out.size ?al ?_; (case al => rw [HKL.out]; omega); intro v_n wr_2 hS hb; obtain ⟨An, cn, hv, -, -⟩ := Sep.row hS; subst hv; rw [show (rowsUp R1 k ++ [rl]).length = (k + 1) by rw [List.length_append, rowsUp_len]; rfl] at hS; have B_wr_2 : Aside0 (Below (w.heap.size) w wr_2) := ⟨(Below.trans B_wr_1.out hb)⟩; have S_wr_2 : Aside0 (Sep (w.heap.size) (Stars [Row KR 50 (.slice An ((k + 1)) cn) (rowsUp R1 k ++ [rl]), FA 103 76 gf R1, Blk gp #[.int .i64 sp, .slice Ap vp.length cp] 73, Blk go #[.int .i64 so, .slice Ao vo.length co] 73]) wr_2) := ⟨hS⟩; obtain ⟨c_gp_0_wr_2, c_gp_1_wr_2⟩ := XW.cells2 (Sep.front [Row KR 50 (.slice An ((k + 1)) cn) (rowsUp R1 k ++ [rl]), FA 103 76 gf R1] [Blk go #[.int .i64 so, .slice Ao vo.length co] 73] S_wr_2.out).blk; obtain ⟨z_gp_0_wr_2, z_gp_1_wr_2⟩ := XW.froz2 (Sep.front [Row KR 50 (.slice An ((k + 1)) cn) (rowsUp R1 k ++ [rl]), FA 103 76 gf R1] [Blk go #[.int .i64 so, .slice Ao vo.length co] 73] S_wr_2.out).blk; obtain ⟨c_go_0_wr_2, c_go_1_wr_2⟩ := XW.cells2 (Sep.front [Row KR 50 (.slice An ((k + 1)) cn) (rowsUp R1 k ++ [rl]), FA 103 76 gf R1, Blk gp #[.int .i64 sp, .slice Ap vp.length cp] 73] [] S_wr_2.out).blk; obtain ⟨z_go_0_wr_2, z_go_1_wr_2⟩ := XW.froz2 (Sep.front [Row KR 50 (.slice An ((k + 1)) cn) (rowsUp R1 k ++ [rl]), FA 103 76 gf R1, Blk gp #[.int .i64 sp, .slice Ap vp.length cp] 73] [] S_wr_2.out).blk; clear S_wr_1 c_gp_0_wr_1 c_gp_1_wr_1 z_gp_0_wr_1 z_gp_1_wr_1 c_go_0_wr_1 c_go_1_wr_1 z_go_0_wr_1 z_go_1_wr_1; clear hS hb)))
      go_roundw
      case rel => first | exact ⟨k + 1, An, cn, by omega, by go_num, by rw [rowsUp_len], ⟨by rw [HK.out]; exact S_wr_2.out⟩, B_wr_2⟩ | ((repeat apply Exists.intro); exact ⟨⟨k + 1, An, cn, by omega, by go_num, by rw [rowsUp_len], ⟨by rw [HK.out]; exact S_wr_2.out⟩, B_wr_2⟩, rfl⟩)
      case measure => simp [intOf]; omega
    · obtain rfl : k = n := by omega
      have hlt2 : ¬ (k : Int) < (k : Int) := by omega
      obtain ⟨c_gp_0_wr, c_gp_1_wr⟩ := XW.cells2 (Sep.front [Row KR 50 (.slice A k c) (rowsUp R1 k), FA 103 76 gf R1] [Blk go #[.int .i64 so, .slice Ao vo.length co] 73] S_wr.out).blk
      obtain ⟨z_gp_0_wr, z_gp_1_wr⟩ := XW.froz2 (Sep.front [Row KR 50 (.slice A k c) (rowsUp R1 k), FA 103 76 gf R1] [Blk go #[.int .i64 so, .slice Ao vo.length co] 73] S_wr.out).blk
      obtain ⟨c_go_0_wr, c_go_1_wr⟩ := XW.cells2 (Sep.front [Row KR 50 (.slice A k c) (rowsUp R1 k), FA 103 76 gf R1, Blk gp #[.int .i64 sp, .slice Ap vp.length cp] 73] [] S_wr.out).blk
      obtain ⟨z_go_0_wr, z_go_1_wr⟩ := XW.froz2 (Sep.front [Row KR 50 (.slice A k c) (rowsUp R1 k), FA 103 76 gf R1, Blk gp #[.int .i64 sp, .slice Ap vp.length cp] 73] [] S_wr.out).blk
      go_wp2_with (first | (go_at_call 38; (with_reducible refine (hear_at _ (Sep.front [Row KR 50 (.slice A k c) (rowsUp R1 k)] [Blk gp #[.int .i64 sp, .slice Ap vp.length cp] 73, Blk go #[.int .i64 so, .slice Ao vo.length co] 73] S_wr.out) B_wr.out.size HG1.out sp Ap cp vp.length vp (Kd.C_below HP.out B_wr.out) Hp.out lp3 r2 R2 HE2.out HR2.out).mono ?_); rintro e wr_1 ⟨rfl, hS, hb⟩; have B_wr_1 : Aside0 (Below (w.heap.size) w wr_1) := ⟨(Below.trans B_wr.out hb)⟩; have S_wr_1 : Aside0 (Sep (w.heap.size) (Stars [Row KR 50 (.slice A k c) (rowsUp R1 k), FA 103 76 gf R2, Blk gp #[.int .i64 sp, .slice Ap vp.length cp] 73, Blk go #[.int .i64 so, .slice Ao vo.length co] 73]) wr_1) := ⟨Sep.back [Row KR 50 (.slice A k c) (rowsUp R1 k)] [Blk gp #[.int .i64 sp, .slice Ap vp.length cp] 73, Blk go #[.int .i64 so, .slice Ao vo.length co] 73] hS⟩; obtain ⟨c_gp_0_wr_1, c_gp_1_wr_1⟩ := XW.cells2 (Sep.front [Row KR 50 (.slice A k c) (rowsUp R1 k), FA 103 76 gf R2] [Blk go #[.int .i64 so, .slice Ao vo.length co] 73] S_wr_1.out).blk; obtain ⟨z_gp_0_wr_1, z_gp_1_wr_1⟩ := XW.froz2 (Sep.front [Row KR 50 (.slice A k c) (rowsUp R1 k), FA 103 76 gf R2] [Blk go #[.int .i64 so, .slice Ao vo.length co] 73] S_wr_1.out).blk; obtain ⟨c_go_0_wr_1, c_go_1_wr_1⟩ := XW.cells2 (Sep.front [Row KR 50 (.slice A k c) (rowsUp R1 k), FA 103 76 gf R2, Blk gp #[.int .i64 sp, .slice Ap vp.length cp] 73] [] S_wr_1.out).blk; obtain ⟨z_go_0_wr_1, z_go_1_wr_1⟩ := XW.froz2 (Sep.front [Row KR 50 (.slice A k c) (rowsUp R1 k), FA 103 76 gf R2, Blk gp #[.int .i64 sp, .slice Ap vp.length cp] 73] [] S_wr_1.out).blk; clear S_wr c_gp_0_wr c_gp_1_wr z_gp_0_wr z_gp_1_wr c_go_0_wr c_go_1_wr z_go_0_wr z_go_1_wr; clear hS hb))
      go_loopw [12] (fun i wr => ∃ j : Nat, j ≤ k ∧ i = .int .i64 j ∧ Aside0 (Sep w.heap.size (Stars [Row KR 50 (.slice A k c) (rowsUp R1 k), FA 103 76 gf R2, Blk gp #[.int .i64 sp, .slice Ap vp.length cp] 73, Blk go #[.int .i64 so, .slice Ao vo.length co] 73]) wr) ∧ Aside0 (Below w.heap.size w wr)) (fun i _ => k - (intOf i).toNat)
      case atStart => exact ⟨0, by omega, rfl, S_wr_1, B_wr_1⟩
      case round =>
        clear S_wr_1 c_gp_0_wr_1 c_gp_1_wr_1 z_gp_0_wr_1 z_gp_1_wr_1 c_go_0_wr_1 c_go_1_wr_1 z_go_0_wr_1 z_go_1_wr_1
        clear B_wr_1 B_wr
        obtain ⟨j, hj, rfl, S_wr, BQ⟩ := hrel
        have HLE : Aside0 (w.heap.size ≤ wr.heap.size) := ⟨BQ.out.size⟩
        by_cases hlj : j < k
        · have hlj2 : (j : Int) < (k : Int) := by omega
          have hj0 : (0 : Int) ≤ (j : Int) := by omega
          obtain ⟨-, hrc, hrC⟩ := Sep.row_cut (Sep.front [] [FA 103 76 gf R2, Blk gp #[.int .i64 sp, .slice Ap vp.length cp] 73, Blk go #[.int .i64 so, .slice Ao vo.length co] 73] S_wr.out)
          rw [rowsUp_len] at hrc hrC
          obtain ⟨ad, Ar, cr, hA, xr, hcr, hCr⟩ := at_row hrC j hlj
          subst hA
          have hat := rowsUp_at R1 k j hlj
          obtain ⟨rl, hrl⟩ : ∃ rl, rd_L1 (rowsUp R1 k) (j : Int) = rl := ⟨_, rfl⟩
          rw [hrl] at hat xr hcr hCr
          clear hrl hrC hrc
          have HCr := Aside0.mk hCr
          have Hcr := Aside0.mk hcr
          have Hrl := Aside0.mk hat
          have HS : Aside0 (duetref01_Same.f (rl.length + 1) rl rl = some true) := ⟨same_l _ (by have := rowOf_len HG1.out (j : Int); rw [← hat] at this; omega)⟩
          clear hCr hcr hat
          have B_wr : Aside0 (Below (w.heap.size) wr wr) := ⟨Below.refl _ _⟩
          obtain ⟨c_gp_0_wr, c_gp_1_wr⟩ := XW.cells2 (Sep.front [Row KR 50 (.slice (some ad) k c) (rowsUp R1 k), FA 103 76 gf R2] [Blk go #[.int .i64 so, .slice Ao vo.length co] 73] S_wr.out).blk
          obtain ⟨z_gp_0_wr, z_gp_1_wr⟩ := XW.froz2 (Sep.front [Row KR 50 (.slice (some ad) k c) (rowsUp R1 k), FA 103 76 gf R2] [Blk go #[.int .i64 so, .slice Ao vo.length co] 73] S_wr.out).blk
          obtain ⟨c_go_0_wr, c_go_1_wr⟩ := XW.cells2 (Sep.front [Row KR 50 (.slice (some ad) k c) (rowsUp R1 k), FA 103 76 gf R2, Blk gp #[.int .i64 sp, .slice Ap vp.length cp] 73] [] S_wr.out).blk
          obtain ⟨z_go_0_wr, z_go_1_wr⟩ := XW.froz2 (Sep.front [Row KR 50 (.slice (some ad) k c) (rowsUp R1 k), FA 103 76 gf R2, Blk gp #[.int .i64 sp, .slice Ap vp.length cp] 73] [] S_wr.out).blk
          by_cases e1 : ¬ (j : Int) = sp
          · skip
            have b1 : ((j : Int) != sp) = true := bne_iff_ne.mpr e1
            have HN : Aside0 (rowOf R2 (j : Int) = rl) := ⟨by rw [Hrl.out, ← HR2.out]; exact row_other sp vp j (by rw [HL1.out]; exact hlj) (.inl e1)⟩
            clear e1
            go_upto_region 16 with (fail)
            refine start_ (n := 19) (S := fun w' => w'.cell? ⟨gp, 0, none⟩ = some (.int .i64 sp) ∧ w'.cell? ⟨gp, 1, none⟩ = some (.slice Ap vp.length cp) ∧ w'.cell? (ad.add j) = some (.slice Ar rl.length cr)) (ds := []) Fo0 (by kernel_rfl) rfl rfl ⟨c_gp_0_wr, c_gp_1_wr, xr⟩ (fun hHeld => ?_)
            generalize hdw : wr.drew = wr_1 at hHeld ⊢
            have HB_wr_1 : Aside0 (Below wr.heap.size wr wr_1) := ⟨by rw [← hdw]; exact below_drew1 (Below.refl _ _)⟩
            clear hdw
            have B_wr_1 : Aside0 (Below (w.heap.size) wr wr_1) := ⟨below_then B_wr.out (Nat.le_trans (HLE.out) B_wr.out.size) HB_wr_1.out⟩
            have S_wr_1 : Aside0 (Sep (w.heap.size) (Stars [Row KR 50 (.slice (some ad) k c) (rowsUp R1 k), FA 103 76 gf R2, Blk gp #[.int .i64 sp, .slice Ap vp.length cp] 73, Blk go #[.int .i64 so, .slice Ao vo.length co] 73]) wr_1) := ⟨Sep.below S_wr.out HB_wr_1.out⟩
            have Q_wr_1 : Aside0 (Below wr.heap.size wr wr_1) := ⟨HB_wr_1.out⟩
            have xr_wr_1 := pw_cell_below Q_wr_1.out xr
            obtain ⟨c_gp_0_wr_1, c_gp_1_wr_1⟩ := XW.cells2 (Sep.front [Row KR 50 (.slice (some ad) k c) (rowsUp R1 k), FA 103 76 gf R2] [Blk go #[.int .i64 so, .slice Ao vo.length co] 73] S_wr_1.out).blk
            obtain ⟨z_gp_0_wr_1, z_gp_1_wr_1⟩ := XW.froz2 (Sep.front [Row KR 50 (.slice (some ad) k c) (rowsUp R1 k), FA 103 76 gf R2] [Blk go #[.int .i64 so, .slice Ao vo.length co] 73] S_wr_1.out).blk
            obtain ⟨c_go_0_wr_1, c_go_1_wr_1⟩ := XW.cells2 (Sep.front [Row KR 50 (.slice (some ad) k c) (rowsUp R1 k), FA 103 76 gf R2, Blk gp #[.int .i64 sp, .slice Ap vp.length cp] 73] [] S_wr_1.out).blk
            obtain ⟨z_go_0_wr_1, z_go_1_wr_1⟩ := XW.froz2 (Sep.front [Row KR 50 (.slice (some ad) k c) (rowsUp R1 k), FA 103 76 gf R2, Blk gp #[.int .i64 sp, .slice Ap vp.length cp] 73] [] S_wr_1.out).blk
            clear S_wr c_gp_0_wr c_gp_1_wr z_gp_0_wr z_gp_1_wr c_go_0_wr c_go_1_wr z_go_0_wr z_go_1_wr
            refine pure_ (i := 0) (N := some 63) (v := ?_) (a' := ?_) Fo1 rfl rfl (by kernel_rfl) (fun _ _ _ h => h) (Or.inl ⟨by rfl, ?_⟩) ?_ ?_
            rotate_left
            · intro w'
              go_simp
              with_reducible rfl
            rotate_left
            · simp only [Act.put, List.setIfInBounds_toArray, List.set_cons_zero, List.set_cons_succ, i64_w, i32_w]
              rfl
            refine pure_ (i := 1) (N := some 64) (v := ?_) (a' := ?_) Fo2 rfl rfl (by kernel_rfl) (fun _ _ _ h => h) (Or.inl ⟨by rfl, ?_⟩) ?_ ?_
            rotate_left
            · intro w'
              go_simp
              with_reducible rfl
            rotate_left
            · simp only [Act.put, List.setIfInBounds_toArray, List.set_cons_zero, List.set_cons_succ, i64_w, i32_w]
              rfl
            refine take_ (i := 2) (N := some 65) (v := ?_) (a' := ?_) Fo3 rfl rfl (by kernel_rfl) (fun _ _ _ h => h) (Or.inl ⟨by rfl, ?_⟩) hHeld ?_ ?_
            rotate_left
            · rintro w' ⟨s0, s1, s2⟩
              go_simp
              with_reducible rfl
            rotate_left
            · simp only [Act.put, List.setIfInBounds_toArray, List.set_cons_zero, List.set_cons_succ, i64_w, i32_w]
              rfl
            refine pure_ (i := 3) (N := some 66) (v := ?_) (a' := ?_) Fo4 rfl rfl (by kernel_rfl) (fun _ _ _ h => h) (Or.inl ⟨by rfl, ?_⟩) ?_ ?_
            rotate_left
            · intro w'
              go_simp
              with_reducible rfl
            rotate_left
            · simp only [Act.put, List.setIfInBounds_toArray, List.set_cons_zero, List.set_cons_succ, i64_w, i32_w]
              rfl
            refine pure_ (i := 4) (N := some 67) (v := ?_) (a' := ?_) Fo5 rfl rfl (by kernel_rfl) (fun _ _ _ h => h) (Or.inl ⟨by rfl, ?_⟩) ?_ ?_
            rotate_left
            · intro w'
              go_simp
              with_reducible rfl
            rotate_left
            · simp only [Act.put, List.setIfInBounds_toArray, List.set_cons_zero, List.set_cons_succ, i64_w, i32_w]
              rfl
            refine pure_ (i := 5) (N := some 68) (v := undef) (a' := ?_) Fo6 rfl rfl (by kernel_rfl) (fun _ _ _ h => h) (Or.inr ⟨by rfl, rfl⟩) ?_ ?_
            rotate_left
            · simp only [Act.put, List.setIfInBounds_toArray, List.set_cons_zero, List.set_cons_succ, i64_w, i32_w]
              rfl
            refine pure_ (i := 6) (N := some 69) (v := undef) (a' := ?_) Fo7 rfl rfl (by kernel_rfl) (fun _ _ _ h => h) (Or.inr ⟨by rfl, rfl⟩) ?_ ?_
            rotate_left
            · simp only [Act.put, List.setIfInBounds_toArray, List.set_cons_zero, List.set_cons_succ, i64_w, i32_w]
              rfl
            refine pure_ (i := 7) (N := some 70) (v := ?_) (a' := ?_) Fo8 rfl rfl (by kernel_rfl) (fun _ _ _ h => h) (Or.inl ⟨by rfl, ?_⟩) ?_ ?_
            rotate_left
            · intro w'
              go_simp
              with_reducible rfl
            rotate_left
            · simp only [Act.put, List.setIfInBounds_toArray, List.set_cons_zero, List.set_cons_succ, i64_w, i32_w]
              rfl
            refine pure_ (i := 8) (N := some 71) (v := ?_) (a' := ?_) Fo9 rfl rfl (by kernel_rfl) (fun _ _ _ h => h) (Or.inl ⟨by rfl, ?_⟩) ?_ ?_
            rotate_left
            · intro w'
              go_simp
              with_reducible rfl
            rotate_left
            · simp only [Act.put, List.setIfInBounds_toArray, List.set_cons_zero, List.set_cons_succ, i64_w, i32_w]
              rfl
            refine pure_ (i := 9) (N := some 72) (v := ?_) (a' := ?_) Fo10 rfl rfl (by kernel_rfl) (fun _ _ _ h => h) (Or.inl ⟨by rfl, ?_⟩) ?_ ?_
            rotate_left
            · intro w'
              go_simp
              with_reducible rfl
            rotate_left
            · simp only [Act.put, List.setIfInBounds_toArray, List.set_cons_zero, List.set_cons_succ, i64_w, i32_w]
              rfl
            refine pure_ (i := 10) (N := some 73) (v := ?_) (a' := ?_) Fo11 rfl rfl (by kernel_rfl) (fun _ _ _ h => h) (Or.inl ⟨by rfl, ?_⟩) ?_ ?_
            rotate_left
            · intro w'
              go_simp
              with_reducible rfl
            rotate_left
            · simp only [Act.put, List.setIfInBounds_toArray, List.set_cons_zero, List.set_cons_succ, i64_w, i32_w]
              rfl
            refine pure_ (i := 12) (N := some 75) (v := ?_) (a' := ?_) Fo12 rfl rfl (by kernel_rfl) (fun _ _ _ h => h) (Or.inl ⟨by rfl, ?_⟩) ?_ ?_
            rotate_left
            · intro w'
              go_simp
              with_reducible rfl
            rotate_left
            · simp only [Act.put, List.setIfInBounds_toArray, List.set_cons_zero, List.set_cons_succ, i64_w, i32_w]
              rfl
            refine pure_ (i := 13) (N := some 76) (v := ?_) (a' := ?_) Fo13 rfl rfl (by kernel_rfl) (fun _ _ _ h => h) (Or.inl ⟨by rfl, ?_⟩) ?_ ?_
            rotate_left
            · intro w'
              go_simp
              with_reducible rfl
            rotate_left
            · simp only [Act.put, List.setIfInBounds_toArray, List.set_cons_zero, List.set_cons_succ, i64_w, i32_w]
              rfl
            refine pure_ (i := 14) (N := some 77) (v := ?_) (a' := ?_) Fo14 rfl rfl (by kernel_rfl) (fun _ _ _ h => h) (Or.inl ⟨by rfl, ?_⟩) ?_ ?_
            rotate_left
            · intro w'
              go_simp
              with_reducible rfl
            rotate_left
            · simp only [Act.put, List.setIfInBounds_toArray, List.set_cons_zero, List.set_cons_succ, i64_w, i32_w]
              rfl
            refine take_ (i := 15) (N := some 78) (v := ?_) (a' := ?_) Fo15 rfl rfl (by kernel_rfl) (fun _ _ _ h => h) (Or.inl ⟨by rfl, ?_⟩) hHeld ?_ ?_
            rotate_left
            · rintro w' ⟨s0, s1, s2⟩
              go_simp
              with_reducible rfl
            rotate_left
            · simp only [Act.put, List.setIfInBounds_toArray, List.set_cons_zero, List.set_cons_succ, i64_w, i32_w]
              rfl
            refine one_ (i := 11) (N := some 74) Fo16 rfl rfl (by kernel_rfl) (by decide) (fun K hK => ?_)
            refine goes_ Try.func46 (by kernel_rfl) rfl #[.pointer (some ⟨gf, 0, none⟩), .int .i64 (j : Int)] (by rfl) rfl rfl (by simp only [List.map_toArray, List.map_cons, List.map_nil]; rfl) ?_
            with_reducible refine (row_sep _ (Sep.front [Row KR 50 (.slice (some ad) k c) (rowsUp R1 k)] [Blk gp #[.int .i64 sp, .slice Ap vp.length cp] 73, Blk go #[.int .i64 so, .slice Ao vo.length co] 73] S_wr_1.out) HG2.out (j : Int) rl HN.out).mono ?_
            rintro e wr_2 ⟨vq, rfl, hr, hb⟩
            refine ⟨_, rfl, ?_⟩
            obtain ⟨Aq, cq, hv, -, -⟩ := Kd.R_reads hr; replace hv : vq = .slice Aq rl.length cq := hv; subst hv
            have B_wr_2 : Aside0 (Below (w.heap.size) wr wr_2) := ⟨below_then B_wr_1.out (Nat.le_trans (HLE.out) B_wr_1.out.size) hb⟩
            have S_wr_2 : Aside0 (Sep (w.heap.size) (Stars [Row (Kd.int .i64) 3 (.slice Aq rl.length cq) (rl), Row KR 50 (.slice (some ad) k c) (rowsUp R1 k), FA 103 76 gf R2, Blk gp #[.int .i64 sp, .slice Ap vp.length cp] 73, Blk go #[.int .i64 so, .slice Ao vo.length co] 73]) wr_2) := ⟨Sep.new_row S_wr_1.out (Nat.le_trans (HLE.out) B_wr_1.out.size) hb hr⟩
            have Q_wr_2 : Aside0 (Below wr.heap.size wr wr_2) := ⟨below_step Q_wr_1.out hb⟩
            have xr_wr_2 := pw_cell_below Q_wr_2.out xr
            obtain ⟨c_gp_0_wr_2, c_gp_1_wr_2⟩ := XW.cells2 (Sep.front [Row (Kd.int .i64) 3 (.slice Aq rl.length cq) (rl), Row KR 50 (.slice (some ad) k c) (rowsUp R1 k), FA 103 76 gf R2] [Blk go #[.int .i64 so, .slice Ao vo.length co] 73] S_wr_2.out).blk
            obtain ⟨z_gp_0_wr_2, z_gp_1_wr_2⟩ := XW.froz2 (Sep.front [Row (Kd.int .i64) 3 (.slice Aq rl.length cq) (rl), Row KR 50 (.slice (some ad) k c) (rowsUp R1 k), FA 103 76 gf R2] [Blk go #[.int .i64 so, .slice Ao vo.length co] 73] S_wr_2.out).blk
            obtain ⟨c_go_0_wr_2, c_go_1_wr_2⟩ := XW.cells2 (Sep.front [Row (Kd.int .i64) 3 (.slice Aq rl.length cq) (rl), Row KR 50 (.slice (some ad) k c) (rowsUp R1 k), FA 103 76 gf R2, Blk gp #[.int .i64 sp, .slice Ap vp.length cp] 73] [] S_wr_2.out).blk
            obtain ⟨z_go_0_wr_2, z_go_1_wr_2⟩ := XW.froz2 (Sep.front [Row (Kd.int .i64) 3 (.slice Aq rl.length cq) (rl), Row KR 50 (.slice (some ad) k c) (rowsUp R1 k), FA 103 76 gf R2, Blk gp #[.int .i64 sp, .slice Ap vp.length cp] 73] [] S_wr_2.out).blk
            clear S_wr_1 xr_wr_1 c_gp_0_wr_1 c_gp_1_wr_1 z_gp_0_wr_1 z_gp_1_wr_1 c_go_0_wr_1 c_go_1_wr_1 z_go_0_wr_1 z_go_1_wr_1
            clear hb
            clear hr
            refine hK.out _ _ ⟨c_gp_0_wr_2, c_gp_1_wr_2, xr_wr_2⟩ (fun hHeld => ?_)
            clear hK K
            refine norm_ (a' := ?_) ?_ ?_
            rotate_left
            · show Act.put _ (some 74) _ = _
              simp only [Act.put, List.setIfInBounds_toArray, List.set_cons_zero, List.set_cons_succ, i64_w, i32_w]
              rfl
            refine one_ (i := 16) (N := some 79) Fo17 rfl rfl (by kernel_rfl) (by decide) (fun K hK => ?_)
            refine goes_ Try.func32 (by kernel_rfl) rfl #[.slice Aq rl.length cq, .slice Ar rl.length cr] (by rfl) rfl rfl (by simp only [List.map_toArray, List.map_cons, List.map_nil]; rfl) ?_
            with_reducible refine (duetref01_Same.at (rl.length + 1) Aq cq rl.length rl Ar cr rl.length rl true _ (Sep.row_at (Sep.front [] [Row KR 50 (.slice (some ad) k c) (rowsUp R1 k), FA 103 76 gf R2, Blk gp #[.int .i64 sp, .slice Ap vp.length cp] 73, Blk go #[.int .i64 so, .slice Ao vo.length co] 73] S_wr_2.out)).1 (Sep.row_at (Sep.front [] [Row KR 50 (.slice (some ad) k c) (rowsUp R1 k), FA 103 76 gf R2, Blk gp #[.int .i64 sp, .slice Ap vp.length cp] 73, Blk go #[.int .i64 so, .slice Ao vo.length co] 73] S_wr_2.out)).2 (Kd.C_below HCr.out Q_wr_2.out) Hcr.out HS.out).mono ?_
            rintro e wr_3 ⟨rfl, hb0⟩
            refine ⟨_, rfl, ?_⟩
            have hb := hb0.below
            clear hb0
            have B_wr_3 : Aside0 (Below (w.heap.size) wr wr_3) := ⟨below_then B_wr_2.out (Nat.le_trans (HLE.out) B_wr_2.out.size) hb⟩
            have S_wr_3 : Aside0 (Sep (w.heap.size) (Stars [Row (Kd.int .i64) 3 (.slice Aq rl.length cq) (rl), Row KR 50 (.slice (some ad) k c) (rowsUp R1 k), FA 103 76 gf R2, Blk gp #[.int .i64 sp, .slice Ap vp.length cp] 73, Blk go #[.int .i64 so, .slice Ao vo.length co] 73]) wr_3) := ⟨Sep.below S_wr_2.out hb⟩
            have Q_wr_3 : Aside0 (Below wr.heap.size wr wr_3) := ⟨below_step Q_wr_2.out hb⟩
            have xr_wr_3 := pw_cell_below Q_wr_3.out xr
            obtain ⟨c_gp_0_wr_3, c_gp_1_wr_3⟩ := XW.cells2 (Sep.front [Row (Kd.int .i64) 3 (.slice Aq rl.length cq) (rl), Row KR 50 (.slice (some ad) k c) (rowsUp R1 k), FA 103 76 gf R2] [Blk go #[.int .i64 so, .slice Ao vo.length co] 73] S_wr_3.out).blk
            obtain ⟨z_gp_0_wr_3, z_gp_1_wr_3⟩ := XW.froz2 (Sep.front [Row (Kd.int .i64) 3 (.slice Aq rl.length cq) (rl), Row KR 50 (.slice (some ad) k c) (rowsUp R1 k), FA 103 76 gf R2] [Blk go #[.int .i64 so, .slice Ao vo.length co] 73] S_wr_3.out).blk
            obtain ⟨c_go_0_wr_3, c_go_1_wr_3⟩ := XW.cells2 (Sep.front [Row (Kd.int .i64) 3 (.slice Aq rl.length cq) (rl), Row KR 50 (.slice (some ad) k c) (rowsUp R1 k), FA 103 76 gf R2, Blk gp #[.int .i64 sp, .slice Ap vp.length cp] 73] [] S_wr_3.out).blk
            obtain ⟨z_go_0_wr_3, z_go_1_wr_3⟩ := XW.froz2 (Sep.front [Row (Kd.int .i64) 3 (.slice Aq rl.length cq) (rl), Row KR 50 (.slice (some ad) k c) (rowsUp R1 k), FA 103 76 gf R2, Blk gp #[.int .i64 sp, .slice Ap vp.length cp] 73] [] S_wr_3.out).blk
            clear S_wr_2 xr_wr_2 c_gp_0_wr_2 c_gp_1_wr_2 z_gp_0_wr_2 z_gp_1_wr_2 c_go_0_wr_2 c_go_1_wr_2 z_go_0_wr_2 z_go_1_wr_2
            clear hb
            refine hK.out _ _ ⟨c_gp_0_wr_3, c_gp_1_wr_3, xr_wr_3⟩ (fun hHeld => ?_)
            clear hK K
            refine norm_ (a' := ?_) ?_ ?_
            rotate_left
            · show Act.put _ (some 79) _ = _
              simp only [Act.put, List.setIfInBounds_toArray, List.set_cons_zero, List.set_cons_succ, i64_w, i32_w]
              rfl
            refine pure_ (i := 17) (N := some 80) (v := ?_) (a' := ?_) Fo18 rfl rfl (by kernel_rfl) (fun _ _ _ h => h) (Or.inl ⟨by rfl, ?_⟩) ?_ ?_
            rotate_left
            · intro w'
              go_simp
              with_reducible rfl
            rotate_left
            · simp only [Act.put, List.setIfInBounds_toArray, List.set_cons_zero, List.set_cons_succ, i64_w, i32_w]
              rfl
            refine pure_ (i := 18) (N := some 81) (v := ?_) (a' := ?_) Fo19 rfl rfl (by kernel_rfl) (fun _ _ _ h => h) (Or.inl ⟨by rfl, ?_⟩) ?_ ?_
            rotate_left
            · intro w'
              go_simp
              with_reducible rfl
            rotate_left
            · simp only [Act.put, List.setIfInBounds_toArray, List.set_cons_zero, List.set_cons_succ, i64_w, i32_w]
              rfl
            refine done_ (by kernel_rfl) ?_
            go_wp2
            go_roundw
            case rel => first | exact ⟨j + 1, by omega, by go_num, ⟨Sep.right S_wr_3.out⟩, ⟨Below.trans BQ.out B_wr_3.out⟩⟩ | ((repeat apply Exists.intro); exact ⟨⟨j + 1, by omega, by go_num, ⟨Sep.right S_wr_3.out⟩, ⟨Below.trans BQ.out B_wr_3.out⟩⟩, rfl⟩)
            case measure => simp [intOf]; omega
          have b1 : ((j : Int) != sp) = false := bne_eq_false_iff_eq.mpr (Decidable.not_not.mp e1)
          clear e1
          by_cases e2 : ¬ r2 = 0
          · skip
            have b2 : (r2 != 0) = true := bne_iff_ne.mpr e2
            have HN : Aside0 (rowOf R2 (j : Int) = rl) := ⟨by rw [Hrl.out, ← HR2.out]; exact row_other sp vp j (by rw [HL1.out]; exact hlj) (.inr (by rw [HE2.out]; exact e2))⟩
            clear e2
            go_upto_region 16 with (fail)
            refine start_ (n := 19) (S := fun w' => w'.cell? ⟨gp, 0, none⟩ = some (.int .i64 sp) ∧ w'.cell? ⟨gp, 1, none⟩ = some (.slice Ap vp.length cp) ∧ w'.cell? (ad.add j) = some (.slice Ar rl.length cr)) (ds := []) Fo0 (by kernel_rfl) rfl rfl ⟨c_gp_0_wr, c_gp_1_wr, xr⟩ (fun hHeld => ?_)
            generalize hdw : wr.drew = wr_1 at hHeld ⊢
            have HB_wr_1 : Aside0 (Below wr.heap.size wr wr_1) := ⟨by rw [← hdw]; exact below_drew1 (Below.refl _ _)⟩
            clear hdw
            have B_wr_1 : Aside0 (Below (w.heap.size) wr wr_1) := ⟨below_then B_wr.out (Nat.le_trans (HLE.out) B_wr.out.size) HB_wr_1.out⟩
            have S_wr_1 : Aside0 (Sep (w.heap.size) (Stars [Row KR 50 (.slice (some ad) k c) (rowsUp R1 k), FA 103 76 gf R2, Blk gp #[.int .i64 sp, .slice Ap vp.length cp] 73, Blk go #[.int .i64 so, .slice Ao vo.length co] 73]) wr_1) := ⟨Sep.below S_wr.out HB_wr_1.out⟩
            have Q_wr_1 : Aside0 (Below wr.heap.size wr wr_1) := ⟨HB_wr_1.out⟩
            have xr_wr_1 := pw_cell_below Q_wr_1.out xr
            obtain ⟨c_gp_0_wr_1, c_gp_1_wr_1⟩ := XW.cells2 (Sep.front [Row KR 50 (.slice (some ad) k c) (rowsUp R1 k), FA 103 76 gf R2] [Blk go #[.int .i64 so, .slice Ao vo.length co] 73] S_wr_1.out).blk
            obtain ⟨z_gp_0_wr_1, z_gp_1_wr_1⟩ := XW.froz2 (Sep.front [Row KR 50 (.slice (some ad) k c) (rowsUp R1 k), FA 103 76 gf R2] [Blk go #[.int .i64 so, .slice Ao vo.length co] 73] S_wr_1.out).blk
            obtain ⟨c_go_0_wr_1, c_go_1_wr_1⟩ := XW.cells2 (Sep.front [Row KR 50 (.slice (some ad) k c) (rowsUp R1 k), FA 103 76 gf R2, Blk gp #[.int .i64 sp, .slice Ap vp.length cp] 73] [] S_wr_1.out).blk
            obtain ⟨z_go_0_wr_1, z_go_1_wr_1⟩ := XW.froz2 (Sep.front [Row KR 50 (.slice (some ad) k c) (rowsUp R1 k), FA 103 76 gf R2, Blk gp #[.int .i64 sp, .slice Ap vp.length cp] 73] [] S_wr_1.out).blk
            clear S_wr c_gp_0_wr c_gp_1_wr z_gp_0_wr z_gp_1_wr c_go_0_wr c_go_1_wr z_go_0_wr z_go_1_wr
            refine pure_ (i := 0) (N := some 63) (v := ?_) (a' := ?_) Fo1 rfl rfl (by kernel_rfl) (fun _ _ _ h => h) (Or.inl ⟨by rfl, ?_⟩) ?_ ?_
            rotate_left
            · intro w'
              go_simp
              with_reducible rfl
            rotate_left
            · simp only [Act.put, List.setIfInBounds_toArray, List.set_cons_zero, List.set_cons_succ, i64_w, i32_w]
              rfl
            refine pure_ (i := 1) (N := some 64) (v := ?_) (a' := ?_) Fo2 rfl rfl (by kernel_rfl) (fun _ _ _ h => h) (Or.inl ⟨by rfl, ?_⟩) ?_ ?_
            rotate_left
            · intro w'
              go_simp
              with_reducible rfl
            rotate_left
            · simp only [Act.put, List.setIfInBounds_toArray, List.set_cons_zero, List.set_cons_succ, i64_w, i32_w]
              rfl
            refine take_ (i := 2) (N := some 65) (v := ?_) (a' := ?_) Fo3 rfl rfl (by kernel_rfl) (fun _ _ _ h => h) (Or.inl ⟨by rfl, ?_⟩) hHeld ?_ ?_
            rotate_left
            · rintro w' ⟨s0, s1, s2⟩
              go_simp
              with_reducible rfl
            rotate_left
            · simp only [Act.put, List.setIfInBounds_toArray, List.set_cons_zero, List.set_cons_succ, i64_w, i32_w]
              rfl
            refine pure_ (i := 3) (N := some 66) (v := ?_) (a' := ?_) Fo4 rfl rfl (by kernel_rfl) (fun _ _ _ h => h) (Or.inl ⟨by rfl, ?_⟩) ?_ ?_
            rotate_left
            · intro w'
              go_simp
              with_reducible rfl
            rotate_left
            · simp only [Act.put, List.setIfInBounds_toArray, List.set_cons_zero, List.set_cons_succ, i64_w, i32_w]
              rfl
            refine pure_ (i := 4) (N := some 67) (v := ?_) (a' := ?_) Fo5 rfl rfl (by kernel_rfl) (fun _ _ _ h => h) (Or.inl ⟨by rfl, ?_⟩) ?_ ?_
            rotate_left
            · intro w'
              go_simp
              with_reducible rfl
            rotate_left
            · simp only [Act.put, List.setIfInBounds_toArray, List.set_cons_zero, List.set_cons_succ, i64_w, i32_w]
              rfl
            refine pure_ (i := 5) (N := some 68) (v := ?_) (a' := ?_) Fo6 rfl rfl (by kernel_rfl) (fun _ _ _ h => h) (Or.inl ⟨by rfl, ?_⟩) ?_ ?_
            rotate_left
            · intro w'
              go_simp
              with_reducible rfl
            rotate_left
            · simp only [Act.put, List.setIfInBounds_toArray, List.set_cons_zero, List.set_cons_succ, i64_w, i32_w]
              rfl
            refine pure_ (i := 6) (N := some 69) (v := ?_) (a' := ?_) Fo7 rfl rfl (by kernel_rfl) (fun _ _ _ h => h) (Or.inl ⟨by rfl, ?_⟩) ?_ ?_
            rotate_left
            · intro w'
              go_simp
              with_reducible rfl
            rotate_left
            · simp only [Act.put, List.setIfInBounds_toArray, List.set_cons_zero, List.set_cons_succ, i64_w, i32_w]
              rfl
            refine pure_ (i := 7) (N := some 70) (v := ?_) (a' := ?_) Fo8 rfl rfl (by kernel_rfl) (fun _ _ _ h => h) (Or.inl ⟨by rfl, ?_⟩) ?_ ?_
            rotate_left
            · intro w'
              go_simp
              with_reducible rfl
            rotate_left
            · simp only [Act.put, List.setIfInBounds_toArray, List.set_cons_zero, List.set_cons_succ, i64_w, i32_w]
              rfl
            refine pure_ (i := 8) (N := some 71) (v := ?_) (a' := ?_) Fo9 rfl rfl (by kernel_rfl) (fun _ _ _ h => h) (Or.inl ⟨by rfl, ?_⟩) ?_ ?_
            rotate_left
            · intro w'
              go_simp
              with_reducible rfl
            rotate_left
            · simp only [Act.put, List.setIfInBounds_toArray, List.set_cons_zero, List.set_cons_succ, i64_w, i32_w]
              rfl
            refine pure_ (i := 9) (N := some 72) (v := ?_) (a' := ?_) Fo10 rfl rfl (by kernel_rfl) (fun _ _ _ h => h) (Or.inl ⟨by rfl, ?_⟩) ?_ ?_
            rotate_left
            · intro w'
              go_simp
              with_reducible rfl
            rotate_left
            · simp only [Act.put, List.setIfInBounds_toArray, List.set_cons_zero, List.set_cons_succ, i64_w, i32_w]
              rfl
            refine pure_ (i := 10) (N := some 73) (v := ?_) (a' := ?_) Fo11 rfl rfl (by kernel_rfl) (fun _ _ _ h => h) (Or.inl ⟨by rfl, ?_⟩) ?_ ?_
            rotate_left
            · intro w'
              go_simp
              with_reducible rfl
            rotate_left
            · simp only [Act.put, List.setIfInBounds_toArray, List.set_cons_zero, List.set_cons_succ, i64_w, i32_w]
              rfl
            refine pure_ (i := 12) (N := some 75) (v := ?_) (a' := ?_) Fo12 rfl rfl (by kernel_rfl) (fun _ _ _ h => h) (Or.inl ⟨by rfl, ?_⟩) ?_ ?_
            rotate_left
            · intro w'
              go_simp
              with_reducible rfl
            rotate_left
            · simp only [Act.put, List.setIfInBounds_toArray, List.set_cons_zero, List.set_cons_succ, i64_w, i32_w]
              rfl
            refine pure_ (i := 13) (N := some 76) (v := ?_) (a' := ?_) Fo13 rfl rfl (by kernel_rfl) (fun _ _ _ h => h) (Or.inl ⟨by rfl, ?_⟩) ?_ ?_
            rotate_left
            · intro w'
              go_simp
              with_reducible rfl
            rotate_left
            · simp only [Act.put, List.setIfInBounds_toArray, List.set_cons_zero, List.set_cons_succ, i64_w, i32_w]
              rfl
            refine pure_ (i := 14) (N := some 77) (v := ?_) (a' := ?_) Fo14 rfl rfl (by kernel_rfl) (fun _ _ _ h => h) (Or.inl ⟨by rfl, ?_⟩) ?_ ?_
            rotate_left
            · intro w'
              go_simp
              with_reducible rfl
            rotate_left
            · simp only [Act.put, List.setIfInBounds_toArray, List.set_cons_zero, List.set_cons_succ, i64_w, i32_w]
              rfl
            refine take_ (i := 15) (N := some 78) (v := ?_) (a' := ?_) Fo15 rfl rfl (by kernel_rfl) (fun _ _ _ h => h) (Or.inl ⟨by rfl, ?_⟩) hHeld ?_ ?_
            rotate_left
            · rintro w' ⟨s0, s1, s2⟩
              go_simp
              with_reducible rfl
            rotate_left
            · simp only [Act.put, List.setIfInBounds_toArray, List.set_cons_zero, List.set_cons_succ, i64_w, i32_w]
              rfl
            refine one_ (i := 11) (N := some 74) Fo16 rfl rfl (by kernel_rfl) (by decide) (fun K hK => ?_)
            refine goes_ Try.func46 (by kernel_rfl) rfl #[.pointer (some ⟨gf, 0, none⟩), .int .i64 (j : Int)] (by rfl) rfl rfl (by simp only [List.map_toArray, List.map_cons, List.map_nil]; rfl) ?_
            with_reducible refine (row_sep _ (Sep.front [Row KR 50 (.slice (some ad) k c) (rowsUp R1 k)] [Blk gp #[.int .i64 sp, .slice Ap vp.length cp] 73, Blk go #[.int .i64 so, .slice Ao vo.length co] 73] S_wr_1.out) HG2.out (j : Int) rl HN.out).mono ?_
            rintro e wr_2 ⟨vq, rfl, hr, hb⟩
            refine ⟨_, rfl, ?_⟩
            obtain ⟨Aq, cq, hv, -, -⟩ := Kd.R_reads hr; replace hv : vq = .slice Aq rl.length cq := hv; subst hv
            have B_wr_2 : Aside0 (Below (w.heap.size) wr wr_2) := ⟨below_then B_wr_1.out (Nat.le_trans (HLE.out) B_wr_1.out.size) hb⟩
            have S_wr_2 : Aside0 (Sep (w.heap.size) (Stars [Row (Kd.int .i64) 3 (.slice Aq rl.length cq) (rl), Row KR 50 (.slice (some ad) k c) (rowsUp R1 k), FA 103 76 gf R2, Blk gp #[.int .i64 sp, .slice Ap vp.length cp] 73, Blk go #[.int .i64 so, .slice Ao vo.length co] 73]) wr_2) := ⟨Sep.new_row S_wr_1.out (Nat.le_trans (HLE.out) B_wr_1.out.size) hb hr⟩
            have Q_wr_2 : Aside0 (Below wr.heap.size wr wr_2) := ⟨below_step Q_wr_1.out hb⟩
            have xr_wr_2 := pw_cell_below Q_wr_2.out xr
            obtain ⟨c_gp_0_wr_2, c_gp_1_wr_2⟩ := XW.cells2 (Sep.front [Row (Kd.int .i64) 3 (.slice Aq rl.length cq) (rl), Row KR 50 (.slice (some ad) k c) (rowsUp R1 k), FA 103 76 gf R2] [Blk go #[.int .i64 so, .slice Ao vo.length co] 73] S_wr_2.out).blk
            obtain ⟨z_gp_0_wr_2, z_gp_1_wr_2⟩ := XW.froz2 (Sep.front [Row (Kd.int .i64) 3 (.slice Aq rl.length cq) (rl), Row KR 50 (.slice (some ad) k c) (rowsUp R1 k), FA 103 76 gf R2] [Blk go #[.int .i64 so, .slice Ao vo.length co] 73] S_wr_2.out).blk
            obtain ⟨c_go_0_wr_2, c_go_1_wr_2⟩ := XW.cells2 (Sep.front [Row (Kd.int .i64) 3 (.slice Aq rl.length cq) (rl), Row KR 50 (.slice (some ad) k c) (rowsUp R1 k), FA 103 76 gf R2, Blk gp #[.int .i64 sp, .slice Ap vp.length cp] 73] [] S_wr_2.out).blk
            obtain ⟨z_go_0_wr_2, z_go_1_wr_2⟩ := XW.froz2 (Sep.front [Row (Kd.int .i64) 3 (.slice Aq rl.length cq) (rl), Row KR 50 (.slice (some ad) k c) (rowsUp R1 k), FA 103 76 gf R2, Blk gp #[.int .i64 sp, .slice Ap vp.length cp] 73] [] S_wr_2.out).blk
            clear S_wr_1 xr_wr_1 c_gp_0_wr_1 c_gp_1_wr_1 z_gp_0_wr_1 z_gp_1_wr_1 c_go_0_wr_1 c_go_1_wr_1 z_go_0_wr_1 z_go_1_wr_1
            clear hb
            clear hr
            refine hK.out _ _ ⟨c_gp_0_wr_2, c_gp_1_wr_2, xr_wr_2⟩ (fun hHeld => ?_)
            clear hK K
            refine norm_ (a' := ?_) ?_ ?_
            rotate_left
            · show Act.put _ (some 74) _ = _
              simp only [Act.put, List.setIfInBounds_toArray, List.set_cons_zero, List.set_cons_succ, i64_w, i32_w]
              rfl
            refine one_ (i := 16) (N := some 79) Fo17 rfl rfl (by kernel_rfl) (by decide) (fun K hK => ?_)
            refine goes_ Try.func32 (by kernel_rfl) rfl #[.slice Aq rl.length cq, .slice Ar rl.length cr] (by rfl) rfl rfl (by simp only [List.map_toArray, List.map_cons, List.map_nil]; rfl) ?_
            with_reducible refine (duetref01_Same.at (rl.length + 1) Aq cq rl.length rl Ar cr rl.length rl true _ (Sep.row_at (Sep.front [] [Row KR 50 (.slice (some ad) k c) (rowsUp R1 k), FA 103 76 gf R2, Blk gp #[.int .i64 sp, .slice Ap vp.length cp] 73, Blk go #[.int .i64 so, .slice Ao vo.length co] 73] S_wr_2.out)).1 (Sep.row_at (Sep.front [] [Row KR 50 (.slice (some ad) k c) (rowsUp R1 k), FA 103 76 gf R2, Blk gp #[.int .i64 sp, .slice Ap vp.length cp] 73, Blk go #[.int .i64 so, .slice Ao vo.length co] 73] S_wr_2.out)).2 (Kd.C_below HCr.out Q_wr_2.out) Hcr.out HS.out).mono ?_
            rintro e wr_3 ⟨rfl, hb0⟩
            refine ⟨_, rfl, ?_⟩
            have hb := hb0.below
            clear hb0
            have B_wr_3 : Aside0 (Below (w.heap.size) wr wr_3) := ⟨below_then B_wr_2.out (Nat.le_trans (HLE.out) B_wr_2.out.size) hb⟩
            have S_wr_3 : Aside0 (Sep (w.heap.size) (Stars [Row (Kd.int .i64) 3 (.slice Aq rl.length cq) (rl), Row KR 50 (.slice (some ad) k c) (rowsUp R1 k), FA 103 76 gf R2, Blk gp #[.int .i64 sp, .slice Ap vp.length cp] 73, Blk go #[.int .i64 so, .slice Ao vo.length co] 73]) wr_3) := ⟨Sep.below S_wr_2.out hb⟩
            have Q_wr_3 : Aside0 (Below wr.heap.size wr wr_3) := ⟨below_step Q_wr_2.out hb⟩
            have xr_wr_3 := pw_cell_below Q_wr_3.out xr
            obtain ⟨c_gp_0_wr_3, c_gp_1_wr_3⟩ := XW.cells2 (Sep.front [Row (Kd.int .i64) 3 (.slice Aq rl.length cq) (rl), Row KR 50 (.slice (some ad) k c) (rowsUp R1 k), FA 103 76 gf R2] [Blk go #[.int .i64 so, .slice Ao vo.length co] 73] S_wr_3.out).blk
            obtain ⟨z_gp_0_wr_3, z_gp_1_wr_3⟩ := XW.froz2 (Sep.front [Row (Kd.int .i64) 3 (.slice Aq rl.length cq) (rl), Row KR 50 (.slice (some ad) k c) (rowsUp R1 k), FA 103 76 gf R2] [Blk go #[.int .i64 so, .slice Ao vo.length co] 73] S_wr_3.out).blk
            obtain ⟨c_go_0_wr_3, c_go_1_wr_3⟩ := XW.cells2 (Sep.front [Row (Kd.int .i64) 3 (.slice Aq rl.length cq) (rl), Row KR 50 (.slice (some ad) k c) (rowsUp R1 k), FA 103 76 gf R2, Blk gp #[.int .i64 sp, .slice Ap vp.length cp] 73] [] S_wr_3.out).blk
            obtain ⟨z_go_0_wr_3, z_go_1_wr_3⟩ := XW.froz2 (Sep.front [Row (Kd.int .i64) 3 (.slice Aq rl.length cq) (rl), Row KR 50 (.slice (some ad) k c) (rowsUp R1 k), FA 103 76 gf R2, Blk gp #[.int .i64 sp, .slice Ap vp.length cp] 73] [] S_wr_3.out).blk
            clear S_wr_2 xr_wr_2 c_gp_0_wr_2 c_gp_1_wr_2 z_gp_0_wr_2 z_gp_1_wr_2 c_go_0_wr_2 c_go_1_wr_2 z_go_0_wr_2 z_go_1_wr_2
            clear hb
            refine hK.out _ _ ⟨c_gp_0_wr_3, c_gp_1_wr_3, xr_wr_3⟩ (fun hHeld => ?_)
            clear hK K
            refine norm_ (a' := ?_) ?_ ?_
            rotate_left
            · show Act.put _ (some 79) _ = _
              simp only [Act.put, List.setIfInBounds_toArray, List.set_cons_zero, List.set_cons_succ, i64_w, i32_w]
              rfl
            refine pure_ (i := 17) (N := some 80) (v := ?_) (a' := ?_) Fo18 rfl rfl (by kernel_rfl) (fun _ _ _ h => h) (Or.inl ⟨by rfl, ?_⟩) ?_ ?_
            rotate_left
            · intro w'
              go_simp
              with_reducible rfl
            rotate_left
            · simp only [Act.put, List.setIfInBounds_toArray, List.set_cons_zero, List.set_cons_succ, i64_w, i32_w]
              rfl
            refine pure_ (i := 18) (N := some 81) (v := ?_) (a' := ?_) Fo19 rfl rfl (by kernel_rfl) (fun _ _ _ h => h) (Or.inl ⟨by rfl, ?_⟩) ?_ ?_
            rotate_left
            · intro w'
              go_simp
              with_reducible rfl
            rotate_left
            · simp only [Act.put, List.setIfInBounds_toArray, List.set_cons_zero, List.set_cons_succ, i64_w, i32_w]
              rfl
            refine done_ (by kernel_rfl) ?_
            go_wp2
            go_roundw
            case rel => first | exact ⟨j + 1, by omega, by go_num, ⟨Sep.right S_wr_3.out⟩, ⟨Below.trans BQ.out B_wr_3.out⟩⟩ | ((repeat apply Exists.intro); exact ⟨⟨j + 1, by omega, by go_num, ⟨Sep.right S_wr_3.out⟩, ⟨Below.trans BQ.out B_wr_3.out⟩⟩, rfl⟩)
            case measure => simp [intOf]; omega
          · skip
            have b2 : (r2 != 0) = false := bne_eq_false_iff_eq.mpr (Decidable.not_not.mp e2)
            clear e2
            go_upto_region 16 with (fail)
            refine start_ (n := 19) (S := fun w' => w'.cell? ⟨gp, 0, none⟩ = some (.int .i64 sp) ∧ w'.cell? ⟨gp, 1, none⟩ = some (.slice Ap vp.length cp) ∧ w'.cell? (ad.add j) = some (.slice Ar rl.length cr)) (ds := []) Fo0 (by kernel_rfl) rfl rfl ⟨c_gp_0_wr, c_gp_1_wr, xr⟩ (fun hHeld => ?_)
            generalize hdw : wr.drew = wr_1 at hHeld ⊢
            have HB_wr_1 : Aside0 (Below wr.heap.size wr wr_1) := ⟨by rw [← hdw]; exact below_drew1 (Below.refl _ _)⟩
            clear hdw
            have B_wr_1 : Aside0 (Below (w.heap.size) wr wr_1) := ⟨below_then B_wr.out (Nat.le_trans (HLE.out) B_wr.out.size) HB_wr_1.out⟩
            have S_wr_1 : Aside0 (Sep (w.heap.size) (Stars [Row KR 50 (.slice (some ad) k c) (rowsUp R1 k), FA 103 76 gf R2, Blk gp #[.int .i64 sp, .slice Ap vp.length cp] 73, Blk go #[.int .i64 so, .slice Ao vo.length co] 73]) wr_1) := ⟨Sep.below S_wr.out HB_wr_1.out⟩
            have Q_wr_1 : Aside0 (Below wr.heap.size wr wr_1) := ⟨HB_wr_1.out⟩
            have xr_wr_1 := pw_cell_below Q_wr_1.out xr
            obtain ⟨c_gp_0_wr_1, c_gp_1_wr_1⟩ := XW.cells2 (Sep.front [Row KR 50 (.slice (some ad) k c) (rowsUp R1 k), FA 103 76 gf R2] [Blk go #[.int .i64 so, .slice Ao vo.length co] 73] S_wr_1.out).blk
            obtain ⟨z_gp_0_wr_1, z_gp_1_wr_1⟩ := XW.froz2 (Sep.front [Row KR 50 (.slice (some ad) k c) (rowsUp R1 k), FA 103 76 gf R2] [Blk go #[.int .i64 so, .slice Ao vo.length co] 73] S_wr_1.out).blk
            obtain ⟨c_go_0_wr_1, c_go_1_wr_1⟩ := XW.cells2 (Sep.front [Row KR 50 (.slice (some ad) k c) (rowsUp R1 k), FA 103 76 gf R2, Blk gp #[.int .i64 sp, .slice Ap vp.length cp] 73] [] S_wr_1.out).blk
            obtain ⟨z_go_0_wr_1, z_go_1_wr_1⟩ := XW.froz2 (Sep.front [Row KR 50 (.slice (some ad) k c) (rowsUp R1 k), FA 103 76 gf R2, Blk gp #[.int .i64 sp, .slice Ap vp.length cp] 73] [] S_wr_1.out).blk
            clear S_wr c_gp_0_wr c_gp_1_wr z_gp_0_wr z_gp_1_wr c_go_0_wr c_go_1_wr z_go_0_wr z_go_1_wr
            refine pure_ (i := 0) (N := some 63) (v := ?_) (a' := ?_) Fo1 rfl rfl (by kernel_rfl) (fun _ _ _ h => h) (Or.inl ⟨by rfl, ?_⟩) ?_ ?_
            rotate_left
            · intro w'
              go_simp
              with_reducible rfl
            rotate_left
            · simp only [Act.put, List.setIfInBounds_toArray, List.set_cons_zero, List.set_cons_succ, i64_w, i32_w]
              rfl
            refine pure_ (i := 1) (N := some 64) (v := ?_) (a' := ?_) Fo2 rfl rfl (by kernel_rfl) (fun _ _ _ h => h) (Or.inl ⟨by rfl, ?_⟩) ?_ ?_
            rotate_left
            · intro w'
              go_simp
              with_reducible rfl
            rotate_left
            · simp only [Act.put, List.setIfInBounds_toArray, List.set_cons_zero, List.set_cons_succ, i64_w, i32_w]
              rfl
            refine take_ (i := 2) (N := some 65) (v := ?_) (a' := ?_) Fo3 rfl rfl (by kernel_rfl) (fun _ _ _ h => h) (Or.inl ⟨by rfl, ?_⟩) hHeld ?_ ?_
            rotate_left
            · rintro w' ⟨s0, s1, s2⟩
              go_simp
              with_reducible rfl
            rotate_left
            · simp only [Act.put, List.setIfInBounds_toArray, List.set_cons_zero, List.set_cons_succ, i64_w, i32_w]
              rfl
            refine pure_ (i := 3) (N := some 66) (v := ?_) (a' := ?_) Fo4 rfl rfl (by kernel_rfl) (fun _ _ _ h => h) (Or.inl ⟨by rfl, ?_⟩) ?_ ?_
            rotate_left
            · intro w'
              go_simp
              with_reducible rfl
            rotate_left
            · simp only [Act.put, List.setIfInBounds_toArray, List.set_cons_zero, List.set_cons_succ, i64_w, i32_w]
              rfl
            refine pure_ (i := 4) (N := some 67) (v := ?_) (a' := ?_) Fo5 rfl rfl (by kernel_rfl) (fun _ _ _ h => h) (Or.inl ⟨by rfl, ?_⟩) ?_ ?_
            rotate_left
            · intro w'
              go_simp
              with_reducible rfl
            rotate_left
            · simp only [Act.put, List.setIfInBounds_toArray, List.set_cons_zero, List.set_cons_succ, i64_w, i32_w]
              rfl
            refine pure_ (i := 5) (N := some 68) (v := ?_) (a' := ?_) Fo6 rfl rfl (by kernel_rfl) (fun _ _ _ h => h) (Or.inl ⟨by rfl, ?_⟩) ?_ ?_
            rotate_left
            · intro w'
              go_simp
              with_reducible rfl
            rotate_left
            · simp only [Act.put, List.setIfInBounds_toArray, List.set_cons_zero, List.set_cons_succ, i64_w, i32_w]
              rfl
            refine pure_ (i := 6) (N := some 69) (v := ?_) (a' := ?_) Fo7 rfl rfl (by kernel_rfl) (fun _ _ _ h => h) (Or.inl ⟨by rfl, ?_⟩) ?_ ?_
            rotate_left
            · intro w'
              go_simp
              with_reducible rfl
            rotate_left
            · simp only [Act.put, List.setIfInBounds_toArray, List.set_cons_zero, List.set_cons_succ, i64_w, i32_w]
              rfl
            refine pure_ (i := 7) (N := some 70) (v := ?_) (a' := ?_) Fo8 rfl rfl (by kernel_rfl) (fun _ _ _ h => h) (Or.inl ⟨by rfl, ?_⟩) ?_ ?_
            rotate_left
            · intro w'
              go_simp
              with_reducible rfl
            rotate_left
            · simp only [Act.put, List.setIfInBounds_toArray, List.set_cons_zero, List.set_cons_succ, i64_w, i32_w]
              rfl
            refine pure_ (i := 8) (N := some 71) (v := ?_) (a' := ?_) Fo9 rfl rfl (by kernel_rfl) (fun _ _ _ h => h) (Or.inl ⟨by rfl, ?_⟩) ?_ ?_
            rotate_left
            · intro w'
              go_simp
              with_reducible rfl
            rotate_left
            · simp only [Act.put, List.setIfInBounds_toArray, List.set_cons_zero, List.set_cons_succ, i64_w, i32_w]
              rfl
            refine pure_ (i := 9) (N := some 72) (v := undef) (a' := ?_) Fo10 rfl rfl (by kernel_rfl) (fun _ _ _ h => h) (Or.inr ⟨by rfl, rfl⟩) ?_ ?_
            rotate_left
            · simp only [Act.put, List.setIfInBounds_toArray, List.set_cons_zero, List.set_cons_succ, i64_w, i32_w]
              rfl
            refine pure_ (i := 10) (N := some 73) (v := undef) (a' := ?_) Fo11 rfl rfl (by kernel_rfl) (fun _ _ _ h => h) (Or.inr ⟨by rfl, rfl⟩) ?_ ?_
            rotate_left
            · simp only [Act.put, List.setIfInBounds_toArray, List.set_cons_zero, List.set_cons_succ, i64_w, i32_w]
              rfl
            refine pure_ (i := 11) (N := some 74) (v := undef) (a' := ?_) Fo20 rfl rfl (by kernel_rfl) (fun _ _ _ h => h) (Or.inr ⟨by rfl, rfl⟩) ?_ ?_
            rotate_left
            · simp only [Act.put, List.setIfInBounds_toArray, List.set_cons_zero, List.set_cons_succ, i64_w, i32_w]
              rfl
            refine pure_ (i := 12) (N := some 75) (v := undef) (a' := ?_) Fo21 rfl rfl (by kernel_rfl) (fun _ _ _ h => h) (Or.inr ⟨by rfl, rfl⟩) ?_ ?_
            rotate_left
            · simp only [Act.put, List.setIfInBounds_toArray, List.set_cons_zero, List.set_cons_succ, i64_w, i32_w]
              rfl
            refine pure_ (i := 13) (N := some 76) (v := undef) (a' := ?_) Fo22 rfl rfl (by kernel_rfl) (fun _ _ _ h => h) (Or.inr ⟨by rfl, rfl⟩) ?_ ?_
            rotate_left
            · simp only [Act.put, List.setIfInBounds_toArray, List.set_cons_zero, List.set_cons_succ, i64_w, i32_w]
              rfl
            refine pure_ (i := 14) (N := some 77) (v := undef) (a' := ?_) Fo23 rfl rfl (by kernel_rfl) (fun _ _ _ h => h) (Or.inr ⟨by rfl, rfl⟩) ?_ ?_
            rotate_left
            · simp only [Act.put, List.setIfInBounds_toArray, List.set_cons_zero, List.set_cons_succ, i64_w, i32_w]
              rfl
            refine pure_ (i := 15) (N := some 78) (v := undef) (a' := ?_) Fo16 rfl rfl (by kernel_rfl) (fun _ _ _ h => h) (Or.inr ⟨by rfl, rfl⟩) ?_ ?_
            rotate_left
            · simp only [Act.put, List.setIfInBounds_toArray, List.set_cons_zero, List.set_cons_succ, i64_w, i32_w]
              rfl
            refine pure_ (i := 16) (N := some 79) (v := undef) (a' := ?_) Fo17 rfl rfl (by kernel_rfl) (fun _ _ _ h => h) (Or.inr ⟨by rfl, rfl⟩) ?_ ?_
            rotate_left
            · simp only [Act.put, List.setIfInBounds_toArray, List.set_cons_zero, List.set_cons_succ, i64_w, i32_w]
              rfl
            refine pure_ (i := 17) (N := some 80) (v := undef) (a' := ?_) Fo18 rfl rfl (by kernel_rfl) (fun _ _ _ h => h) (Or.inr ⟨by rfl, rfl⟩) ?_ ?_
            rotate_left
            · simp only [Act.put, List.setIfInBounds_toArray, List.set_cons_zero, List.set_cons_succ, i64_w, i32_w]
              rfl
            refine pure_ (i := 18) (N := some 81) (v := ?_) (a' := ?_) Fo19 rfl rfl (by kernel_rfl) (fun _ _ _ h => h) (Or.inl ⟨by rfl, ?_⟩) ?_ ?_
            rotate_left
            · intro w'
              go_simp
              with_reducible rfl
            rotate_left
            · simp only [Act.put, List.setIfInBounds_toArray, List.set_cons_zero, List.set_cons_succ, i64_w, i32_w]
              rfl
            refine done_ (by kernel_rfl) ?_
            go_wp2
            go_roundw
            case rel => first | exact ⟨j + 1, by omega, by go_num, ⟨S_wr_1.out⟩, ⟨Below.trans BQ.out B_wr_1.out⟩⟩ | ((repeat apply Exists.intro); exact ⟨⟨j + 1, by omega, by go_num, ⟨S_wr_1.out⟩, ⟨Below.trans BQ.out B_wr_1.out⟩⟩, rfl⟩)
            case measure => simp [intOf]; omega
        · obtain rfl : j = k := by omega
          have hlj2 : ¬ (j : Int) < (j : Int) := by omega
          have B_wr : Aside0 (Below (w.heap.size) w wr) := BQ
          obtain ⟨c_gp_0_wr, c_gp_1_wr⟩ := XW.cells2 (Sep.front [Row KR 50 (.slice A j c) (rowsUp R1 j), FA 103 76 gf R2] [Blk go #[.int .i64 so, .slice Ao vo.length co] 73] S_wr.out).blk
          obtain ⟨z_gp_0_wr, z_gp_1_wr⟩ := XW.froz2 (Sep.front [Row KR 50 (.slice A j c) (rowsUp R1 j), FA 103 76 gf R2] [Blk go #[.int .i64 so, .slice Ao vo.length co] 73] S_wr.out).blk
          obtain ⟨c_go_0_wr, c_go_1_wr⟩ := XW.cells2 (Sep.front [Row KR 50 (.slice A j c) (rowsUp R1 j), FA 103 76 gf R2, Blk gp #[.int .i64 sp, .slice Ap vp.length cp] 73] [] S_wr.out).blk
          obtain ⟨z_go_0_wr, z_go_1_wr⟩ := XW.froz2 (Sep.front [Row KR 50 (.slice A j c) (rowsUp R1 j), FA 103 76 gf R2, Blk gp #[.int .i64 sp, .slice Ap vp.length cp] 73] [] S_wr.out).blk
          by_cases e2 : ¬ r2 = 0
          · skip
            have b2 : (r2 != 0) = true := bne_iff_ne.mpr e2
            clear e2
            go_upto_region 18 with (fail)
            refine start_ (n := 15) (S := fun w' => w'.cell? ⟨gp, 0, none⟩ = some (.int .i64 sp) ∧ w'.cell? ⟨gp, 1, none⟩ = some (.slice Ap vp.length cp)) (ds := []) Fo24 (by kernel_rfl) rfl rfl ⟨c_gp_0_wr, c_gp_1_wr⟩ (fun hHeld => ?_)
            generalize hdw : wr.drew = wr_1 at hHeld ⊢
            have HB_wr_1 : Aside0 (Below wr.heap.size wr wr_1) := ⟨by rw [← hdw]; exact below_drew1 (Below.refl _ _)⟩
            clear hdw
            have B_wr_1 : Aside0 (Below (w.heap.size) w wr_1) := ⟨below_then B_wr.out B_wr.out.size HB_wr_1.out⟩
            have S_wr_1 : Aside0 (Sep (w.heap.size) (Stars [Row KR 50 (.slice A j c) (rowsUp R1 j), FA 103 76 gf R2, Blk gp #[.int .i64 sp, .slice Ap vp.length cp] 73, Blk go #[.int .i64 so, .slice Ao vo.length co] 73]) wr_1) := ⟨Sep.below S_wr.out HB_wr_1.out⟩
            obtain ⟨c_gp_0_wr_1, c_gp_1_wr_1⟩ := XW.cells2 (Sep.front [Row KR 50 (.slice A j c) (rowsUp R1 j), FA 103 76 gf R2] [Blk go #[.int .i64 so, .slice Ao vo.length co] 73] S_wr_1.out).blk
            obtain ⟨z_gp_0_wr_1, z_gp_1_wr_1⟩ := XW.froz2 (Sep.front [Row KR 50 (.slice A j c) (rowsUp R1 j), FA 103 76 gf R2] [Blk go #[.int .i64 so, .slice Ao vo.length co] 73] S_wr_1.out).blk
            obtain ⟨c_go_0_wr_1, c_go_1_wr_1⟩ := XW.cells2 (Sep.front [Row KR 50 (.slice A j c) (rowsUp R1 j), FA 103 76 gf R2, Blk gp #[.int .i64 sp, .slice Ap vp.length cp] 73] [] S_wr_1.out).blk
            obtain ⟨z_go_0_wr_1, z_go_1_wr_1⟩ := XW.froz2 (Sep.front [Row KR 50 (.slice A j c) (rowsUp R1 j), FA 103 76 gf R2, Blk gp #[.int .i64 sp, .slice Ap vp.length cp] 73] [] S_wr_1.out).blk
            clear S_wr c_gp_0_wr c_gp_1_wr z_gp_0_wr z_gp_1_wr c_go_0_wr c_go_1_wr z_go_0_wr z_go_1_wr
            refine pure_ (i := 0) (N := some 82) (v := ?_) (a' := ?_) Fo25 rfl rfl (by kernel_rfl) (fun _ _ _ h => h) (Or.inl ⟨by rfl, ?_⟩) ?_ ?_
            rotate_left
            · intro w'
              go_simp
              with_reducible rfl
            rotate_left
            · simp only [Act.put, List.setIfInBounds_toArray, List.set_cons_zero, List.set_cons_succ, i64_w, i32_w]
              rfl
            refine pure_ (i := 1) (N := some 83) (v := ?_) (a' := ?_) Fo26 rfl rfl (by kernel_rfl) (fun _ _ _ h => h) (Or.inl ⟨by rfl, ?_⟩) ?_ ?_
            rotate_left
            · intro w'
              go_simp
              with_reducible rfl
            rotate_left
            · simp only [Act.put, List.setIfInBounds_toArray, List.set_cons_zero, List.set_cons_succ, i64_w, i32_w]
              rfl
            refine pure_ (i := 2) (N := some 84) (v := ?_) (a' := ?_) Fo27 rfl rfl (by kernel_rfl) (fun _ _ _ h => h) (Or.inl ⟨by rfl, ?_⟩) ?_ ?_
            rotate_left
            · intro w'
              go_simp
              with_reducible rfl
            rotate_left
            · simp only [Act.put, List.setIfInBounds_toArray, List.set_cons_zero, List.set_cons_succ, i64_w, i32_w]
              rfl
            refine pure_ (i := 3) (N := some 85) (v := undef) (a' := ?_) Fo28 rfl rfl (by kernel_rfl) (fun _ _ _ h => h) (Or.inr ⟨by rfl, rfl⟩) ?_ ?_
            rotate_left
            · simp only [Act.put, List.setIfInBounds_toArray, List.set_cons_zero, List.set_cons_succ, i64_w, i32_w]
              rfl
            refine pure_ (i := 4) (N := some 86) (v := undef) (a' := ?_) Fo29 rfl rfl (by kernel_rfl) (fun _ _ _ h => h) (Or.inr ⟨by rfl, rfl⟩) ?_ ?_
            rotate_left
            · simp only [Act.put, List.setIfInBounds_toArray, List.set_cons_zero, List.set_cons_succ, i64_w, i32_w]
              rfl
            refine pure_ (i := 5) (N := some 87) (v := undef) (a' := ?_) Fo30 rfl rfl (by kernel_rfl) (fun _ _ _ h => h) (Or.inr ⟨by rfl, rfl⟩) ?_ ?_
            rotate_left
            · simp only [Act.put, List.setIfInBounds_toArray, List.set_cons_zero, List.set_cons_succ, i64_w, i32_w]
              rfl
            refine pure_ (i := 6) (N := some 88) (v := undef) (a' := ?_) Fo31 rfl rfl (by kernel_rfl) (fun _ _ _ h => h) (Or.inr ⟨by rfl, rfl⟩) ?_ ?_
            rotate_left
            · simp only [Act.put, List.setIfInBounds_toArray, List.set_cons_zero, List.set_cons_succ, i64_w, i32_w]
              rfl
            refine pure_ (i := 7) (N := some 89) (v := undef) (a' := ?_) Fo32 rfl rfl (by kernel_rfl) (fun _ _ _ h => h) (Or.inr ⟨by rfl, rfl⟩) ?_ ?_
            rotate_left
            · simp only [Act.put, List.setIfInBounds_toArray, List.set_cons_zero, List.set_cons_succ, i64_w, i32_w]
              rfl
            refine pure_ (i := 8) (N := some 90) (v := undef) (a' := ?_) Fo33 rfl rfl (by kernel_rfl) (fun _ _ _ h => h) (Or.inr ⟨by rfl, rfl⟩) ?_ ?_
            rotate_left
            · simp only [Act.put, List.setIfInBounds_toArray, List.set_cons_zero, List.set_cons_succ, i64_w, i32_w]
              rfl
            refine pure_ (i := 9) (N := some 91) (v := undef) (a' := ?_) Fo34 rfl rfl (by kernel_rfl) (fun _ _ _ h => h) (Or.inr ⟨by rfl, rfl⟩) ?_ ?_
            rotate_left
            · simp only [Act.put, List.setIfInBounds_toArray, List.set_cons_zero, List.set_cons_succ, i64_w, i32_w]
              rfl
            refine pure_ (i := 10) (N := some 92) (v := ?_) (a' := ?_) Fo35 rfl rfl (by kernel_rfl) (fun _ _ _ h => h) (Or.inl ⟨by rfl, ?_⟩) ?_ ?_
            rotate_left
            · intro w'
              go_simp
              with_reducible rfl
            rotate_left
            · simp only [Act.put, List.setIfInBounds_toArray, List.set_cons_zero, List.set_cons_succ, i64_w, i32_w]
              rfl
            refine pure_ (i := 11) (N := some 93) (v := ?_) (a' := ?_) Fo36 rfl rfl (by kernel_rfl) (fun _ _ _ h => h) (Or.inl ⟨by rfl, ?_⟩) ?_ ?_
            rotate_left
            · intro w'
              go_simp
              with_reducible rfl
            rotate_left
            · simp only [Act.put, List.setIfInBounds_toArray, List.set_cons_zero, List.set_cons_succ, i64_w, i32_w]
              rfl
            refine one_ (i := 12) (N := some 94) Fo37 rfl rfl (by kernel_rfl) (by decide) (fun K hK => ?_)
            refine goes_ Try.func37 (by kernel_rfl) rfl #[] (by rfl) rfl rfl (by first | (simp only [List.map_toArray, List.map_cons, List.map_nil]; done) | rfl) ?_
            with_reducible refine (live9 _).mono ?_
            rintro e wr_2 ⟨rfl, hb⟩
            refine ⟨_, rfl, ?_⟩
            have B_wr_2 : Aside0 (Below (w.heap.size) w wr_2) := ⟨below_then B_wr_1.out B_wr_1.out.size hb⟩
            have S_wr_2 : Aside0 (Sep (w.heap.size) (Stars [Row KR 50 (.slice A j c) (rowsUp R1 j), FA 103 76 gf R2, Blk gp #[.int .i64 sp, .slice Ap vp.length cp] 73, Blk go #[.int .i64 so, .slice Ao vo.length co] 73]) wr_2) := ⟨Sep.below S_wr_1.out hb⟩
            obtain ⟨c_gp_0_wr_2, c_gp_1_wr_2⟩ := XW.cells2 (Sep.front [Row KR 50 (.slice A j c) (rowsUp R1 j), FA 103 76 gf R2] [Blk go #[.int .i64 so, .slice Ao vo.length co] 73] S_wr_2.out).blk
            obtain ⟨z_gp_0_wr_2, z_gp_1_wr_2⟩ := XW.froz2 (Sep.front [Row KR 50 (.slice A j c) (rowsUp R1 j), FA 103 76 gf R2] [Blk go #[.int .i64 so, .slice Ao vo.length co] 73] S_wr_2.out).blk
            obtain ⟨c_go_0_wr_2, c_go_1_wr_2⟩ := XW.cells2 (Sep.front [Row KR 50 (.slice A j c) (rowsUp R1 j), FA 103 76 gf R2, Blk gp #[.int .i64 sp, .slice Ap vp.length cp] 73] [] S_wr_2.out).blk
            obtain ⟨z_go_0_wr_2, z_go_1_wr_2⟩ := XW.froz2 (Sep.front [Row KR 50 (.slice A j c) (rowsUp R1 j), FA 103 76 gf R2, Blk gp #[.int .i64 sp, .slice Ap vp.length cp] 73] [] S_wr_2.out).blk
            clear S_wr_1 c_gp_0_wr_1 c_gp_1_wr_1 z_gp_0_wr_1 z_gp_1_wr_1 c_go_0_wr_1 c_go_1_wr_1 z_go_0_wr_1 z_go_1_wr_1
            clear hb
            refine hK.out _ _ ⟨c_gp_0_wr_2, c_gp_1_wr_2⟩ (fun hHeld => ?_)
            clear hK K
            refine norm_ (a' := ?_) ?_ ?_
            rotate_left
            · show Act.put _ (some 94) _ = _
              simp only [Act.put, List.setIfInBounds_toArray, List.set_cons_zero, List.set_cons_succ, i64_w, i32_w]
              rfl
            refine pure_ (i := 13) (N := some 95) (v := ?_) (a' := ?_) Fo38 rfl rfl (by kernel_rfl) (fun _ _ _ h => h) (Or.inl ⟨by rfl, ?_⟩) ?_ ?_
            rotate_left
            · intro w'
              go_simp
              with_reducible rfl
            rotate_left
            · simp only [Act.put, List.setIfInBounds_toArray, List.set_cons_zero, List.set_cons_succ, i64_w, i32_w]
              rfl
            refine pure_ (i := 14) (N := some 6) (v := ?_) (a' := ?_) Fo39 rfl rfl (by kernel_rfl) (fun _ _ _ h => h) (Or.inl ⟨by rfl, ?_⟩) ?_ ?_
            rotate_left
            · intro w'
              go_simp
              with_reducible rfl
            rotate_left
            · simp only [Act.put, List.setIfInBounds_toArray, List.set_cons_zero, List.set_cons_succ, i64_w, i32_w]
              rfl
            refine done_ (by kernel_rfl) ?_
            go_wp2
            go_ret
            exact ⟨rfl, B_wr_2.out⟩
          · have e2 := Decidable.not_not.mp e2
            have b2 : (r2 != 0) = false := bne_eq_false_iff_eq.mpr e2
            obtain ⟨rl, hrl⟩ : ∃ rl, rowOf R2 sp = rl := ⟨_, rfl⟩
            have HBel : Aside0 (duetref06_Below.f 3000 vp rl = some true) := ⟨by rw [below_is _ _ _ (by omega) (by omega), ← hrl, ← HR2.out, row_heard HG1.out sp vp (by rw [HE2.out]; exact e2)]; rfl⟩
            have Hrl := Aside0.mk hrl
            clear hrl e2
            go_upto_region 18 with (fail)
            refine start_ (n := 15) (S := fun w' => w'.cell? ⟨gp, 0, none⟩ = some (.int .i64 sp) ∧ w'.cell? ⟨gp, 1, none⟩ = some (.slice Ap vp.length cp)) (ds := []) Fo24 (by kernel_rfl) rfl rfl ⟨c_gp_0_wr, c_gp_1_wr⟩ (fun hHeld => ?_)
            generalize hdw : wr.drew = wr_1 at hHeld ⊢
            have HB_wr_1 : Aside0 (Below wr.heap.size wr wr_1) := ⟨by rw [← hdw]; exact below_drew1 (Below.refl _ _)⟩
            clear hdw
            have B_wr_1 : Aside0 (Below (w.heap.size) w wr_1) := ⟨below_then B_wr.out B_wr.out.size HB_wr_1.out⟩
            have S_wr_1 : Aside0 (Sep (w.heap.size) (Stars [Row KR 50 (.slice A j c) (rowsUp R1 j), FA 103 76 gf R2, Blk gp #[.int .i64 sp, .slice Ap vp.length cp] 73, Blk go #[.int .i64 so, .slice Ao vo.length co] 73]) wr_1) := ⟨Sep.below S_wr.out HB_wr_1.out⟩
            obtain ⟨c_gp_0_wr_1, c_gp_1_wr_1⟩ := XW.cells2 (Sep.front [Row KR 50 (.slice A j c) (rowsUp R1 j), FA 103 76 gf R2] [Blk go #[.int .i64 so, .slice Ao vo.length co] 73] S_wr_1.out).blk
            obtain ⟨z_gp_0_wr_1, z_gp_1_wr_1⟩ := XW.froz2 (Sep.front [Row KR 50 (.slice A j c) (rowsUp R1 j), FA 103 76 gf R2] [Blk go #[.int .i64 so, .slice Ao vo.length co] 73] S_wr_1.out).blk
            obtain ⟨c_go_0_wr_1, c_go_1_wr_1⟩ := XW.cells2 (Sep.front [Row KR 50 (.slice A j c) (rowsUp R1 j), FA 103 76 gf R2, Blk gp #[.int .i64 sp, .slice Ap vp.length cp] 73] [] S_wr_1.out).blk
            obtain ⟨z_go_0_wr_1, z_go_1_wr_1⟩ := XW.froz2 (Sep.front [Row KR 50 (.slice A j c) (rowsUp R1 j), FA 103 76 gf R2, Blk gp #[.int .i64 sp, .slice Ap vp.length cp] 73] [] S_wr_1.out).blk
            clear S_wr c_gp_0_wr c_gp_1_wr z_gp_0_wr z_gp_1_wr c_go_0_wr c_go_1_wr z_go_0_wr z_go_1_wr
            refine pure_ (i := 0) (N := some 82) (v := ?_) (a' := ?_) Fo25 rfl rfl (by kernel_rfl) (fun _ _ _ h => h) (Or.inl ⟨by rfl, ?_⟩) ?_ ?_
            rotate_left
            · intro w'
              go_simp
              with_reducible rfl
            rotate_left
            · simp only [Act.put, List.setIfInBounds_toArray, List.set_cons_zero, List.set_cons_succ, i64_w, i32_w]
              rfl
            refine pure_ (i := 1) (N := some 83) (v := ?_) (a' := ?_) Fo26 rfl rfl (by kernel_rfl) (fun _ _ _ h => h) (Or.inl ⟨by rfl, ?_⟩) ?_ ?_
            rotate_left
            · intro w'
              go_simp
              with_reducible rfl
            rotate_left
            · simp only [Act.put, List.setIfInBounds_toArray, List.set_cons_zero, List.set_cons_succ, i64_w, i32_w]
              rfl
            refine pure_ (i := 2) (N := some 84) (v := ?_) (a' := ?_) Fo27 rfl rfl (by kernel_rfl) (fun _ _ _ h => h) (Or.inl ⟨by rfl, ?_⟩) ?_ ?_
            rotate_left
            · intro w'
              go_simp
              with_reducible rfl
            rotate_left
            · simp only [Act.put, List.setIfInBounds_toArray, List.set_cons_zero, List.set_cons_succ, i64_w, i32_w]
              rfl
            refine pure_ (i := 3) (N := some 85) (v := ?_) (a' := ?_) Fo28 rfl rfl (by kernel_rfl) (fun _ _ _ h => h) (Or.inl ⟨by rfl, ?_⟩) ?_ ?_
            rotate_left
            · intro w'
              go_simp
              with_reducible rfl
            rotate_left
            · simp only [Act.put, List.setIfInBounds_toArray, List.set_cons_zero, List.set_cons_succ, i64_w, i32_w]
              rfl
            refine pure_ (i := 5) (N := some 87) (v := ?_) (a' := ?_) Fo40 rfl rfl (by kernel_rfl) (fun _ _ _ h => h) (Or.inl ⟨by rfl, ?_⟩) ?_ ?_
            rotate_left
            · intro w'
              go_simp
              with_reducible rfl
            rotate_left
            · simp only [Act.put, List.setIfInBounds_toArray, List.set_cons_zero, List.set_cons_succ, i64_w, i32_w]
              rfl
            refine pure_ (i := 6) (N := some 88) (v := ?_) (a' := ?_) Fo41 rfl rfl (by kernel_rfl) (fun _ _ _ h => h) (Or.inl ⟨by rfl, ?_⟩) ?_ ?_
            rotate_left
            · intro w'
              go_simp
              with_reducible rfl
            rotate_left
            · simp only [Act.put, List.setIfInBounds_toArray, List.set_cons_zero, List.set_cons_succ, i64_w, i32_w]
              rfl
            refine take_ (i := 4) (N := some 86) (v := ?_) (a' := ?_) Fo31 rfl rfl (by kernel_rfl) (fun _ _ _ h => h) (Or.inl ⟨by rfl, ?_⟩) hHeld ?_ ?_
            rotate_left
            · rintro w' ⟨s0, s1⟩
              go_simp
              with_reducible rfl
            rotate_left
            · simp only [Act.put, List.setIfInBounds_toArray, List.set_cons_zero, List.set_cons_succ, i64_w, i32_w]
              rfl
            refine take_ (i := 7) (N := some 89) (v := ?_) (a' := ?_) Fo32 rfl rfl (by kernel_rfl) (fun _ _ _ h => h) (Or.inl ⟨by rfl, ?_⟩) hHeld ?_ ?_
            rotate_left
            · rintro w' ⟨s0, s1⟩
              go_simp
              with_reducible rfl
            rotate_left
            · simp only [Act.put, List.setIfInBounds_toArray, List.set_cons_zero, List.set_cons_succ, i64_w, i32_w]
              rfl
            refine one_ (i := 8) (N := some 90) Fo33 rfl rfl (by kernel_rfl) (by decide) (fun K hK => ?_)
            refine goes_ Try.func46 (by kernel_rfl) rfl #[.pointer (some ⟨gf, 0, none⟩), .int .i64 sp] (by rfl) rfl rfl (by simp only [List.map_toArray, List.map_cons, List.map_nil]; rfl) ?_
            with_reducible refine (row_sep _ (Sep.front [Row KR 50 (.slice A j c) (rowsUp R1 j)] [Blk gp #[.int .i64 sp, .slice Ap vp.length cp] 73, Blk go #[.int .i64 so, .slice Ao vo.length co] 73] S_wr_1.out) HG2.out sp rl Hrl.out).mono ?_
            rintro e wr_2 ⟨vq, rfl, hr, hb⟩
            refine ⟨_, rfl, ?_⟩
            obtain ⟨Aq, cq, hv, -, -⟩ := Kd.R_reads hr; replace hv : vq = .slice Aq rl.length cq := hv; subst hv
            have B_wr_2 : Aside0 (Below (w.heap.size) w wr_2) := ⟨below_then B_wr_1.out B_wr_1.out.size hb⟩
            have S_wr_2 : Aside0 (Sep (w.heap.size) (Stars [Row (Kd.int .i64) 3 (.slice Aq rl.length cq) (rl), Row KR 50 (.slice A j c) (rowsUp R1 j), FA 103 76 gf R2, Blk gp #[.int .i64 sp, .slice Ap vp.length cp] 73, Blk go #[.int .i64 so, .slice Ao vo.length co] 73]) wr_2) := ⟨Sep.new_row S_wr_1.out B_wr_1.out.size hb hr⟩
            obtain ⟨c_gp_0_wr_2, c_gp_1_wr_2⟩ := XW.cells2 (Sep.front [Row (Kd.int .i64) 3 (.slice Aq rl.length cq) (rl), Row KR 50 (.slice A j c) (rowsUp R1 j), FA 103 76 gf R2] [Blk go #[.int .i64 so, .slice Ao vo.length co] 73] S_wr_2.out).blk
            obtain ⟨z_gp_0_wr_2, z_gp_1_wr_2⟩ := XW.froz2 (Sep.front [Row (Kd.int .i64) 3 (.slice Aq rl.length cq) (rl), Row KR 50 (.slice A j c) (rowsUp R1 j), FA 103 76 gf R2] [Blk go #[.int .i64 so, .slice Ao vo.length co] 73] S_wr_2.out).blk
            obtain ⟨c_go_0_wr_2, c_go_1_wr_2⟩ := XW.cells2 (Sep.front [Row (Kd.int .i64) 3 (.slice Aq rl.length cq) (rl), Row KR 50 (.slice A j c) (rowsUp R1 j), FA 103 76 gf R2, Blk gp #[.int .i64 sp, .slice Ap vp.length cp] 73] [] S_wr_2.out).blk
            obtain ⟨z_go_0_wr_2, z_go_1_wr_2⟩ := XW.froz2 (Sep.front [Row (Kd.int .i64) 3 (.slice Aq rl.length cq) (rl), Row KR 50 (.slice A j c) (rowsUp R1 j), FA 103 76 gf R2, Blk gp #[.int .i64 sp, .slice Ap vp.length cp] 73] [] S_wr_2.out).blk
            clear S_wr_1 c_gp_0_wr_1 c_gp_1_wr_1 z_gp_0_wr_1 z_gp_1_wr_1 c_go_0_wr_1 c_go_1_wr_1 z_go_0_wr_1 z_go_1_wr_1
            clear hb
            clear hr
            refine hK.out _ _ ⟨c_gp_0_wr_2, c_gp_1_wr_2⟩ (fun hHeld => ?_)
            clear hK K
            refine norm_ (a' := ?_) ?_ ?_
            rotate_left
            · show Act.put _ (some 90) _ = _
              simp only [Act.put, List.setIfInBounds_toArray, List.set_cons_zero, List.set_cons_succ, i64_w, i32_w]
              rfl
            refine one_ (i := 9) (N := some 91) Fo34 rfl rfl (by kernel_rfl) (by decide) (fun K hK => ?_)
            refine goes_ Try.func49 (by kernel_rfl) rfl #[.slice Ap vp.length cp, .slice Aq rl.length cq] (by rfl) rfl rfl (by simp only [List.map_toArray, List.map_cons, List.map_nil]; rfl) ?_
            with_reducible refine (duetref06_Below.at 3000 Ap cp vp.length vp Aq cq rl.length rl true _ (Kd.C_below HP.out B_wr_2.out) Hp.out (Sep.row_at (Sep.front [] [Row KR 50 (.slice A j c) (rowsUp R1 j), FA 103 76 gf R2, Blk gp #[.int .i64 sp, .slice Ap vp.length cp] 73, Blk go #[.int .i64 so, .slice Ao vo.length co] 73] S_wr_2.out)).1 (Sep.row_at (Sep.front [] [Row KR 50 (.slice A j c) (rowsUp R1 j), FA 103 76 gf R2, Blk gp #[.int .i64 sp, .slice Ap vp.length cp] 73, Blk go #[.int .i64 so, .slice Ao vo.length co] 73] S_wr_2.out)).2 HBel.out).mono ?_
            rintro e wr_3 ⟨rfl, hb0⟩
            refine ⟨_, rfl, ?_⟩
            have hb := hb0.below
            clear hb0
            have B_wr_3 : Aside0 (Below (w.heap.size) w wr_3) := ⟨below_then B_wr_2.out B_wr_2.out.size hb⟩
            have S_wr_3 : Aside0 (Sep (w.heap.size) (Stars [Row (Kd.int .i64) 3 (.slice Aq rl.length cq) (rl), Row KR 50 (.slice A j c) (rowsUp R1 j), FA 103 76 gf R2, Blk gp #[.int .i64 sp, .slice Ap vp.length cp] 73, Blk go #[.int .i64 so, .slice Ao vo.length co] 73]) wr_3) := ⟨Sep.below S_wr_2.out hb⟩
            obtain ⟨c_gp_0_wr_3, c_gp_1_wr_3⟩ := XW.cells2 (Sep.front [Row (Kd.int .i64) 3 (.slice Aq rl.length cq) (rl), Row KR 50 (.slice A j c) (rowsUp R1 j), FA 103 76 gf R2] [Blk go #[.int .i64 so, .slice Ao vo.length co] 73] S_wr_3.out).blk
            obtain ⟨z_gp_0_wr_3, z_gp_1_wr_3⟩ := XW.froz2 (Sep.front [Row (Kd.int .i64) 3 (.slice Aq rl.length cq) (rl), Row KR 50 (.slice A j c) (rowsUp R1 j), FA 103 76 gf R2] [Blk go #[.int .i64 so, .slice Ao vo.length co] 73] S_wr_3.out).blk
            obtain ⟨c_go_0_wr_3, c_go_1_wr_3⟩ := XW.cells2 (Sep.front [Row (Kd.int .i64) 3 (.slice Aq rl.length cq) (rl), Row KR 50 (.slice A j c) (rowsUp R1 j), FA 103 76 gf R2, Blk gp #[.int .i64 sp, .slice Ap vp.length cp] 73] [] S_wr_3.out).blk
            obtain ⟨z_go_0_wr_3, z_go_1_wr_3⟩ := XW.froz2 (Sep.front [Row (Kd.int .i64) 3 (.slice Aq rl.length cq) (rl), Row KR 50 (.slice A j c) (rowsUp R1 j), FA 103 76 gf R2, Blk gp #[.int .i64 sp, .slice Ap vp.length cp] 73] [] S_wr_3.out).blk
            clear S_wr_2 c_gp_0_wr_2 c_gp_1_wr_2 z_gp_0_wr_2 z_gp_1_wr_2 c_go_0_wr_2 c_go_1_wr_2 z_go_0_wr_2 z_go_1_wr_2
            clear hb
            refine hK.out _ _ ⟨c_gp_0_wr_3, c_gp_1_wr_3⟩ (fun hHeld => ?_)
            clear hK K
            refine norm_ (a' := ?_) ?_ ?_
            rotate_left
            · show Act.put _ (some 91) _ = _
              simp only [Act.put, List.setIfInBounds_toArray, List.set_cons_zero, List.set_cons_succ, i64_w, i32_w]
              rfl
            refine pure_ (i := 10) (N := some 92) (v := ?_) (a' := ?_) Fo35 rfl rfl (by kernel_rfl) (fun _ _ _ h => h) (Or.inl ⟨by rfl, ?_⟩) ?_ ?_
            rotate_left
            · intro w'
              go_simp
              with_reducible rfl
            rotate_left
            · simp only [Act.put, List.setIfInBounds_toArray, List.set_cons_zero, List.set_cons_succ, i64_w, i32_w]
              rfl
            refine pure_ (i := 11) (N := some 93) (v := ?_) (a' := ?_) Fo36 rfl rfl (by kernel_rfl) (fun _ _ _ h => h) (Or.inl ⟨by rfl, ?_⟩) ?_ ?_
            rotate_left
            · intro w'
              go_simp
              with_reducible rfl
            rotate_left
            · simp only [Act.put, List.setIfInBounds_toArray, List.set_cons_zero, List.set_cons_succ, i64_w, i32_w]
              rfl
            refine one_ (i := 12) (N := some 94) Fo37 rfl rfl (by kernel_rfl) (by decide) (fun K hK => ?_)
            refine goes_ Try.func37 (by kernel_rfl) rfl #[] (by rfl) rfl rfl (by first | (simp only [List.map_toArray, List.map_cons, List.map_nil]; done) | rfl) ?_
            with_reducible refine (live9 _).mono ?_
            rintro e wr_4 ⟨rfl, hb⟩
            refine ⟨_, rfl, ?_⟩
            have B_wr_4 : Aside0 (Below (w.heap.size) w wr_4) := ⟨below_then B_wr_3.out B_wr_3.out.size hb⟩
            have S_wr_4 : Aside0 (Sep (w.heap.size) (Stars [Row (Kd.int .i64) 3 (.slice Aq rl.length cq) (rl), Row KR 50 (.slice A j c) (rowsUp R1 j), FA 103 76 gf R2, Blk gp #[.int .i64 sp, .slice Ap vp.length cp] 73, Blk go #[.int .i64 so, .slice Ao vo.length co] 73]) wr_4) := ⟨Sep.below S_wr_3.out hb⟩
            obtain ⟨c_gp_0_wr_4, c_gp_1_wr_4⟩ := XW.cells2 (Sep.front [Row (Kd.int .i64) 3 (.slice Aq rl.length cq) (rl), Row KR 50 (.slice A j c) (rowsUp R1 j), FA 103 76 gf R2] [Blk go #[.int .i64 so, .slice Ao vo.length co] 73] S_wr_4.out).blk
            obtain ⟨z_gp_0_wr_4, z_gp_1_wr_4⟩ := XW.froz2 (Sep.front [Row (Kd.int .i64) 3 (.slice Aq rl.length cq) (rl), Row KR 50 (.slice A j c) (rowsUp R1 j), FA 103 76 gf R2] [Blk go #[.int .i64 so, .slice Ao vo.length co] 73] S_wr_4.out).blk
            obtain ⟨c_go_0_wr_4, c_go_1_wr_4⟩ := XW.cells2 (Sep.front [Row (Kd.int .i64) 3 (.slice Aq rl.length cq) (rl), Row KR 50 (.slice A j c) (rowsUp R1 j), FA 103 76 gf R2, Blk gp #[.int .i64 sp, .slice Ap vp.length cp] 73] [] S_wr_4.out).blk
            obtain ⟨z_go_0_wr_4, z_go_1_wr_4⟩ := XW.froz2 (Sep.front [Row (Kd.int .i64) 3 (.slice Aq rl.length cq) (rl), Row KR 50 (.slice A j c) (rowsUp R1 j), FA 103 76 gf R2, Blk gp #[.int .i64 sp, .slice Ap vp.length cp] 73] [] S_wr_4.out).blk
            clear S_wr_3 c_gp_0_wr_3 c_gp_1_wr_3 z_gp_0_wr_3 z_gp_1_wr_3 c_go_0_wr_3 c_go_1_wr_3 z_go_0_wr_3 z_go_1_wr_3
            clear hb
            refine hK.out _ _ ⟨c_gp_0_wr_4, c_gp_1_wr_4⟩ (fun hHeld => ?_)
            clear hK K
            refine norm_ (a' := ?_) ?_ ?_
            rotate_left
            · show Act.put _ (some 94) _ = _
              simp only [Act.put, List.setIfInBounds_toArray, List.set_cons_zero, List.set_cons_succ, i64_w, i32_w]
              rfl
            refine pure_ (i := 13) (N := some 95) (v := ?_) (a' := ?_) Fo38 rfl rfl (by kernel_rfl) (fun _ _ _ h => h) (Or.inl ⟨by rfl, ?_⟩) ?_ ?_
            rotate_left
            · intro w'
              go_simp
              with_reducible rfl
            rotate_left
            · simp only [Act.put, List.setIfInBounds_toArray, List.set_cons_zero, List.set_cons_succ, i64_w, i32_w]
              rfl
            refine pure_ (i := 14) (N := some 6) (v := ?_) (a' := ?_) Fo39 rfl rfl (by kernel_rfl) (fun _ _ _ h => h) (Or.inl ⟨by rfl, ?_⟩) ?_ ?_
            rotate_left
            · intro w'
              go_simp
              with_reducible rfl
            rotate_left
            · simp only [Act.put, List.setIfInBounds_toArray, List.set_cons_zero, List.set_cons_succ, i64_w, i32_w]
              rfl
            refine done_ (by kernel_rfl) ?_
            go_wp2
            go_ret
            exact ⟨rfl, B_wr_4.out⟩
end Go.Proofs.Ytiplkmmppihilaa.FrontA
