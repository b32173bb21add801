/- Where everybody's caret is: Sites, walked. Conditions: none beyond those that each theorem states. -/
import Derived.Test.YtiplkmmppihilaaPastD
namespace Go.Proofs.Ytiplkmmppihilaa.PastA
open Go.RowKit Go.Proofs.YtiplkmmppihilaaW.PrintWords Go.Proofs.YtiplkmmppihilaaW.PrintLast Go.Proofs.YtiplkmmppihilaaW.PrintMore Go.Proofs.Ytiplkmmppihilaa.XS Go.Proofs.Ytiplkmmppihilaa.PPast
set_option linter.unusedVariables false
set_option linter.unusedSimpArgs false

/-- The numbers below k that p has. -/
def sitesL (p : Nat → Bool) : Nat → List Int
  | 0 => []
  | k + 1 => if p k = true then sitesL p k ++ [(k : Int)] else sitesL p k
theorem sitesL_le (p : Nat → Bool) (k : Nat) : (sitesL p k).length ≤ k := by
  induction k with
  | zero => exact Nat.le_refl _
  | succ k ih =>
    unfold sitesL
    split
    · rw [List.length_append]; simp; exact ih
    · omega
theorem sitesL_more (p : Nat → Bool) (n : Nat) (h : ∀ i, n ≤ i → p i = false) : ∀ k, n ≤ k → sitesL p k = sitesL p n
  | 0, hk => by rw [show n = 0 by omega]
  | k + 1, hk => by
    by_cases e : n = k + 1
    · rw [e]
    · rw [sitesL, h k (by omega), if_neg (by decide), sitesL_more p n h k (by omega)]
theorem sitesL_congr (p q : Nat → Bool) : ∀ k, (∀ i, i < k → p i = q i) → sitesL p k = sitesL q k
  | 0, _ => rfl
  | k + 1, h => by rw [sitesL, sitesL, h k (by omega), sitesL_congr p q k (fun i hi => h i (by omega))]
theorem info3 : (Try.prog.info? 3).map (fun i => (i.zero, i.size, i.bytes)) = some (some (.int .i64 0), 1, 8) := by kernel_rfl
set_option maxHeartbeats 2000000 in
set_option maxRecDepth 100000 in
theorem where_sites {base g : Nat} {n : Int} {D : Int → Nat → Int} {F : Assn} (w : World) (e : Int) (hn : n ≤ 16) (h : Sep base (Star (WA g n D) F) w) (p : Nat → Bool) (hp : ∀ i : Nat, (atV n D (i : Int) e).2.2 = p i) :
    Calls Try.prog 33 #[.pointer (some ⟨g, 0, none⟩), .int .i64 e] w fun en w' => ∃ A c, en = .returned (.slice A (sitesL p 16).length c) ∧ (sitesL p 16).length ≤ c ∧ (Kd.int .i64).C w' A (sitesL p 16).length (sitesL p 16) ∧ Below w.heap.size w w' := by
  have H := Aside0.mk h
  clear h
  have HP := Aside0.mk hp
  clear hp
  have hu52 := Try.underlying52
  have hu57 := Try.underlying57
  go_enter Try.func33, Try.ntmps33
  go_wp2
  go_loopw [5, 9] (fun v5 i wr => ∃ k : Nat, k ≤ 16 ∧ i = .int .i64 k ∧ Aside0 (Sep w.heap.size (Stars [Row (Kd.int .i64) 3 v5 (sitesL p k)]) wr) ∧ Aside0 (Below w.heap.size w wr)) (fun _ i _ => 16 - (intOf i).toNat)
  case atStart => exact ⟨0, by omega, rfl, ⟨Sep.nil_row _ _ (Sep.emp _ _)⟩, ⟨Below.refl _ _⟩⟩
  case round =>
    obtain ⟨k, hk, rfl, S_wr, B_wr⟩ := hrel
    by_cases hlt : k < 16
    · have HL := Aside0.mk (sitesL_le p k)
      obtain ⟨r0, r1, hat⟩ : ∃ r0 r1, atV n D (k : Int) e = (r0, r1, p k) := ⟨_, _, by rw [← HP.out k]⟩
      have HA := Aside0.mk hat
      clear hat
      cases hpk : p k with
      | true =>
        have HA2 : Aside0 (atV n D (k : Int) e = (r0, r1, true)) := ⟨by rw [HA.out, hpk]⟩
        have HK : Aside0 (sitesL p (k + 1) = sitesL p k ++ [(k : Int)]) := ⟨by rw [sitesL, hpk]; rfl⟩
        clear HA hpk
        go_wp2_with (first | (go_at_call 30; (with_reducible refine (where_at _ _ _ hn (H.out.below B_wr.out) (r0, r1, true) HA2.out).mono ?_); rintro e wr_1 ⟨rfl, hb⟩; have B_wr_1 : Aside0 (Below (w.heap.size) w wr_1) := ⟨below_then B_wr.out B_wr.out.size hb⟩; have S_wr_1 : Aside0 (Sep (w.heap.size) (Stars [Row (Kd.int .i64) 3 (u5) (sitesL p k)]) wr_1) := ⟨Sep.below S_wr.out hb⟩; clear S_wr; clear hb) | ((with_reducible refine gate_dst (N := 7) rfl ?_); (try (refine gate_guard (by rfl) ?_; dsimp only)); refine box_event ?hg (N := 7) ?hd (cs := #[.int .i64 0, .int .i64 0]) (t := 52) ?hr ?_; (case hd => rfl); (case hg => rfl); (case hr => first | (go_simp; done) | (go_simp; rfl)); intro gx hg_gx wr_2 hX hb; have B_wr_2 : Aside0 (Below (w.heap.size) w wr_2) := ⟨below_then B_wr_1.out B_wr_1.out.size hb⟩; have S_wr_2 : Aside0 (Sep (w.heap.size) (Stars [Blk gx #[.int .i64 0, .int .i64 0] 52, Row (Kd.int .i64) 3 (u5) (sitesL p k)]) wr_2) := ⟨Sep.new_blk S_wr_1.out B_wr_1.out.size hg_gx hb hX⟩; obtain ⟨c_gx_0_wr_2, c_gx_1_wr_2⟩ := XW.cells2 (Sep.front [] [Row (Kd.int .i64) 3 (u5) (sitesL p k)] S_wr_2.out).blk; obtain ⟨z_gx_0_wr_2, z_gx_1_wr_2⟩ := XW.froz2 (Sep.front [] [Row (Kd.int .i64) 3 (u5) (sitesL p k)] S_wr_2.out).blk; clear S_wr_1; clear hX hb hg_gx) | ((with_reducible refine gate_store (t := 52) (p := 7) rfl ?_); go_must (refine store_event (t := 52) (p := 7) (v := ?vo_1) (w1 := ((wr_2.setCell ⟨gx, 0, none⟩ (.int .i64 r0)).setCell ⟨gx, 1, none⟩ (.int .i64 r1))) ?hg ?ho ?hn ?hr ?_; (case ho => rfl); (case hg => rfl); (case hn => rfl); (case hr => first | (go_simp; done) | (go_simp; rfl)); intro wr_3 hw; have B_wr_3 : Aside0 (Below (w.heap.size) w wr_3) := ⟨by rw [hw]; exact (Below.setCell (Below.setCell B_wr_2.out ((Sep.front [] [Row (Kd.int .i64) 3 (u5) (sitesL p k)] S_wr_2.out).blk_le) _) ((Sep.front [] [Row (Kd.int .i64) 3 (u5) (sitesL p k)] S_wr_2.out).blk_le) _)⟩; have S_wr_3 : Aside0 (Sep (w.heap.size) (Stars [Blk gx #[.int .i64 r0, .int .i64 r1] 52, Row (Kd.int .i64) 3 (u5) (sitesL p k)]) wr_3) := ⟨by rw [hw]; exact Sep.back [] [Row (Kd.int .i64) 3 (u5) (sitesL p k)] (Sep.store (Sep.store (Sep.front [] [Row (Kd.int .i64) 3 (u5) (sitesL p k)] S_wr_2.out) B_wr_2.out.size 0 (.int .i64 r0) (cs' := #[.int .i64 r0, .int .i64 0]) rfl) (Sep.size_store B_wr_2.out.size) 1 (.int .i64 r1) (cs' := #[.int .i64 r0, .int .i64 r1]) rfl)⟩; obtain ⟨c_gx_0_wr_3, c_gx_1_wr_3⟩ := XW.cells2 (Sep.front [] [Row (Kd.int .i64) 3 (u5) (sitesL p k)] S_wr_3.out).blk; obtain ⟨z_gx_0_wr_3, z_gx_1_wr_3⟩ := XW.froz2 (Sep.front [] [Row (Kd.int .i64) 3 (u5) (sitesL p k)] S_wr_3.out).blk; clear S_wr_2 c_gx_0_wr_2 c_gx_1_wr_2 z_gx_0_wr_2 z_gx_1_wr_2; clear hw)) | ((with_reducible refine gate_builtin (b := .append) (xs := #[.tmp 20, .tmp 22]) rfl ?_); at_builtin; go_must (refine sep_append (enc := Value.int .i64) (h1 := fun _ => rfl) (w.heap.size) rfl (.tmp 20) (.tmp 22) 50 3 (.int .i64 0) 8 rfl Try.underlying50 info3 rfl (by decide) _ (sitesL p k) ((k : Int)) rfl rfl (Sep.front [Blk gx #[.int .i64 r0, .int .i64 r1] 52] [] S_wr_3.out) B_wr_3.out.size ?al ?_); (case al => have := HL.out; omega); intro v6 wr_4 hS hb; have B_wr_4 : Aside0 (Below (w.heap.size) w wr_4) := ⟨(Below.trans B_wr_3.out hb)⟩; have S_wr_4 : Aside0 (Sep (w.heap.size) (Stars [Blk gx #[.int .i64 r0, .int .i64 r1] 52, Row (Kd.int .i64) 3 (v6) (sitesL p k ++ [(k : Int)])]) wr_4) := ⟨Sep.back [Blk gx #[.int .i64 r0, .int .i64 r1] 52] [] hS⟩; obtain ⟨c_gx_0_wr_4, c_gx_1_wr_4⟩ := XW.cells2 (Sep.front [] [Row (Kd.int .i64) 3 (v6) (sitesL p k ++ [(k : Int)])] S_wr_4.out).blk; obtain ⟨z_gx_0_wr_4, z_gx_1_wr_4⟩ := XW.froz2 (Sep.front [] [Row (Kd.int .i64) 3 (v6) (sitesL p k ++ [(k : Int)])] S_wr_4.out).blk; clear S_wr_3 c_gx_0_wr_3 c_gx_1_wr_3 z_gx_0_wr_3 z_gx_1_wr_3; clear hS hb))
        go_roundw
        case rel => exact ⟨k + 1, by omega, by go_num, ⟨by rw [HK.out]; exact Sep.right S_wr_4.out⟩, B_wr_4⟩
        case measure => simp [intOf]; omega
      | false =>
        have HA2 : Aside0 (atV n D (k : Int) e = (r0, r1, false)) := ⟨by rw [HA.out, hpk]⟩
        have HK : Aside0 (sitesL p (k + 1) = sitesL p k) := ⟨by rw [sitesL, hpk]; rfl⟩
        clear HA hpk
        go_wp2_with (first | (go_at_call 30; (with_reducible refine (where_at _ _ _ hn (H.out.below B_wr.out) (r0, r1, false) HA2.out).mono ?_); rintro e wr_1 ⟨rfl, hb⟩; have B_wr_1 : Aside0 (Below (w.heap.size) w wr_1) := ⟨below_then B_wr.out B_wr.out.size hb⟩; have S_wr_1 : Aside0 (Sep (w.heap.size) (Stars [Row (Kd.int .i64) 3 (u5) (sitesL p k)]) wr_1) := ⟨Sep.below S_wr.out hb⟩; clear S_wr; clear hb) | ((with_reducible refine gate_dst (N := 7) rfl ?_); (try (refine gate_guard (by rfl) ?_; dsimp only)); refine box_event ?hg (N := 7) ?hd (cs := #[.int .i64 0, .int .i64 0]) (t := 52) ?hr ?_; (case hd => rfl); (case hg => rfl); (case hr => first | (go_simp; done) | (go_simp; rfl)); intro gx hg_gx wr_2 hX hb; have B_wr_2 : Aside0 (Below (w.heap.size) w wr_2) := ⟨below_then B_wr_1.out B_wr_1.out.size hb⟩; have S_wr_2 : Aside0 (Sep (w.heap.size) (Stars [Blk gx #[.int .i64 0, .int .i64 0] 52, Row (Kd.int .i64) 3 (u5) (sitesL p k)]) wr_2) := ⟨Sep.new_blk S_wr_1.out B_wr_1.out.size hg_gx hb hX⟩; obtain ⟨c_gx_0_wr_2, c_gx_1_wr_2⟩ := XW.cells2 (Sep.front [] [Row (Kd.int .i64) 3 (u5) (sitesL p k)] S_wr_2.out).blk; obtain ⟨z_gx_0_wr_2, z_gx_1_wr_2⟩ := XW.froz2 (Sep.front [] [Row (Kd.int .i64) 3 (u5) (sitesL p k)] S_wr_2.out).blk; clear S_wr_1; clear hX hb hg_gx) | ((with_reducible refine gate_store (t := 52) (p := 7) rfl ?_); go_must (refine store_event (t := 52) (p := 7) (v := ?vo_2) (w1 := ((wr_2.setCell ⟨gx, 0, none⟩ (.int .i64 r0)).setCell ⟨gx, 1, none⟩ (.int .i64 r1))) ?hg ?ho ?hn ?hr ?_; (case ho => rfl); (case hg => rfl); (case hn => rfl); (case hr => first | (go_simp; done) | (go_simp; rfl)); intro wr_3 hw; have B_wr_3 : Aside0 (Below (w.heap.size) w wr_3) := ⟨by rw [hw]; exact (Below.setCell (Below.setCell B_wr_2.out ((Sep.front [] [Row (Kd.int .i64) 3 (u5) (sitesL p k)] S_wr_2.out).blk_le) _) ((Sep.front [] [Row (Kd.int .i64) 3 (u5) (sitesL p k)] S_wr_2.out).blk_le) _)⟩; have S_wr_3 : Aside0 (Sep (w.heap.size) (Stars [Blk gx #[.int .i64 r0, .int .i64 r1] 52, Row (Kd.int .i64) 3 (u5) (sitesL p k)]) wr_3) := ⟨by rw [hw]; exact Sep.back [] [Row (Kd.int .i64) 3 (u5) (sitesL p k)] (Sep.store (Sep.store (Sep.front [] [Row (Kd.int .i64) 3 (u5) (sitesL p k)] S_wr_2.out) B_wr_2.out.size 0 (.int .i64 r0) (cs' := #[.int .i64 r0, .int .i64 0]) rfl) (Sep.size_store B_wr_2.out.size) 1 (.int .i64 r1) (cs' := #[.int .i64 r0, .int .i64 r1]) rfl)⟩; obtain ⟨c_gx_0_wr_3, c_gx_1_wr_3⟩ := XW.cells2 (Sep.front [] [Row (Kd.int .i64) 3 (u5) (sitesL p k)] S_wr_3.out).blk; obtain ⟨z_gx_0_wr_3, z_gx_1_wr_3⟩ := XW.froz2 (Sep.front [] [Row (Kd.int .i64) 3 (u5) (sitesL p k)] S_wr_3.out).blk; clear S_wr_2 c_gx_0_wr_2 c_gx_1_wr_2 z_gx_0_wr_2 z_gx_1_wr_2; clear hw)))
        go_roundw
        case rel => exact ⟨k + 1, by omega, by go_num, ⟨by rw [HK.out]; exact Sep.right S_wr_3.out⟩, B_wr_3⟩
        case measure => simp [intOf]; omega
    · obtain rfl : k = 16 := by omega
      go_wp2
      have hS := Sep.left S_wr.out
      obtain ⟨A, c, hv, hle, hC⟩ := Sep.row1 hS
      subst hv
      go_ret
      exact ⟨A, c, rfl, hle, hC, B_wr.out⟩
theorem where_sites_at {base g : Nat} {n : Int} {D : Int → Nat → Int} {F : Assn} (w : World) (e : Int) (hn : n ≤ 16) (h : Sep base (Star (WA g n D) F) w) (p : Nat → Bool) (hp : ∀ i : Nat, (atV n D (i : Int) e).2.2 = p i) (xs : List Int) (hx : sitesL p 16 = xs) :
    Calls Try.prog 33 #[.pointer (some ⟨g, 0, none⟩), .int .i64 e] w fun en w' => ∃ A c, en = .returned (.slice A xs.length c) ∧ xs.length ≤ c ∧ (Kd.int .i64).C w' A xs.length xs ∧ Below w.heap.size w w' := by
  subst hx
  exact where_sites w e hn h p hp
end Go.Proofs.Ytiplkmmppihilaa.PastA
