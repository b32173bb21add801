/- The document's carets: each function, walked. Conditions: none beyond those that each theorem states. -/
import Derived.Test.YtiplkmmppihilaaPastG
import Derived.Test.YtiplkmmppihilaaXT
namespace Go.Proofs.Ytiplkmmppihilaa.PastA
open Go.RowKit Go.Proofs.YtiplkmmppihilaaW.PrintWords Go.Proofs.YtiplkmmppihilaaW.PrintLast Go.Proofs.YtiplkmmppihilaaW.PrintMore Go.Proofs.Ytiplkmmppihilaa.XS Go.Proofs.Ytiplkmmppihilaa.PPast
set_option linter.unusedVariables false
set_option linter.unusedSimpArgs false
/-- The document's carets at b: D i j as in WA. -/
def RB (b : Nat) (n : Int) (D : Int → Nat → Int) : Assn where
  S := fun w f => f b ∧ ∃ cs, w.heap[b]? = some (.cells cs 98 (0, 0)) ∧ ∀ i : Nat, (i : Int) < n → cs[i * 4]? = some (.int .i64 (D i 7)) ∧ cs[i * 4 + 1]? = some (.int .i64 (D i 1)) ∧ cs[i * 4 + 2]? = some (.int .i64 (D i 4)) ∧ cs[i * 4 + 3]? = some (.int .i64 (D i 5))
  mono := fun hf h => ⟨hf _ h.1, h.2⟩
  bound := fun ⟨h, cs, h1, h2⟩ => ⟨⟨h, blk_lt h1⟩, cs, h1, h2⟩
  move := fun hm ⟨h, cs, h1, h2⟩ => ⟨h, cs, (hm _ h).trans h1, h2⟩
def RA (g : Nat) (n : Int) (D : Int → Nat → Int) : Assn := Ex fun b : Nat => Star (Blk g #[.slice (some ⟨b, 0, none⟩) n.toNat n.toNat] 96) (RB b n D)
theorem RA.open {base g : Nat} {n : Int} {D : Int → Nat → Int} {F : Assn} {w : World} (h : Sep base (Star (RA g n D) F) w) : ∃ b, Sep base (Star (Blk g #[.slice (some ⟨b, 0, none⟩) n.toNat n.toNat] 96) (Star (RB b n D) F)) w := by
  obtain ⟨b, h⟩ := h.ex
  exact ⟨b, h.assoc⟩
theorem RA.close {base g b : Nat} {n : Int} {D : Int → Nat → Int} {F : Assn} {w : World} (h : Sep base (Star (Blk g #[.slice (some ⟨b, 0, none⟩) n.toNat n.toNat] 96) (Star (RB b n D) F)) w) : Sep base (Star (RA g n D) F) w := Sep.ex_mk b h.assoc'
theorem RB.cells {base b : Nat} {n : Int} {D : Int → Nat → Int} {F : Assn} {w : World} (h : Sep base (Star (RB b n D) F) w) (i : Nat) (hi : (i : Int) < n) :
    w.cell? ⟨b, i * 4, none⟩ = some (.int .i64 (D i 7)) ∧ w.cell? ⟨b, i * 4 + 1, none⟩ = some (.int .i64 (D i 1)) ∧ w.cell? ⟨b, i * 4 + 2, none⟩ = some (.int .i64 (D i 4)) ∧ w.cell? ⟨b, i * 4 + 3, none⟩ = some (.int .i64 (D i 5)) := by
  obtain ⟨f, ⟨_, _, _, _, _, ⟨_, cs, h1, h2⟩, _⟩, _⟩ := h
  obtain ⟨a0, a1, a2, a3⟩ := h2 i hi
  exact ⟨(blk_cell h1 _).trans a0, (blk_cell h1 _).trans a1, (blk_cell h1 _).trans a2, (blk_cell h1 _).trans a3⟩
theorem RB.frozen {base b : Nat} {n : Int} {D : Int → Nat → Int} {F : Assn} {w : World} (h : Sep base (Star (RB b n D) F) w) (k : Nat) : w.frozen? ⟨b, k, none⟩ = false := by
  obtain ⟨f, ⟨_, _, _, _, _, ⟨_, cs, h1, _⟩, _⟩, _⟩ := h
  exact blk_frozen h1 k
theorem RB.le {base b : Nat} {n : Int} {D : Int → Nat → Int} {F : Assn} {w : World} (h : Sep base (Star (RB b n D) F) w) : base ≤ b := by
  obtain ⟨f, ⟨x, _, _, hg, _, ha, _⟩, hf⟩ := h
  exact hf b (hg b ha.1)
theorem RB.store {base b : Nat} {n : Int} {D : Int → Nat → Int} {F : Assn} {w : World} (h : Sep base (Star (RB b n D) F) w) (hbase : base ≤ w.heap.size) (i : Nat) (hi : (i : Int) < n) (kd ep it is rt rs ru q : Int) :
    Sep base (Star (RB b n (upd D i [kd, ep, it, is, rt, rs, ru, q])) F) ((((w.setCell ⟨b, i * 4, none⟩ (.int .i64 q)).setCell ⟨b, i * 4 + 1, none⟩ (.int .i64 ep)).setCell ⟨b, i * 4 + 2, none⟩ (.int .i64 rt)).setCell ⟨b, i * 4 + 3, none⟩ (.int .i64 rs)) := by
  refine h.change hbase (fun f ha hl hf => ?_)
  obtain ⟨hfb, cs, h1, h2⟩ := ha
  obtain ⟨a0, a1, a2, a3⟩ := h2 i hi
  have z0 := (Array.getElem?_eq_some_iff.1 a0).1
  have z3 := (Array.getElem?_eq_some_iff.1 a3).1
  have p0 := blk_put h1 (i * 4) (.int .i64 q) rfl
  have p1 := blk_put p0 (i * 4 + 1) (.int .i64 ep) rfl
  have p2 := blk_put p1 (i * 4 + 2) (.int .i64 rt) rfl
  have p3 := blk_put p2 (i * 4 + 3) (.int .i64 rs) rfl
  refine ⟨f, ⟨hfb, _, p3, fun a ha => ?_⟩, fun _ h => .inl h, fun x hx hn => ?_⟩
  · by_cases e : a = i
    · subst e
      unfold upd
      simp only [if_pos trivial]
      simp [Array.getElem?_setIfInBounds, z0, z3]
      omega
    · have e2 : ¬ (a : Int) = (i : Int) := by omega
      unfold upd
      simp only [if_neg e2]
      have hne : ∀ j k : Nat, j < 4 → k < 4 → i * 4 + j ≠ a * 4 + k := fun j k hj hk => by omega
      obtain ⟨b0, b1, b2, b3⟩ := h2 a ha
      have key : ∀ (k : Nat), k < 4 → ((((cs.setIfInBounds (i * 4) (.int .i64 q)).setIfInBounds (i * 4 + 1) (.int .i64 ep)).setIfInBounds (i * 4 + 2) (.int .i64 rt)).setIfInBounds (i * 4 + 3) (.int .i64 rs))[a * 4 + k]? = cs[a * 4 + k]? := fun k hk => by
        rw [Array.getElem?_setIfInBounds_ne (hne 3 k (by decide) hk), Array.getElem?_setIfInBounds_ne (hne 2 k (by decide) hk), Array.getElem?_setIfInBounds_ne (hne 1 k (by decide) hk), Array.getElem?_setIfInBounds_ne (show i * 4 ≠ a * 4 + k by omega)]
      exact ⟨(key 0 (by decide)).trans b0, (key 1 (by decide)).trans b1, (key 2 (by decide)).trans b2, (key 3 (by decide)).trans b3⟩
  · have hb : x ≠ b := fun e => hn (by rw [e]; exact hfb)
    exact (Below.heap_setCell _ ⟨b, _, none⟩ _ x hb).trans ((Below.heap_setCell _ ⟨b, _, none⟩ _ x hb).trans ((Below.heap_setCell _ ⟨b, _, none⟩ _ x hb).trans (Below.heap_setCell _ ⟨b, _, none⟩ _ x hb)))
theorem make_event {P : Program} {ops : Array Oper} {rest : List Oper} {o : Oper} {a : Act} {Q : Exit → Act → World → Prop} {W : World} (hgd : o.guard = none) {N : Tmp} (_hd : o.dst = some N) (t : TypeId) (x y : Operand) (ho : o.op = .makeSlice t x y) (n : Int) (hx : a.eval x = .int .i64 n) (hy : a.eval y = .int .i64 n) (e : TypeId)
    (ht : P.underlying t = some (.slice e)) (z : Value) (size bytes : Nat) (hinfo : (P.info? e).map (fun i => (i.zero, i.size, i.bytes)) = some (some z, size, bytes)) (h0 : 0 ≤ n) (hl : (bytes : Int) * n ≤ 281474976710656) (hn : n ≤ 9223372036854775807)
    (h : ∀ g, g = W.heap.size → ∀ w1, w1.heap[g]? = some (.cells (madeCells z.cells (n.toNat * size)) e (0, 0)) → Below W.heap.size W w1 → wpList P ops Q rest (a.put o.dst (.slice (some ⟨g, 0, none⟩) n.toNat n.toNat)) w1) : wpList P ops Q (o :: rest) a W := by
  obtain ⟨i0, hi, hzz⟩ := Option.map_eq_some_iff.1 hinfo
  simp only [Prod.mk.injEq] at hzz
  obtain ⟨hz0, hz1, hz2⟩ := hzz
  have hr := run_make (P := P) (w := W) t e i0 z ht hi hz0 .i64 .i64 n n h0 (Int.le_refl _) (by rw [hz2]; exact hl) hn
  rw [hz1] at hr
  exact Kd.event_run hgd (by simp [execOp, ho, hx, hy, hr]) (h _ rfl _ (blk_new W _) (below_alloc (Below.refl _ _) _))
theorem info98 : (Try.prog.info? 98).map (fun i => (i.zero, i.size, i.bytes)) = some (some (.agg #[.int .i64 0, .int .i64 0, .int .i64 0, .int .i64 0]), 4, 32) := by kernel_rfl
theorem rb_zero {w : World} {b : Nat} {n : Int} {f : Nat → Prop} (hf : f b) (h : w.heap[b]? = some (.cells (madeCells (Value.agg #[.int .i64 0, .int .i64 0, .int .i64 0, .int .i64 0]).cells (n.toNat * 4)) 98 (0, 0))) : (RB b n (fun _ _ => 0)).S w f := by
  refine ⟨hf, _, h, fun i hi => ?_⟩
  have hk : ∀ k : Nat, k < n.toNat * 4 → (madeCells (Value.agg #[.int .i64 0, .int .i64 0, .int .i64 0, .int .i64 0]).cells (n.toNat * 4))[k]? = some (Value.int .i64 0) := fun k hk => by
    unfold madeCells
    rw [Array.getElem?_map, Array.getElem?_range, if_pos hk]
    simp only [Option.map_some, Value.cells]
    have : k % 4 = 0 ∨ k % 4 = 1 ∨ k % 4 = 2 ∨ k % 4 = 3 := by omega
    rcases this with h | h | h | h <;> simp [h]
  exact ⟨hk _ (by omega), hk _ (by omega), hk _ (by omega), hk _ (by omega)⟩
set_option maxHeartbeats 8000000 in
set_option maxRecDepth 100000 in
theorem rnowhere_yes (w : World) (n : Int) (h1 : 1 ≤ n) (h2 : n ≤ 16) : Calls Try.prog 27 #[.int .i64 n] w fun en w' => ∃ g, en = .returned (.tuple #[.pointer (some ⟨g, 0, none⟩), .int .i64 0]) ∧ Sep w.heap.size (RA g n (fun _ _ => 0)) w' ∧ Below w.heap.size w w' := by
  go_enter Try.func27, Try.ntmps27
  go_wp2_with (first | ((with_reducible refine gate_dst (N := 11) rfl ?_); (try (refine gate_guard (by rfl) ?_; dsimp only)); refine make_event ?hg (N := 11) ?hd 94 (.tmp 10) (.tmp 10) rfl n rfl rfl 98 Try.underlying94 _ 4 32 info98 (by omega) (by omega) (by omega) ?_; (case hd => rfl); (case hg => rfl); intro gb hgb w_1 hX hb; have HG := Aside0.mk hgb; have HX := Aside0.mk hX; have B_w_1 : Aside0 (Below w.heap.size w w_1) := ⟨hb⟩; have Q_w_1 := B_w_1; have S_w_1 : Aside0 (Sep (w.heap.size) (Stars [RB gb n (fun _ _ => 0)]) w_1) := ⟨Sep.one ⟨fun k => k = gb, rb_zero rfl HX.out, fun k hk => by rw [hk, HG.out]; exact Nat.le_refl _⟩⟩; clear hgb hX hb) | ((with_reducible refine gate_dst (N := 13) rfl ?_); (try (refine gate_guard (by rfl) ?_; dsimp only)); refine box_event ?hg (N := 13) ?hd (cs := #[.slice (some ⟨gb, 0, none⟩) n.toNat n.toNat]) (t := 96) ?hr ?_; (case hd => rfl); (case hg => rfl); (case hr => first | (go_simp; done) | (go_simp; rfl)); intro g hg_g w_2 hX hb; have B_w_2 : Aside0 (Below (w.heap.size) w w_2) := ⟨below_then B_w_1.out B_w_1.out.size hb⟩; have S_w_2 : Aside0 (Sep (w.heap.size) (Stars [Blk g #[.slice (some ⟨gb, 0, none⟩) n.toNat n.toNat] 96, RB gb n (fun _ _ => 0)]) w_2) := ⟨Sep.new_blk S_w_1.out B_w_1.out.size hg_g hb hX⟩; have Q_w_2 : Aside0 (Below w.heap.size w w_2) := ⟨below_step Q_w_1.out hb⟩; have c_g_0_w_2 := XW.cells1 (Sep.front [] [RB gb n (fun _ _ => 0)] S_w_2.out).blk; have z_g_0_w_2 := XW.froz1 (Sep.front [] [RB gb n (fun _ _ => 0)] S_w_2.out).blk; clear S_w_1; clear hX hb hg_g))
  go_ret2
  exact ⟨g, rfl, (RA.close S_w_2.out).left, B_w_2.out⟩
set_option maxHeartbeats 2000000 in
theorem rnowhere_no (w : World) (n : Int) (h : n < 1 ∨ 16 < n) : Calls Try.prog 27 #[.int .i64 n] w fun en w' => en = .returned (.tuple #[.pointer none, .int .i64 1]) ∧ w = w' := by
  rcases h with h | h
  · go_enter Try.func27, Try.ntmps27
    go_wp2
    go_ret2
    exact ⟨rfl, rfl⟩
  · have h1 : ¬ n < 1 := by omega
    go_enter Try.func27, Try.ntmps27
    go_wp2
    go_ret2
    exact ⟨rfl, rfl⟩
set_option maxHeartbeats 8000000 in
set_option maxRecDepth 100000 in
theorem rwhere_at {base g : Nat} {n : Int} {D : Int → Nat → Int} {F : Assn} (w : World) (s e : Int) (hn : n ≤ 16) (hn0 : 0 ≤ n) (h : Sep base (Star (RA g n D) F) w) (r : Int × Int × Bool) (hr : atV n D s e = r) :
    Calls Try.prog 31 #[.pointer (some ⟨g, 0, none⟩), .int .i64 s, .int .i64 e] w fun en w' => en = .returned (.tuple #[.agg #[.int .i64 r.1, .int .i64 r.2.1], .bool r.2.2]) ∧ Below w.heap.size w w' := by
  obtain ⟨b, h⟩ := RA.open h
  have c0 := XW.cells1 h.blk
  have hcs := fun i => RB.cells h.swap i
  have hu52 := Try.underlying52
  have hu98 := Try.underlying98
  have B_w := Aside0.mk (Below.refl w.heap.size w)
  clear h
  unfold atV at hr
  obtain ⟨nn, rfl⟩ := Int.eq_ofNat_of_zero_le hn0
  rw [Int.toNat_natCast] at c0
  by_cases h0 : 0 ≤ s
  · by_cases h1 : s < (nn : Int)
    · obtain ⟨i, rfl⟩ := Int.eq_ofNat_of_zero_le h0
      rw [if_pos ⟨h0, h1⟩] at hr
      obtain ⟨d0, d1, d2, d3⟩ := hcs i h1
      have hi : i < 16 := by omega
      clear hcs
      by_cases h7 : D i 7 = 0
      · rw [if_pos h7] at hr
        subst hr
        have b7 : (D i 7 == 0) = true := beq_iff_eq.mpr h7
        clear h7
        go_enter Try.func31, Try.ntmps31
        go_wp2_with (first | ((with_reducible refine gate_dst (N := 6) rfl ?_); (try (refine gate_guard (by rfl) ?_; dsimp only)); refine box_event ?hg (N := 6) ?hd (cs := #[.int .i64 0, .int .i64 0]) (t := 52) ?hr ?_; (case hd => rfl); (case hg => rfl); (case hr => first | (go_simp; done) | (go_simp; rfl)); intro gr hg_gr w1 hbox hb; have B_w1 := Aside0.mk (below_step B_w.out hb); have c0_w1 := pw_cell_below B_w1.out c0; have d0_w1 := pw_cell_below B_w1.out d0; have d1_w1 := pw_cell_below B_w1.out d1; have d2_w1 := pw_cell_below B_w1.out d2; have d3_w1 := pw_cell_below B_w1.out d3; have GE_gr : Aside0 (w.heap.size ≤ gr) := ⟨by rw [hg_gr]; exact B_w.out.size⟩; have X_gr_w1 : Aside0 (w1.heap[gr]? = some (.cells #[.int .i64 0, .int .i64 0] 52 (0, 0))) := ⟨hbox⟩; obtain ⟨c_gr_0_w1, c_gr_1_w1⟩ := Go.Proofs.Ytiplkmmppihilaa.XW.cells2 (X_gr_w1.out); obtain ⟨z_gr_0_w1, z_gr_1_w1⟩ := Go.Proofs.Ytiplkmmppihilaa.XW.froz2 (X_gr_w1.out); clear hb hbox hg_gr) | ((with_reducible refine gate_store (t := 52) (p := 6) rfl ?_); go_must (refine store_event (t := 52) (p := 6) (v := ?vo_1) (w1 := ((w1.setCell ⟨gr, 0, none⟩ (.int .i64 0)).setCell ⟨gr, 1, none⟩ (.int .i64 0))) ?hg ?ho ?hn ?hr ?_; (case ho => rfl); (case hg => rfl); (case hn => rfl); (case hr => first | (go_simp; done) | (go_simp; rfl)); intro w2 hw; have HW : ∀ i, i ≠ gr → w2.heap[i]? = w1.heap[i]? := (fun i hi => (by rw [hw]; exact (Below.heap_setCell _ ⟨gr, 1, none⟩ _ i hi).trans ((Below.heap_setCell _ ⟨gr, 0, none⟩ _ i hi)))); have B_w2 : Aside0 (Below w.heap.size w w2) := ⟨by rw [hw]; exact below_set (j := 1) (below_set (j := 0) (B_w1.out) GE_gr.out) GE_gr.out⟩; have X_gr_w2 := Aside0.mk (Go.Proofs.Ytiplkmmppihilaa.XW.blk_eq hw (blk_put (cs' := #[.int .i64 0, .int .i64 0]) (blk_put (cs' := #[.int .i64 0, .int .i64 0]) (X_gr_w1.out) 0 (.int .i64 0) rfl) 1 (.int .i64 0) rfl)); obtain ⟨c_gr_0_w2, c_gr_1_w2⟩ := Go.Proofs.Ytiplkmmppihilaa.XW.cells2 (X_gr_w2.out); obtain ⟨z_gr_0_w2, z_gr_1_w2⟩ := Go.Proofs.Ytiplkmmppihilaa.XW.froz2 (X_gr_w2.out); have c0_w2 := pw_cell_below B_w2.out c0; have d0_w2 := pw_cell_below B_w2.out d0; have d1_w2 := pw_cell_below B_w2.out d1; have d2_w2 := pw_cell_below B_w2.out d2; have d3_w2 := pw_cell_below B_w2.out d3; clear hw HW)))
        refine bodyPost_ret (results_ct rfl _ _ gr 52 #[.int .i64 0, .int .i64 0] (0, 0) _ rfl X_gr_w2.out Try.underlying52 rfl (by kernel_rfl)) rfl ?_
        exact ⟨rfl, B_w2.out⟩
      rw [if_neg h7] at hr
      have b7 : (D i 7 == 0) = false := beq_eq_false_iff_ne.mpr h7
      clear h7
      by_cases h8 : D i 1 = e
      · rw [if_pos h8] at hr
        subst hr
        have b8 : (D i 1 != e) = false := bne_eq_false_iff_eq.mpr h8
        clear h8
        go_enter Try.func31, Try.ntmps31
        go_wp2_with (first | ((with_reducible refine gate_dst (N := 6) rfl ?_); (try (refine gate_guard (by rfl) ?_; dsimp only)); refine box_event ?hg (N := 6) ?hd (cs := #[.int .i64 0, .int .i64 0]) (t := 52) ?hr ?_; (case hd => rfl); (case hg => rfl); (case hr => first | (go_simp; done) | (go_simp; rfl)); intro gr hg_gr w1 hbox hb; have B_w1 := Aside0.mk (below_step B_w.out hb); have c0_w1 := pw_cell_below B_w1.out c0; have d0_w1 := pw_cell_below B_w1.out d0; have d1_w1 := pw_cell_below B_w1.out d1; have d2_w1 := pw_cell_below B_w1.out d2; have d3_w1 := pw_cell_below B_w1.out d3; have GE_gr : Aside0 (w.heap.size ≤ gr) := ⟨by rw [hg_gr]; exact B_w.out.size⟩; have X_gr_w1 : Aside0 (w1.heap[gr]? = some (.cells #[.int .i64 0, .int .i64 0] 52 (0, 0))) := ⟨hbox⟩; obtain ⟨c_gr_0_w1, c_gr_1_w1⟩ := Go.Proofs.Ytiplkmmppihilaa.XW.cells2 (X_gr_w1.out); obtain ⟨z_gr_0_w1, z_gr_1_w1⟩ := Go.Proofs.Ytiplkmmppihilaa.XW.froz2 (X_gr_w1.out); clear hb hbox hg_gr) | ((with_reducible refine gate_store (t := 52) (p := 6) rfl ?_); go_must (refine store_event (t := 52) (p := 6) (v := ?vo_2) (w1 := ((w1.setCell ⟨gr, 0, none⟩ (.int .i64 (D i 4))).setCell ⟨gr, 1, none⟩ (.int .i64 (D i 5)))) ?hg ?ho ?hn ?hr ?_; (case ho => rfl); (case hg => rfl); (case hn => rfl); (case hr => first | (go_simp; done) | (go_simp; rfl)); intro w2 hw; have HW : ∀ i, i ≠ gr → w2.heap[i]? = w1.heap[i]? := (fun i hi => (by rw [hw]; exact (Below.heap_setCell _ ⟨gr, 1, none⟩ _ i hi).trans ((Below.heap_setCell _ ⟨gr, 0, none⟩ _ i hi)))); have B_w2 : Aside0 (Below w.heap.size w w2) := ⟨by rw [hw]; exact below_set (j := 1) (below_set (j := 0) (B_w1.out) GE_gr.out) GE_gr.out⟩; have X_gr_w2 := Aside0.mk (Go.Proofs.Ytiplkmmppihilaa.XW.blk_eq hw (blk_put (cs' := #[.int .i64 (D i 4), .int .i64 (D i 5)]) (blk_put (cs' := #[.int .i64 (D i 4), .int .i64 0]) (X_gr_w1.out) 0 (.int .i64 (D i 4)) rfl) 1 (.int .i64 (D i 5)) rfl)); obtain ⟨c_gr_0_w2, c_gr_1_w2⟩ := Go.Proofs.Ytiplkmmppihilaa.XW.cells2 (X_gr_w2.out); obtain ⟨z_gr_0_w2, z_gr_1_w2⟩ := Go.Proofs.Ytiplkmmppihilaa.XW.froz2 (X_gr_w2.out); have c0_w2 := pw_cell_below B_w2.out c0; have d0_w2 := pw_cell_below B_w2.out d0; have d1_w2 := pw_cell_below B_w2.out d1; have d2_w2 := pw_cell_below B_w2.out d2; have d3_w2 := pw_cell_below B_w2.out d3; clear hw HW)))
        refine bodyPost_ret (results_ct rfl _ _ gr 52 #[.int .i64 (D i 4), .int .i64 (D i 5)] (0, 0) _ rfl X_gr_w2.out Try.underlying52 rfl (by kernel_rfl)) rfl ?_
        exact ⟨rfl, B_w2.out⟩
      rw [if_neg h8] at hr
      subst hr
      have b8 : (D i 1 != e) = true := bne_iff_ne.mpr h8
      clear h8
      go_enter Try.func31, Try.ntmps31
      go_wp2_with (first | ((with_reducible refine gate_dst (N := 6) rfl ?_); (try (refine gate_guard (by rfl) ?_; dsimp only)); refine box_event ?hg (N := 6) ?hd (cs := #[.int .i64 0, .int .i64 0]) (t := 52) ?hr ?_; (case hd => rfl); (case hg => rfl); (case hr => first | (go_simp; done) | (go_simp; rfl)); intro gr hg_gr w1 hbox hb; have B_w1 := Aside0.mk (below_step B_w.out hb); have c0_w1 := pw_cell_below B_w1.out c0; have d0_w1 := pw_cell_below B_w1.out d0; have d1_w1 := pw_cell_below B_w1.out d1; have d2_w1 := pw_cell_below B_w1.out d2; have d3_w1 := pw_cell_below B_w1.out d3; have GE_gr : Aside0 (w.heap.size ≤ gr) := ⟨by rw [hg_gr]; exact B_w.out.size⟩; have X_gr_w1 : Aside0 (w1.heap[gr]? = some (.cells #[.int .i64 0, .int .i64 0] 52 (0, 0))) := ⟨hbox⟩; obtain ⟨c_gr_0_w1, c_gr_1_w1⟩ := Go.Proofs.Ytiplkmmppihilaa.XW.cells2 (X_gr_w1.out); obtain ⟨z_gr_0_w1, z_gr_1_w1⟩ := Go.Proofs.Ytiplkmmppihilaa.XW.froz2 (X_gr_w1.out); clear hb hbox hg_gr) | ((with_reducible refine gate_store (t := 52) (p := 6) rfl ?_); go_must (refine store_event (t := 52) (p := 6) (v := ?vo_3) (w1 := ((w1.setCell ⟨gr, 0, none⟩ (.int .i64 0)).setCell ⟨gr, 1, none⟩ (.int .i64 0))) ?hg ?ho ?hn ?hr ?_; (case ho => rfl); (case hg => rfl); (case hn => rfl); (case hr => first | (go_simp; done) | (go_simp; rfl)); intro w2 hw; have HW : ∀ i, i ≠ gr → w2.heap[i]? = w1.heap[i]? := (fun i hi => (by rw [hw]; exact (Below.heap_setCell _ ⟨gr, 1, none⟩ _ i hi).trans ((Below.heap_setCell _ ⟨gr, 0, none⟩ _ i hi)))); have B_w2 : Aside0 (Below w.heap.size w w2) := ⟨by rw [hw]; exact below_set (j := 1) (below_set (j := 0) (B_w1.out) GE_gr.out) GE_gr.out⟩; have X_gr_w2 := Aside0.mk (Go.Proofs.Ytiplkmmppihilaa.XW.blk_eq hw (blk_put (cs' := #[.int .i64 0, .int .i64 0]) (blk_put (cs' := #[.int .i64 0, .int .i64 0]) (X_gr_w1.out) 0 (.int .i64 0) rfl) 1 (.int .i64 0) rfl)); obtain ⟨c_gr_0_w2, c_gr_1_w2⟩ := Go.Proofs.Ytiplkmmppihilaa.XW.cells2 (X_gr_w2.out); obtain ⟨z_gr_0_w2, z_gr_1_w2⟩ := Go.Proofs.Ytiplkmmppihilaa.XW.froz2 (X_gr_w2.out); have c0_w2 := pw_cell_below B_w2.out c0; have d0_w2 := pw_cell_below B_w2.out d0; have d1_w2 := pw_cell_below B_w2.out d1; have d2_w2 := pw_cell_below B_w2.out d2; have d3_w2 := pw_cell_below B_w2.out d3; clear hw HW)))
      refine bodyPost_ret (results_ct rfl _ _ gr 52 #[.int .i64 0, .int .i64 0] (0, 0) _ rfl X_gr_w2.out Try.underlying52 rfl (by kernel_rfl)) rfl ?_
      exact ⟨rfl, B_w2.out⟩
    · rw [if_neg (fun h => h1 h.2)] at hr
      subst hr
      clear hcs
      go_enter Try.func31, Try.ntmps31
      go_wp2_with (first | ((with_reducible refine gate_dst (N := 6) rfl ?_); (try (refine gate_guard (by rfl) ?_; dsimp only)); refine box_event ?hg (N := 6) ?hd (cs := #[.int .i64 0, .int .i64 0]) (t := 52) ?hr ?_; (case hd => rfl); (case hg => rfl); (case hr => first | (go_simp; done) | (go_simp; rfl)); intro gr hg_gr w1 hbox hb; have B_w1 := Aside0.mk (below_step B_w.out hb); have c0_w1 := pw_cell_below B_w1.out c0; have GE_gr : Aside0 (w.heap.size ≤ gr) := ⟨by rw [hg_gr]; exact B_w.out.size⟩; have X_gr_w1 : Aside0 (w1.heap[gr]? = some (.cells #[.int .i64 0, .int .i64 0] 52 (0, 0))) := ⟨hbox⟩; obtain ⟨c_gr_0_w1, c_gr_1_w1⟩ := Go.Proofs.Ytiplkmmppihilaa.XW.cells2 (X_gr_w1.out); obtain ⟨z_gr_0_w1, z_gr_1_w1⟩ := Go.Proofs.Ytiplkmmppihilaa.XW.froz2 (X_gr_w1.out); clear hb hbox hg_gr) | ((with_reducible refine gate_store (t := 52) (p := 6) rfl ?_); go_must (refine store_event (t := 52) (p := 6) (v := ?vo_4) (w1 := ((w1.setCell ⟨gr, 0, none⟩ (.int .i64 0)).setCell ⟨gr, 1, none⟩ (.int .i64 0))) ?hg ?ho ?hn ?hr ?_; (case ho => rfl); (case hg => rfl); (case hn => rfl); (case hr => first | (go_simp; done) | (go_simp; rfl)); intro w2 hw; have HW : ∀ i, i ≠ gr → w2.heap[i]? = w1.heap[i]? := (fun i hi => (by rw [hw]; exact (Below.heap_setCell _ ⟨gr, 1, none⟩ _ i hi).trans ((Below.heap_setCell _ ⟨gr, 0, none⟩ _ i hi)))); have B_w2 : Aside0 (Below w.heap.size w w2) := ⟨by rw [hw]; exact below_set (j := 1) (below_set (j := 0) (B_w1.out) GE_gr.out) GE_gr.out⟩; have X_gr_w2 := Aside0.mk (Go.Proofs.Ytiplkmmppihilaa.XW.blk_eq hw (blk_put (cs' := #[.int .i64 0, .int .i64 0]) (blk_put (cs' := #[.int .i64 0, .int .i64 0]) (X_gr_w1.out) 0 (.int .i64 0) rfl) 1 (.int .i64 0) rfl)); obtain ⟨c_gr_0_w2, c_gr_1_w2⟩ := Go.Proofs.Ytiplkmmppihilaa.XW.cells2 (X_gr_w2.out); obtain ⟨z_gr_0_w2, z_gr_1_w2⟩ := Go.Proofs.Ytiplkmmppihilaa.XW.froz2 (X_gr_w2.out); have c0_w2 := pw_cell_below B_w2.out c0; clear hw HW)))
      refine bodyPost_ret (results_ct rfl _ _ gr 52 #[.int .i64 0, .int .i64 0] (0, 0) _ rfl X_gr_w2.out Try.underlying52 rfl (by kernel_rfl)) rfl ?_
      exact ⟨rfl, B_w2.out⟩
  · rw [if_neg (fun h => h0 h.1)] at hr
    subst hr
    clear hcs
    go_enter Try.func31, Try.ntmps31
    go_wp2_with (first | ((with_reducible refine gate_dst (N := 6) rfl ?_); (try (refine gate_guard (by rfl) ?_; dsimp only)); refine box_event ?hg (N := 6) ?hd (cs := #[.int .i64 0, .int .i64 0]) (t := 52) ?hr ?_; (case hd => rfl); (case hg => rfl); (case hr => first | (go_simp; done) | (go_simp; rfl)); intro gr hg_gr w1 hbox hb; have B_w1 := Aside0.mk (below_step B_w.out hb); have c0_w1 := pw_cell_below B_w1.out c0; have GE_gr : Aside0 (w.heap.size ≤ gr) := ⟨by rw [hg_gr]; exact B_w.out.size⟩; have X_gr_w1 : Aside0 (w1.heap[gr]? = some (.cells #[.int .i64 0, .int .i64 0] 52 (0, 0))) := ⟨hbox⟩; obtain ⟨c_gr_0_w1, c_gr_1_w1⟩ := Go.Proofs.Ytiplkmmppihilaa.XW.cells2 (X_gr_w1.out); obtain ⟨z_gr_0_w1, z_gr_1_w1⟩ := Go.Proofs.Ytiplkmmppihilaa.XW.froz2 (X_gr_w1.out); clear hb hbox hg_gr) | ((with_reducible refine gate_store (t := 52) (p := 6) rfl ?_); go_must (refine store_event (t := 52) (p := 6) (v := ?vo_5) (w1 := ((w1.setCell ⟨gr, 0, none⟩ (.int .i64 0)).setCell ⟨gr, 1, none⟩ (.int .i64 0))) ?hg ?ho ?hn ?hr ?_; (case ho => rfl); (case hg => rfl); (case hn => rfl); (case hr => first | (go_simp; done) | (go_simp; rfl)); intro w2 hw; have HW : ∀ i, i ≠ gr → w2.heap[i]? = w1.heap[i]? := (fun i hi => (by rw [hw]; exact (Below.heap_setCell _ ⟨gr, 1, none⟩ _ i hi).trans ((Below.heap_setCell _ ⟨gr, 0, none⟩ _ i hi)))); have B_w2 : Aside0 (Below w.heap.size w w2) := ⟨by rw [hw]; exact below_set (j := 1) (below_set (j := 0) (B_w1.out) GE_gr.out) GE_gr.out⟩; have X_gr_w2 := Aside0.mk (Go.Proofs.Ytiplkmmppihilaa.XW.blk_eq hw (blk_put (cs' := #[.int .i64 0, .int .i64 0]) (blk_put (cs' := #[.int .i64 0, .int .i64 0]) (X_gr_w1.out) 0 (.int .i64 0) rfl) 1 (.int .i64 0) rfl)); obtain ⟨c_gr_0_w2, c_gr_1_w2⟩ := Go.Proofs.Ytiplkmmppihilaa.XW.cells2 (X_gr_w2.out); obtain ⟨z_gr_0_w2, z_gr_1_w2⟩ := Go.Proofs.Ytiplkmmppihilaa.XW.froz2 (X_gr_w2.out); have c0_w2 := pw_cell_below B_w2.out c0; clear hw HW)))
    refine bodyPost_ret (results_ct rfl _ _ gr 52 #[.int .i64 0, .int .i64 0] (0, 0) _ rfl X_gr_w2.out Try.underlying52 rfl (by kernel_rfl)) rfl ?_
    exact ⟨rfl, B_w2.out⟩
end Go.Proofs.Ytiplkmmppihilaa.PastA
