/- Where everybody's caret is: Move, walked. Conditions: none beyond those that each theorem states. -/
import Derived.Test.YtiplkmmppihilaaPastE
import Derived.Test.YtiplkmmppihilaaPPastx2
namespace Go.Proofs.Ytiplkmmppihilaa.PastA
open Go.RowKit Go.Proofs.YtiplkmmppihilaaW.PrintWords Go.Proofs.YtiplkmmppihilaaW.PrintLast Go.Proofs.YtiplkmmppihilaaW.PrintMore Go.Proofs.Ytiplkmmppihilaa.XS Go.Proofs.Ytiplkmmppihilaa.PPast
set_option linter.unusedVariables false
set_option linter.unusedSimpArgs false
theorem WA.congr {g : Nat} {n : Int} {D D' : Int → Nat → Int} (h : ∀ i j : Nat, i < 16 → j < 8 → D i j = D' i j) {w : World} {f : Nat → Prop} (hw : (WA g n D).S w f) : (WA g n D').S w f := by
  obtain ⟨hf, cs, h1, h2, h3⟩ := hw
  exact ⟨hf, cs, h1, h2, fun i j hi hj => by rw [← h i j hi hj]; exact h3 i j hi hj⟩
/-- One number of a site's is set. -/
theorem WA.store1 {base g : Nat} {n : Int} {D : Int → Nat → Int} {F : Assn} {w : World} (h : Sep base (Star (WA g n D) F) w) (hbase : base ≤ w.heap.size) (i k : Nat) (hi : i < 16) (hk : k < 8) (v : Int) :
    Sep base (Star (WA g n (fun a b => if a = (i : Int) ∧ b = k then v else D a b)) F) (w.setCell ⟨g, 1 + i * 8 + k, none⟩ (.int .i64 v)) := by
  refine h.change hbase (fun f ha hl hf => ⟨f, ?_, fun _ h => .inl h, fun x hx hn => Below.heap_setCell w ⟨g, _, none⟩ _ x (fun e => hn (by rw [e]; exact ha.1))⟩)
  obtain ⟨hfg, cs, h1, h2, h3⟩ := ha
  have hsz : 1 + i * 8 + k < cs.size := by
    have := h3 i k hi hk
    exact (Array.getElem?_eq_some_iff.1 this).1
  refine ⟨hfg, _, blk_put h1 (1 + i * 8 + k) (.int .i64 v) rfl, ?_, fun a b ha hb => ?_⟩
  · rw [Array.getElem?_setIfInBounds_ne (by omega)]; exact h2
  · by_cases e : a = i ∧ b = k
    · obtain ⟨rfl, rfl⟩ := e
      rw [Array.getElem?_setIfInBounds_self_of_lt hsz]
      simp
    · rw [Array.getElem?_setIfInBounds_ne (by omega), h3 a b ha hb]
      have e2 : ¬ ((a : Int) = (i : Int) ∧ b = k) := fun h => e ⟨by have := h.1; omega, h.2⟩
      simp [e2]
/-- A site's numbers are set. -/
def upd (D : Int → Nat → Int) (i : Int) (v : List Int) : Int → Nat → Int := fun a b => if a = i then v.getD b 0 else D a b
theorem WA.store8 {base g : Nat} {n : Int} {D : Int → Nat → Int} {F : Assn} {w : World} (h : Sep base (Star (WA g n D) F) w) (hbase : base ≤ w.heap.size) (i : Nat) (hi : i < 16) (v0 v1 v2 v3 v4 v5 v6 v7 : Int) :
    Sep base (Star (WA g n (upd D i [v0, v1, v2, v3, v4, v5, v6, v7])) F) ((((((((w.setCell ⟨g, 1 + i * 8, none⟩ (.int .i64 v0)).setCell ⟨g, 1 + i * 8 + 1, none⟩ (.int .i64 v1)).setCell ⟨g, 1 + i * 8 + 2, none⟩ (.int .i64 v2)).setCell ⟨g, 1 + i * 8 + 3, none⟩ (.int .i64 v3)).setCell ⟨g, 1 + i * 8 + 4, none⟩ (.int .i64 v4)).setCell ⟨g, 1 + i * 8 + 5, none⟩ (.int .i64 v5)).setCell ⟨g, 1 + i * 8 + 6, none⟩ (.int .i64 v6)).setCell ⟨g, 1 + i * 8 + 7, none⟩ (.int .i64 v7)) := by
  have s0 := WA.store1 h hbase i 0 hi (by decide) v0
  have b0 := Sep.size_store (g := g) (j := 1 + i * 8 + 0) (u := .int .i64 v0) hbase
  have s1 := WA.store1 s0 b0 i 1 hi (by decide) v1
  have b1 := Sep.size_store (g := g) (j := 1 + i * 8 + 1) (u := .int .i64 v1) b0
  have s2 := WA.store1 s1 b1 i 2 hi (by decide) v2
  have b2 := Sep.size_store (g := g) (j := 1 + i * 8 + 2) (u := .int .i64 v2) b1
  have s3 := WA.store1 s2 b2 i 3 hi (by decide) v3
  have b3 := Sep.size_store (g := g) (j := 1 + i * 8 + 3) (u := .int .i64 v3) b2
  have s4 := WA.store1 s3 b3 i 4 hi (by decide) v4
  have b4 := Sep.size_store (g := g) (j := 1 + i * 8 + 4) (u := .int .i64 v4) b3
  have s5 := WA.store1 s4 b4 i 5 hi (by decide) v5
  have b5 := Sep.size_store (g := g) (j := 1 + i * 8 + 5) (u := .int .i64 v5) b4
  have s6 := WA.store1 s5 b5 i 6 hi (by decide) v6
  have b6 := Sep.size_store (g := g) (j := 1 + i * 8 + 6) (u := .int .i64 v6) b5
  have s7 := WA.store1 s6 b6 i 7 hi (by decide) v7
  refine s7.imp (fun f hw => WA.congr (fun a b ha hb => ?_) hw)
  unfold upd
  by_cases e : (a : Int) = (i : Int)
  · simp only [e, true_and, if_true]
    have : b = 0 ∨ b = 1 ∨ b = 2 ∨ b = 3 ∨ b = 4 ∨ b = 5 ∨ b = 6 ∨ b = 7 := by omega
    rcases this with rfl | rfl | rfl | rfl | rfl | rfl | rfl | rfl <;> rfl
  · simp only [e, false_and, if_false]
theorem WA.frozen {base g : Nat} {n : Int} {D : Int → Nat → Int} {F : Assn} {w : World} (h : Sep base (Star (WA g n D) F) w) (k : Nat) : w.frozen? ⟨g, k, none⟩ = false := by
  obtain ⟨f, ⟨_, _, _, _, _, ⟨_, cs, h1, _⟩, _⟩, _⟩ := h
  exact blk_frozen h1 k
theorem WA.le {base g : Nat} {n : Int} {D : Int → Nat → Int} {F : Assn} {w : World} (h : Sep base (Star (WA g n D) F) w) : base ≤ g := by
  obtain ⟨f, ⟨x, _, _, hg, _, ha, _⟩, hf⟩ := h
  exact hf g (hg g ha.1)
abbrev Ff0 : Array Bool := #[false, false, false, false, false, false, false, false, false, false, false, false, false, false, false, false, false, false, false, false, false, false, false, false]
abbrev Ff1 : Array Bool := #[true, false, false, false, false, false, false, false, false, false, false, false, false, false, false, false, false, false, false, false, false, false, false, false]
abbrev Ff2 : Array Bool := #[true, true, false, false, false, false, false, false, false, false, false, false, false, false, false, false, false, false, false, false, false, false, false, false]
abbrev Ff3 : Array Bool := #[true, true, true, false, false, false, false, false, false, false, false, false, false, false, false, false, false, false, false, false, false, false, false, false]
abbrev Ff4 : Array Bool := #[true, true, true, true, false, false, false, false, false, false, false, false, false, false, false, false, false, false, false, false, false, false, false, false]
abbrev Ff5 : Array Bool := #[true, true, true, true, true, false, false, false, false, false, false, false, false, false, false, false, false, false, false, false, false, false, false, false]
abbrev Ff6 : Array Bool := #[true, true, true, true, true, true, false, false, false, false, false, false, false, false, false, false, false, false, false, false, false, false, false, false]
abbrev Ff7 : Array Bool := #[true, true, true, true, true, true, true, false, false, false, false, false, false, false, false, false, false, false, false, false, false, false, false, false]
abbrev Ff8 : Array Bool := #[true, true, true, true, true, true, true, true, false, false, false, false, false, false, false, false, false, false, false, false, false, false, false, false]
abbrev Ff9 : Array Bool := #[true, true, true, true, true, true, true, true, true, false, false, false, false, false, false, false, false, false, false, false, false, false, false, false]
abbrev Ff10 : Array Bool := #[true, true, true, true, true, true, true, true, true, true, false, false, false, false, false, false, false, false, false, false, false, false, false, false]
abbrev Ff11 : Array Bool := #[true, true, true, true, true, true, true, true, true, true, true, false, false, false, false, false, false, false, false, false, false, false, false, false]
abbrev Ff12 : Array Bool := #[true, true, true, true, true, true, true, true, true, true, true, true, false, false, false, false, false, false, false, false, false, false, false, false]
abbrev Ff13 : Array Bool := #[true, true, true, true, true, true, true, true, true, true, true, true, true, false, false, false, false, false, false, false, false, false, false, false]
abbrev Ff14 : Array Bool := #[true, true, true, true, true, true, true, true, true, true, true, true, true, true, false, false, false, false, false, false, false, false, false, false]
abbrev Ff15 : Array Bool := #[true, true, true, true, true, true, true, true, true, true, true, true, true, true, true, false, false, false, false, false, false, false, false, false]
abbrev Ff16 : Array Bool := #[true, true, true, true, true, true, true, true, true, true, true, true, true, true, true, true, false, false, false, false, false, false, false, false]
abbrev Ff17 : Array Bool := #[true, true, true, true, true, true, true, true, true, true, true, true, true, true, true, true, true, false, false, false, false, false, false, false]
abbrev Ff18 : Array Bool := #[true, true, true, true, true, true, true, true, true, true, true, true, true, true, true, true, true, true, false, false, false, false, false, false]
abbrev Ff19 : Array Bool := #[true, true, true, true, true, true, true, true, true, true, true, true, true, true, true, true, true, true, true, false, false, false, false, false]
abbrev Ff20 : Array Bool := #[true, true, true, true, true, true, true, true, true, true, true, true, true, true, true, true, true, true, true, true, false, false, false, false]
abbrev Ff21 : Array Bool := #[true, true, true, true, true, true, true, true, true, true, true, true, true, true, true, true, true, true, true, true, true, false, false, false]
abbrev Ff22 : Array Bool := #[true, true, true, true, true, true, true, true, true, true, true, true, true, true, true, true, true, true, true, true, true, true, false, false]
abbrev Ff23 : Array Bool := #[true, true, true, true, true, true, true, true, true, true, true, true, true, true, true, true, true, true, true, true, true, true, true, false]
abbrev Ff24 : Array Bool := #[true, true, true, true, true, true, true, true, true, true, true, true, true, true, true, true, true, true, true, true, true, true, true, true]
abbrev Ff25 : Array Bool := #[true, true, true, true, true, true, true, true, true, false, false, true, false, false, false, false, false, false, false, false, false, false, false, false]
abbrev Ff26 : Array Bool := #[true, true, true, true, true, true, true, true, true, false, false, true, true, false, false, false, false, false, false, false, false, false, false, false]
abbrev Ff27 : Array Bool := #[true, true, true, true, true, true, true, true, true, false, false, true, true, true, false, false, false, false, false, false, false, false, false, false]
abbrev Ff28 : Array Bool := #[true, true, true, true, true, true, true, true, true, true, false, true, true, true, false, false, false, false, false, false, false, false, false, false]
abbrev Ff29 : Array Bool := #[false, false, false, false, false, false, false, false, false, false, false, false]
abbrev Ff30 : Array Bool := #[true, false, false, false, false, false, false, false, false, false, false, false]
abbrev Ff31 : Array Bool := #[true, true, false, false, false, false, false, false, false, false, false, false]
abbrev Ff32 : Array Bool := #[true, true, false, true, false, false, false, false, false, false, false, false]
abbrev Ff33 : Array Bool := #[true, true, false, true, true, false, false, false, false, false, false, false]
abbrev Ff34 : Array Bool := #[true, true, false, true, true, false, false, false, true, false, false, false]
abbrev Ff35 : Array Bool := #[true, true, true, true, true, false, false, false, true, false, false, false]
abbrev Ff36 : Array Bool := #[true, true, true, true, true, true, false, false, true, false, false, false]
abbrev Ff37 : Array Bool := #[true, true, true, true, true, true, true, false, true, false, false, false]
abbrev Ff38 : Array Bool := #[true, true, true, true, true, true, true, true, true, false, false, false]
abbrev Ff39 : Array Bool := #[true, true, true, true, true, true, true, true, true, true, false, false]
abbrev Ff40 : Array Bool := #[true, true, true, true, true, true, true, true, true, true, true, false]
abbrev Ff41 : Array Bool := #[true, true, true, true, true, true, true, true, true, true, true, true]
abbrev Ff42 : Array Bool := #[true, true, false, true, false, true, false, false, false, false, false, false]
abbrev Ff43 : Array Bool := #[true, true, false, true, false, true, false, false, true, false, false, false]
abbrev Ff44 : Array Bool := #[true, true, false, true, false, true, false, false, true, true, false, false]
abbrev Ff45 : Array Bool := #[true, true, true, true, false, true, false, false, true, true, false, false]
abbrev Ff46 : Array Bool := #[true, true, true, true, true, true, false, false, true, true, false, false]
abbrev Ff47 : Array Bool := #[true, true, true, true, true, true, true, false, true, true, false, false]
set_option maxHeartbeats 4000000 in
set_option maxRecDepth 100000 in
theorem where_move_a {base g : Nat} {n : Int} {D : Int → Nat → Int} {L : List Assn} (w : World) (h : Sep base (Star (WA g n D) (Stars L)) w) (hbase : base ≤ w.heap.size) (hn : n ≤ 16)
    (s q : Int) (A : Option Addr) (c : Nat) (l : List Int) (kd ep it is rt rs ru : Int) (hC : (Kd.int .i64).C w A l.length l) (hc : l.length ≤ c) (r : Int) (hk : mesg_Check.f s q l kd ep it is rt rs ru = some r) (hr : r ≠ 0) :
    Calls Try.prog 28 #[.pointer (some ⟨g, 0, none⟩), .agg #[.int .i64 s, .int .i64 q, .slice A l.length c, .int .i64 kd, .int .i64 ep, .int .i64 it, .int .i64 is, .int .i64 rt, .int .i64 rs, .int .i64 ru]] w fun en w' => en = .returned (.int .i64 1) ∧ Sep base (Star (WA g n D) (Stars L)) w' ∧ Below base w w' := by
  obtain ⟨c0, hcs⟩ := WA.cells h
  have hu52 := Try.underlying52
  have hu54 := Try.underlying54
  have hu56 := Try.underlying56
  have hu90 := Try.underlying90
  have B_w := Aside0.mk (Below.refl base w)
  have S_w := Aside0.mk h
  have HB := Aside0.mk hbase
  have HC := Aside0.mk hC
  have HK := Aside0.mk hk
  clear h hbase hC hk
  have br : (r != 0) = true := bne_iff_ne.mpr hr
  clear hr hcs
  go_enter Try.func28, Try.ntmps28
  go_upto_region 1 with (first | ((with_reducible refine gate_dst (N := 3) rfl ?_); (try (refine gate_guard (by rfl) ?_; dsimp only)); refine box_event ?hg (N := 3) ?hd (cs := #[.int .i64 s, .int .i64 q, .slice A l.length c, .int .i64 kd, .int .i64 ep, .int .i64 it, .int .i64 is, .int .i64 rt, .int .i64 rs, .int .i64 ru]) (t := 56) ?hr ?_; (case hd => rfl); (case hg => rfl); (case hr => first | (go_simp; done) | (go_simp; rfl)); intro gm hg_gm w_1 hX hb; have B_w_1 : Aside0 (Below (base) w w_1) := ⟨below_then B_w.out (Nat.le_trans (HB.out) B_w.out.size) hb⟩; have S_w_1 : Aside0 (Sep (base) (Stars (Blk gm #[.int .i64 s, .int .i64 q, .slice A l.length c, .int .i64 kd, .int .i64 ep, .int .i64 it, .int .i64 is, .int .i64 rt, .int .i64 rs, .int .i64 ru] 56 :: WA g n D :: L)) w_1) := ⟨Sep.new_blk S_w.out (Nat.le_trans (HB.out) B_w.out.size) hg_gm hb hX⟩; have Q_w_1 : Aside0 (Below w.heap.size w w_1) := ⟨hb⟩; have c0_w_1 := pw_cell_below Q_w_1.out c0; obtain ⟨c_gm_0_w_1, c_gm_1_w_1, c_gm_2_w_1, c_gm_3_w_1, c_gm_4_w_1, c_gm_5_w_1, c_gm_6_w_1, c_gm_7_w_1, c_gm_8_w_1, c_gm_9_w_1⟩ := XW.cells10 (Sep.front [] (WA g n D :: L) S_w_1.out).blk; obtain ⟨z_gm_0_w_1, z_gm_1_w_1, z_gm_2_w_1, z_gm_3_w_1, z_gm_4_w_1, z_gm_5_w_1, z_gm_6_w_1, z_gm_7_w_1, z_gm_8_w_1, z_gm_9_w_1⟩ := XW.froz10 (Sep.front [] (WA g n D :: L) S_w_1.out).blk; clear S_w; clear hX hb hg_gm))
  refine start_ (n := 24) (S := fun w' => w'.cell? ⟨gm, 0, none⟩ = some (.int .i64 s) ∧ w'.cell? ⟨gm, 1, none⟩ = some (.int .i64 q) ∧ w'.cell? ⟨gm, 2, none⟩ = some (.slice A l.length c) ∧ w'.cell? ⟨gm, 3, none⟩ = some (.int .i64 kd) ∧ w'.cell? ⟨gm, 4, none⟩ = some (.int .i64 ep) ∧ w'.cell? ⟨gm, 5, none⟩ = some (.int .i64 it) ∧ w'.cell? ⟨gm, 6, none⟩ = some (.int .i64 is) ∧ w'.cell? ⟨gm, 7, none⟩ = some (.int .i64 rt) ∧ w'.cell? ⟨gm, 8, none⟩ = some (.int .i64 rs) ∧ w'.cell? ⟨gm, 9, none⟩ = some (.int .i64 ru) ∧ w'.cell? ⟨g, 0, none⟩ = some (.int .i64 n)) (ds := []) Ff0 (by kernel_rfl) rfl rfl ⟨c_gm_0_w_1, c_gm_1_w_1, c_gm_2_w_1, c_gm_3_w_1, c_gm_4_w_1, c_gm_5_w_1, c_gm_6_w_1, c_gm_7_w_1, c_gm_8_w_1, c_gm_9_w_1, c0_w_1⟩ (fun hHeld => ?_)
  refine pure_ (i := 0) (N := some 6) (v := ?_) (a' := ?_) Ff1 rfl rfl (by kernel_rfl) (fun _ _ _ h => h) (Or.inl ⟨by rfl, ?_⟩) ?_ ?_
  rotate_left
  · intro w'
    go_simp
    with_reducible rfl
  rotate_left
  · simp only [Act.put, List.setIfInBounds_toArray, List.set_cons_zero, List.set_cons_succ, i64_w, i32_w]
    rfl
  refine pure_ (i := 1) (N := some 7) (v := ?_) (a' := ?_) Ff2 rfl rfl (by kernel_rfl) (fun _ _ _ h => h) (Or.inl ⟨by rfl, ?_⟩) ?_ ?_
  rotate_left
  · intro w'
    go_simp
    with_reducible rfl
  rotate_left
  · simp only [Act.put, List.setIfInBounds_toArray, List.set_cons_zero, List.set_cons_succ, i64_w, i32_w]
    rfl
  refine pure_ (i := 2) (N := some 8) (v := ?_) (a' := ?_) Ff3 rfl rfl (by kernel_rfl) (fun _ _ _ h => h) (Or.inl ⟨by rfl, ?_⟩) ?_ ?_
  rotate_left
  · intro w'
    go_simp
    with_reducible rfl
  rotate_left
  · simp only [Act.put, List.setIfInBounds_toArray, List.set_cons_zero, List.set_cons_succ, i64_w, i32_w]
    rfl
  refine take_ (i := 3) (N := some 9) (v := ?_) (a' := ?_) Ff4 rfl rfl (by kernel_rfl) (fun _ _ _ h => h) (Or.inl ⟨by rfl, ?_⟩) hHeld ?_ ?_
  rotate_left
  · rintro w' ⟨s0, s1, s2, s3, s4, s5, s6, s7, s8, s9, s10⟩
    go_simp
    with_reducible rfl
  rotate_left
  · simp only [Act.put, List.setIfInBounds_toArray, List.set_cons_zero, List.set_cons_succ, i64_w, i32_w]
    rfl
  refine one_ (i := 4) (N := some 10) Ff5 rfl rfl (by kernel_rfl) (by decide) (fun K hK => ?_)
  refine goes_ Try.func53 (by kernel_rfl) rfl #[.agg #[.int .i64 s, .int .i64 q, .slice A l.length c, .int .i64 kd, .int .i64 ep, .int .i64 it, .int .i64 is, .int .i64 rt, .int .i64 rs, .int .i64 ru]] (by rfl) rfl rfl (by simp only [List.map_toArray, List.map_cons, List.map_nil]; rfl) ?_
  with_reducible refine (mesg_Check.at s q A c l.length l kd ep it is rt rs ru r _ (Kd.C_drew (Kd.C_below HC.out Q_w_1.out)) hc HK.out).mono ?_
  rintro e w_2 ⟨rfl, hb⟩
  refine ⟨_, rfl, ?_⟩
  have HB_w_2 := Aside0.mk (below_undrew hb)
  clear hb
  refine hK.out _ _ ⟨pw_cell_below HB_w_2.out c_gm_0_w_1, pw_cell_below HB_w_2.out c_gm_1_w_1, pw_cell_below HB_w_2.out c_gm_2_w_1, pw_cell_below HB_w_2.out c_gm_3_w_1, pw_cell_below HB_w_2.out c_gm_4_w_1, pw_cell_below HB_w_2.out c_gm_5_w_1, pw_cell_below HB_w_2.out c_gm_6_w_1, pw_cell_below HB_w_2.out c_gm_7_w_1, pw_cell_below HB_w_2.out c_gm_8_w_1, pw_cell_below HB_w_2.out c_gm_9_w_1, pw_cell_below HB_w_2.out c0_w_1⟩ (fun hHeld => ?_)
  clear hK K
  refine norm_ (a' := ?_) ?_ ?_
  rotate_left
  · show Act.put _ (some 10) _ = _
    simp only [Act.put, List.setIfInBounds_toArray, List.set_cons_zero, List.set_cons_succ, i64_w, i32_w]
    rfl
  refine pure_ (i := 5) (N := some 11) (v := ?_) (a' := ?_) Ff6 rfl rfl (by kernel_rfl) (fun _ _ _ h => h) (Or.inl ⟨by rfl, ?_⟩) ?_ ?_
  rotate_left
  · intro w'
    go_simp
    with_reducible rfl
  rotate_left
  · simp only [Act.put, List.setIfInBounds_toArray, List.set_cons_zero, List.set_cons_succ, i64_w, i32_w]
    rfl
  refine pure_ (i := 6) (N := some 12) (v := ?_) (a' := ?_) Ff7 rfl rfl (by kernel_rfl) (fun _ _ _ h => h) (Or.inl ⟨by rfl, ?_⟩) ?_ ?_
  rotate_left
  · intro w'
    go_simp
    with_reducible rfl
  rotate_left
  · simp only [Act.put, List.setIfInBounds_toArray, List.set_cons_zero, List.set_cons_succ, i64_w, i32_w]
    rfl
  refine pure_ (i := 7) (N := some 13) (v := ?_) (a' := ?_) Ff8 rfl rfl (by kernel_rfl) (fun _ _ _ h => h) (Or.inl ⟨by rfl, ?_⟩) ?_ ?_
  rotate_left
  · intro w'
    go_simp
    with_reducible rfl
  rotate_left
  · simp only [Act.put, List.setIfInBounds_toArray, List.set_cons_zero, List.set_cons_succ, i64_w, i32_w]
    rfl
  refine pure_ (i := 8) (N := some 14) (v := undef) (a' := ?_) Ff9 rfl rfl (by kernel_rfl) (fun _ _ _ h => h) (Or.inr ⟨by rfl, rfl⟩) ?_ ?_
  rotate_left
  · simp only [Act.put, List.setIfInBounds_toArray, List.set_cons_zero, List.set_cons_succ, i64_w, i32_w]
    rfl
  refine pure_ (i := 9) (N := some 15) (v := undef) (a' := ?_) Ff10 rfl rfl (by kernel_rfl) (fun _ _ _ h => h) (Or.inr ⟨by rfl, rfl⟩) ?_ ?_
  rotate_left
  · simp only [Act.put, List.setIfInBounds_toArray, List.set_cons_zero, List.set_cons_succ, i64_w, i32_w]
    rfl
  refine pure_ (i := 10) (N := some 16) (v := undef) (a' := ?_) Ff11 rfl rfl (by kernel_rfl) (fun _ _ _ h => h) (Or.inr ⟨by rfl, rfl⟩) ?_ ?_
  rotate_left
  · simp only [Act.put, List.setIfInBounds_toArray, List.set_cons_zero, List.set_cons_succ, i64_w, i32_w]
    rfl
  refine pure_ (i := 11) (N := some 17) (v := undef) (a' := ?_) Ff12 rfl rfl (by kernel_rfl) (fun _ _ _ h => h) (Or.inr ⟨by rfl, rfl⟩) ?_ ?_
  rotate_left
  · simp only [Act.put, List.setIfInBounds_toArray, List.set_cons_zero, List.set_cons_succ, i64_w, i32_w]
    rfl
  refine pure_ (i := 12) (N := some 18) (v := undef) (a' := ?_) Ff13 rfl rfl (by kernel_rfl) (fun _ _ _ h => h) (Or.inr ⟨by rfl, rfl⟩) ?_ ?_
  rotate_left
  · simp only [Act.put, List.setIfInBounds_toArray, List.set_cons_zero, List.set_cons_succ, i64_w, i32_w]
    rfl
  refine pure_ (i := 13) (N := some 19) (v := undef) (a' := ?_) Ff14 rfl rfl (by kernel_rfl) (fun _ _ _ h => h) (Or.inr ⟨by rfl, rfl⟩) ?_ ?_
  rotate_left
  · simp only [Act.put, List.setIfInBounds_toArray, List.set_cons_zero, List.set_cons_succ, i64_w, i32_w]
    rfl
  refine pure_ (i := 14) (N := some 20) (v := undef) (a' := ?_) Ff15 rfl rfl (by kernel_rfl) (fun _ _ _ h => h) (Or.inr ⟨by rfl, rfl⟩) ?_ ?_
  rotate_left
  · simp only [Act.put, List.setIfInBounds_toArray, List.set_cons_zero, List.set_cons_succ, i64_w, i32_w]
    rfl
  refine pure_ (i := 15) (N := some 21) (v := undef) (a' := ?_) Ff16 rfl rfl (by kernel_rfl) (fun _ _ _ h => h) (Or.inr ⟨by rfl, rfl⟩) ?_ ?_
  rotate_left
  · simp only [Act.put, List.setIfInBounds_toArray, List.set_cons_zero, List.set_cons_succ, i64_w, i32_w]
    rfl
  refine pure_ (i := 16) (N := some 22) (v := ?_) (a' := ?_) Ff17 rfl rfl (by kernel_rfl) (fun _ _ _ h => h) (Or.inl ⟨by rfl, ?_⟩) ?_ ?_
  rotate_left
  · intro w'
    go_simp
    with_reducible rfl
  rotate_left
  · simp only [Act.put, List.setIfInBounds_toArray, List.set_cons_zero, List.set_cons_succ, i64_w, i32_w]
    rfl
  refine pure_ (i := 17) (N := some 23) (v := ?_) (a' := ?_) Ff18 rfl rfl (by kernel_rfl) (fun _ _ _ h => h) (Or.inl ⟨by rfl, ?_⟩) ?_ ?_
  rotate_left
  · intro w'
    go_simp
    with_reducible rfl
  rotate_left
  · simp only [Act.put, List.setIfInBounds_toArray, List.set_cons_zero, List.set_cons_succ, i64_w, i32_w]
    rfl
  refine pure_ (i := 18) (N := some 24) (v := undef) (a' := ?_) Ff19 rfl rfl (by kernel_rfl) (fun _ _ _ h => h) (Or.inr ⟨by rfl, rfl⟩) ?_ ?_
  rotate_left
  · simp only [Act.put, List.setIfInBounds_toArray, List.set_cons_zero, List.set_cons_succ, i64_w, i32_w]
    rfl
  refine pure_ (i := 19) (N := some 25) (v := undef) (a' := ?_) Ff20 rfl rfl (by kernel_rfl) (fun _ _ _ h => h) (Or.inr ⟨by rfl, rfl⟩) ?_ ?_
  rotate_left
  · simp only [Act.put, List.setIfInBounds_toArray, List.set_cons_zero, List.set_cons_succ, i64_w, i32_w]
    rfl
  refine pure_ (i := 20) (N := some 26) (v := undef) (a' := ?_) Ff21 rfl rfl (by kernel_rfl) (fun _ _ _ h => h) (Or.inr ⟨by rfl, rfl⟩) ?_ ?_
  rotate_left
  · simp only [Act.put, List.setIfInBounds_toArray, List.set_cons_zero, List.set_cons_succ, i64_w, i32_w]
    rfl
  refine pure_ (i := 21) (N := some 27) (v := undef) (a' := ?_) Ff22 rfl rfl (by kernel_rfl) (fun _ _ _ h => h) (Or.inr ⟨by rfl, rfl⟩) ?_ ?_
  rotate_left
  · simp only [Act.put, List.setIfInBounds_toArray, List.set_cons_zero, List.set_cons_succ, i64_w, i32_w]
    rfl
  refine pure_ (i := 22) (N := some 28) (v := ?_) (a' := ?_) Ff23 rfl rfl (by kernel_rfl) (fun _ _ _ h => h) (Or.inl ⟨by rfl, ?_⟩) ?_ ?_
  rotate_left
  · intro w'
    go_simp
    with_reducible rfl
  rotate_left
  · simp only [Act.put, List.setIfInBounds_toArray, List.set_cons_zero, List.set_cons_succ, i64_w, i32_w]
    rfl
  refine pure_ (i := 23) (N := some 5) (v := ?_) (a' := ?_) Ff24 rfl rfl (by kernel_rfl) (fun _ _ _ h => h) (Or.inl ⟨by rfl, ?_⟩) ?_ ?_
  rotate_left
  · intro w'
    go_simp
    with_reducible rfl
  rotate_left
  · simp only [Act.put, List.setIfInBounds_toArray, List.set_cons_zero, List.set_cons_succ, i64_w, i32_w]
    rfl
  refine done_ (by kernel_rfl) ?_
  have B_w_2 : Aside0 (Below (base) w w_2) := ⟨below_then B_w_1.out (Nat.le_trans (HB.out) B_w_1.out.size) HB_w_2.out⟩
  have S_w_2 : Aside0 (Sep (base) (Stars (Blk gm #[.int .i64 s, .int .i64 q, .slice A l.length c, .int .i64 kd, .int .i64 ep, .int .i64 it, .int .i64 is, .int .i64 rt, .int .i64 rs, .int .i64 ru] 56 :: WA g n D :: L)) w_2) := ⟨Sep.below S_w_1.out HB_w_2.out⟩
  have Q_w_2 : Aside0 (Below w.heap.size w w_2) := ⟨below_step Q_w_1.out HB_w_2.out⟩
  have c0_w_2 := pw_cell_below Q_w_2.out c0
  obtain ⟨c_gm_0_w_2, c_gm_1_w_2, c_gm_2_w_2, c_gm_3_w_2, c_gm_4_w_2, c_gm_5_w_2, c_gm_6_w_2, c_gm_7_w_2, c_gm_8_w_2, c_gm_9_w_2⟩ := XW.cells10 (Sep.front [] (WA g n D :: L) S_w_2.out).blk
  obtain ⟨z_gm_0_w_2, z_gm_1_w_2, z_gm_2_w_2, z_gm_3_w_2, z_gm_4_w_2, z_gm_5_w_2, z_gm_6_w_2, z_gm_7_w_2, z_gm_8_w_2, z_gm_9_w_2⟩ := XW.froz10 (Sep.front [] (WA g n D :: L) S_w_2.out).blk
  clear S_w_1 c0_w_1 c_gm_0_w_1 c_gm_1_w_1 c_gm_2_w_1 c_gm_3_w_1 c_gm_4_w_1 c_gm_5_w_1 c_gm_6_w_1 c_gm_7_w_1 c_gm_8_w_1 c_gm_9_w_1 z_gm_0_w_1 z_gm_1_w_1 z_gm_2_w_1 z_gm_3_w_1 z_gm_4_w_1 z_gm_5_w_1 z_gm_6_w_1 z_gm_7_w_1 z_gm_8_w_1 z_gm_9_w_1
  go_wp2
  go_ret
  exact ⟨rfl, Sep.right S_w_2.out, B_w_2.out⟩
set_option maxHeartbeats 4000000 in
set_option maxRecDepth 100000 in
theorem where_move_b {base g : Nat} {n : Int} {D : Int → Nat → Int} {L : List Assn} (w : World) (h : Sep base (Star (WA g n D) (Stars L)) w) (hbase : base ≤ w.heap.size) (hn : n ≤ 16)
    (s q : Int) (A : Option Addr) (c : Nat) (l : List Int) (kd ep it is rt rs ru : Int) (hC : (Kd.int .i64).C w A l.length l) (hc : l.length ≤ c) (hk : mesg_Check.f s q l kd ep it is rt rs ru = some 0) (hl : ¬ (l.length : Int) = n) :
    Calls Try.prog 28 #[.pointer (some ⟨g, 0, none⟩), .agg #[.int .i64 s, .int .i64 q, .slice A l.length c, .int .i64 kd, .int .i64 ep, .int .i64 it, .int .i64 is, .int .i64 rt, .int .i64 rs, .int .i64 ru]] w fun en w' => en = .returned (.int .i64 1) ∧ Sep base (Star (WA g n D) (Stars L)) w' ∧ Below base w w' := by
  obtain ⟨c0, hcs⟩ := WA.cells h
  have hu52 := Try.underlying52
  have hu54 := Try.underlying54
  have hu56 := Try.underlying56
  have hu90 := Try.underlying90
  have B_w := Aside0.mk (Below.refl base w)
  have S_w := Aside0.mk h
  have HB := Aside0.mk hbase
  have HC := Aside0.mk hC
  have HK := Aside0.mk hk
  clear h hbase hC hk
  have bl : ((l.length : Int) != n) = true := bne_iff_ne.mpr hl
  clear hl hcs
  go_enter Try.func28, Try.ntmps28
  go_upto_region 1 with (first | ((with_reducible refine gate_dst (N := 3) rfl ?_); (try (refine gate_guard (by rfl) ?_; dsimp only)); refine box_event ?hg (N := 3) ?hd (cs := #[.int .i64 s, .int .i64 q, .slice A l.length c, .int .i64 kd, .int .i64 ep, .int .i64 it, .int .i64 is, .int .i64 rt, .int .i64 rs, .int .i64 ru]) (t := 56) ?hr ?_; (case hd => rfl); (case hg => rfl); (case hr => first | (go_simp; done) | (go_simp; rfl)); intro gm hg_gm w_1 hX hb; have B_w_1 : Aside0 (Below (base) w w_1) := ⟨below_then B_w.out (Nat.le_trans (HB.out) B_w.out.size) hb⟩; have S_w_1 : Aside0 (Sep (base) (Stars (Blk gm #[.int .i64 s, .int .i64 q, .slice A l.length c, .int .i64 kd, .int .i64 ep, .int .i64 it, .int .i64 is, .int .i64 rt, .int .i64 rs, .int .i64 ru] 56 :: WA g n D :: L)) w_1) := ⟨Sep.new_blk S_w.out (Nat.le_trans (HB.out) B_w.out.size) hg_gm hb hX⟩; have Q_w_1 : Aside0 (Below w.heap.size w w_1) := ⟨hb⟩; have c0_w_1 := pw_cell_below Q_w_1.out c0; obtain ⟨c_gm_0_w_1, c_gm_1_w_1, c_gm_2_w_1, c_gm_3_w_1, c_gm_4_w_1, c_gm_5_w_1, c_gm_6_w_1, c_gm_7_w_1, c_gm_8_w_1, c_gm_9_w_1⟩ := XW.cells10 (Sep.front [] (WA g n D :: L) S_w_1.out).blk; obtain ⟨z_gm_0_w_1, z_gm_1_w_1, z_gm_2_w_1, z_gm_3_w_1, z_gm_4_w_1, z_gm_5_w_1, z_gm_6_w_1, z_gm_7_w_1, z_gm_8_w_1, z_gm_9_w_1⟩ := XW.froz10 (Sep.front [] (WA g n D :: L) S_w_1.out).blk; clear S_w; clear hX hb hg_gm))
  refine start_ (n := 24) (S := fun w' => w'.cell? ⟨gm, 0, none⟩ = some (.int .i64 s) ∧ w'.cell? ⟨gm, 1, none⟩ = some (.int .i64 q) ∧ w'.cell? ⟨gm, 2, none⟩ = some (.slice A l.length c) ∧ w'.cell? ⟨gm, 3, none⟩ = some (.int .i64 kd) ∧ w'.cell? ⟨gm, 4, none⟩ = some (.int .i64 ep) ∧ w'.cell? ⟨gm, 5, none⟩ = some (.int .i64 it) ∧ w'.cell? ⟨gm, 6, none⟩ = some (.int .i64 is) ∧ w'.cell? ⟨gm, 7, none⟩ = some (.int .i64 rt) ∧ w'.cell? ⟨gm, 8, none⟩ = some (.int .i64 rs) ∧ w'.cell? ⟨gm, 9, none⟩ = some (.int .i64 ru) ∧ w'.cell? ⟨g, 0, none⟩ = some (.int .i64 n)) (ds := []) Ff0 (by kernel_rfl) rfl rfl ⟨c_gm_0_w_1, c_gm_1_w_1, c_gm_2_w_1, c_gm_3_w_1, c_gm_4_w_1, c_gm_5_w_1, c_gm_6_w_1, c_gm_7_w_1, c_gm_8_w_1, c_gm_9_w_1, c0_w_1⟩ (fun hHeld => ?_)
  refine pure_ (i := 0) (N := some 6) (v := ?_) (a' := ?_) Ff1 rfl rfl (by kernel_rfl) (fun _ _ _ h => h) (Or.inl ⟨by rfl, ?_⟩) ?_ ?_
  rotate_left
  · intro w'
    go_simp
    with_reducible rfl
  rotate_left
  · simp only [Act.put, List.setIfInBounds_toArray, List.set_cons_zero, List.set_cons_succ, i64_w, i32_w]
    rfl
  refine pure_ (i := 1) (N := some 7) (v := ?_) (a' := ?_) Ff2 rfl rfl (by kernel_rfl) (fun _ _ _ h => h) (Or.inl ⟨by rfl, ?_⟩) ?_ ?_
  rotate_left
  · intro w'
    go_simp
    with_reducible rfl
  rotate_left
  · simp only [Act.put, List.setIfInBounds_toArray, List.set_cons_zero, List.set_cons_succ, i64_w, i32_w]
    rfl
  refine pure_ (i := 2) (N := some 8) (v := ?_) (a' := ?_) Ff3 rfl rfl (by kernel_rfl) (fun _ _ _ h => h) (Or.inl ⟨by rfl, ?_⟩) ?_ ?_
  rotate_left
  · intro w'
    go_simp
    with_reducible rfl
  rotate_left
  · simp only [Act.put, List.setIfInBounds_toArray, List.set_cons_zero, List.set_cons_succ, i64_w, i32_w]
    rfl
  refine take_ (i := 3) (N := some 9) (v := ?_) (a' := ?_) Ff4 rfl rfl (by kernel_rfl) (fun _ _ _ h => h) (Or.inl ⟨by rfl, ?_⟩) hHeld ?_ ?_
  rotate_left
  · rintro w' ⟨s0, s1, s2, s3, s4, s5, s6, s7, s8, s9, s10⟩
    go_simp
    with_reducible rfl
  rotate_left
  · simp only [Act.put, List.setIfInBounds_toArray, List.set_cons_zero, List.set_cons_succ, i64_w, i32_w]
    rfl
  refine one_ (i := 4) (N := some 10) Ff5 rfl rfl (by kernel_rfl) (by decide) (fun K hK => ?_)
  refine goes_ Try.func53 (by kernel_rfl) rfl #[.agg #[.int .i64 s, .int .i64 q, .slice A l.length c, .int .i64 kd, .int .i64 ep, .int .i64 it, .int .i64 is, .int .i64 rt, .int .i64 rs, .int .i64 ru]] (by rfl) rfl rfl (by simp only [List.map_toArray, List.map_cons, List.map_nil]; rfl) ?_
  with_reducible refine (mesg_Check.at s q A c l.length l kd ep it is rt rs ru 0 _ (Kd.C_drew (Kd.C_below HC.out Q_w_1.out)) hc HK.out).mono ?_
  rintro e w_2 ⟨rfl, hb⟩
  refine ⟨_, rfl, ?_⟩
  have HB_w_2 := Aside0.mk (below_undrew hb)
  clear hb
  refine hK.out _ _ ⟨pw_cell_below HB_w_2.out c_gm_0_w_1, pw_cell_below HB_w_2.out c_gm_1_w_1, pw_cell_below HB_w_2.out c_gm_2_w_1, pw_cell_below HB_w_2.out c_gm_3_w_1, pw_cell_below HB_w_2.out c_gm_4_w_1, pw_cell_below HB_w_2.out c_gm_5_w_1, pw_cell_below HB_w_2.out c_gm_6_w_1, pw_cell_below HB_w_2.out c_gm_7_w_1, pw_cell_below HB_w_2.out c_gm_8_w_1, pw_cell_below HB_w_2.out c_gm_9_w_1, pw_cell_below HB_w_2.out c0_w_1⟩ (fun hHeld => ?_)
  clear hK K
  refine norm_ (a' := ?_) ?_ ?_
  rotate_left
  · show Act.put _ (some 10) _ = _
    simp only [Act.put, List.setIfInBounds_toArray, List.set_cons_zero, List.set_cons_succ, i64_w, i32_w]
    rfl
  refine pure_ (i := 5) (N := some 11) (v := ?_) (a' := ?_) Ff6 rfl rfl (by kernel_rfl) (fun _ _ _ h => h) (Or.inl ⟨by rfl, ?_⟩) ?_ ?_
  rotate_left
  · intro w'
    go_simp
    with_reducible rfl
  rotate_left
  · simp only [Act.put, List.setIfInBounds_toArray, List.set_cons_zero, List.set_cons_succ, i64_w, i32_w]
    rfl
  refine pure_ (i := 6) (N := some 12) (v := ?_) (a' := ?_) Ff7 rfl rfl (by kernel_rfl) (fun _ _ _ h => h) (Or.inl ⟨by rfl, ?_⟩) ?_ ?_
  rotate_left
  · intro w'
    go_simp
    with_reducible rfl
  rotate_left
  · simp only [Act.put, List.setIfInBounds_toArray, List.set_cons_zero, List.set_cons_succ, i64_w, i32_w]
    rfl
  refine pure_ (i := 7) (N := some 13) (v := ?_) (a' := ?_) Ff8 rfl rfl (by kernel_rfl) (fun _ _ _ h => h) (Or.inl ⟨by rfl, ?_⟩) ?_ ?_
  rotate_left
  · intro w'
    go_simp
    with_reducible rfl
  rotate_left
  · simp only [Act.put, List.setIfInBounds_toArray, List.set_cons_zero, List.set_cons_succ, i64_w, i32_w]
    rfl
  refine pure_ (i := 8) (N := some 14) (v := ?_) (a' := ?_) Ff9 rfl rfl (by kernel_rfl) (fun _ _ _ h => h) (Or.inl ⟨by rfl, ?_⟩) ?_ ?_
  rotate_left
  · intro w'
    go_simp
    with_reducible rfl
  rotate_left
  · simp only [Act.put, List.setIfInBounds_toArray, List.set_cons_zero, List.set_cons_succ, i64_w, i32_w]
    rfl
  refine pure_ (i := 11) (N := some 17) (v := ?_) (a' := ?_) Ff25 rfl rfl (by kernel_rfl) (fun _ _ _ h => h) (Or.inl ⟨by rfl, ?_⟩) ?_ ?_
  rotate_left
  · intro w'
    go_simp
    with_reducible rfl
  rotate_left
  · simp only [Act.put, List.setIfInBounds_toArray, List.set_cons_zero, List.set_cons_succ, i64_w, i32_w]
    rfl
  refine pure_ (i := 12) (N := some 18) (v := ?_) (a' := ?_) Ff26 rfl rfl (by kernel_rfl) (fun _ _ _ h => h) (Or.inl ⟨by rfl, ?_⟩) ?_ ?_
  rotate_left
  · intro w'
    go_simp
    with_reducible rfl
  rotate_left
  · simp only [Act.put, List.setIfInBounds_toArray, List.set_cons_zero, List.set_cons_succ, i64_w, i32_w]
    rfl
  refine pure_ (i := 13) (N := some 19) (v := ?_) (a' := ?_) Ff27 rfl rfl (by kernel_rfl) (fun _ _ _ h => h) (Or.inl ⟨by rfl, ?_⟩) ?_ ?_
  rotate_left
  · intro w'
    go_simp
    with_reducible rfl
  rotate_left
  · simp only [Act.put, List.setIfInBounds_toArray, List.set_cons_zero, List.set_cons_succ, i64_w, i32_w]
    rfl
  refine take_ (i := 9) (N := some 15) (v := ?_) (a' := ?_) Ff28 rfl rfl (by kernel_rfl) (fun _ _ _ h => h) (Or.inl ⟨by rfl, ?_⟩) hHeld ?_ ?_
  rotate_left
  · rintro w' ⟨s0, s1, s2, s3, s4, s5, s6, s7, s8, s9, s10⟩
    go_simp
    with_reducible rfl
  rotate_left
  · simp only [Act.put, List.setIfInBounds_toArray, List.set_cons_zero, List.set_cons_succ, i64_w, i32_w]
    rfl
  refine pure_ (i := 10) (N := some 16) (v := ?_) (a' := ?_) Ff14 rfl rfl (by kernel_rfl) (fun _ _ _ h => h) (Or.inl ⟨by rfl, ?_⟩) ?_ ?_
  rotate_left
  · intro w'
    go_simp
    with_reducible rfl
  rotate_left
  · simp only [Act.put, List.setIfInBounds_toArray, List.set_cons_zero, List.set_cons_succ, i64_w, i32_w]
    rfl
  refine take_ (i := 14) (N := some 20) (v := ?_) (a' := ?_) Ff15 rfl rfl (by kernel_rfl) (fun _ _ _ h => h) (Or.inl ⟨by rfl, ?_⟩) hHeld ?_ ?_
  rotate_left
  · rintro w' ⟨s0, s1, s2, s3, s4, s5, s6, s7, s8, s9, s10⟩
    go_simp
    with_reducible rfl
  rotate_left
  · simp only [Act.put, List.setIfInBounds_toArray, List.set_cons_zero, List.set_cons_succ, i64_w, i32_w]
    rfl
  refine pure_ (i := 15) (N := some 21) (v := ?_) (a' := ?_) Ff16 rfl rfl (by kernel_rfl) (fun _ _ _ h => h) (Or.inl ⟨by rfl, ?_⟩) ?_ ?_
  rotate_left
  · intro w'
    go_simp
    with_reducible rfl
  rotate_left
  · simp only [Act.put, List.setIfInBounds_toArray, List.set_cons_zero, List.set_cons_succ, i64_w, i32_w]
    rfl
  refine pure_ (i := 16) (N := some 22) (v := ?_) (a' := ?_) Ff17 rfl rfl (by kernel_rfl) (fun _ _ _ h => h) (Or.inl ⟨by rfl, ?_⟩) ?_ ?_
  rotate_left
  · intro w'
    go_simp
    with_reducible rfl
  rotate_left
  · simp only [Act.put, List.setIfInBounds_toArray, List.set_cons_zero, List.set_cons_succ, i64_w, i32_w]
    rfl
  refine pure_ (i := 17) (N := some 23) (v := ?_) (a' := ?_) Ff18 rfl rfl (by kernel_rfl) (fun _ _ _ h => h) (Or.inl ⟨by rfl, ?_⟩) ?_ ?_
  rotate_left
  · intro w'
    go_simp
    with_reducible rfl
  rotate_left
  · simp only [Act.put, List.setIfInBounds_toArray, List.set_cons_zero, List.set_cons_succ, i64_w, i32_w]
    rfl
  refine pure_ (i := 18) (N := some 24) (v := undef) (a' := ?_) Ff19 rfl rfl (by kernel_rfl) (fun _ _ _ h => h) (Or.inr ⟨by rfl, rfl⟩) ?_ ?_
  rotate_left
  · simp only [Act.put, List.setIfInBounds_toArray, List.set_cons_zero, List.set_cons_succ, i64_w, i32_w]
    rfl
  refine pure_ (i := 19) (N := some 25) (v := undef) (a' := ?_) Ff20 rfl rfl (by kernel_rfl) (fun _ _ _ h => h) (Or.inr ⟨by rfl, rfl⟩) ?_ ?_
  rotate_left
  · simp only [Act.put, List.setIfInBounds_toArray, List.set_cons_zero, List.set_cons_succ, i64_w, i32_w]
    rfl
  refine pure_ (i := 20) (N := some 26) (v := undef) (a' := ?_) Ff21 rfl rfl (by kernel_rfl) (fun _ _ _ h => h) (Or.inr ⟨by rfl, rfl⟩) ?_ ?_
  rotate_left
  · simp only [Act.put, List.setIfInBounds_toArray, List.set_cons_zero, List.set_cons_succ, i64_w, i32_w]
    rfl
  refine pure_ (i := 21) (N := some 27) (v := undef) (a' := ?_) Ff22 rfl rfl (by kernel_rfl) (fun _ _ _ h => h) (Or.inr ⟨by rfl, rfl⟩) ?_ ?_
  rotate_left
  · simp only [Act.put, List.setIfInBounds_toArray, List.set_cons_zero, List.set_cons_succ, i64_w, i32_w]
    rfl
  refine pure_ (i := 22) (N := some 28) (v := ?_) (a' := ?_) Ff23 rfl rfl (by kernel_rfl) (fun _ _ _ h => h) (Or.inl ⟨by rfl, ?_⟩) ?_ ?_
  rotate_left
  · intro w'
    go_simp
    with_reducible rfl
  rotate_left
  · simp only [Act.put, List.setIfInBounds_toArray, List.set_cons_zero, List.set_cons_succ, i64_w, i32_w]
    rfl
  refine pure_ (i := 23) (N := some 5) (v := ?_) (a' := ?_) Ff24 rfl rfl (by kernel_rfl) (fun _ _ _ h => h) (Or.inl ⟨by rfl, ?_⟩) ?_ ?_
  rotate_left
  · intro w'
    go_simp
    with_reducible rfl
  rotate_left
  · simp only [Act.put, List.setIfInBounds_toArray, List.set_cons_zero, List.set_cons_succ, i64_w, i32_w]
    rfl
  refine done_ (by kernel_rfl) ?_
  have B_w_2 : Aside0 (Below (base) w w_2) := ⟨below_then B_w_1.out (Nat.le_trans (HB.out) B_w_1.out.size) HB_w_2.out⟩
  have S_w_2 : Aside0 (Sep (base) (Stars (Blk gm #[.int .i64 s, .int .i64 q, .slice A l.length c, .int .i64 kd, .int .i64 ep, .int .i64 it, .int .i64 is, .int .i64 rt, .int .i64 rs, .int .i64 ru] 56 :: WA g n D :: L)) w_2) := ⟨Sep.below S_w_1.out HB_w_2.out⟩
  have Q_w_2 : Aside0 (Below w.heap.size w w_2) := ⟨below_step Q_w_1.out HB_w_2.out⟩
  have c0_w_2 := pw_cell_below Q_w_2.out c0
  obtain ⟨c_gm_0_w_2, c_gm_1_w_2, c_gm_2_w_2, c_gm_3_w_2, c_gm_4_w_2, c_gm_5_w_2, c_gm_6_w_2, c_gm_7_w_2, c_gm_8_w_2, c_gm_9_w_2⟩ := XW.cells10 (Sep.front [] (WA g n D :: L) S_w_2.out).blk
  obtain ⟨z_gm_0_w_2, z_gm_1_w_2, z_gm_2_w_2, z_gm_3_w_2, z_gm_4_w_2, z_gm_5_w_2, z_gm_6_w_2, z_gm_7_w_2, z_gm_8_w_2, z_gm_9_w_2⟩ := XW.froz10 (Sep.front [] (WA g n D :: L) S_w_2.out).blk
  clear S_w_1 c0_w_1 c_gm_0_w_1 c_gm_1_w_1 c_gm_2_w_1 c_gm_3_w_1 c_gm_4_w_1 c_gm_5_w_1 c_gm_6_w_1 c_gm_7_w_1 c_gm_8_w_1 c_gm_9_w_1 z_gm_0_w_1 z_gm_1_w_1 z_gm_2_w_1 z_gm_3_w_1 z_gm_4_w_1 z_gm_5_w_1 z_gm_6_w_1 z_gm_7_w_1 z_gm_8_w_1 z_gm_9_w_1
  go_wp2
  go_ret
  exact ⟨rfl, Sep.right S_w_2.out, B_w_2.out⟩
set_option maxHeartbeats 4000000 in
set_option maxRecDepth 100000 in
theorem where_move_c {base g : Nat} {n : Int} {D : Int → Nat → Int} {L : List Assn} (w : World) (h : Sep base (Star (WA g n D) (Stars L)) w) (hbase : base ≤ w.heap.size) (hn : n ≤ 16)
    (s q : Int) (A : Option Addr) (c : Nat) (l : List Int) (kd ep it is rt rs ru : Int) (hC : (Kd.int .i64).C w A l.length l) (hc : l.length ≤ c) (hk : mesg_Check.f s q l kd ep it is rt rs ru = some 0) (hl : (l.length : Int) = n) (hkd : ¬ kd = 5) :
    Calls Try.prog 28 #[.pointer (some ⟨g, 0, none⟩), .agg #[.int .i64 s, .int .i64 q, .slice A l.length c, .int .i64 kd, .int .i64 ep, .int .i64 it, .int .i64 is, .int .i64 rt, .int .i64 rs, .int .i64 ru]] w fun en w' => en = .returned (.int .i64 1) ∧ Sep base (Star (WA g n D) (Stars L)) w' ∧ Below base w w' := by
  obtain ⟨c0, hcs⟩ := WA.cells h
  have hu52 := Try.underlying52
  have hu54 := Try.underlying54
  have hu56 := Try.underlying56
  have hu90 := Try.underlying90
  have B_w := Aside0.mk (Below.refl base w)
  have S_w := Aside0.mk h
  have HB := Aside0.mk hbase
  have HC := Aside0.mk hC
  have HK := Aside0.mk hk
  clear h hbase hC hk
  have bl : ((l.length : Int) != n) = false := bne_eq_false_iff_eq.mpr hl
  have bk : (kd != 5) = true := bne_iff_ne.mpr hkd
  clear hl hkd hcs
  go_enter Try.func28, Try.ntmps28
  go_upto_region 1 with (first | ((with_reducible refine gate_dst (N := 3) rfl ?_); (try (refine gate_guard (by rfl) ?_; dsimp only)); refine box_event ?hg (N := 3) ?hd (cs := #[.int .i64 s, .int .i64 q, .slice A l.length c, .int .i64 kd, .int .i64 ep, .int .i64 it, .int .i64 is, .int .i64 rt, .int .i64 rs, .int .i64 ru]) (t := 56) ?hr ?_; (case hd => rfl); (case hg => rfl); (case hr => first | (go_simp; done) | (go_simp; rfl)); intro gm hg_gm w_1 hX hb; have B_w_1 : Aside0 (Below (base) w w_1) := ⟨below_then B_w.out (Nat.le_trans (HB.out) B_w.out.size) hb⟩; have S_w_1 : Aside0 (Sep (base) (Stars (Blk gm #[.int .i64 s, .int .i64 q, .slice A l.length c, .int .i64 kd, .int .i64 ep, .int .i64 it, .int .i64 is, .int .i64 rt, .int .i64 rs, .int .i64 ru] 56 :: WA g n D :: L)) w_1) := ⟨Sep.new_blk S_w.out (Nat.le_trans (HB.out) B_w.out.size) hg_gm hb hX⟩; have Q_w_1 : Aside0 (Below w.heap.size w w_1) := ⟨hb⟩; have c0_w_1 := pw_cell_below Q_w_1.out c0; obtain ⟨c_gm_0_w_1, c_gm_1_w_1, c_gm_2_w_1, c_gm_3_w_1, c_gm_4_w_1, c_gm_5_w_1, c_gm_6_w_1, c_gm_7_w_1, c_gm_8_w_1, c_gm_9_w_1⟩ := XW.cells10 (Sep.front [] (WA g n D :: L) S_w_1.out).blk; obtain ⟨z_gm_0_w_1, z_gm_1_w_1, z_gm_2_w_1, z_gm_3_w_1, z_gm_4_w_1, z_gm_5_w_1, z_gm_6_w_1, z_gm_7_w_1, z_gm_8_w_1, z_gm_9_w_1⟩ := XW.froz10 (Sep.front [] (WA g n D :: L) S_w_1.out).blk; clear S_w; clear hX hb hg_gm))
  refine start_ (n := 24) (S := fun w' => w'.cell? ⟨gm, 0, none⟩ = some (.int .i64 s) ∧ w'.cell? ⟨gm, 1, none⟩ = some (.int .i64 q) ∧ w'.cell? ⟨gm, 2, none⟩ = some (.slice A l.length c) ∧ w'.cell? ⟨gm, 3, none⟩ = some (.int .i64 kd) ∧ w'.cell? ⟨gm, 4, none⟩ = some (.int .i64 ep) ∧ w'.cell? ⟨gm, 5, none⟩ = some (.int .i64 it) ∧ w'.cell? ⟨gm, 6, none⟩ = some (.int .i64 is) ∧ w'.cell? ⟨gm, 7, none⟩ = some (.int .i64 rt) ∧ w'.cell? ⟨gm, 8, none⟩ = some (.int .i64 rs) ∧ w'.cell? ⟨gm, 9, none⟩ = some (.int .i64 ru) ∧ w'.cell? ⟨g, 0, none⟩ = some (.int .i64 n)) (ds := []) Ff0 (by kernel_rfl) rfl rfl ⟨c_gm_0_w_1, c_gm_1_w_1, c_gm_2_w_1, c_gm_3_w_1, c_gm_4_w_1, c_gm_5_w_1, c_gm_6_w_1, c_gm_7_w_1, c_gm_8_w_1, c_gm_9_w_1, c0_w_1⟩ (fun hHeld => ?_)
  refine pure_ (i := 0) (N := some 6) (v := ?_) (a' := ?_) Ff1 rfl rfl (by kernel_rfl) (fun _ _ _ h => h) (Or.inl ⟨by rfl, ?_⟩) ?_ ?_
  rotate_left
  · intro w'
    go_simp
    with_reducible rfl
  rotate_left
  · simp only [Act.put, List.setIfInBounds_toArray, List.set_cons_zero, List.set_cons_succ, i64_w, i32_w]
    rfl
  refine pure_ (i := 1) (N := some 7) (v := ?_) (a' := ?_) Ff2 rfl rfl (by kernel_rfl) (fun _ _ _ h => h) (Or.inl ⟨by rfl, ?_⟩) ?_ ?_
  rotate_left
  · intro w'
    go_simp
    with_reducible rfl
  rotate_left
  · simp only [Act.put, List.setIfInBounds_toArray, List.set_cons_zero, List.set_cons_succ, i64_w, i32_w]
    rfl
  refine pure_ (i := 2) (N := some 8) (v := ?_) (a' := ?_) Ff3 rfl rfl (by kernel_rfl) (fun _ _ _ h => h) (Or.inl ⟨by rfl, ?_⟩) ?_ ?_
  rotate_left
  · intro w'
    go_simp
    with_reducible rfl
  rotate_left
  · simp only [Act.put, List.setIfInBounds_toArray, List.set_cons_zero, List.set_cons_succ, i64_w, i32_w]
    rfl
  refine take_ (i := 3) (N := some 9) (v := ?_) (a' := ?_) Ff4 rfl rfl (by kernel_rfl) (fun _ _ _ h => h) (Or.inl ⟨by rfl, ?_⟩) hHeld ?_ ?_
  rotate_left
  · rintro w' ⟨s0, s1, s2, s3, s4, s5, s6, s7, s8, s9, s10⟩
    go_simp
    with_reducible rfl
  rotate_left
  · simp only [Act.put, List.setIfInBounds_toArray, List.set_cons_zero, List.set_cons_succ, i64_w, i32_w]
    rfl
  refine one_ (i := 4) (N := some 10) Ff5 rfl rfl (by kernel_rfl) (by decide) (fun K hK => ?_)
  refine goes_ Try.func53 (by kernel_rfl) rfl #[.agg #[.int .i64 s, .int .i64 q, .slice A l.length c, .int .i64 kd, .int .i64 ep, .int .i64 it, .int .i64 is, .int .i64 rt, .int .i64 rs, .int .i64 ru]] (by rfl) rfl rfl (by simp only [List.map_toArray, List.map_cons, List.map_nil]; rfl) ?_
  with_reducible refine (mesg_Check.at s q A c l.length l kd ep it is rt rs ru 0 _ (Kd.C_drew (Kd.C_below HC.out Q_w_1.out)) hc HK.out).mono ?_
  rintro e w_2 ⟨rfl, hb⟩
  refine ⟨_, rfl, ?_⟩
  have HB_w_2 := Aside0.mk (below_undrew hb)
  clear hb
  refine hK.out _ _ ⟨pw_cell_below HB_w_2.out c_gm_0_w_1, pw_cell_below HB_w_2.out c_gm_1_w_1, pw_cell_below HB_w_2.out c_gm_2_w_1, pw_cell_below HB_w_2.out c_gm_3_w_1, pw_cell_below HB_w_2.out c_gm_4_w_1, pw_cell_below HB_w_2.out c_gm_5_w_1, pw_cell_below HB_w_2.out c_gm_6_w_1, pw_cell_below HB_w_2.out c_gm_7_w_1, pw_cell_below HB_w_2.out c_gm_8_w_1, pw_cell_below HB_w_2.out c_gm_9_w_1, pw_cell_below HB_w_2.out c0_w_1⟩ (fun hHeld => ?_)
  clear hK K
  refine norm_ (a' := ?_) ?_ ?_
  rotate_left
  · show Act.put _ (some 10) _ = _
    simp only [Act.put, List.setIfInBounds_toArray, List.set_cons_zero, List.set_cons_succ, i64_w, i32_w]
    rfl
  refine pure_ (i := 5) (N := some 11) (v := ?_) (a' := ?_) Ff6 rfl rfl (by kernel_rfl) (fun _ _ _ h => h) (Or.inl ⟨by rfl, ?_⟩) ?_ ?_
  rotate_left
  · intro w'
    go_simp
    with_reducible rfl
  rotate_left
  · simp only [Act.put, List.setIfInBounds_toArray, List.set_cons_zero, List.set_cons_succ, i64_w, i32_w]
    rfl
  refine pure_ (i := 6) (N := some 12) (v := ?_) (a' := ?_) Ff7 rfl rfl (by kernel_rfl) (fun _ _ _ h => h) (Or.inl ⟨by rfl, ?_⟩) ?_ ?_
  rotate_left
  · intro w'
    go_simp
    with_reducible rfl
  rotate_left
  · simp only [Act.put, List.setIfInBounds_toArray, List.set_cons_zero, List.set_cons_succ, i64_w, i32_w]
    rfl
  refine pure_ (i := 7) (N := some 13) (v := ?_) (a' := ?_) Ff8 rfl rfl (by kernel_rfl) (fun _ _ _ h => h) (Or.inl ⟨by rfl, ?_⟩) ?_ ?_
  rotate_left
  · intro w'
    go_simp
    with_reducible rfl
  rotate_left
  · simp only [Act.put, List.setIfInBounds_toArray, List.set_cons_zero, List.set_cons_succ, i64_w, i32_w]
    rfl
  refine pure_ (i := 8) (N := some 14) (v := ?_) (a' := ?_) Ff9 rfl rfl (by kernel_rfl) (fun _ _ _ h => h) (Or.inl ⟨by rfl, ?_⟩) ?_ ?_
  rotate_left
  · intro w'
    go_simp
    with_reducible rfl
  rotate_left
  · simp only [Act.put, List.setIfInBounds_toArray, List.set_cons_zero, List.set_cons_succ, i64_w, i32_w]
    rfl
  refine pure_ (i := 11) (N := some 17) (v := ?_) (a' := ?_) Ff25 rfl rfl (by kernel_rfl) (fun _ _ _ h => h) (Or.inl ⟨by rfl, ?_⟩) ?_ ?_
  rotate_left
  · intro w'
    go_simp
    with_reducible rfl
  rotate_left
  · simp only [Act.put, List.setIfInBounds_toArray, List.set_cons_zero, List.set_cons_succ, i64_w, i32_w]
    rfl
  refine pure_ (i := 12) (N := some 18) (v := ?_) (a' := ?_) Ff26 rfl rfl (by kernel_rfl) (fun _ _ _ h => h) (Or.inl ⟨by rfl, ?_⟩) ?_ ?_
  rotate_left
  · intro w'
    go_simp
    with_reducible rfl
  rotate_left
  · simp only [Act.put, List.setIfInBounds_toArray, List.set_cons_zero, List.set_cons_succ, i64_w, i32_w]
    rfl
  refine pure_ (i := 13) (N := some 19) (v := ?_) (a' := ?_) Ff27 rfl rfl (by kernel_rfl) (fun _ _ _ h => h) (Or.inl ⟨by rfl, ?_⟩) ?_ ?_
  rotate_left
  · intro w'
    go_simp
    with_reducible rfl
  rotate_left
  · simp only [Act.put, List.setIfInBounds_toArray, List.set_cons_zero, List.set_cons_succ, i64_w, i32_w]
    rfl
  refine take_ (i := 9) (N := some 15) (v := ?_) (a' := ?_) Ff28 rfl rfl (by kernel_rfl) (fun _ _ _ h => h) (Or.inl ⟨by rfl, ?_⟩) hHeld ?_ ?_
  rotate_left
  · rintro w' ⟨s0, s1, s2, s3, s4, s5, s6, s7, s8, s9, s10⟩
    go_simp
    with_reducible rfl
  rotate_left
  · simp only [Act.put, List.setIfInBounds_toArray, List.set_cons_zero, List.set_cons_succ, i64_w, i32_w]
    rfl
  refine pure_ (i := 10) (N := some 16) (v := ?_) (a' := ?_) Ff14 rfl rfl (by kernel_rfl) (fun _ _ _ h => h) (Or.inl ⟨by rfl, ?_⟩) ?_ ?_
  rotate_left
  · intro w'
    go_simp
    with_reducible rfl
  rotate_left
  · simp only [Act.put, List.setIfInBounds_toArray, List.set_cons_zero, List.set_cons_succ, i64_w, i32_w]
    rfl
  refine take_ (i := 14) (N := some 20) (v := ?_) (a' := ?_) Ff15 rfl rfl (by kernel_rfl) (fun _ _ _ h => h) (Or.inl ⟨by rfl, ?_⟩) hHeld ?_ ?_
  rotate_left
  · rintro w' ⟨s0, s1, s2, s3, s4, s5, s6, s7, s8, s9, s10⟩
    go_simp
    with_reducible rfl
  rotate_left
  · simp only [Act.put, List.setIfInBounds_toArray, List.set_cons_zero, List.set_cons_succ, i64_w, i32_w]
    rfl
  refine pure_ (i := 15) (N := some 21) (v := ?_) (a' := ?_) Ff16 rfl rfl (by kernel_rfl) (fun _ _ _ h => h) (Or.inl ⟨by rfl, ?_⟩) ?_ ?_
  rotate_left
  · intro w'
    go_simp
    with_reducible rfl
  rotate_left
  · simp only [Act.put, List.setIfInBounds_toArray, List.set_cons_zero, List.set_cons_succ, i64_w, i32_w]
    rfl
  refine pure_ (i := 16) (N := some 22) (v := ?_) (a' := ?_) Ff17 rfl rfl (by kernel_rfl) (fun _ _ _ h => h) (Or.inl ⟨by rfl, ?_⟩) ?_ ?_
  rotate_left
  · intro w'
    go_simp
    with_reducible rfl
  rotate_left
  · simp only [Act.put, List.setIfInBounds_toArray, List.set_cons_zero, List.set_cons_succ, i64_w, i32_w]
    rfl
  refine pure_ (i := 17) (N := some 23) (v := ?_) (a' := ?_) Ff18 rfl rfl (by kernel_rfl) (fun _ _ _ h => h) (Or.inl ⟨by rfl, ?_⟩) ?_ ?_
  rotate_left
  · intro w'
    go_simp
    with_reducible rfl
  rotate_left
  · simp only [Act.put, List.setIfInBounds_toArray, List.set_cons_zero, List.set_cons_succ, i64_w, i32_w]
    rfl
  refine pure_ (i := 18) (N := some 24) (v := ?_) (a' := ?_) Ff19 rfl rfl (by kernel_rfl) (fun _ _ _ h => h) (Or.inl ⟨by rfl, ?_⟩) ?_ ?_
  rotate_left
  · intro w'
    go_simp
    with_reducible rfl
  rotate_left
  · simp only [Act.put, List.setIfInBounds_toArray, List.set_cons_zero, List.set_cons_succ, i64_w, i32_w]
    rfl
  refine pure_ (i := 19) (N := some 25) (v := ?_) (a' := ?_) Ff20 rfl rfl (by kernel_rfl) (fun _ _ _ h => h) (Or.inl ⟨by rfl, ?_⟩) ?_ ?_
  rotate_left
  · intro w'
    go_simp
    with_reducible rfl
  rotate_left
  · simp only [Act.put, List.setIfInBounds_toArray, List.set_cons_zero, List.set_cons_succ, i64_w, i32_w]
    rfl
  refine take_ (i := 20) (N := some 26) (v := ?_) (a' := ?_) Ff21 rfl rfl (by kernel_rfl) (fun _ _ _ h => h) (Or.inl ⟨by rfl, ?_⟩) hHeld ?_ ?_
  rotate_left
  · rintro w' ⟨s0, s1, s2, s3, s4, s5, s6, s7, s8, s9, s10⟩
    go_simp
    with_reducible rfl
  rotate_left
  · simp only [Act.put, List.setIfInBounds_toArray, List.set_cons_zero, List.set_cons_succ, i64_w, i32_w]
    rfl
  refine pure_ (i := 21) (N := some 27) (v := ?_) (a' := ?_) Ff22 rfl rfl (by kernel_rfl) (fun _ _ _ h => h) (Or.inl ⟨by rfl, ?_⟩) ?_ ?_
  rotate_left
  · intro w'
    go_simp
    with_reducible rfl
  rotate_left
  · simp only [Act.put, List.setIfInBounds_toArray, List.set_cons_zero, List.set_cons_succ, i64_w, i32_w]
    rfl
  refine pure_ (i := 22) (N := some 28) (v := ?_) (a' := ?_) Ff23 rfl rfl (by kernel_rfl) (fun _ _ _ h => h) (Or.inl ⟨by rfl, ?_⟩) ?_ ?_
  rotate_left
  · intro w'
    go_simp
    with_reducible rfl
  rotate_left
  · simp only [Act.put, List.setIfInBounds_toArray, List.set_cons_zero, List.set_cons_succ, i64_w, i32_w]
    rfl
  refine pure_ (i := 23) (N := some 5) (v := ?_) (a' := ?_) Ff24 rfl rfl (by kernel_rfl) (fun _ _ _ h => h) (Or.inl ⟨by rfl, ?_⟩) ?_ ?_
  rotate_left
  · intro w'
    go_simp
    with_reducible rfl
  rotate_left
  · simp only [Act.put, List.setIfInBounds_toArray, List.set_cons_zero, List.set_cons_succ, i64_w, i32_w]
    rfl
  refine done_ (by kernel_rfl) ?_
  have B_w_2 : Aside0 (Below (base) w w_2) := ⟨below_then B_w_1.out (Nat.le_trans (HB.out) B_w_1.out.size) HB_w_2.out⟩
  have S_w_2 : Aside0 (Sep (base) (Stars (Blk gm #[.int .i64 s, .int .i64 q, .slice A l.length c, .int .i64 kd, .int .i64 ep, .int .i64 it, .int .i64 is, .int .i64 rt, .int .i64 rs, .int .i64 ru] 56 :: WA g n D :: L)) w_2) := ⟨Sep.below S_w_1.out HB_w_2.out⟩
  have Q_w_2 : Aside0 (Below w.heap.size w w_2) := ⟨below_step Q_w_1.out HB_w_2.out⟩
  have c0_w_2 := pw_cell_below Q_w_2.out c0
  obtain ⟨c_gm_0_w_2, c_gm_1_w_2, c_gm_2_w_2, c_gm_3_w_2, c_gm_4_w_2, c_gm_5_w_2, c_gm_6_w_2, c_gm_7_w_2, c_gm_8_w_2, c_gm_9_w_2⟩ := XW.cells10 (Sep.front [] (WA g n D :: L) S_w_2.out).blk
  obtain ⟨z_gm_0_w_2, z_gm_1_w_2, z_gm_2_w_2, z_gm_3_w_2, z_gm_4_w_2, z_gm_5_w_2, z_gm_6_w_2, z_gm_7_w_2, z_gm_8_w_2, z_gm_9_w_2⟩ := XW.froz10 (Sep.front [] (WA g n D :: L) S_w_2.out).blk
  clear S_w_1 c0_w_1 c_gm_0_w_1 c_gm_1_w_1 c_gm_2_w_1 c_gm_3_w_1 c_gm_4_w_1 c_gm_5_w_1 c_gm_6_w_1 c_gm_7_w_1 c_gm_8_w_1 c_gm_9_w_1 z_gm_0_w_1 z_gm_1_w_1 z_gm_2_w_1 z_gm_3_w_1 z_gm_4_w_1 z_gm_5_w_1 z_gm_6_w_1 z_gm_7_w_1 z_gm_8_w_1 z_gm_9_w_1
  go_wp2
  go_ret
  exact ⟨rfl, Sep.right S_w_2.out, B_w_2.out⟩
set_option maxHeartbeats 4000000 in
set_option maxRecDepth 100000 in
theorem where_move_d {base g : Nat} {n : Int} {D : Int → Nat → Int} {L : List Assn} (w : World) (h : Sep base (Star (WA g n D) (Stars L)) w) (hbase : base ≤ w.heap.size) (hn : n ≤ 16)
    (s q : Int) (A : Option Addr) (c : Nat) (l : List Int) (kd ep it is rt rs ru : Int) (hC : (Kd.int .i64).C w A l.length l) (hc : l.length ≤ c) (hk : mesg_Check.f s q l kd ep it is rt rs ru = some 0) (hl : (l.length : Int) = n) (hkd : kd = 5) (hs : 0 ≤ s) (hs2 : s < n) (hq : q ≤ D s 7) :
    Calls Try.prog 28 #[.pointer (some ⟨g, 0, none⟩), .agg #[.int .i64 s, .int .i64 q, .slice A l.length c, .int .i64 kd, .int .i64 ep, .int .i64 it, .int .i64 is, .int .i64 rt, .int .i64 rs, .int .i64 ru]] w fun en w' => en = .returned (.int .i64 7) ∧ Sep base (Star (WA g n D) (Stars L)) w' ∧ Below base w w' := by
  obtain ⟨c0, hcs⟩ := WA.cells h
  have hu52 := Try.underlying52
  have hu54 := Try.underlying54
  have hu56 := Try.underlying56
  have hu90 := Try.underlying90
  have B_w := Aside0.mk (Below.refl base w)
  have S_w := Aside0.mk h
  have HB := Aside0.mk hbase
  have HC := Aside0.mk hC
  have HK := Aside0.mk hk
  clear h hbase hC hk
  have bl : ((l.length : Int) != n) = false := bne_eq_false_iff_eq.mpr hl
  clear hl
  subst hkd
  obtain ⟨i, rfl⟩ := Int.eq_ofNat_of_zero_le hs
  have d7 := hcs i 7 (by omega) (by decide)
  have hi : i < 16 := by omega
  have hi2 : (i : Int) < 16 := by omega
  clear hcs hs hs2 hn
  go_enter Try.func28, Try.ntmps28
  go_upto_region 1 with (first | ((with_reducible refine gate_dst (N := 3) rfl ?_); (try (refine gate_guard (by rfl) ?_; dsimp only)); refine box_event ?hg (N := 3) ?hd (cs := #[.int .i64 (i : Int), .int .i64 q, .slice A l.length c, .int .i64 5, .int .i64 ep, .int .i64 it, .int .i64 is, .int .i64 rt, .int .i64 rs, .int .i64 ru]) (t := 56) ?hr ?_; (case hd => rfl); (case hg => rfl); (case hr => first | (go_simp; done) | (go_simp; rfl)); intro gm hg_gm w_1 hX hb; have B_w_1 : Aside0 (Below (base) w w_1) := ⟨below_then B_w.out (Nat.le_trans (HB.out) B_w.out.size) hb⟩; have S_w_1 : Aside0 (Sep (base) (Stars (Blk gm #[.int .i64 (i : Int), .int .i64 q, .slice A l.length c, .int .i64 5, .int .i64 ep, .int .i64 it, .int .i64 is, .int .i64 rt, .int .i64 rs, .int .i64 ru] 56 :: WA g n D :: L)) w_1) := ⟨Sep.new_blk S_w.out (Nat.le_trans (HB.out) B_w.out.size) hg_gm hb hX⟩; have Q_w_1 : Aside0 (Below w.heap.size w w_1) := ⟨hb⟩; have c0_w_1 := pw_cell_below Q_w_1.out c0; have d7_w_1 := pw_cell_below Q_w_1.out d7; obtain ⟨c_gm_0_w_1, c_gm_1_w_1, c_gm_2_w_1, c_gm_3_w_1, c_gm_4_w_1, c_gm_5_w_1, c_gm_6_w_1, c_gm_7_w_1, c_gm_8_w_1, c_gm_9_w_1⟩ := XW.cells10 (Sep.front [] (WA g n D :: L) S_w_1.out).blk; obtain ⟨z_gm_0_w_1, z_gm_1_w_1, z_gm_2_w_1, z_gm_3_w_1, z_gm_4_w_1, z_gm_5_w_1, z_gm_6_w_1, z_gm_7_w_1, z_gm_8_w_1, z_gm_9_w_1⟩ := XW.froz10 (Sep.front [] (WA g n D :: L) S_w_1.out).blk; clear S_w; clear hX hb hg_gm))
  refine start_ (n := 24) (S := fun w' => w'.cell? ⟨gm, 0, none⟩ = some (.int .i64 (i : Int)) ∧ w'.cell? ⟨gm, 1, none⟩ = some (.int .i64 q) ∧ w'.cell? ⟨gm, 2, none⟩ = some (.slice A l.length c) ∧ w'.cell? ⟨gm, 3, none⟩ = some (.int .i64 5) ∧ w'.cell? ⟨gm, 4, none⟩ = some (.int .i64 ep) ∧ w'.cell? ⟨gm, 5, none⟩ = some (.int .i64 it) ∧ w'.cell? ⟨gm, 6, none⟩ = some (.int .i64 is) ∧ w'.cell? ⟨gm, 7, none⟩ = some (.int .i64 rt) ∧ w'.cell? ⟨gm, 8, none⟩ = some (.int .i64 rs) ∧ w'.cell? ⟨gm, 9, none⟩ = some (.int .i64 ru) ∧ w'.cell? ⟨g, 0, none⟩ = some (.int .i64 n)) (ds := []) Ff0 (by kernel_rfl) rfl rfl ⟨c_gm_0_w_1, c_gm_1_w_1, c_gm_2_w_1, c_gm_3_w_1, c_gm_4_w_1, c_gm_5_w_1, c_gm_6_w_1, c_gm_7_w_1, c_gm_8_w_1, c_gm_9_w_1, c0_w_1⟩ (fun hHeld => ?_)
  refine pure_ (i := 0) (N := some 6) (v := ?_) (a' := ?_) Ff1 rfl rfl (by kernel_rfl) (fun _ _ _ h => h) (Or.inl ⟨by rfl, ?_⟩) ?_ ?_
  rotate_left
  · intro w'
    go_simp
    with_reducible rfl
  rotate_left
  · simp only [Act.put, List.setIfInBounds_toArray, List.set_cons_zero, List.set_cons_succ, i64_w, i32_w]
    rfl
  refine pure_ (i := 1) (N := some 7) (v := ?_) (a' := ?_) Ff2 rfl rfl (by kernel_rfl) (fun _ _ _ h => h) (Or.inl ⟨by rfl, ?_⟩) ?_ ?_
  rotate_left
  · intro w'
    go_simp
    with_reducible rfl
  rotate_left
  · simp only [Act.put, List.setIfInBounds_toArray, List.set_cons_zero, List.set_cons_succ, i64_w, i32_w]
    rfl
  refine pure_ (i := 2) (N := some 8) (v := ?_) (a' := ?_) Ff3 rfl rfl (by kernel_rfl) (fun _ _ _ h => h) (Or.inl ⟨by rfl, ?_⟩) ?_ ?_
  rotate_left
  · intro w'
    go_simp
    with_reducible rfl
  rotate_left
  · simp only [Act.put, List.setIfInBounds_toArray, List.set_cons_zero, List.set_cons_succ, i64_w, i32_w]
    rfl
  refine take_ (i := 3) (N := some 9) (v := ?_) (a' := ?_) Ff4 rfl rfl (by kernel_rfl) (fun _ _ _ h => h) (Or.inl ⟨by rfl, ?_⟩) hHeld ?_ ?_
  rotate_left
  · rintro w' ⟨s0, s1, s2, s3, s4, s5, s6, s7, s8, s9, s10⟩
    go_simp
    with_reducible rfl
  rotate_left
  · simp only [Act.put, List.setIfInBounds_toArray, List.set_cons_zero, List.set_cons_succ, i64_w, i32_w]
    rfl
  refine one_ (i := 4) (N := some 10) Ff5 rfl rfl (by kernel_rfl) (by decide) (fun K hK => ?_)
  refine goes_ Try.func53 (by kernel_rfl) rfl #[.agg #[.int .i64 (i : Int), .int .i64 q, .slice A l.length c, .int .i64 5, .int .i64 ep, .int .i64 it, .int .i64 is, .int .i64 rt, .int .i64 rs, .int .i64 ru]] (by rfl) rfl rfl (by simp only [List.map_toArray, List.map_cons, List.map_nil]; rfl) ?_
  with_reducible refine (mesg_Check.at (i : Int) q A c l.length l 5 ep it is rt rs ru 0 _ (Kd.C_drew (Kd.C_below HC.out Q_w_1.out)) hc HK.out).mono ?_
  rintro e w_2 ⟨rfl, hb⟩
  refine ⟨_, rfl, ?_⟩
  have HB_w_2 := Aside0.mk (below_undrew hb)
  clear hb
  refine hK.out _ _ ⟨pw_cell_below HB_w_2.out c_gm_0_w_1, pw_cell_below HB_w_2.out c_gm_1_w_1, pw_cell_below HB_w_2.out c_gm_2_w_1, pw_cell_below HB_w_2.out c_gm_3_w_1, pw_cell_below HB_w_2.out c_gm_4_w_1, pw_cell_below HB_w_2.out c_gm_5_w_1, pw_cell_below HB_w_2.out c_gm_6_w_1, pw_cell_below HB_w_2.out c_gm_7_w_1, pw_cell_below HB_w_2.out c_gm_8_w_1, pw_cell_below HB_w_2.out c_gm_9_w_1, pw_cell_below HB_w_2.out c0_w_1⟩ (fun hHeld => ?_)
  clear hK K
  refine norm_ (a' := ?_) ?_ ?_
  rotate_left
  · show Act.put _ (some 10) _ = _
    simp only [Act.put, List.setIfInBounds_toArray, List.set_cons_zero, List.set_cons_succ, i64_w, i32_w]
    rfl
  refine pure_ (i := 5) (N := some 11) (v := ?_) (a' := ?_) Ff6 rfl rfl (by kernel_rfl) (fun _ _ _ h => h) (Or.inl ⟨by rfl, ?_⟩) ?_ ?_
  rotate_left
  · intro w'
    go_simp
    with_reducible rfl
  rotate_left
  · simp only [Act.put, List.setIfInBounds_toArray, List.set_cons_zero, List.set_cons_succ, i64_w, i32_w]
    rfl
  refine pure_ (i := 6) (N := some 12) (v := ?_) (a' := ?_) Ff7 rfl rfl (by kernel_rfl) (fun _ _ _ h => h) (Or.inl ⟨by rfl, ?_⟩) ?_ ?_
  rotate_left
  · intro w'
    go_simp
    with_reducible rfl
  rotate_left
  · simp only [Act.put, List.setIfInBounds_toArray, List.set_cons_zero, List.set_cons_succ, i64_w, i32_w]
    rfl
  refine pure_ (i := 7) (N := some 13) (v := ?_) (a' := ?_) Ff8 rfl rfl (by kernel_rfl) (fun _ _ _ h => h) (Or.inl ⟨by rfl, ?_⟩) ?_ ?_
  rotate_left
  · intro w'
    go_simp
    with_reducible rfl
  rotate_left
  · simp only [Act.put, List.setIfInBounds_toArray, List.set_cons_zero, List.set_cons_succ, i64_w, i32_w]
    rfl
  refine pure_ (i := 8) (N := some 14) (v := ?_) (a' := ?_) Ff9 rfl rfl (by kernel_rfl) (fun _ _ _ h => h) (Or.inl ⟨by rfl, ?_⟩) ?_ ?_
  rotate_left
  · intro w'
    go_simp
    with_reducible rfl
  rotate_left
  · simp only [Act.put, List.setIfInBounds_toArray, List.set_cons_zero, List.set_cons_succ, i64_w, i32_w]
    rfl
  refine pure_ (i := 11) (N := some 17) (v := ?_) (a' := ?_) Ff25 rfl rfl (by kernel_rfl) (fun _ _ _ h => h) (Or.inl ⟨by rfl, ?_⟩) ?_ ?_
  rotate_left
  · intro w'
    go_simp
    with_reducible rfl
  rotate_left
  · simp only [Act.put, List.setIfInBounds_toArray, List.set_cons_zero, List.set_cons_succ, i64_w, i32_w]
    rfl
  refine pure_ (i := 12) (N := some 18) (v := ?_) (a' := ?_) Ff26 rfl rfl (by kernel_rfl) (fun _ _ _ h => h) (Or.inl ⟨by rfl, ?_⟩) ?_ ?_
  rotate_left
  · intro w'
    go_simp
    with_reducible rfl
  rotate_left
  · simp only [Act.put, List.setIfInBounds_toArray, List.set_cons_zero, List.set_cons_succ, i64_w, i32_w]
    rfl
  refine pure_ (i := 13) (N := some 19) (v := ?_) (a' := ?_) Ff27 rfl rfl (by kernel_rfl) (fun _ _ _ h => h) (Or.inl ⟨by rfl, ?_⟩) ?_ ?_
  rotate_left
  · intro w'
    go_simp
    with_reducible rfl
  rotate_left
  · simp only [Act.put, List.setIfInBounds_toArray, List.set_cons_zero, List.set_cons_succ, i64_w, i32_w]
    rfl
  refine take_ (i := 9) (N := some 15) (v := ?_) (a' := ?_) Ff28 rfl rfl (by kernel_rfl) (fun _ _ _ h => h) (Or.inl ⟨by rfl, ?_⟩) hHeld ?_ ?_
  rotate_left
  · rintro w' ⟨s0, s1, s2, s3, s4, s5, s6, s7, s8, s9, s10⟩
    go_simp
    with_reducible rfl
  rotate_left
  · simp only [Act.put, List.setIfInBounds_toArray, List.set_cons_zero, List.set_cons_succ, i64_w, i32_w]
    rfl
  refine pure_ (i := 10) (N := some 16) (v := ?_) (a' := ?_) Ff14 rfl rfl (by kernel_rfl) (fun _ _ _ h => h) (Or.inl ⟨by rfl, ?_⟩) ?_ ?_
  rotate_left
  · intro w'
    go_simp
    with_reducible rfl
  rotate_left
  · simp only [Act.put, List.setIfInBounds_toArray, List.set_cons_zero, List.set_cons_succ, i64_w, i32_w]
    rfl
  refine take_ (i := 14) (N := some 20) (v := ?_) (a' := ?_) Ff15 rfl rfl (by kernel_rfl) (fun _ _ _ h => h) (Or.inl ⟨by rfl, ?_⟩) hHeld ?_ ?_
  rotate_left
  · rintro w' ⟨s0, s1, s2, s3, s4, s5, s6, s7, s8, s9, s10⟩
    go_simp
    with_reducible rfl
  rotate_left
  · simp only [Act.put, List.setIfInBounds_toArray, List.set_cons_zero, List.set_cons_succ, i64_w, i32_w]
    rfl
  refine pure_ (i := 15) (N := some 21) (v := ?_) (a' := ?_) Ff16 rfl rfl (by kernel_rfl) (fun _ _ _ h => h) (Or.inl ⟨by rfl, ?_⟩) ?_ ?_
  rotate_left
  · intro w'
    go_simp
    with_reducible rfl
  rotate_left
  · simp only [Act.put, List.setIfInBounds_toArray, List.set_cons_zero, List.set_cons_succ, i64_w, i32_w]
    rfl
  refine pure_ (i := 16) (N := some 22) (v := ?_) (a' := ?_) Ff17 rfl rfl (by kernel_rfl) (fun _ _ _ h => h) (Or.inl ⟨by rfl, ?_⟩) ?_ ?_
  rotate_left
  · intro w'
    go_simp
    with_reducible rfl
  rotate_left
  · simp only [Act.put, List.setIfInBounds_toArray, List.set_cons_zero, List.set_cons_succ, i64_w, i32_w]
    rfl
  refine pure_ (i := 17) (N := some 23) (v := ?_) (a' := ?_) Ff18 rfl rfl (by kernel_rfl) (fun _ _ _ h => h) (Or.inl ⟨by rfl, ?_⟩) ?_ ?_
  rotate_left
  · intro w'
    go_simp
    with_reducible rfl
  rotate_left
  · simp only [Act.put, List.setIfInBounds_toArray, List.set_cons_zero, List.set_cons_succ, i64_w, i32_w]
    rfl
  refine pure_ (i := 18) (N := some 24) (v := ?_) (a' := ?_) Ff19 rfl rfl (by kernel_rfl) (fun _ _ _ h => h) (Or.inl ⟨by rfl, ?_⟩) ?_ ?_
  rotate_left
  · intro w'
    go_simp
    with_reducible rfl
  rotate_left
  · simp only [Act.put, List.setIfInBounds_toArray, List.set_cons_zero, List.set_cons_succ, i64_w, i32_w]
    rfl
  refine pure_ (i := 19) (N := some 25) (v := ?_) (a' := ?_) Ff20 rfl rfl (by kernel_rfl) (fun _ _ _ h => h) (Or.inl ⟨by rfl, ?_⟩) ?_ ?_
  rotate_left
  · intro w'
    go_simp
    with_reducible rfl
  rotate_left
  · simp only [Act.put, List.setIfInBounds_toArray, List.set_cons_zero, List.set_cons_succ, i64_w, i32_w]
    rfl
  refine take_ (i := 20) (N := some 26) (v := ?_) (a' := ?_) Ff21 rfl rfl (by kernel_rfl) (fun _ _ _ h => h) (Or.inl ⟨by rfl, ?_⟩) hHeld ?_ ?_
  rotate_left
  · rintro w' ⟨s0, s1, s2, s3, s4, s5, s6, s7, s8, s9, s10⟩
    go_simp
    with_reducible rfl
  rotate_left
  · simp only [Act.put, List.setIfInBounds_toArray, List.set_cons_zero, List.set_cons_succ, i64_w, i32_w]
    rfl
  refine pure_ (i := 21) (N := some 27) (v := ?_) (a' := ?_) Ff22 rfl rfl (by kernel_rfl) (fun _ _ _ h => h) (Or.inl ⟨by rfl, ?_⟩) ?_ ?_
  rotate_left
  · intro w'
    go_simp
    with_reducible rfl
  rotate_left
  · simp only [Act.put, List.setIfInBounds_toArray, List.set_cons_zero, List.set_cons_succ, i64_w, i32_w]
    rfl
  refine pure_ (i := 22) (N := some 28) (v := ?_) (a' := ?_) Ff23 rfl rfl (by kernel_rfl) (fun _ _ _ h => h) (Or.inl ⟨by rfl, ?_⟩) ?_ ?_
  rotate_left
  · intro w'
    go_simp
    with_reducible rfl
  rotate_left
  · simp only [Act.put, List.setIfInBounds_toArray, List.set_cons_zero, List.set_cons_succ, i64_w, i32_w]
    rfl
  refine pure_ (i := 23) (N := some 5) (v := ?_) (a' := ?_) Ff24 rfl rfl (by kernel_rfl) (fun _ _ _ h => h) (Or.inl ⟨by rfl, ?_⟩) ?_ ?_
  rotate_left
  · intro w'
    go_simp
    with_reducible rfl
  rotate_left
  · simp only [Act.put, List.setIfInBounds_toArray, List.set_cons_zero, List.set_cons_succ, i64_w, i32_w]
    rfl
  refine done_ (by kernel_rfl) ?_
  have B_w_2 : Aside0 (Below (base) w w_2) := ⟨below_then B_w_1.out (Nat.le_trans (HB.out) B_w_1.out.size) HB_w_2.out⟩
  have S_w_2 : Aside0 (Sep (base) (Stars (Blk gm #[.int .i64 (i : Int), .int .i64 q, .slice A l.length c, .int .i64 5, .int .i64 ep, .int .i64 it, .int .i64 is, .int .i64 rt, .int .i64 rs, .int .i64 ru] 56 :: WA g n D :: L)) w_2) := ⟨Sep.below S_w_1.out HB_w_2.out⟩
  have Q_w_2 : Aside0 (Below w.heap.size w w_2) := ⟨below_step Q_w_1.out HB_w_2.out⟩
  have c0_w_2 := pw_cell_below Q_w_2.out c0
  have d7_w_2 := pw_cell_below Q_w_2.out d7
  obtain ⟨c_gm_0_w_2, c_gm_1_w_2, c_gm_2_w_2, c_gm_3_w_2, c_gm_4_w_2, c_gm_5_w_2, c_gm_6_w_2, c_gm_7_w_2, c_gm_8_w_2, c_gm_9_w_2⟩ := XW.cells10 (Sep.front [] (WA g n D :: L) S_w_2.out).blk
  obtain ⟨z_gm_0_w_2, z_gm_1_w_2, z_gm_2_w_2, z_gm_3_w_2, z_gm_4_w_2, z_gm_5_w_2, z_gm_6_w_2, z_gm_7_w_2, z_gm_8_w_2, z_gm_9_w_2⟩ := XW.froz10 (Sep.front [] (WA g n D :: L) S_w_2.out).blk
  clear S_w_1 c0_w_1 d7_w_1 c_gm_0_w_1 c_gm_1_w_1 c_gm_2_w_1 c_gm_3_w_1 c_gm_4_w_1 c_gm_5_w_1 c_gm_6_w_1 c_gm_7_w_1 c_gm_8_w_1 c_gm_9_w_1 z_gm_0_w_1 z_gm_1_w_1 z_gm_2_w_1 z_gm_3_w_1 z_gm_4_w_1 z_gm_5_w_1 z_gm_6_w_1 z_gm_7_w_1 z_gm_8_w_1 z_gm_9_w_1
  go_wp2
  go_quiet (fail)
  go_wp2
  go_ret
  exact ⟨rfl, (Sep.right S_w_2.out).drewN _, pw_below_drewN B_w_2.out _⟩
set_option maxHeartbeats 4000000 in
set_option maxRecDepth 100000 in
theorem where_move_e {base g : Nat} {n : Int} {D : Int → Nat → Int} {L : List Assn} (w : World) (h : Sep base (Star (WA g n D) (Stars L)) w) (hbase : base ≤ w.heap.size) (hn : n ≤ 16)
    (s q : Int) (A : Option Addr) (c : Nat) (l : List Int) (kd ep it is rt rs ru : Int) (hC : (Kd.int .i64).C w A l.length l) (hc : l.length ≤ c) (hk : mesg_Check.f s q l kd ep it is rt rs ru = some 0) (hl : (l.length : Int) = n) (hkd : kd = 5) (hs : 0 ≤ s) (hs2 : s < n) (hq : ¬ q ≤ D s 7) :
    Calls Try.prog 28 #[.pointer (some ⟨g, 0, none⟩), .agg #[.int .i64 s, .int .i64 q, .slice A l.length c, .int .i64 kd, .int .i64 ep, .int .i64 it, .int .i64 is, .int .i64 rt, .int .i64 rs, .int .i64 ru]] w fun en w' => en = .returned (.int .i64 0) ∧ Sep base (Star (WA g n (upd D s [kd, ep, it, is, rt, rs, ru, q])) (Stars L)) w' ∧ Below base w w' := by
  obtain ⟨c0, hcs⟩ := WA.cells h
  have hu52 := Try.underlying52
  have hu54 := Try.underlying54
  have hu56 := Try.underlying56
  have hu90 := Try.underlying90
  have B_w := Aside0.mk (Below.refl base w)
  have S_w := Aside0.mk h
  have HB := Aside0.mk hbase
  have HC := Aside0.mk hC
  have HK := Aside0.mk hk
  clear h hbase hC hk
  have bl : ((l.length : Int) != n) = false := bne_eq_false_iff_eq.mpr hl
  clear hl
  subst hkd
  obtain ⟨i, rfl⟩ := Int.eq_ofNat_of_zero_le hs
  have d0 : w.cell? ⟨g, 1 + i * 8, none⟩ = some (.int .i64 (D (i : Int) 0)) := hcs i 0 (by omega) (by decide)
  have d1 := hcs i 1 (by omega) (by decide)
  have d2 := hcs i 2 (by omega) (by decide)
  have d3 := hcs i 3 (by omega) (by decide)
  have d4 := hcs i 4 (by omega) (by decide)
  have d5 := hcs i 5 (by omega) (by decide)
  have d6 := hcs i 6 (by omega) (by decide)
  have d7 := hcs i 7 (by omega) (by decide)
  have hi : i < 16 := by omega
  have hi2 : (i : Int) < 16 := by omega
  clear hcs hs hs2 hn
  go_enter Try.func28, Try.ntmps28
  go_upto_region 1 with (first | ((with_reducible refine gate_dst (N := 3) rfl ?_); (try (refine gate_guard (by rfl) ?_; dsimp only)); refine box_event ?hg (N := 3) ?hd (cs := #[.int .i64 (i : Int), .int .i64 q, .slice A l.length c, .int .i64 5, .int .i64 ep, .int .i64 it, .int .i64 is, .int .i64 rt, .int .i64 rs, .int .i64 ru]) (t := 56) ?hr ?_; (case hd => rfl); (case hg => rfl); (case hr => first | (go_simp; done) | (go_simp; rfl)); intro gm hg_gm w_1 hX hb; have B_w_1 : Aside0 (Below (base) w w_1) := ⟨below_then B_w.out (Nat.le_trans (HB.out) B_w.out.size) hb⟩; have S_w_1 : Aside0 (Sep (base) (Stars (Blk gm #[.int .i64 (i : Int), .int .i64 q, .slice A l.length c, .int .i64 5, .int .i64 ep, .int .i64 it, .int .i64 is, .int .i64 rt, .int .i64 rs, .int .i64 ru] 56 :: WA g n D :: L)) w_1) := ⟨Sep.new_blk S_w.out (Nat.le_trans (HB.out) B_w.out.size) hg_gm hb hX⟩; have Q_w_1 : Aside0 (Below w.heap.size w w_1) := ⟨hb⟩; have c0_w_1 := pw_cell_below Q_w_1.out c0; have d0_w_1 := pw_cell_below Q_w_1.out d0; have d1_w_1 := pw_cell_below Q_w_1.out d1; have d2_w_1 := pw_cell_below Q_w_1.out d2; have d3_w_1 := pw_cell_below Q_w_1.out d3; have d4_w_1 := pw_cell_below Q_w_1.out d4; have d5_w_1 := pw_cell_below Q_w_1.out d5; have d6_w_1 := pw_cell_below Q_w_1.out d6; have d7_w_1 := pw_cell_below Q_w_1.out d7; obtain ⟨c_gm_0_w_1, c_gm_1_w_1, c_gm_2_w_1, c_gm_3_w_1, c_gm_4_w_1, c_gm_5_w_1, c_gm_6_w_1, c_gm_7_w_1, c_gm_8_w_1, c_gm_9_w_1⟩ := XW.cells10 (Sep.front [] (WA g n D :: L) S_w_1.out).blk; obtain ⟨z_gm_0_w_1, z_gm_1_w_1, z_gm_2_w_1, z_gm_3_w_1, z_gm_4_w_1, z_gm_5_w_1, z_gm_6_w_1, z_gm_7_w_1, z_gm_8_w_1, z_gm_9_w_1⟩ := XW.froz10 (Sep.front [] (WA g n D :: L) S_w_1.out).blk; clear S_w; clear hX hb hg_gm))
  refine start_ (n := 24) (S := fun w' => w'.cell? ⟨gm, 0, none⟩ = some (.int .i64 (i : Int)) ∧ w'.cell? ⟨gm, 1, none⟩ = some (.int .i64 q) ∧ w'.cell? ⟨gm, 2, none⟩ = some (.slice A l.length c) ∧ w'.cell? ⟨gm, 3, none⟩ = some (.int .i64 5) ∧ w'.cell? ⟨gm, 4, none⟩ = some (.int .i64 ep) ∧ w'.cell? ⟨gm, 5, none⟩ = some (.int .i64 it) ∧ w'.cell? ⟨gm, 6, none⟩ = some (.int .i64 is) ∧ w'.cell? ⟨gm, 7, none⟩ = some (.int .i64 rt) ∧ w'.cell? ⟨gm, 8, none⟩ = some (.int .i64 rs) ∧ w'.cell? ⟨gm, 9, none⟩ = some (.int .i64 ru) ∧ w'.cell? ⟨g, 0, none⟩ = some (.int .i64 n)) (ds := []) Ff0 (by kernel_rfl) rfl rfl ⟨c_gm_0_w_1, c_gm_1_w_1, c_gm_2_w_1, c_gm_3_w_1, c_gm_4_w_1, c_gm_5_w_1, c_gm_6_w_1, c_gm_7_w_1, c_gm_8_w_1, c_gm_9_w_1, c0_w_1⟩ (fun hHeld => ?_)
  refine pure_ (i := 0) (N := some 6) (v := ?_) (a' := ?_) Ff1 rfl rfl (by kernel_rfl) (fun _ _ _ h => h) (Or.inl ⟨by rfl, ?_⟩) ?_ ?_
  rotate_left
  · intro w'
    go_simp
    with_reducible rfl
  rotate_left
  · simp only [Act.put, List.setIfInBounds_toArray, List.set_cons_zero, List.set_cons_succ, i64_w, i32_w]
    rfl
  refine pure_ (i := 1) (N := some 7) (v := ?_) (a' := ?_) Ff2 rfl rfl (by kernel_rfl) (fun _ _ _ h => h) (Or.inl ⟨by rfl, ?_⟩) ?_ ?_
  rotate_left
  · intro w'
    go_simp
    with_reducible rfl
  rotate_left
  · simp only [Act.put, List.setIfInBounds_toArray, List.set_cons_zero, List.set_cons_succ, i64_w, i32_w]
    rfl
  refine pure_ (i := 2) (N := some 8) (v := ?_) (a' := ?_) Ff3 rfl rfl (by kernel_rfl) (fun _ _ _ h => h) (Or.inl ⟨by rfl, ?_⟩) ?_ ?_
  rotate_left
  · intro w'
    go_simp
    with_reducible rfl
  rotate_left
  · simp only [Act.put, List.setIfInBounds_toArray, List.set_cons_zero, List.set_cons_succ, i64_w, i32_w]
    rfl
  refine take_ (i := 3) (N := some 9) (v := ?_) (a' := ?_) Ff4 rfl rfl (by kernel_rfl) (fun _ _ _ h => h) (Or.inl ⟨by rfl, ?_⟩) hHeld ?_ ?_
  rotate_left
  · rintro w' ⟨s0, s1, s2, s3, s4, s5, s6, s7, s8, s9, s10⟩
    go_simp
    with_reducible rfl
  rotate_left
  · simp only [Act.put, List.setIfInBounds_toArray, List.set_cons_zero, List.set_cons_succ, i64_w, i32_w]
    rfl
  refine one_ (i := 4) (N := some 10) Ff5 rfl rfl (by kernel_rfl) (by decide) (fun K hK => ?_)
  refine goes_ Try.func53 (by kernel_rfl) rfl #[.agg #[.int .i64 (i : Int), .int .i64 q, .slice A l.length c, .int .i64 5, .int .i64 ep, .int .i64 it, .int .i64 is, .int .i64 rt, .int .i64 rs, .int .i64 ru]] (by rfl) rfl rfl (by simp only [List.map_toArray, List.map_cons, List.map_nil]; rfl) ?_
  with_reducible refine (mesg_Check.at (i : Int) q A c l.length l 5 ep it is rt rs ru 0 _ (Kd.C_drew (Kd.C_below HC.out Q_w_1.out)) hc HK.out).mono ?_
  rintro e w_2 ⟨rfl, hb⟩
  refine ⟨_, rfl, ?_⟩
  have HB_w_2 := Aside0.mk (below_undrew hb)
  clear hb
  refine hK.out _ _ ⟨pw_cell_below HB_w_2.out c_gm_0_w_1, pw_cell_below HB_w_2.out c_gm_1_w_1, pw_cell_below HB_w_2.out c_gm_2_w_1, pw_cell_below HB_w_2.out c_gm_3_w_1, pw_cell_below HB_w_2.out c_gm_4_w_1, pw_cell_below HB_w_2.out c_gm_5_w_1, pw_cell_below HB_w_2.out c_gm_6_w_1, pw_cell_below HB_w_2.out c_gm_7_w_1, pw_cell_below HB_w_2.out c_gm_8_w_1, pw_cell_below HB_w_2.out c_gm_9_w_1, pw_cell_below HB_w_2.out c0_w_1⟩ (fun hHeld => ?_)
  clear hK K
  refine norm_ (a' := ?_) ?_ ?_
  rotate_left
  · show Act.put _ (some 10) _ = _
    simp only [Act.put, List.setIfInBounds_toArray, List.set_cons_zero, List.set_cons_succ, i64_w, i32_w]
    rfl
  refine pure_ (i := 5) (N := some 11) (v := ?_) (a' := ?_) Ff6 rfl rfl (by kernel_rfl) (fun _ _ _ h => h) (Or.inl ⟨by rfl, ?_⟩) ?_ ?_
  rotate_left
  · intro w'
    go_simp
    with_reducible rfl
  rotate_left
  · simp only [Act.put, List.setIfInBounds_toArray, List.set_cons_zero, List.set_cons_succ, i64_w, i32_w]
    rfl
  refine pure_ (i := 6) (N := some 12) (v := ?_) (a' := ?_) Ff7 rfl rfl (by kernel_rfl) (fun _ _ _ h => h) (Or.inl ⟨by rfl, ?_⟩) ?_ ?_
  rotate_left
  · intro w'
    go_simp
    with_reducible rfl
  rotate_left
  · simp only [Act.put, List.setIfInBounds_toArray, List.set_cons_zero, List.set_cons_succ, i64_w, i32_w]
    rfl
  refine pure_ (i := 7) (N := some 13) (v := ?_) (a' := ?_) Ff8 rfl rfl (by kernel_rfl) (fun _ _ _ h => h) (Or.inl ⟨by rfl, ?_⟩) ?_ ?_
  rotate_left
  · intro w'
    go_simp
    with_reducible rfl
  rotate_left
  · simp only [Act.put, List.setIfInBounds_toArray, List.set_cons_zero, List.set_cons_succ, i64_w, i32_w]
    rfl
  refine pure_ (i := 8) (N := some 14) (v := ?_) (a' := ?_) Ff9 rfl rfl (by kernel_rfl) (fun _ _ _ h => h) (Or.inl ⟨by rfl, ?_⟩) ?_ ?_
  rotate_left
  · intro w'
    go_simp
    with_reducible rfl
  rotate_left
  · simp only [Act.put, List.setIfInBounds_toArray, List.set_cons_zero, List.set_cons_succ, i64_w, i32_w]
    rfl
  refine pure_ (i := 11) (N := some 17) (v := ?_) (a' := ?_) Ff25 rfl rfl (by kernel_rfl) (fun _ _ _ h => h) (Or.inl ⟨by rfl, ?_⟩) ?_ ?_
  rotate_left
  · intro w'
    go_simp
    with_reducible rfl
  rotate_left
  · simp only [Act.put, List.setIfInBounds_toArray, List.set_cons_zero, List.set_cons_succ, i64_w, i32_w]
    rfl
  refine pure_ (i := 12) (N := some 18) (v := ?_) (a' := ?_) Ff26 rfl rfl (by kernel_rfl) (fun _ _ _ h => h) (Or.inl ⟨by rfl, ?_⟩) ?_ ?_
  rotate_left
  · intro w'
    go_simp
    with_reducible rfl
  rotate_left
  · simp only [Act.put, List.setIfInBounds_toArray, List.set_cons_zero, List.set_cons_succ, i64_w, i32_w]
    rfl
  refine pure_ (i := 13) (N := some 19) (v := ?_) (a' := ?_) Ff27 rfl rfl (by kernel_rfl) (fun _ _ _ h => h) (Or.inl ⟨by rfl, ?_⟩) ?_ ?_
  rotate_left
  · intro w'
    go_simp
    with_reducible rfl
  rotate_left
  · simp only [Act.put, List.setIfInBounds_toArray, List.set_cons_zero, List.set_cons_succ, i64_w, i32_w]
    rfl
  refine take_ (i := 9) (N := some 15) (v := ?_) (a' := ?_) Ff28 rfl rfl (by kernel_rfl) (fun _ _ _ h => h) (Or.inl ⟨by rfl, ?_⟩) hHeld ?_ ?_
  rotate_left
  · rintro w' ⟨s0, s1, s2, s3, s4, s5, s6, s7, s8, s9, s10⟩
    go_simp
    with_reducible rfl
  rotate_left
  · simp only [Act.put, List.setIfInBounds_toArray, List.set_cons_zero, List.set_cons_succ, i64_w, i32_w]
    rfl
  refine pure_ (i := 10) (N := some 16) (v := ?_) (a' := ?_) Ff14 rfl rfl (by kernel_rfl) (fun _ _ _ h => h) (Or.inl ⟨by rfl, ?_⟩) ?_ ?_
  rotate_left
  · intro w'
    go_simp
    with_reducible rfl
  rotate_left
  · simp only [Act.put, List.setIfInBounds_toArray, List.set_cons_zero, List.set_cons_succ, i64_w, i32_w]
    rfl
  refine take_ (i := 14) (N := some 20) (v := ?_) (a' := ?_) Ff15 rfl rfl (by kernel_rfl) (fun _ _ _ h => h) (Or.inl ⟨by rfl, ?_⟩) hHeld ?_ ?_
  rotate_left
  · rintro w' ⟨s0, s1, s2, s3, s4, s5, s6, s7, s8, s9, s10⟩
    go_simp
    with_reducible rfl
  rotate_left
  · simp only [Act.put, List.setIfInBounds_toArray, List.set_cons_zero, List.set_cons_succ, i64_w, i32_w]
    rfl
  refine pure_ (i := 15) (N := some 21) (v := ?_) (a' := ?_) Ff16 rfl rfl (by kernel_rfl) (fun _ _ _ h => h) (Or.inl ⟨by rfl, ?_⟩) ?_ ?_
  rotate_left
  · intro w'
    go_simp
    with_reducible rfl
  rotate_left
  · simp only [Act.put, List.setIfInBounds_toArray, List.set_cons_zero, List.set_cons_succ, i64_w, i32_w]
    rfl
  refine pure_ (i := 16) (N := some 22) (v := ?_) (a' := ?_) Ff17 rfl rfl (by kernel_rfl) (fun _ _ _ h => h) (Or.inl ⟨by rfl, ?_⟩) ?_ ?_
  rotate_left
  · intro w'
    go_simp
    with_reducible rfl
  rotate_left
  · simp only [Act.put, List.setIfInBounds_toArray, List.set_cons_zero, List.set_cons_succ, i64_w, i32_w]
    rfl
  refine pure_ (i := 17) (N := some 23) (v := ?_) (a' := ?_) Ff18 rfl rfl (by kernel_rfl) (fun _ _ _ h => h) (Or.inl ⟨by rfl, ?_⟩) ?_ ?_
  rotate_left
  · intro w'
    go_simp
    with_reducible rfl
  rotate_left
  · simp only [Act.put, List.setIfInBounds_toArray, List.set_cons_zero, List.set_cons_succ, i64_w, i32_w]
    rfl
  refine pure_ (i := 18) (N := some 24) (v := ?_) (a' := ?_) Ff19 rfl rfl (by kernel_rfl) (fun _ _ _ h => h) (Or.inl ⟨by rfl, ?_⟩) ?_ ?_
  rotate_left
  · intro w'
    go_simp
    with_reducible rfl
  rotate_left
  · simp only [Act.put, List.setIfInBounds_toArray, List.set_cons_zero, List.set_cons_succ, i64_w, i32_w]
    rfl
  refine pure_ (i := 19) (N := some 25) (v := ?_) (a' := ?_) Ff20 rfl rfl (by kernel_rfl) (fun _ _ _ h => h) (Or.inl ⟨by rfl, ?_⟩) ?_ ?_
  rotate_left
  · intro w'
    go_simp
    with_reducible rfl
  rotate_left
  · simp only [Act.put, List.setIfInBounds_toArray, List.set_cons_zero, List.set_cons_succ, i64_w, i32_w]
    rfl
  refine take_ (i := 20) (N := some 26) (v := ?_) (a' := ?_) Ff21 rfl rfl (by kernel_rfl) (fun _ _ _ h => h) (Or.inl ⟨by rfl, ?_⟩) hHeld ?_ ?_
  rotate_left
  · rintro w' ⟨s0, s1, s2, s3, s4, s5, s6, s7, s8, s9, s10⟩
    go_simp
    with_reducible rfl
  rotate_left
  · simp only [Act.put, List.setIfInBounds_toArray, List.set_cons_zero, List.set_cons_succ, i64_w, i32_w]
    rfl
  refine pure_ (i := 21) (N := some 27) (v := ?_) (a' := ?_) Ff22 rfl rfl (by kernel_rfl) (fun _ _ _ h => h) (Or.inl ⟨by rfl, ?_⟩) ?_ ?_
  rotate_left
  · intro w'
    go_simp
    with_reducible rfl
  rotate_left
  · simp only [Act.put, List.setIfInBounds_toArray, List.set_cons_zero, List.set_cons_succ, i64_w, i32_w]
    rfl
  refine pure_ (i := 22) (N := some 28) (v := ?_) (a' := ?_) Ff23 rfl rfl (by kernel_rfl) (fun _ _ _ h => h) (Or.inl ⟨by rfl, ?_⟩) ?_ ?_
  rotate_left
  · intro w'
    go_simp
    with_reducible rfl
  rotate_left
  · simp only [Act.put, List.setIfInBounds_toArray, List.set_cons_zero, List.set_cons_succ, i64_w, i32_w]
    rfl
  refine pure_ (i := 23) (N := some 5) (v := ?_) (a' := ?_) Ff24 rfl rfl (by kernel_rfl) (fun _ _ _ h => h) (Or.inl ⟨by rfl, ?_⟩) ?_ ?_
  rotate_left
  · intro w'
    go_simp
    with_reducible rfl
  rotate_left
  · simp only [Act.put, List.setIfInBounds_toArray, List.set_cons_zero, List.set_cons_succ, i64_w, i32_w]
    rfl
  refine done_ (by kernel_rfl) ?_
  have B_w_2 : Aside0 (Below (base) w w_2) := ⟨below_then B_w_1.out (Nat.le_trans (HB.out) B_w_1.out.size) HB_w_2.out⟩
  have S_w_2 : Aside0 (Sep (base) (Stars (Blk gm #[.int .i64 (i : Int), .int .i64 q, .slice A l.length c, .int .i64 5, .int .i64 ep, .int .i64 it, .int .i64 is, .int .i64 rt, .int .i64 rs, .int .i64 ru] 56 :: WA g n D :: L)) w_2) := ⟨Sep.below S_w_1.out HB_w_2.out⟩
  have Q_w_2 : Aside0 (Below w.heap.size w w_2) := ⟨below_step Q_w_1.out HB_w_2.out⟩
  have c0_w_2 := pw_cell_below Q_w_2.out c0
  have d0_w_2 := pw_cell_below Q_w_2.out d0
  have d1_w_2 := pw_cell_below Q_w_2.out d1
  have d2_w_2 := pw_cell_below Q_w_2.out d2
  have d3_w_2 := pw_cell_below Q_w_2.out d3
  have d4_w_2 := pw_cell_below Q_w_2.out d4
  have d5_w_2 := pw_cell_below Q_w_2.out d5
  have d6_w_2 := pw_cell_below Q_w_2.out d6
  have d7_w_2 := pw_cell_below Q_w_2.out d7
  obtain ⟨c_gm_0_w_2, c_gm_1_w_2, c_gm_2_w_2, c_gm_3_w_2, c_gm_4_w_2, c_gm_5_w_2, c_gm_6_w_2, c_gm_7_w_2, c_gm_8_w_2, c_gm_9_w_2⟩ := XW.cells10 (Sep.front [] (WA g n D :: L) S_w_2.out).blk
  obtain ⟨z_gm_0_w_2, z_gm_1_w_2, z_gm_2_w_2, z_gm_3_w_2, z_gm_4_w_2, z_gm_5_w_2, z_gm_6_w_2, z_gm_7_w_2, z_gm_8_w_2, z_gm_9_w_2⟩ := XW.froz10 (Sep.front [] (WA g n D :: L) S_w_2.out).blk
  clear S_w_1 c0_w_1 d0_w_1 d1_w_1 d2_w_1 d3_w_1 d4_w_1 d5_w_1 d6_w_1 d7_w_1 c_gm_0_w_1 c_gm_1_w_1 c_gm_2_w_1 c_gm_3_w_1 c_gm_4_w_1 c_gm_5_w_1 c_gm_6_w_1 c_gm_7_w_1 c_gm_8_w_1 c_gm_9_w_1 z_gm_0_w_1 z_gm_1_w_1 z_gm_2_w_1 z_gm_3_w_1 z_gm_4_w_1 z_gm_5_w_1 z_gm_6_w_1 z_gm_7_w_1 z_gm_8_w_1 z_gm_9_w_1
  go_wp2
  refine start_ (n := 12) (S := fun w' => w'.cell? ⟨gm, 0, none⟩ = some (.int .i64 (i : Int)) ∧ w'.cell? ⟨gm, 1, none⟩ = some (.int .i64 q) ∧ w'.cell? ⟨gm, 2, none⟩ = some (.slice A l.length c) ∧ w'.cell? ⟨gm, 3, none⟩ = some (.int .i64 5) ∧ w'.cell? ⟨gm, 4, none⟩ = some (.int .i64 ep) ∧ w'.cell? ⟨gm, 5, none⟩ = some (.int .i64 it) ∧ w'.cell? ⟨gm, 6, none⟩ = some (.int .i64 is) ∧ w'.cell? ⟨gm, 7, none⟩ = some (.int .i64 rt) ∧ w'.cell? ⟨gm, 8, none⟩ = some (.int .i64 rs) ∧ w'.cell? ⟨gm, 9, none⟩ = some (.int .i64 ru) ∧ w'.cell? ⟨g, 1 + i * 8 + 7, none⟩ = some (.int .i64 (D (i : Int) 7))) (ds := []) Ff29 (by kernel_rfl) rfl rfl ⟨c_gm_0_w_2, c_gm_1_w_2, c_gm_2_w_2, c_gm_3_w_2, c_gm_4_w_2, c_gm_5_w_2, c_gm_6_w_2, c_gm_7_w_2, c_gm_8_w_2, c_gm_9_w_2, d7_w_2⟩ (fun hHeld => ?_)
  refine pure_ (i := 0) (N := some 30) (v := ?_) (a' := ?_) Ff30 rfl rfl (by kernel_rfl) (fun _ _ _ h => h) (Or.inl ⟨by rfl, ?_⟩) ?_ ?_
  rotate_left
  · intro w'
    go_simp
    with_reducible rfl
  rotate_left
  · simp only [Act.put, List.setIfInBounds_toArray, List.set_cons_zero, List.set_cons_succ, i64_w, i32_w]
    rfl
  refine pure_ (i := 1) (N := some 31) (v := ?_) (a' := ?_) Ff31 rfl rfl (by kernel_rfl) (fun _ _ _ h => h) (Or.inl ⟨by rfl, ?_⟩) ?_ ?_
  rotate_left
  · intro w'
    go_simp
    with_reducible rfl
  rotate_left
  · simp only [Act.put, List.setIfInBounds_toArray, List.set_cons_zero, List.set_cons_succ, i64_w, i32_w]
    rfl
  refine pure_ (i := 3) (N := some 33) (v := ?_) (a' := ?_) Ff32 rfl rfl (by kernel_rfl) (fun _ _ _ h => h) (Or.inl ⟨by rfl, ?_⟩) ?_ ?_
  rotate_left
  · intro w'
    go_simp
    with_reducible rfl
  rotate_left
  · simp only [Act.put, List.setIfInBounds_toArray, List.set_cons_zero, List.set_cons_succ, i64_w, i32_w]
    rfl
  refine pure_ (i := 4) (N := some 34) (v := ?_) (a' := ?_) Ff33 rfl rfl (by kernel_rfl) (fun _ _ _ h => h) (Or.inl ⟨by rfl, ?_⟩) ?_ ?_
  rotate_left
  · intro w'
    go_simp
    with_reducible rfl
  rotate_left
  · simp only [Act.put, List.setIfInBounds_toArray, List.set_cons_zero, List.set_cons_succ, i64_w, i32_w]
    rfl
  refine pure_ (i := 8) (N := some 38) (v := ?_) (a' := ?_) Ff34 rfl rfl (by kernel_rfl) (fun _ _ _ h => h) (Or.inl ⟨by rfl, ?_⟩) ?_ ?_
  rotate_left
  · intro w'
    go_simp
    with_reducible rfl
  rotate_left
  · simp only [Act.put, List.setIfInBounds_toArray, List.set_cons_zero, List.set_cons_succ, i64_w, i32_w]
    rfl
  refine take_ (i := 2) (N := some 32) (v := ?_) (a' := ?_) Ff35 rfl rfl (by kernel_rfl) (fun _ _ _ h => h) (Or.inl ⟨by rfl, ?_⟩) hHeld ?_ ?_
  rotate_left
  · rintro w' ⟨s0, s1, s2, s3, s4, s5, s6, s7, s8, s9, s10⟩
    go_simp
    with_reducible rfl
  rotate_left
  · simp only [Act.put, List.setIfInBounds_toArray, List.set_cons_zero, List.set_cons_succ, i64_w, i32_w]
    rfl
  refine pure_ (i := 5) (N := some 35) (v := ?_) (a' := ?_) Ff36 rfl rfl (by kernel_rfl) (fun _ _ _ h => h) (Or.inl ⟨by rfl, ?_⟩) ?_ ?_
  rotate_left
  · intro w'
    go_simp
    with_reducible rfl
  rotate_left
  · simp only [Act.put, List.setIfInBounds_toArray, List.set_cons_zero, List.set_cons_succ, i64_w, i32_w]
    rfl
  refine pure_ (i := 6) (N := some 36) (v := ?_) (a' := ?_) Ff37 rfl rfl (by kernel_rfl) (fun _ _ _ h => h) (Or.inl ⟨by rfl, ?_⟩) ?_ ?_
  rotate_left
  · intro w'
    go_simp
    with_reducible rfl
  rotate_left
  · simp only [Act.put, List.setIfInBounds_toArray, List.set_cons_zero, List.set_cons_succ, i64_w, i32_w]
    rfl
  refine take_ (i := 7) (N := some 37) (v := ?_) (a' := ?_) Ff38 rfl rfl (by kernel_rfl) (fun _ _ _ h => h) (Or.inl ⟨by rfl, ?_⟩) hHeld ?_ ?_
  rotate_left
  · rintro w' ⟨s0, s1, s2, s3, s4, s5, s6, s7, s8, s9, s10⟩
    go_simp
    with_reducible rfl
  rotate_left
  · simp only [Act.put, List.setIfInBounds_toArray, List.set_cons_zero, List.set_cons_succ, i64_w, i32_w]
    rfl
  refine take_ (i := 9) (N := some 39) (v := ?_) (a' := ?_) Ff39 rfl rfl (by kernel_rfl) (fun _ _ _ h => h) (Or.inl ⟨by rfl, ?_⟩) hHeld ?_ ?_
  rotate_left
  · rintro w' ⟨s0, s1, s2, s3, s4, s5, s6, s7, s8, s9, s10⟩
    go_simp
    with_reducible rfl
  rotate_left
  · simp only [Act.put, List.setIfInBounds_toArray, List.set_cons_zero, List.set_cons_succ, i64_w, i32_w]
    rfl
  refine pure_ (i := 10) (N := some 40) (v := ?_) (a' := ?_) Ff40 rfl rfl (by kernel_rfl) (fun _ _ _ h => h) (Or.inl ⟨by rfl, ?_⟩) ?_ ?_
  rotate_left
  · intro w'
    go_simp
    with_reducible rfl
  rotate_left
  · simp only [Act.put, List.setIfInBounds_toArray, List.set_cons_zero, List.set_cons_succ, i64_w, i32_w]
    rfl
  refine pure_ (i := 11) (N := some 29) (v := ?_) (a' := ?_) Ff41 rfl rfl (by kernel_rfl) (fun _ _ _ h => h) (Or.inl ⟨by rfl, ?_⟩) ?_ ?_
  rotate_left
  · intro w'
    go_simp
    with_reducible rfl
  rotate_left
  · simp only [Act.put, List.setIfInBounds_toArray, List.set_cons_zero, List.set_cons_succ, i64_w, i32_w]
    rfl
  refine done_ (by kernel_rfl) ?_
  generalize hdw : w_2.drew = w_3
  have HB_w_3 : Aside0 (Below w_2.heap.size w_2 w_3) := ⟨by rw [← hdw]; exact below_drew1 (Below.refl _ _)⟩
  clear hdw
  have B_w_3 : Aside0 (Below (base) w w_3) := ⟨below_then B_w_2.out (Nat.le_trans (HB.out) B_w_2.out.size) HB_w_3.out⟩
  have S_w_3 : Aside0 (Sep (base) (Stars (Blk gm #[.int .i64 (i : Int), .int .i64 q, .slice A l.length c, .int .i64 5, .int .i64 ep, .int .i64 it, .int .i64 is, .int .i64 rt, .int .i64 rs, .int .i64 ru] 56 :: WA g n D :: L)) w_3) := ⟨Sep.below S_w_2.out HB_w_3.out⟩
  have Q_w_3 : Aside0 (Below w.heap.size w w_3) := ⟨below_step Q_w_2.out HB_w_3.out⟩
  have c0_w_3 := pw_cell_below Q_w_3.out c0
  have d0_w_3 := pw_cell_below Q_w_3.out d0
  have d1_w_3 := pw_cell_below Q_w_3.out d1
  have d2_w_3 := pw_cell_below Q_w_3.out d2
  have d3_w_3 := pw_cell_below Q_w_3.out d3
  have d4_w_3 := pw_cell_below Q_w_3.out d4
  have d5_w_3 := pw_cell_below Q_w_3.out d5
  have d6_w_3 := pw_cell_below Q_w_3.out d6
  have d7_w_3 := pw_cell_below Q_w_3.out d7
  obtain ⟨c_gm_0_w_3, c_gm_1_w_3, c_gm_2_w_3, c_gm_3_w_3, c_gm_4_w_3, c_gm_5_w_3, c_gm_6_w_3, c_gm_7_w_3, c_gm_8_w_3, c_gm_9_w_3⟩ := XW.cells10 (Sep.front [] (WA g n D :: L) S_w_3.out).blk
  obtain ⟨z_gm_0_w_3, z_gm_1_w_3, z_gm_2_w_3, z_gm_3_w_3, z_gm_4_w_3, z_gm_5_w_3, z_gm_6_w_3, z_gm_7_w_3, z_gm_8_w_3, z_gm_9_w_3⟩ := XW.froz10 (Sep.front [] (WA g n D :: L) S_w_3.out).blk
  clear S_w_2 c0_w_2 d0_w_2 d1_w_2 d2_w_2 d3_w_2 d4_w_2 d5_w_2 d6_w_2 d7_w_2 c_gm_0_w_2 c_gm_1_w_2 c_gm_2_w_2 c_gm_3_w_2 c_gm_4_w_2 c_gm_5_w_2 c_gm_6_w_2 c_gm_7_w_2 c_gm_8_w_2 c_gm_9_w_2 z_gm_0_w_2 z_gm_1_w_2 z_gm_2_w_2 z_gm_3_w_2 z_gm_4_w_2 z_gm_5_w_2 z_gm_6_w_2 z_gm_7_w_2 z_gm_8_w_2 z_gm_9_w_2
  go_wp2
  have z0 : w_3.frozen? ⟨g, 1 + i * 8, none⟩ = false := WA.frozen (Sep.front [Blk gm #[.int .i64 (i : Int), .int .i64 q, .slice A l.length c, .int .i64 5, .int .i64 ep, .int .i64 it, .int .i64 is, .int .i64 rt, .int .i64 rs, .int .i64 ru] 56] (L) S_w_3.out) (1 + i * 8)
  have z1 := WA.frozen (Sep.front [Blk gm #[.int .i64 (i : Int), .int .i64 q, .slice A l.length c, .int .i64 5, .int .i64 ep, .int .i64 it, .int .i64 is, .int .i64 rt, .int .i64 rs, .int .i64 ru] 56] (L) S_w_3.out) (1 + i * 8 + 1)
  have z2 := WA.frozen (Sep.front [Blk gm #[.int .i64 (i : Int), .int .i64 q, .slice A l.length c, .int .i64 5, .int .i64 ep, .int .i64 it, .int .i64 is, .int .i64 rt, .int .i64 rs, .int .i64 ru] 56] (L) S_w_3.out) (1 + i * 8 + 2)
  have z3 := WA.frozen (Sep.front [Blk gm #[.int .i64 (i : Int), .int .i64 q, .slice A l.length c, .int .i64 5, .int .i64 ep, .int .i64 it, .int .i64 is, .int .i64 rt, .int .i64 rs, .int .i64 ru] 56] (L) S_w_3.out) (1 + i * 8 + 3)
  have z4 := WA.frozen (Sep.front [Blk gm #[.int .i64 (i : Int), .int .i64 q, .slice A l.length c, .int .i64 5, .int .i64 ep, .int .i64 it, .int .i64 is, .int .i64 rt, .int .i64 rs, .int .i64 ru] 56] (L) S_w_3.out) (1 + i * 8 + 4)
  have z5 := WA.frozen (Sep.front [Blk gm #[.int .i64 (i : Int), .int .i64 q, .slice A l.length c, .int .i64 5, .int .i64 ep, .int .i64 it, .int .i64 is, .int .i64 rt, .int .i64 rs, .int .i64 ru] 56] (L) S_w_3.out) (1 + i * 8 + 5)
  have z6 := WA.frozen (Sep.front [Blk gm #[.int .i64 (i : Int), .int .i64 q, .slice A l.length c, .int .i64 5, .int .i64 ep, .int .i64 it, .int .i64 is, .int .i64 rt, .int .i64 rs, .int .i64 ru] 56] (L) S_w_3.out) (1 + i * 8 + 6)
  have z7 := WA.frozen (Sep.front [Blk gm #[.int .i64 (i : Int), .int .i64 q, .slice A l.length c, .int .i64 5, .int .i64 ep, .int .i64 it, .int .i64 is, .int .i64 rt, .int .i64 rs, .int .i64 ru] 56] (L) S_w_3.out) (1 + i * 8 + 7)
  refine start_ (n := 12) (S := fun w' => w'.cell? ⟨gm, 0, none⟩ = some (.int .i64 (i : Int)) ∧ w'.cell? ⟨gm, 1, none⟩ = some (.int .i64 q) ∧ w'.cell? ⟨gm, 2, none⟩ = some (.slice A l.length c) ∧ w'.cell? ⟨gm, 3, none⟩ = some (.int .i64 5) ∧ w'.cell? ⟨gm, 4, none⟩ = some (.int .i64 ep) ∧ w'.cell? ⟨gm, 5, none⟩ = some (.int .i64 it) ∧ w'.cell? ⟨gm, 6, none⟩ = some (.int .i64 is) ∧ w'.cell? ⟨gm, 7, none⟩ = some (.int .i64 rt) ∧ w'.cell? ⟨gm, 8, none⟩ = some (.int .i64 rs) ∧ w'.cell? ⟨gm, 9, none⟩ = some (.int .i64 ru) ∧ w'.cell? ⟨g, 0, none⟩ = some (.int .i64 n) ∧ w'.cell? ⟨g, 1 + i * 8, none⟩ = some (.int .i64 (D (i : Int) 0)) ∧ w'.cell? ⟨g, 1 + i * 8 + 1, none⟩ = some (.int .i64 (D (i : Int) 1)) ∧ w'.cell? ⟨g, 1 + i * 8 + 2, none⟩ = some (.int .i64 (D (i : Int) 2)) ∧ w'.cell? ⟨g, 1 + i * 8 + 3, none⟩ = some (.int .i64 (D (i : Int) 3)) ∧ w'.cell? ⟨g, 1 + i * 8 + 4, none⟩ = some (.int .i64 (D (i : Int) 4)) ∧ w'.cell? ⟨g, 1 + i * 8 + 5, none⟩ = some (.int .i64 (D (i : Int) 5)) ∧ w'.cell? ⟨g, 1 + i * 8 + 6, none⟩ = some (.int .i64 (D (i : Int) 6)) ∧ w'.cell? ⟨g, 1 + i * 8 + 7, none⟩ = some (.int .i64 (D (i : Int) 7))) (ds := [11]) Ff29 (by kernel_rfl) rfl rfl ⟨c_gm_0_w_3, c_gm_1_w_3, c_gm_2_w_3, c_gm_3_w_3, c_gm_4_w_3, c_gm_5_w_3, c_gm_6_w_3, c_gm_7_w_3, c_gm_8_w_3, c_gm_9_w_3, c0_w_3, d0_w_3, d1_w_3, d2_w_3, d3_w_3, d4_w_3, d5_w_3, d6_w_3, d7_w_3⟩ (fun hHeld => ?_)
  refine pure_ (i := 0) (N := some 41) (v := ?_) (a' := ?_) Ff30 rfl rfl (by kernel_rfl) (fun _ _ _ h => h) (Or.inl ⟨by rfl, ?_⟩) ?_ ?_
  rotate_left
  · intro w'
    go_simp
    with_reducible rfl
  rotate_left
  · simp only [Act.put, List.setIfInBounds_toArray, List.set_cons_zero, List.set_cons_succ, i64_w, i32_w]
    rfl
  refine pure_ (i := 1) (N := some 42) (v := ?_) (a' := ?_) Ff31 rfl rfl (by kernel_rfl) (fun _ _ _ h => h) (Or.inl ⟨by rfl, ?_⟩) ?_ ?_
  rotate_left
  · intro w'
    go_simp
    with_reducible rfl
  rotate_left
  · simp only [Act.put, List.setIfInBounds_toArray, List.set_cons_zero, List.set_cons_succ, i64_w, i32_w]
    rfl
  refine pure_ (i := 3) (N := some 44) (v := ?_) (a' := ?_) Ff32 rfl rfl (by kernel_rfl) (fun _ _ _ h => h) (Or.inl ⟨by rfl, ?_⟩) ?_ ?_
  rotate_left
  · intro w'
    go_simp
    with_reducible rfl
  rotate_left
  · simp only [Act.put, List.setIfInBounds_toArray, List.set_cons_zero, List.set_cons_succ, i64_w, i32_w]
    rfl
  refine pure_ (i := 5) (N := some 46) (v := ?_) (a' := ?_) Ff42 rfl rfl (by kernel_rfl) (fun _ _ _ h => h) (Or.inl ⟨by rfl, ?_⟩) ?_ ?_
  rotate_left
  · intro w'
    go_simp
    with_reducible rfl
  rotate_left
  · simp only [Act.put, List.setIfInBounds_toArray, List.set_cons_zero, List.set_cons_succ, i64_w, i32_w]
    rfl
  refine pure_ (i := 8) (N := some 49) (v := ?_) (a' := ?_) Ff43 rfl rfl (by kernel_rfl) (fun _ _ _ h => h) (Or.inl ⟨by rfl, ?_⟩) ?_ ?_
  rotate_left
  · intro w'
    go_simp
    with_reducible rfl
  rotate_left
  · simp only [Act.put, List.setIfInBounds_toArray, List.set_cons_zero, List.set_cons_succ, i64_w, i32_w]
    rfl
  refine pure_ (i := 9) (N := some 50) (v := ?_) (a' := ?_) Ff44 rfl rfl (by kernel_rfl) (fun _ _ _ h => h) (Or.inl ⟨by rfl, ?_⟩) ?_ ?_
  rotate_left
  · intro w'
    go_simp
    with_reducible rfl
  rotate_left
  · simp only [Act.put, List.setIfInBounds_toArray, List.set_cons_zero, List.set_cons_succ, i64_w, i32_w]
    rfl
  refine take_ (i := 2) (N := some 43) (v := ?_) (a' := ?_) Ff45 rfl rfl (by kernel_rfl) (fun _ _ _ h => h) (Or.inl ⟨by rfl, ?_⟩) hHeld ?_ ?_
  rotate_left
  · rintro w' ⟨s0, s1, s2, s3, s4, s5, s6, s7, s8, s9, s10, s11, s12, s13, s14, s15, s16, s17, s18⟩
    go_simp
    with_reducible rfl
  rotate_left
  · simp only [Act.put, List.setIfInBounds_toArray, List.set_cons_zero, List.set_cons_succ, i64_w, i32_w]
    rfl
  refine take_ (i := 4) (N := some 45) (v := ?_) (a' := ?_) Ff46 rfl rfl (by kernel_rfl) (fun _ _ _ h => h) (Or.inl ⟨by rfl, ?_⟩) hHeld ?_ ?_
  rotate_left
  · rintro w' ⟨s0, s1, s2, s3, s4, s5, s6, s7, s8, s9, s10, s11, s12, s13, s14, s15, s16, s17, s18⟩
    go_simp
    with_reducible rfl
  rotate_left
  · simp only [Act.put, List.setIfInBounds_toArray, List.set_cons_zero, List.set_cons_succ, i64_w, i32_w]
    rfl
  refine take_ (i := 6) (N := some 47) (v := ?_) (a' := ?_) Ff47 rfl rfl (by kernel_rfl) (fun _ _ _ h => h) (Or.inl ⟨by rfl, ?_⟩) hHeld ?_ ?_
  rotate_left
  · rintro w' ⟨s0, s1, s2, s3, s4, s5, s6, s7, s8, s9, s10, s11, s12, s13, s14, s15, s16, s17, s18⟩
    go_simp
    with_reducible rfl
  rotate_left
  · simp only [Act.put, List.setIfInBounds_toArray, List.set_cons_zero, List.set_cons_succ, i64_w, i32_w]
    rfl
  refine pure_ (i := 7) (N := some 48) (v := ?_) (a' := ?_) Ff39 rfl rfl (by kernel_rfl) (fun _ _ _ h => h) (Or.inl ⟨by rfl, ?_⟩) ?_ ?_
  rotate_left
  · intro w'
    go_simp
    with_reducible rfl
  rotate_left
  · simp only [Act.put, List.setIfInBounds_toArray, List.set_cons_zero, List.set_cons_succ, i64_w, i32_w]
    rfl
  refine pure_ (i := 10) (N := some 51) (v := ?_) (a' := ?_) Ff40 rfl rfl (by kernel_rfl) (fun _ _ _ h => h) (Or.inl ⟨by rfl, ?_⟩) ?_ ?_
  rotate_left
  · intro w'
    go_simp
    with_reducible rfl
  rotate_left
  · simp only [Act.put, List.setIfInBounds_toArray, List.set_cons_zero, List.set_cons_succ, i64_w, i32_w]
    rfl
  refine last_ (i := 11) (N := none) Ff41 rfl rfl (by kernel_rfl) (by decide) (fun K hK => ?_)
  refine skip_ (w1 := ?_) (by rfl) rfl ?_ ?_
  rotate_left
  · go_simp
    rfl
  refine hK.out _ _ ?_
  clear hK K
  refine done_ (by kernel_rfl) ?_
  go_wp2
  go_ret
  have hle := WA.le (Sep.front [Blk gm #[.int .i64 (i : Int), .int .i64 q, .slice A l.length c, .int .i64 5, .int .i64 ep, .int .i64 it, .int .i64 is, .int .i64 rt, .int .i64 rs, .int .i64 ru] 56] (L) S_w_3.out)
  exact ⟨rfl, (WA.store8 (Sep.front [Blk gm #[.int .i64 (i : Int), .int .i64 q, .slice A l.length c, .int .i64 5, .int .i64 ep, .int .i64 it, .int .i64 is, .int .i64 rt, .int .i64 rs, .int .i64 ru] 56] (L) S_w_3.out) (Nat.le_trans (HB.out) B_w_3.out.size) i hi 5 ep it is rt rs ru q).swap.right.below (below_drew1 (Below.refl _ _)), below_drew1 (Below.setCell (Below.setCell (Below.setCell (Below.setCell (Below.setCell (Below.setCell (Below.setCell (Below.setCell B_w_3.out hle _) hle _) hle _) hle _) hle _) hle _) hle _) hle _)⟩
/-- What a Move answers, and what is known behind it (k: what Check says). -/
def moveE (n : Int) (D : Int → Nat → Int) (k s q : Int) (l : List Int) (kd : Int) : Int := if k ≠ 0 then 1 else if (l.length : Int) ≠ n then 1 else if kd ≠ 5 then 1 else if q ≤ D s 7 then 7 else 0
def moveD (n : Int) (D : Int → Nat → Int) (k s q : Int) (l : List Int) (kd ep it is rt rs ru : Int) : Int → Nat → Int := if moveE n D k s q l kd = 0 then upd D s [kd, ep, it, is, rt, rs, ru, q] else D
theorem where_move {base g : Nat} {n : Int} {D : Int → Nat → Int} {L : List Assn} (w : World) (h : Sep base (Star (WA g n D) (Stars L)) w) (hbase : base ≤ w.heap.size) (hn : n ≤ 16)
    (s q : Int) (A : Option Addr) (c : Nat) (l : List Int) (kd ep it is rt rs ru : Int) (hC : (Kd.int .i64).C w A l.length l) (hc : l.length ≤ c) (k : Int) (hk : mesg_Check.f s q l kd ep it is rt rs ru = some k) (hs : k = 0 → 0 ≤ s ∧ s < (l.length : Int)) (r : Int) (D2 : Int → Nat → Int) (hr : moveE n D k s q l kd = r) (hD : moveD n D k s q l kd ep it is rt rs ru = D2) :
    Calls Try.prog 28 #[.pointer (some ⟨g, 0, none⟩), .agg #[.int .i64 s, .int .i64 q, .slice A l.length c, .int .i64 kd, .int .i64 ep, .int .i64 it, .int .i64 is, .int .i64 rt, .int .i64 rs, .int .i64 ru]] w fun en w' => en = .returned (.int .i64 r) ∧ Sep base (Star (WA g n D2) (Stars L)) w' ∧ Below base w w' := by
  unfold moveD moveE at hD
  unfold moveE at hr
  by_cases h1 : k = 0
  · subst h1
    obtain ⟨hs0, hs1⟩ := hs rfl
    by_cases h2 : (l.length : Int) = n
    · by_cases h3 : kd = 5
      · by_cases h4 : q ≤ D s 7
        · simp [h2, h3, h4] at hr hD
          subst hr; subst hD
          exact where_move_d w h hbase hn s q A c l kd ep it is rt rs ru hC hc hk h2 h3 hs0 (by omega) h4
        · simp [h2, h3, h4] at hr hD
          subst hr; subst hD
          have := where_move_e w h hbase hn s q A c l kd ep it is rt rs ru hC hc hk h2 h3 hs0 (by omega) h4
          rw [h3] at this ⊢
          exact this
      · simp [h2, h3] at hr hD
        subst hr; subst hD
        exact where_move_c w h hbase hn s q A c l kd ep it is rt rs ru hC hc hk h2 h3
    · simp [h2] at hr hD
      subst hr; subst hD
      exact where_move_b w h hbase hn s q A c l kd ep it is rt rs ru hC hc hk h2
  · simp [h1] at hr hD
    subst hr; subst hD
    exact where_move_a w h hbase hn s q A c l kd ep it is rt rs ru hC hc k hk h1
end Go.Proofs.Ytiplkmmppihilaa.PastA
