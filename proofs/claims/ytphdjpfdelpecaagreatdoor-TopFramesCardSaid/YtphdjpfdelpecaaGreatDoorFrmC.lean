/- Frames: the text of a reader's builder. Conditions: none beyond those that each theorem states. -/
import Derived.Test.YtphdjpfdelpecaaGreatDoorFrmB
import Derived.Test.YtphdjpfdelpecaaGreatDoorXU
namespace Go.Proofs.YtphdjpfdelpecaaGreatDoor.FrmA
open Go.RowKit Go.Proofs.YtphdjpfdelpecaaGreatDoorW.PrintWords Go.Proofs.YtphdjpfdelpecaaGreatDoorW.PrintLast Go.Proofs.YtphdjpfdelpecaaGreatDoorW.PrintMore Go.Proofs.YtphdjpfdelpecaaGreatDoor.XS Go.Proofs.YtphdjpfdelpecaaGreatDoor.PTopf
set_option linter.unusedVariables false
set_option linter.unusedSimpArgs false
abbrev flC0 : Array Bool := #[false, false, false, false, false, false, false, false, false, false, false, false]
abbrev flC1 : Array Bool := #[true, false, false, false, false, false, false, false, false, false, false, false]
abbrev flC2 : Array Bool := #[true, true, false, false, false, false, false, false, false, false, false, false]
abbrev flC3 : Array Bool := #[true, true, true, false, false, false, false, false, false, false, false, false]
abbrev flC4 : Array Bool := #[true, true, true, false, false, true, false, false, false, false, false, false]
abbrev flC5 : Array Bool := #[true, true, true, false, false, true, true, false, false, false, false, false]
abbrev flC6 : Array Bool := #[true, true, true, false, false, true, true, true, false, false, false, false]
abbrev flC7 : Array Bool := #[true, true, true, true, false, true, true, true, false, false, false, false]
abbrev flC8 : Array Bool := #[true, true, true, true, false, true, true, true, true, false, false, false]
abbrev flC9 : Array Bool := #[true, true, true, true, false, true, true, true, true, true, false, false]
abbrev flC10 : Array Bool := #[true, true, true, true, true, true, true, true, true, true, false, false]
abbrev flC11 : Array Bool := #[true, true, true, true, true, true, true, true, true, true, true, false]
abbrev flC12 : Array Bool := #[true, true, true, true, true, true, true, true, true, true, true, true]
theorem freeze_sep {base g n c m : Nat} {bs : List Int} {F : Assn} {w : World} (h : Sep base (Star (Row (Kd.int .u8) 5 (.slice (some ⟨g, 0, none⟩) n c) bs) F) w) (hbase : base ≤ w.heap.size) (hn : 0 < n) :
  Sep base F (w.freeze ⟨g, 0, none⟩ m) ∧ Below base w (w.freeze ⟨g, 0, none⟩ m) := by
 obtain ⟨g', e, hg⟩ := row_block (g := g) h hn
 cases e
 refine ⟨?_, Lib.below_freeze (Below.refl base w) hg m⟩
 have := h.change (B := Emp) (w1 := w.freeze ⟨g, 0, none⟩ m) hbase (fun f ha hl hf => ⟨f, trivial, fun _ h => .inl h, fun k hk hn' => by
  have hfg : f g := ha.1 g rfl
  have hne : ¬ g = k := fun e => hn' (e ▸ hfg)
  unfold World.freeze
  split
  ·rfl
  ·simp only [Array.getElem?_modify]
   rw [if_neg hne]⟩)
 exact this.right
theorem row_shape {base g n c : Nat} {bs : List Int} {F : Assn} {w : World} (h : Sep base (Star (Row (Kd.int .u8) 5 (.slice (some ⟨g, 0, none⟩) n c) bs) F) w) (hn : 0 < n) :
  ∃ k, w.shape? g = some (5, k) ∧ n ≤ k ∧ c ≠ 0 := by
 have hc := Sep.row_cut h
 obtain ⟨f, ⟨g1, _, hd, hg, hk, ha, hb⟩, hf⟩ := h
 obtain ⟨inner, ho⟩ := Kd.R_own ha
 obtain ⟨cells, hcl⟩ := own_typed ho g (by simp [Value.ownBlock])
 refine ⟨cells.size, by simp [World.shape?, hcl], ?_, by omega⟩
 obtain ⟨ad, e, hx⟩ := Kd.at_int hc.2.2 ((n : Int) - 1) (by omega) (by omega)
 cases e
 rw [show ((n : Int) - 1).toNat = n - 1 by omega, add_plain] at hx
 simp only [World.cell?, hcl] at hx
 have := (Array.getElem?_eq_some_iff.1 hx).1
 try simp only [Nat.zero_add] at this
 omega
set_option maxHeartbeats 8000000 in
set_option maxRecDepth 100000 in
theorem string_row {base g g2 c0 : Nat} {p x y : Value} {l : List Assn} {bytes : List UInt8} (w : World) (hbase : base ≤ w.heap.size) (h0 : bytes ≠ []) (hn : bytes.length ≤ 100000) (h : Sep base (Star (Blk g #[p, .slice (some ⟨g2, 0, none⟩) bytes.length c0, x, y] 110) (Stars (Row (Kd.int .u8) 5 (.slice (some ⟨g2, 0, none⟩) bytes.length c0) (bytes.map fun b => (b.toNat : Int)) :: l))) w) : Calls Tryz.prog 79 #[.pointer (some ⟨g, 0, none⟩)] w fun e w' => e = .returned (.string ⟨bytes.toArray⟩) ∧ Sep base (Stars (Blk g #[p, .slice (some ⟨g2, 0, none⟩) bytes.length c0, x, y] 110 :: l)) w' ∧ Below base w w' := by
 have hpos : 0 < bytes.length := by cases bytes with | nil => exact absurd rfl h0 | cons a r => simp
 have S_w : Aside0 (Sep (base) (Stars (Blk g #[p, .slice (some ⟨g2, 0, none⟩) bytes.length c0, x, y] 110 :: Row (Kd.int .u8) 5 (.slice (some ⟨g2, 0, none⟩) bytes.length c0) ((bytes.map fun b => (b.toNat : Int))) :: l)) w) := ⟨h⟩
 have B_w := Aside0.mk (Below.refl base w)
 have H0 := Aside0.mk h0
 have HN := Aside0.mk hn
 have HP := Aside0.mk hpos
 clear h h0 hn hpos
 obtain ⟨c_g_0_w, c_g_1_w, c_g_2_w, c_g_3_w⟩ := XW.cells4 (Sep.front [] (Row (Kd.int .u8) 5 (.slice (some ⟨g2, 0, none⟩) bytes.length c0) ((bytes.map fun b => (b.toNat : Int))) :: l) S_w.out).blk
 obtain ⟨z_g_0_w, z_g_1_w, z_g_2_w, z_g_3_w⟩ := XW.froz4 (Sep.front [] (Row (Kd.int .u8) 5 (.slice (some ⟨g2, 0, none⟩) bytes.length c0) ((bytes.map fun b => (b.toNat : Int))) :: l) S_w.out).blk
 go_enter Tryz.func79, Tryz.ntmps79
 go_upto_region 1 with (fail)
 refine start_ (n := 12) (S := fun w' => w'.cell? ⟨g, 1, none⟩ = some (.slice (some ⟨g2, 0, none⟩) bytes.length c0)) (ds := [10]) flC0 (by kernel_rfl) rfl rfl (c_g_1_w) (fun hHeld => ?_)
 generalize hdw : w.drew = w_1 at hHeld ⊢
 have HB_w_1 : Aside0 (Below w.heap.size w w_1) := ⟨by rw [← hdw]; exact below_drew1 (Below.refl _ _)⟩
 clear hdw
 have B_w_1 : Aside0 (Below (base) w w_1) := ⟨below_then B_w.out (Nat.le_trans (hbase) B_w.out.size) HB_w_1.out⟩
 have S_w_1 : Aside0 (Sep (base) (Stars (Blk g #[p, .slice (some ⟨g2, 0, none⟩) bytes.length c0, x, y] 110 :: Row (Kd.int .u8) 5 (.slice (some ⟨g2, 0, none⟩) bytes.length c0) ((bytes.map fun b => (b.toNat : Int))) :: l)) w_1) := ⟨Sep.below S_w.out HB_w_1.out⟩
 have Q_w_1 : Aside0 (Below w.heap.size w w_1) := ⟨HB_w_1.out⟩
 obtain ⟨c_g_0_w_1, c_g_1_w_1, c_g_2_w_1, c_g_3_w_1⟩ := XW.cells4 (Sep.front [] (Row (Kd.int .u8) 5 (.slice (some ⟨g2, 0, none⟩) bytes.length c0) ((bytes.map fun b => (b.toNat : Int))) :: l) S_w_1.out).blk
 obtain ⟨z_g_0_w_1, z_g_1_w_1, z_g_2_w_1, z_g_3_w_1⟩ := XW.froz4 (Sep.front [] (Row (Kd.int .u8) 5 (.slice (some ⟨g2, 0, none⟩) bytes.length c0) ((bytes.map fun b => (b.toNat : Int))) :: l) S_w_1.out).blk
 clear S_w c_g_0_w c_g_1_w c_g_2_w c_g_3_w z_g_0_w z_g_1_w z_g_2_w z_g_3_w
 refine pure_ (i := 0) (N := some 3) (v := ?_) (a' := ?_) flC1 rfl rfl (by kernel_rfl) (fun _ _ _ h => h) (Or.inl ⟨by rfl, ?_⟩) ?_ ?_
 rotate_left
 ·intro w'
  go_simp
  with_reducible rfl
 rotate_left
 ·simp only [Act.put, List.setIfInBounds_toArray, List.set_cons_zero, List.set_cons_succ, i64_w, i32_w]
  rfl
 refine pure_ (i := 1) (N := some 4) (v := ?_) (a' := ?_) flC2 rfl rfl (by kernel_rfl) (fun _ _ _ h => h) (Or.inl ⟨by rfl, ?_⟩) ?_ ?_
 rotate_left
 ·intro w'
  go_simp
  with_reducible rfl
 rotate_left
 ·simp only [Act.put, List.setIfInBounds_toArray, List.set_cons_zero, List.set_cons_succ, i64_w, i32_w]
  rfl
 refine pure_ (i := 2) (N := some 5) (v := ?_) (a' := ?_) flC3 rfl rfl (by kernel_rfl) (fun _ _ _ h => h) (Or.inl ⟨by rfl, ?_⟩) ?_ ?_
 rotate_left
 ·intro w'
  go_simp
  with_reducible rfl
 rotate_left
 ·simp only [Act.put, List.setIfInBounds_toArray, List.set_cons_zero, List.set_cons_succ, i64_w, i32_w]
  rfl
 refine pure_ (i := 5) (N := some 8) (v := ?_) (a' := ?_) flC4 rfl rfl (by kernel_rfl) (fun _ _ _ h => h) (Or.inl ⟨by rfl, ?_⟩) ?_ ?_
 rotate_left
 ·intro w'
  go_simp
  with_reducible rfl
 rotate_left
 ·simp only [Act.put, List.setIfInBounds_toArray, List.set_cons_zero, List.set_cons_succ, i64_w, i32_w]
  rfl
 refine pure_ (i := 6) (N := some 9) (v := ?_) (a' := ?_) flC5 rfl rfl (by kernel_rfl) (fun _ _ _ h => h) (Or.inl ⟨by rfl, ?_⟩) ?_ ?_
 rotate_left
 ·intro w'
  go_simp
  with_reducible rfl
 rotate_left
 ·simp only [Act.put, List.setIfInBounds_toArray, List.set_cons_zero, List.set_cons_succ, i64_w, i32_w]
  rfl
 refine pure_ (i := 7) (N := some 10) (v := ?_) (a' := ?_) flC6 rfl rfl (by kernel_rfl) (fun _ _ _ h => h) (Or.inl ⟨by rfl, ?_⟩) ?_ ?_
 rotate_left
 ·intro w'
  go_simp
  with_reducible rfl
 rotate_left
 ·simp only [Act.put, List.setIfInBounds_toArray, List.set_cons_zero, List.set_cons_succ, i64_w, i32_w]
  rfl
 refine take_ (i := 3) (N := some 6) (v := ?_) (a' := ?_) flC7 rfl rfl (by kernel_rfl) (fun _ _ _ h => h) (Or.inl ⟨by rfl, ?_⟩) hHeld ?_ ?_
 rotate_left
 ·intro w' s0
  go_simp
  with_reducible rfl
 rotate_left
 ·simp only [Act.put, List.setIfInBounds_toArray, List.set_cons_zero, List.set_cons_succ, i64_w, i32_w]
  rfl
 refine take_ (i := 8) (N := some 11) (v := ?_) (a' := ?_) flC8 rfl rfl (by kernel_rfl) (fun _ _ _ h => h) (Or.inl ⟨by rfl, ?_⟩) hHeld ?_ ?_
 rotate_left
 ·intro w' s0
  go_simp
  with_reducible rfl
 rotate_left
 ·simp only [Act.put, List.setIfInBounds_toArray, List.set_cons_zero, List.set_cons_succ, i64_w, i32_w]
  rfl
 refine pure_ (i := 9) (N := some 12) (v := ?_) (a' := ?_) flC9 rfl rfl (by kernel_rfl) (fun _ _ _ h => h) (Or.inl ⟨by rfl, ?_⟩) ?_ ?_
 rotate_left
 ·intro w'
  go_simp
  with_reducible rfl
 rotate_left
 ·simp only [Act.put, List.setIfInBounds_toArray, List.set_cons_zero, List.set_cons_succ, i64_w, i32_w]
  rfl
 refine one_ (i := 4) (N := some 7) flC10 rfl rfl (by kernel_rfl) (by decide) (fun K hK => ?_)
 have hsc := (row_shape (Sep.front [Blk g #[p, .slice (some ⟨g2, 0, none⟩) bytes.length c0, x, y] 110] l S_w_1.out) HP.out)
 obtain ⟨kk, -, -, hc⟩ := hsc
 have kd := Lib.run_unsafeSliceData_row (P := Tryz.prog) w_1 #[92] 266 (⟨g2, 0, none⟩ : Addr) bytes.length c0 hc
 refine value_ (w1 := ?_) (v := ?_) (by rfl) rfl ?_ ?_
 rotate_left 2
 ·go_simp
  constructor
  ·rfl
  ·rfl
 refine hK.out _ _ (c_g_1_w_1) (fun hHeld => ?_)
 clear hK K
 refine norm_ (a' := ?_) ?_ ?_
 rotate_left
 ·show Act.put _ (some 7) _ = _
  simp only [Act.put, List.setIfInBounds_toArray, List.set_cons_zero, List.set_cons_succ, i64_w, i32_w]
  rfl
 refine last_ (i := 10) (N := some 13) flC11 rfl rfl (by kernel_rfl) (by decide) (fun K hK => ?_)
 obtain ⟨kk, hsh, hkk, -⟩ := (row_shape (Sep.front [Blk g #[p, .slice (some ⟨g2, 0, none⟩) bytes.length c0, x, y] 110] l S_w_1.out) HP.out)
 have hC := (Sep.row_cut (Sep.front [Blk g #[p, .slice (some ⟨g2, 0, none⟩) bytes.length c0, x, y] 110] l S_w_1.out)).2.2
 have hcl : ∀ j (x : UInt8), bytes[j]? = some x → w_1.cell? ((⟨g2, 0, none⟩ : Addr).add j) = some (.int .u8 x.toNat) := by
  intro j x hj
  have hlt : j < bytes.length := (List.getElem?_eq_some_iff.1 hj).1
  obtain ⟨ad, e, hx⟩ := Kd.at_int hC (j : Int) (by omega) (by simp; omega)
  cases e
  rw [Int.toNat_natCast] at hx
  rw [hx]
  simp [rd, List.getD_eq_getElem?_getD, hj]
 have ku := Lib.run_unsafeString_row (P := Tryz.prog) w_1 266 3 9 5 Tryz.underlying266 (by kernel_rfl) g2 kk hsh bytes H0.out hkk (by have := HN.out; omega) hcl
 refine value_ (w1 := ?_) (v := ?_) (by rfl) rfl ?_ ?_
 rotate_left 2
 ·go_simp
  constructor
  ·rfl
  ·rfl
 refine hK.out _ _ ?_
 clear hK K
 refine norm_ (a' := ?_) ?_ ?_
 rotate_left
 ·show Act.put _ (some 13) _ = _
  simp only [Act.put, List.setIfInBounds_toArray, List.set_cons_zero, List.set_cons_succ, i64_w, i32_w]
  rfl
 refine pure_ (i := 11) (N := some 2) (v := ?_) (a' := ?_) flC12 rfl rfl (by kernel_rfl) (fun _ _ _ h => h) (Or.inl ⟨by rfl, ?_⟩) ?_ ?_
 rotate_left
 ·intro w'
  go_simp
  with_reducible rfl
 rotate_left
 ·simp only [Act.put, List.setIfInBounds_toArray, List.set_cons_zero, List.set_cons_succ, i64_w, i32_w]
  rfl
 refine done_ (by kernel_rfl) ?_
 go_wp2
 go_ret
 have hsz := B_w_1.out.size
 obtain ⟨S9, B9⟩ := freeze_sep (m := bytes.length) (Sep.front [Blk g #[p, .slice (some ⟨g2, 0, none⟩) bytes.length c0, x, y] 110] l S_w_1.out) (by omega) HP.out
 exact ⟨rfl, S9, B_w_1.out.trans B9⟩
end Go.Proofs.YtphdjpfdelpecaaGreatDoor.FrmA
