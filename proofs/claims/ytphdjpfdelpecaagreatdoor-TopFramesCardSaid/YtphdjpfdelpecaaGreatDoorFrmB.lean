/- Frames: a new reader; what is done to the builder in it. Conditions: none beyond those that each theorem states. -/
import Derived.Test.YtphdjpfdelpecaaGreatDoorFrmA
import Derived.Test.YtphdjpfdelpecaaGreatDoorA2
import Derived.Lib.Builder
import Derived.Lib.UnsafeStr
namespace Go.Proofs.YtphdjpfdelpecaaGreatDoor.FrmA
open Go.RowKit Go.Proofs.YtphdjpfdelpecaaGreatDoorW.PrintWords Go.Proofs.YtphdjpfdelpecaaGreatDoorW.PrintLast Go.Proofs.YtphdjpfdelpecaaGreatDoorW.PrintMore Go.Proofs.YtphdjpfdelpecaaGreatDoor.XS Go.Proofs.YtphdjpfdelpecaaGreatDoor.PTopf
set_option linter.unusedVariables false
set_option linter.unusedSimpArgs false
set_option maxHeartbeats 8000000 in
set_option maxRecDepth 100000 in
theorem new_is (w : World) : Calls Tryz.prog 14 #[] w fun e w' => ∃ g, e = .returned (.pointer (some ⟨g, 0, none⟩)) ∧ Sep w.heap.size (Stars [Blk g #[.pointer none, .slice none 0 0, .bool false, .int .i64 0] 110]) w' ∧ Below w.heap.size w w' := by
 have B_w := Aside0.mk (Below.refl w.heap.size w)
 have S_w : Aside0 (Sep w.heap.size (Stars []) w) := ⟨Sep.emp _ _⟩
 go_enter Tryz.func14, Tryz.ntmps14
 go_wp2_with (first | ((with_reducible refine gate_dst (N := 2) rfl ?_); (try (refine gate_guard (by rfl) ?_; dsimp only)); refine box_event ?hg (N := 2) ?hd (cs := #[.pointer none, .slice none 0 0, .bool false, .int .i64 0]) (t := 110) ?hr ?_; (case hd => rfl); (case hg => rfl); (case hr => first | (go_simp; done) | (go_simp; rfl)); intro g hg_g w_1 hX hb; have B_w_1 : Aside0 (Below (w.heap.size) w w_1) := ⟨below_then B_w.out B_w.out.size hb⟩; have S_w_1 : Aside0 (Sep (w.heap.size) (Stars [Blk g #[.pointer none, .slice none 0 0, .bool false, .int .i64 0] 110]) w_1) := ⟨Sep.new_blk S_w.out B_w.out.size hg_g hb hX⟩; have Q_w_1 : Aside0 (Below w.heap.size w w_1) := ⟨hb⟩; obtain ⟨c_g_0_w_1, c_g_1_w_1, c_g_2_w_1, c_g_3_w_1⟩ := XW.cells4 (Sep.front [] [] S_w_1.out).blk; obtain ⟨z_g_0_w_1, z_g_1_w_1, z_g_2_w_1, z_g_3_w_1⟩ := XW.froz4 (Sep.front [] [] S_w_1.out).blk; clear S_w; clear hX hb hg_g))
 go_ret
 exact ⟨g, rfl, S_w_1.out, B_w_1.out⟩
set_option maxHeartbeats 8000000 in
set_option maxRecDepth 100000 in
theorem len_is (w : World) (g n c : Nat) (A : Option Addr) (x1 : w.cell? ⟨g, 1, none⟩ = some (.slice A n c)) : Calls Tryz.prog 33 #[.pointer (some ⟨g, 0, none⟩)] w fun e w' => e = .returned (.int .i64 n) ∧ w = w' := by
 go_enter Tryz.func33, Tryz.ntmps33
 go_wp2
 go_ret
 exact ⟨rfl, rfl⟩
theorem i108 : ∃ i, Tryz.prog.info? 108 = some i := Option.isSome_iff_exists.1 (show (Tryz.prog.info? 108).isSome = true by kernel_rfl)
set_option maxHeartbeats 8000000 in
set_option maxRecDepth 100000 in
theorem check_same {base g : Nat} {v x y : Value} {l : List Assn} (w : World) (hbase : base ≤ w.heap.size) (h : Sep base (Star (Blk g #[.pointer (some ⟨g, 0, none⟩), v, x, y] 110) (Stars l)) w) : Calls Tryz.prog 77 #[.pointer (some ⟨g, 0, none⟩)] w fun e w' => e = .returned (.tuple #[]) ∧ w = w' := by
 have F_w := Aside0.mk h
 have S_w : Aside0 (Sep (base) (Stars (Blk g #[.pointer (some ⟨g, 0, none⟩), v, x, y] 110 :: l)) w) := ⟨h⟩
 have B_w := Aside0.mk (Below.refl base w)
 clear h
 obtain ⟨c_g_0_w, c_g_1_w, c_g_2_w, c_g_3_w⟩ := XW.cells4 (Sep.front [] (l) S_w.out).blk
 obtain ⟨z_g_0_w, z_g_1_w, z_g_2_w, z_g_3_w⟩ := XW.froz4 (Sep.front [] (l) S_w.out).blk
 obtain ⟨j8, hj8⟩ := i108
 have kn := Lib.run_neq_ptr_same (P := Tryz.prog) w (tp := 106) (te := 108) ⟨g, 0, none⟩ Tryz.underlying106 hj8
 go_enter Tryz.func77, Tryz.ntmps77
 go_wp2
 go_end0
 exact ⟨rfl, rfl⟩
set_option maxHeartbeats 8000000 in
set_option maxRecDepth 100000 in
theorem check_new {base g : Nat} {v x y : Value} {l : List Assn} (w : World) (hbase : base ≤ w.heap.size) (h : Sep base (Star (Blk g #[.pointer none, v, x, y] 110) (Stars l)) w) : Calls Tryz.prog 77 #[.pointer (some ⟨g, 0, none⟩)] w fun e w' => e = .returned (.tuple #[]) ∧ Sep base (Star (Blk g #[.pointer (some ⟨g, 0, none⟩), v, x, y] 110) (Stars l)) w' ∧ Below base w w' := by
 have F_w := Aside0.mk h
 have S_w : Aside0 (Sep (base) (Stars (Blk g #[.pointer none, v, x, y] 110 :: l)) w) := ⟨h⟩
 have B_w := Aside0.mk (Below.refl base w)
 clear h
 obtain ⟨c_g_0_w, c_g_1_w, c_g_2_w, c_g_3_w⟩ := XW.cells4 (Sep.front [] (l) S_w.out).blk
 obtain ⟨z_g_0_w, z_g_1_w, z_g_2_w, z_g_3_w⟩ := XW.froz4 (Sep.front [] (l) S_w.out).blk
 obtain ⟨j8, hj8⟩ := i108
 have hsz : j8.size ≠ 0 := by
  have h : (Tryz.prog.info? 108).map (·.size) = some 2 := by kernel_rfl
  rw [hj8] at h
  simp only [Option.map_some, Option.some.injEq] at h
  omega
 have hsh : w.shape? g = some (110, 4) := by
  have := Sep.blk S_w.out
  simp [World.shape?, this]
 have k1 := Lib.run_to_unsafe (P := Tryz.prog) w (src := 106) (dst := 263) (t := 108) (e := 110) (cells := 4) ⟨g, 0, none⟩ Tryz.underlying106 Tryz.underlying263 hj8 hsz hsh (by show 0 < 4; omega)
 have k2 := Lib.run_from_unsafe (P := Tryz.prog) w (src := 263) (dst := 106) (u := 108) (e := 110) (cells := 4) ⟨g, 0, none⟩ Tryz.underlying263 Tryz.underlying106 hj8 hsh (by kernel_rfl)
 have k3 := fun x => AI.noEscape x w
 go_enter Tryz.func77, Tryz.ntmps77
 go_wp2_with (first | ((with_reducible refine gate_store (t := 106) (p := 13) rfl ?_); go_must (refine store_event (t := 106) (p := 13) (v := ?vo_1) (w1 := (w.setCell ⟨g, 0, none⟩ (.pointer (some ⟨g, 0, none⟩)))) ?hg ?ho ?hn ?hr ?_; (case ho => rfl); (case hg => rfl); (case hn => rfl); (case hr => first | (go_simp; done) | (go_simp; rfl)); intro w_1 hw; have B_w_1 : Aside0 (Below (base) w w_1) := ⟨by rw [hw]; exact (Below.setCell B_w.out ((Sep.front [] (l) S_w.out).blk_le) _)⟩; have S_w_1 : Aside0 (Sep (base) (Stars (Blk g #[.pointer (some ⟨g, 0, none⟩), v, x, y] 110 :: l)) w_1) := ⟨by rw [hw]; exact Sep.back [] (l) (Sep.store (Sep.front [] (l) S_w.out) (Nat.le_trans (hbase) B_w.out.size) 0 (.pointer (some ⟨g, 0, none⟩)) (cs' := #[.pointer (some ⟨g, 0, none⟩), v, x, y]) rfl)⟩; obtain ⟨c_g_0_w_1, c_g_1_w_1, c_g_2_w_1, c_g_3_w_1⟩ := XW.cells4 (Sep.front [] (l) S_w_1.out).blk; obtain ⟨z_g_0_w_1, z_g_1_w_1, z_g_2_w_1, z_g_3_w_1⟩ := XW.froz4 (Sep.front [] (l) S_w_1.out).blk; clear S_w c_g_0_w c_g_1_w c_g_2_w c_g_3_w z_g_0_w z_g_1_w z_g_2_w z_g_3_w; clear hw)))
 go_end0
 exact ⟨rfl, S_w_1.out, B_w_1.out⟩
theorem check_is {base g : Nat} {v x y : Value} {l : List Assn} (w : World) (hbase : base ≤ w.heap.size) {p : Value} (hp : p = .pointer none ∨ p = .pointer (some ⟨g, 0, none⟩)) (h : Sep base (Star (Blk g #[p, v, x, y] 110) (Stars l)) w) : Calls Tryz.prog 77 #[.pointer (some ⟨g, 0, none⟩)] w fun e w' => e = .returned (.tuple #[]) ∧ Sep base (Star (Blk g #[.pointer (some ⟨g, 0, none⟩), v, x, y] 110) (Stars l)) w' ∧ Below base w w' := by
 rcases hp with rfl | rfl
 ·exact check_new w hbase h
 ·exact (check_same w hbase h).mono (by rintro e w' ⟨rfl, rfl⟩; exact ⟨rfl, h, Below.refl _ _⟩)
set_option maxHeartbeats 8000000 in
set_option maxRecDepth 100000 in
theorem write_is {base g : Nat} {v x y : Value} {l : List Assn} {bs : List Int} (w : World) (hbase : base ≤ w.heap.size) {p : Value} (hp : p = .pointer none ∨ p = .pointer (some ⟨g, 0, none⟩)) (hl : bs.length ≤ 100000) (b : Int) (h : Sep base (Star (Blk g #[p, v, x, y] 110) (Stars (Row (Kd.int .u8) 5 v bs :: l))) w) : Calls Tryz.prog 34 #[.pointer (some ⟨g, 0, none⟩), .int .u8 b] w fun e w' => ∃ v1, e = .returned .nilIface ∧ Sep base (Star (Blk g #[.pointer (some ⟨g, 0, none⟩), v1, x, y] 110) (Stars (Row (Kd.int .u8) 5 v1 (bs ++ [b]) :: l))) w' ∧ Below base w w' := by
 obtain ⟨A0, c0, rfl, -, -⟩ := Sep.row (Sep.front [Blk g #[p, v, x, y] 110] l h)
 have HL := Aside0.mk hl
 clear hl
 have F_w := Aside0.mk h
 have S_w : Aside0 (Sep (base) (Stars (Blk g #[p, .slice A0 bs.length c0, x, y] 110 :: Row (Kd.int .u8) 5 (.slice A0 bs.length c0) (bs) :: l)) w) := ⟨h⟩
 have B_w := Aside0.mk (Below.refl base w)
 clear h
 obtain ⟨c_g_0_w, c_g_1_w, c_g_2_w, c_g_3_w⟩ := XW.cells4 (Sep.front [] (Row (Kd.int .u8) 5 (.slice A0 bs.length c0) (bs) :: l) S_w.out).blk
 obtain ⟨z_g_0_w, z_g_1_w, z_g_2_w, z_g_3_w⟩ := XW.froz4 (Sep.front [] (Row (Kd.int .u8) 5 (.slice A0 bs.length c0) (bs) :: l) S_w.out).blk
 go_enter Tryz.func34, Tryz.ntmps34
 go_wp2_with (first | (go_at_call 77; (with_reducible refine (check_is w (Nat.le_trans (hbase) B_w.out.size) hp F_w.out).mono ?_); rintro e w_1 ⟨rfl, hS, hb⟩; have B_w_1 : Aside0 (Below (base) w w_1) := ⟨(Below.trans B_w.out hb)⟩; have S_w_1 : Aside0 (Sep (base) (Stars (Blk g #[.pointer (some ⟨g, 0, none⟩), .slice A0 bs.length c0, x, y] 110 :: Row (Kd.int .u8) 5 (.slice A0 bs.length c0) (bs) :: l)) w_1) := ⟨hS⟩; obtain ⟨c_g_0_w_1, c_g_1_w_1, c_g_2_w_1, c_g_3_w_1⟩ := XW.cells4 (Sep.front [] (Row (Kd.int .u8) 5 (.slice A0 bs.length c0) (bs) :: l) S_w_1.out).blk; obtain ⟨z_g_0_w_1, z_g_1_w_1, z_g_2_w_1, z_g_3_w_1⟩ := XW.froz4 (Sep.front [] (Row (Kd.int .u8) 5 (.slice A0 bs.length c0) (bs) :: l) S_w_1.out).blk; clear S_w c_g_0_w c_g_1_w c_g_2_w c_g_3_w z_g_0_w z_g_1_w z_g_2_w z_g_3_w; clear hS hb) | ((with_reducible refine gate_builtin (b := .append) (xs := #[.tmp 11, .tmp 13]) rfl ?_); at_builtin; go_must (refine sep_append (enc := Value.int .u8) (h1 := fun _ => rfl) (base) rfl (.tmp 11) (.tmp 13) 92 5 (.int .u8 0) 1 rfl Tryz.underlying92 info5 rfl (by decide) _ (bs) (b) rfl rfl (Sep.front [Blk g #[.pointer (some ⟨g, 0, none⟩), .slice A0 bs.length c0, x, y] 110] (l) S_w_1.out) (Nat.le_trans (hbase) B_w_1.out.size) ?al ?_); (case al => have h0 := HL.out; omega); intro vq w_2 hS hb; obtain ⟨A1, c1, hv, -, hC9⟩ := Sep.row hS; subst hv; clear hC9; have B_w_2 : Aside0 (Below (base) w w_2) := ⟨(Below.trans B_w_1.out hb)⟩; have S_w_2 : Aside0 (Sep (base) (Stars (Blk g #[.pointer (some ⟨g, 0, none⟩), .slice A0 bs.length c0, x, y] 110 :: Row (Kd.int .u8) 5 (.slice A1 (bs ++ [b]).length c1) (bs ++ [b]) :: l)) w_2) := ⟨Sep.back [Blk g #[.pointer (some ⟨g, 0, none⟩), .slice A0 bs.length c0, x, y] 110] (l) hS⟩; obtain ⟨c_g_0_w_2, c_g_1_w_2, c_g_2_w_2, c_g_3_w_2⟩ := XW.cells4 (Sep.front [] (Row (Kd.int .u8) 5 (.slice A1 (bs ++ [b]).length c1) (bs ++ [b]) :: l) S_w_2.out).blk; obtain ⟨z_g_0_w_2, z_g_1_w_2, z_g_2_w_2, z_g_3_w_2⟩ := XW.froz4 (Sep.front [] (Row (Kd.int .u8) 5 (.slice A1 (bs ++ [b]).length c1) (bs ++ [b]) :: l) S_w_2.out).blk; clear S_w_1 c_g_0_w_1 c_g_1_w_1 c_g_2_w_1 c_g_3_w_1 z_g_0_w_1 z_g_1_w_1 z_g_2_w_1 z_g_3_w_1; clear hS hb) | ((with_reducible refine gate_store (t := 92) (p := 16) rfl ?_); go_must (refine store_event (t := 92) (p := 16) (v := ?vo_2) (w1 := (w_2.setCell ⟨g, 1, none⟩ (.slice A1 (bs ++ [b]).length c1))) ?hg ?ho ?hn ?hr ?_; (case ho => rfl); (case hg => rfl); (case hn => rfl); (case hr => first | (go_simp; done) | (go_simp; rfl)); intro w_3 hw; have B_w_3 : Aside0 (Below (base) w w_3) := ⟨by rw [hw]; exact (Below.setCell B_w_2.out ((Sep.front [] (Row (Kd.int .u8) 5 (.slice A1 (bs ++ [b]).length c1) (bs ++ [b]) :: l) S_w_2.out).blk_le) _)⟩; have S_w_3 : Aside0 (Sep (base) (Stars (Blk g #[.pointer (some ⟨g, 0, none⟩), .slice A1 (bs ++ [b]).length c1, x, y] 110 :: Row (Kd.int .u8) 5 (.slice A1 (bs ++ [b]).length c1) (bs ++ [b]) :: l)) w_3) := ⟨by rw [hw]; exact Sep.back [] (Row (Kd.int .u8) 5 (.slice A1 (bs ++ [b]).length c1) (bs ++ [b]) :: l) (Sep.store (Sep.front [] (Row (Kd.int .u8) 5 (.slice A1 (bs ++ [b]).length c1) (bs ++ [b]) :: l) S_w_2.out) (Nat.le_trans (hbase) B_w_2.out.size) 1 (.slice A1 (bs ++ [b]).length c1) (cs' := #[.pointer (some ⟨g, 0, none⟩), .slice A1 (bs ++ [b]).length c1, x, y]) rfl)⟩; obtain ⟨c_g_0_w_3, c_g_1_w_3, c_g_2_w_3, c_g_3_w_3⟩ := XW.cells4 (Sep.front [] (Row (Kd.int .u8) 5 (.slice A1 (bs ++ [b]).length c1) (bs ++ [b]) :: l) S_w_3.out).blk; obtain ⟨z_g_0_w_3, z_g_1_w_3, z_g_2_w_3, z_g_3_w_3⟩ := XW.froz4 (Sep.front [] (Row (Kd.int .u8) 5 (.slice A1 (bs ++ [b]).length c1) (bs ++ [b]) :: l) S_w_3.out).blk; clear S_w_2 c_g_0_w_2 c_g_1_w_2 c_g_2_w_2 c_g_3_w_2 z_g_0_w_2 z_g_1_w_2 z_g_2_w_2 z_g_3_w_2; clear hw)))
 go_ret
 exact ⟨_, rfl, S_w_3.out, B_w_3.out⟩
set_option maxHeartbeats 8000000 in
set_option maxRecDepth 100000 in
theorem reset_is {base g : Nat} {v x y : Value} {l : List Assn} (w : World) (hbase : base ≤ w.heap.size) {p : Value} (h : Sep base (Star (Blk g #[p, v, x, y] 110) (Stars l)) w) : Calls Tryz.prog 36 #[.pointer (some ⟨g, 0, none⟩)] w fun e w' => e = .returned (.tuple #[]) ∧ Sep base (Star (Blk g #[.pointer none, .slice none 0 0, x, y] 110) (Stars l)) w' ∧ Below base w w' := by
 have F_w := Aside0.mk h
 have S_w : Aside0 (Sep (base) (Stars (Blk g #[p, v, x, y] 110 :: l)) w) := ⟨h⟩
 have B_w := Aside0.mk (Below.refl base w)
 clear h
 obtain ⟨c_g_0_w, c_g_1_w, c_g_2_w, c_g_3_w⟩ := XW.cells4 (Sep.front [] (l) S_w.out).blk
 obtain ⟨z_g_0_w, z_g_1_w, z_g_2_w, z_g_3_w⟩ := XW.froz4 (Sep.front [] (l) S_w.out).blk
 go_enter Tryz.func36, Tryz.ntmps36
 go_wp2_with (first | ((with_reducible refine gate_store (t := 106) (p := 4) rfl ?_); go_must (refine store_event (t := 106) (p := 4) (v := ?vo_3) (w1 := (w.setCell ⟨g, 0, none⟩ (.pointer none))) ?hg ?ho ?hn ?hr ?_; (case ho => rfl); (case hg => rfl); (case hn => rfl); (case hr => first | (go_simp; done) | (go_simp; rfl)); intro w_1 hw; have B_w_1 : Aside0 (Below (base) w w_1) := ⟨by rw [hw]; exact (Below.setCell B_w.out ((Sep.front [] (l) S_w.out).blk_le) _)⟩; have S_w_1 : Aside0 (Sep (base) (Stars (Blk g #[.pointer none, v, x, y] 110 :: l)) w_1) := ⟨by rw [hw]; exact Sep.back [] (l) (Sep.store (Sep.front [] (l) S_w.out) (Nat.le_trans (hbase) B_w.out.size) 0 (.pointer none) (cs' := #[.pointer none, v, x, y]) rfl)⟩; obtain ⟨c_g_0_w_1, c_g_1_w_1, c_g_2_w_1, c_g_3_w_1⟩ := XW.cells4 (Sep.front [] (l) S_w_1.out).blk; obtain ⟨z_g_0_w_1, z_g_1_w_1, z_g_2_w_1, z_g_3_w_1⟩ := XW.froz4 (Sep.front [] (l) S_w_1.out).blk; clear S_w c_g_0_w c_g_1_w c_g_2_w c_g_3_w z_g_0_w z_g_1_w z_g_2_w z_g_3_w; clear hw)) | ((with_reducible refine gate_store (t := 92) (p := 7) rfl ?_); go_must (refine store_event (t := 92) (p := 7) (v := ?vo_4) (w1 := (w_1.setCell ⟨g, 1, none⟩ (.slice none 0 0))) ?hg ?ho ?hn ?hr ?_; (case ho => rfl); (case hg => rfl); (case hn => rfl); (case hr => first | (go_simp; done) | (go_simp; rfl)); intro w_2 hw; have B_w_2 : Aside0 (Below (base) w w_2) := ⟨by rw [hw]; exact (Below.setCell B_w_1.out ((Sep.front [] (l) S_w_1.out).blk_le) _)⟩; have S_w_2 : Aside0 (Sep (base) (Stars (Blk g #[.pointer none, .slice none 0 0, x, y] 110 :: l)) w_2) := ⟨by rw [hw]; exact Sep.back [] (l) (Sep.store (Sep.front [] (l) S_w_1.out) (Nat.le_trans (hbase) B_w_1.out.size) 1 (.slice none 0 0) (cs' := #[.pointer none, .slice none 0 0, x, y]) rfl)⟩; obtain ⟨c_g_0_w_2, c_g_1_w_2, c_g_2_w_2, c_g_3_w_2⟩ := XW.cells4 (Sep.front [] (l) S_w_2.out).blk; obtain ⟨z_g_0_w_2, z_g_1_w_2, z_g_2_w_2, z_g_3_w_2⟩ := XW.froz4 (Sep.front [] (l) S_w_2.out).blk; clear S_w_1 c_g_0_w_1 c_g_1_w_1 c_g_2_w_1 c_g_3_w_1 z_g_0_w_1 z_g_1_w_1 z_g_2_w_1 z_g_3_w_1; clear hw)))
 go_end0
 exact ⟨rfl, S_w_2.out, B_w_2.out⟩
end Go.Proofs.YtphdjpfdelpecaaGreatDoor.FrmA
