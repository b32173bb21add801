/- Frames: Feed. Conditions: none beyond those that each theorem states. -/
import Derived.Test.YtphdjpfdelpecaaGreatDoorFrmF
namespace Go.Proofs.YtphdjpfdelpecaaGreatDoor.FrmA
open Go.RowKit Go.Proofs.YtphdjpfdelpecaaGreatDoorW.PrintWords Go.Proofs.YtphdjpfdelpecaaGreatDoorW.PrintLast Go.Proofs.YtphdjpfdelpecaaGreatDoorW.PrintMore Go.Proofs.YtphdjpfdelpecaaGreatDoor.XS Go.Proofs.YtphdjpfdelpecaaGreatDoor.PTopf
set_option linter.unusedVariables false
set_option linter.unusedSimpArgs false
theorem info9 : (Tryz.prog.info? 9).map (fun i => (i.zero, i.size, i.bytes)) = some (some (.string ⟨#[]⟩), 1, 16) := by kernel_rfl
def feedL : List UInt8 → List UInt8 → List ByteArray → Option (List ByteArray)
 | [], pc, acc => some acc
 | u :: r, pc, acc => if u = 126 then (if pc = [] then feedL r [] acc else (endR ⟨pc.toArray⟩).bind fun te => feedL r [] (if te.2 then acc ++ [te.1] else acc)) else feedL r (pc ++ [u]) acc
theorem fresh_row {base : Nat} {B : Assn} {l : List Assn} {w : World} (h : Sep base (Stars (B :: l)) w) : Sep base (Stars (B :: Row (Kd.int .u8) 5 (.slice none 0 0) [] :: l)) w := Sep.back [B] l (Sep.nil_row (Kd.int .u8) 5 h)
theorem tail_ {base : Nat} {A : Assn} {l : List Assn} {w : World} (h : Sep base (Stars (A :: l)) w) : Sep base (Stars l) w := Sep.right h
theorem drop_row {base : Nat} {B R : Assn} {l : List Assn} {w : World} (h : Sep base (Stars (B :: R :: l)) w) : Sep base (Stars (B :: l)) w := (Sep.front [B] l h).right
theorem bt_u (s : ByteArray) (j : Nat) (h : j < s.size) : ∃ u : UInt8, s.data.toList.drop j = u :: s.data.toList.drop (j + 1) ∧ bt s (j : Int) = (u.toNat : Int) := by
 have hl : j < s.data.toList.length := by rw [data_length]; exact h
 refine ⟨s.data.toList[j], List.drop_eq_getElem_cons hl, ?_⟩
 rw [← rd_bytesOf]
 simp [rd, bytesOf, List.getD_eq_getElem?_getD, List.getElem?_eq_getElem hl]
theorem write_s {base g : Nat} {v x y : Value} {l : List Assn} {bs : List Int} (w : World) (hbase : base ≤ w.heap.size) {p : Value} (hp : p = .pointer none ∨ p = .pointer (some ⟨g, 0, none⟩)) (hl : bs.length ≤ 100000) (b : Int) (h : Sep base (Stars (Blk g #[p, v, x, y] 110 :: Row (Kd.int .u8) 5 v bs :: l)) w) : Calls Tryz.prog 34 #[.pointer (some ⟨g, 0, none⟩), .int .u8 b] w fun e w' => ∃ v1, e = .returned .nilIface ∧ Sep base (Stars (Blk g #[.pointer (some ⟨g, 0, none⟩), v1, x, y] 110 :: Row (Kd.int .u8) 5 v1 (bs ++ [b]) :: l)) w' ∧ Below base w w' := write_is w hbase hp hl b h
theorem reset_s {base g : Nat} {v x y : Value} {l : List Assn} (w : World) (hbase : base ≤ w.heap.size) {p : Value} (h : Sep base (Stars (Blk g #[p, v, x, y] 110 :: l)) w) : Calls Tryz.prog 36 #[.pointer (some ⟨g, 0, none⟩)] w fun e w' => e = .returned (.tuple #[]) ∧ Sep base (Stars (Blk g #[.pointer none, .slice none 0 0, x, y] 110 :: l)) w' ∧ Below base w w' := reset_is w hbase h
set_option maxHeartbeats 8000000 in
set_option maxRecDepth 100000 in
theorem feed_is {base g : Nat} {l : List Assn} (w : World) (hbase : base ≤ w.heap.size) (s : ByteArray) (hs : s.size ≤ 4900) (L : List ByteArray) (hL : feedL s.data.toList [] [] = some L) (h : Sep base (Stars (Blk g #[.pointer none, .slice none 0 0, .bool false, .int .i64 0] 110 :: l)) w) : Calls Tryz.prog 15 #[.pointer (some ⟨g, 0, none⟩), .string s] w fun e w' => ∃ v, e = .returned v ∧ Sep base (Stars (Row Kd.string 9 v L :: l)) w' ∧ Below base w w' := by
 have HZ := Aside0.mk hs
 have HFL := Aside0.mk hL
 clear hs hL
 have kb := fun W => print_bytes (P := Tryz.prog) 9 92 5 Tryz.underlying9 Tryz.underlying92 Tryz.underlying5 s W
 have HS0 := Aside0.mk h
 have B_w := Aside0.mk (Below.refl base w)
 clear h
 go_enter Tryz.func15, Tryz.ntmps15
 go_wp2
 have HBL := Aside0.mk (bytes_below B_w.out hbase 5 s)
 have h1 : Sep base (Stars (Blk g #[.pointer none, .slice none 0 0, .bool false, .int .i64 0] 110 :: Row (Kd.int .u8) 5 (.slice none 0 0) [] :: l)) w := fresh_row HS0.out
 have h2 : Sep base (Stars (Blk g #[.pointer none, .slice none 0 0, .bool false, .int .i64 0] 110 :: Row (Kd.int .u8) 5 (.slice none 0 0) [] :: Row Kd.string 9 (.slice none 0 0) [] :: l)) w := Sep.back [Blk g #[.pointer none, .slice none 0 0, .bool false, .int .i64 0] 110, Row (Kd.int .u8) 5 (.slice none 0 0) []] l (Sep.nil_row Kd.string 9 h1)
 have HSL := Aside0.mk (Sep.back [Blk g #[.pointer none, .slice none 0 0, .bool false, .int .i64 0] 110, Row (Kd.int .u8) 5 (.slice none 0 0) [], Row Kd.string 9 (.slice none 0 0) []] l (new_kept h2 hbase rfl (bytes_below (Below.refl w.heap.size w) (Nat.le_refl _) 5 s) (Lib.bytesWorld_at_new w 5 s)))
 clear h1 h2
 have HK : Aside0 (∀ v : World, v.heap[w.heap.size]? = some (.cells (Lib.bytesCells w 5 s) 5 ((Lib.bytesCells w 5 s).size, (Lib.bytesCells w 5 s).size + 1)) → ReadsInt v .u8 (some ⟨w.heap.size, 0, none⟩) s.size (bytesOf s)) := ⟨fun v hv => reads_congr (bytes_reads w 5 s (by have := HZ.out; omega)) (by intro ad e; cases e; rw [hv]; exact (Lib.bytesWorld_at_new w 5 s).symm)⟩
 clear B_w HS0 kb
 generalize Lib.bytesWorld w 5 s = W2 at HBL HSL ⊢
 generalize (Obj.cells (Lib.bytesCells w 5 s) 5 ((Lib.bytesCells w 5 s).size, (Lib.bytesCells w 5 s).size + 1)) = TO at HSL HK
 obtain ⟨gs, hgs⟩ : ∃ gs, w.heap.size = gs := ⟨_, rfl⟩
 rw [hgs] at HSL HK ⊢
 clear hgs
 generalize grownCap w s.size 0 5 = cc
 go_loopw [5, 15] (fun v5 i wr => ∃ (j : Nat) (pc : List UInt8) (acc : List ByteArray) (p v vl : Value) (y : Int), j ≤ s.size ∧ i = .int .i64 j ∧ v5 = vl ∧ Aside0 (p = .pointer none ∨ p = .pointer (some ⟨g, 0, none⟩)) ∧ Aside0 (feedL (s.data.toList.drop j) pc acc = some L) ∧ Aside0 (pc.length ≤ j) ∧ Aside0 (acc.length ≤ j) ∧ Aside0 (Sep base (Stars (Blk g #[p, v, .bool false, .int .i64 y] 110 :: Row (Kd.int .u8) 5 v (pc.map fun b => (b.toNat : Int)) :: Row Kd.string 9 vl acc :: Kept gs TO :: l)) wr) ∧ Aside0 (Below base w wr)) (fun _ i _ => s.size - (intOf i).toNat)
 case atStart => exact ⟨0, [], [], _, _, _, 0, by omega, rfl, rfl, ⟨.inl rfl⟩, HFL, ⟨by simp⟩, ⟨by simp⟩, HSL, HBL⟩
 case round =>
  clear HSL HBL HFL
  obtain ⟨j, pc, acc, p, v, vl, y, hj, rfl, rfl, HP, HL, HN, HA, S_wr, B_wr⟩ := hrel
  have hz := HZ.out
  obtain ⟨Al, cl, rfl, -, -⟩ := Sep.row (Sep.front [_, _] (_ :: l) S_wr.out)
  by_cases hlt : j < s.size
  ·have hlt2 : (j : Int) < (s.size : Int) := by omega
   have hlt3 : decide ((j : Int) < (s.size : Int)) = true := decide_eq_true hlt2
   obtain ⟨ad, had, hcell⟩ := (HK.out wr (kept (Sep.front [_, _, _] l S_wr.out))).at_ (j : Int) (by omega) hlt2
   cases had
   rw [Int.toNat_natCast, rd_bytesOf, add_plain] at hcell
   try simp only [Nat.zero_add] at hcell
   obtain ⟨u, hdr, hbu⟩ := bt_u s j hlt
   rw [hbu] at hcell
   have hl := HL.out
   rw [hdr] at hl
   simp only [feedL] at hl
   clear HL hdr hbu
   obtain ⟨A0, c0, rfl, -, -⟩ := Sep.row (Sep.front [_] (_ :: _ :: l) S_wr.out)
   simp only [List.length_map] at S_wr ⊢
   have hn := HN.out
   have ha := HA.out
   by_cases hu : u = 126
   rotate_left
   ·rw [if_neg hu] at hl
    have HL2 := Aside0.mk hl
    have hne : (u.toNat : Int) ≠ 126 := fun e => hu (UInt8.toNat_inj.1 (by show u.toNat = 126; omega))
    have b1 : ((u.toNat : Int) != 126) = true := bne_iff_ne.mpr hne
    have b2 : ((u.toNat : Int) == 126) = false := beq_eq_false_iff_ne.mpr hne
    have b3 : decide ((pc.length : Int) < 5000) = true := decide_eq_true (by omega)
    have b4 : decide (pc.length < 5000) = true := decide_eq_true (by omega)
    clear hl hu hne
    obtain ⟨c_g_0_wr, c_g_1_wr, c_g_2_wr, c_g_3_wr⟩ := XW.cells4 (Sep.front [] (Row (Kd.int .u8) 5 (.slice A0 pc.length c0) ((pc.map fun b => (b.toNat : Int))) :: Row Kd.string 9 (.slice Al acc.length cl) (acc) :: Kept gs TO :: l) S_wr.out).blk
    obtain ⟨z_g_0_wr, z_g_1_wr, z_g_2_wr, z_g_3_wr⟩ := XW.froz4 (Sep.front [] (Row (Kd.int .u8) 5 (.slice A0 pc.length c0) ((pc.map fun b => (b.toNat : Int))) :: Row Kd.string 9 (.slice Al acc.length cl) (acc) :: Kept gs TO :: l) S_wr.out).blk
    go_wp2_with (first | (go_at_call 33; (with_reducible refine (len_is wr g pc.length c0 A0 c_g_1_wr).mono ?_); rintro e w' ⟨rfl, rfl⟩) | (go_at_call 34; (with_reducible refine (write_s wr (Nat.le_trans (hbase) B_wr.out.size) HP.out (by have := HN.out; simp; omega) _ S_wr.out).mono ?_); rintro e wr_1 ⟨v1, rfl, hS, hb⟩; have B_wr_1 : Aside0 (Below (base) w wr_1) := ⟨(Below.trans B_wr.out hb)⟩; have S_wr_1 : Aside0 (Sep (base) (Stars (Blk g #[.pointer (some ⟨g, 0, none⟩), v1, .bool false, .int .i64 y] 110 :: Row (Kd.int .u8) 5 (v1) ((pc.map fun b => (b.toNat : Int)) ++ [(u.toNat : Int)]) :: Row Kd.string 9 (.slice Al acc.length cl) (acc) :: Kept gs TO :: l)) wr_1) := ⟨hS⟩; obtain ⟨c_g_0_wr_1, c_g_1_wr_1, c_g_2_wr_1, c_g_3_wr_1⟩ := XW.cells4 (Sep.front [] (Row (Kd.int .u8) 5 (v1) ((pc.map fun b => (b.toNat : Int)) ++ [(u.toNat : Int)]) :: Row Kd.string 9 (.slice Al acc.length cl) (acc) :: Kept gs TO :: l) S_wr_1.out).blk; obtain ⟨z_g_0_wr_1, z_g_1_wr_1, z_g_2_wr_1, z_g_3_wr_1⟩ := XW.froz4 (Sep.front [] (Row (Kd.int .u8) 5 (v1) ((pc.map fun b => (b.toNat : Int)) ++ [(u.toNat : Int)]) :: Row Kd.string 9 (.slice Al acc.length cl) (acc) :: Kept gs TO :: l) S_wr_1.out).blk; clear S_wr c_g_0_wr c_g_1_wr c_g_2_wr c_g_3_wr z_g_0_wr z_g_1_wr z_g_2_wr z_g_3_wr; clear hS hb))
    go_roundw
    case rel => exact ⟨j + 1, pc ++ [u], acc, _, _, _, _, by omega, by go_num, rfl, ⟨.inr rfl⟩, ⟨HL2.out⟩, ⟨by have := HN.out; simp; omega⟩, ⟨by have := HA.out; omega⟩, ⟨by have := S_wr_1.out; simpa only [List.map_append, List.map_cons, List.map_nil] using this⟩, B_wr_1⟩
    case measure => simp [intOf]; omega
   ·subst hu
    rw [if_pos rfl] at hl
    have hu : (((126 : UInt8).toNat : Nat) : Int) = 126 := by decide
    rw [hu] at hcell
    by_cases hpc : pc = []
    ·subst hpc
     rw [if_pos rfl] at hl
     have HL2 := Aside0.mk hl
     simp only [List.map_nil, List.length_nil] at S_wr ⊢
     clear hl
     obtain ⟨c_g_0_wr, c_g_1_wr, c_g_2_wr, c_g_3_wr⟩ := XW.cells4 (Sep.front [] (Row (Kd.int .u8) 5 (.slice A0 0 c0) ([]) :: Row Kd.string 9 (.slice Al acc.length cl) (acc) :: Kept gs TO :: l) S_wr.out).blk
     obtain ⟨z_g_0_wr, z_g_1_wr, z_g_2_wr, z_g_3_wr⟩ := XW.froz4 (Sep.front [] (Row (Kd.int .u8) 5 (.slice A0 0 c0) ([]) :: Row Kd.string 9 (.slice Al acc.length cl) (acc) :: Kept gs TO :: l) S_wr.out).blk
     go_wp2_with (first | (go_at_call 33; (with_reducible refine (len_is wr g 0 c0 A0 c_g_1_wr).mono ?_); rintro e w' ⟨rfl, rfl⟩) | (go_at_call 36; (with_reducible refine (reset_s wr (Nat.le_trans (hbase) B_wr.out.size) S_wr.out).mono ?_); rintro e wr_1 ⟨rfl, hS, hb⟩; have B_wr_1 : Aside0 (Below (base) w wr_1) := ⟨(Below.trans B_wr.out hb)⟩; have S_wr_1 : Aside0 (Sep (base) (Stars (Blk g #[.pointer none, .slice none 0 0, .bool false, .int .i64 y] 110 :: Row (Kd.int .u8) 5 (.slice A0 0 c0) ([]) :: Row Kd.string 9 (.slice Al acc.length cl) (acc) :: Kept gs TO :: l)) wr_1) := ⟨hS⟩; obtain ⟨c_g_0_wr_1, c_g_1_wr_1, c_g_2_wr_1, c_g_3_wr_1⟩ := XW.cells4 (Sep.front [] (Row (Kd.int .u8) 5 (.slice A0 0 c0) ([]) :: Row Kd.string 9 (.slice Al acc.length cl) (acc) :: Kept gs TO :: l) S_wr_1.out).blk; obtain ⟨z_g_0_wr_1, z_g_1_wr_1, z_g_2_wr_1, z_g_3_wr_1⟩ := XW.froz4 (Sep.front [] (Row (Kd.int .u8) 5 (.slice A0 0 c0) ([]) :: Row Kd.string 9 (.slice Al acc.length cl) (acc) :: Kept gs TO :: l) S_wr_1.out).blk; clear S_wr c_g_0_wr c_g_1_wr c_g_2_wr c_g_3_wr z_g_0_wr z_g_1_wr z_g_2_wr z_g_3_wr; clear hS hb) | ((with_reducible refine gate_store (t := 4) (p := 69) rfl ?_); go_must (refine store_event (t := 4) (p := 69) (v := ?vo_1) (w1 := (wr_1.setCell ⟨g, 2, none⟩ (.bool false))) ?hg ?ho ?hn ?hr ?_; (case ho => rfl); (case hg => rfl); (case hn => rfl); (case hr => first | (go_simp; done) | (go_simp; rfl)); intro wr_2 hw; have B_wr_2 : Aside0 (Below (base) w wr_2) := ⟨by rw [hw]; exact (Below.setCell B_wr_1.out ((Sep.front [] (Row (Kd.int .u8) 5 (.slice A0 0 c0) ([]) :: Row Kd.string 9 (.slice Al acc.length cl) (acc) :: Kept gs TO :: l) S_wr_1.out).blk_le) _)⟩; have S_wr_2 : Aside0 (Sep (base) (Stars (Blk g #[.pointer none, .slice none 0 0, .bool false, .int .i64 y] 110 :: Row (Kd.int .u8) 5 (.slice A0 0 c0) ([]) :: Row Kd.string 9 (.slice Al acc.length cl) (acc) :: Kept gs TO :: l)) wr_2) := ⟨by rw [hw]; exact Sep.back [] (Row (Kd.int .u8) 5 (.slice A0 0 c0) ([]) :: Row Kd.string 9 (.slice Al acc.length cl) (acc) :: Kept gs TO :: l) (Sep.store (Sep.front [] (Row (Kd.int .u8) 5 (.slice A0 0 c0) ([]) :: Row Kd.string 9 (.slice Al acc.length cl) (acc) :: Kept gs TO :: l) S_wr_1.out) (Nat.le_trans (hbase) B_wr_1.out.size) 2 (.bool false) (cs' := #[.pointer none, .slice none 0 0, .bool false, .int .i64 y]) rfl)⟩; obtain ⟨c_g_0_wr_2, c_g_1_wr_2, c_g_2_wr_2, c_g_3_wr_2⟩ := XW.cells4 (Sep.front [] (Row (Kd.int .u8) 5 (.slice A0 0 c0) ([]) :: Row Kd.string 9 (.slice Al acc.length cl) (acc) :: Kept gs TO :: l) S_wr_2.out).blk; obtain ⟨z_g_0_wr_2, z_g_1_wr_2, z_g_2_wr_2, z_g_3_wr_2⟩ := XW.froz4 (Sep.front [] (Row (Kd.int .u8) 5 (.slice A0 0 c0) ([]) :: Row Kd.string 9 (.slice Al acc.length cl) (acc) :: Kept gs TO :: l) S_wr_2.out).blk; clear S_wr_1 c_g_0_wr_1 c_g_1_wr_1 c_g_2_wr_1 c_g_3_wr_1 z_g_0_wr_1 z_g_1_wr_1 z_g_2_wr_1 z_g_3_wr_1; clear hw)))
     go_roundw
     case rel => exact ⟨j + 1, [], acc, _, _, _, _, by omega, by go_num, rfl, ⟨.inl rfl⟩, ⟨HL2.out⟩, ⟨by simp⟩, ⟨by have := HA.out; omega⟩, ⟨fresh_row (drop_row S_wr_2.out)⟩, B_wr_2⟩
     case measure => simp [intOf]; omega
    ·rw [if_neg hpc] at hl
     obtain ⟨⟨t, ok⟩, hE, hl⟩ := Option.bind_eq_some_iff.1 hl
     simp only at hl
     have HE := Aside0.mk hE
     have HPC := Aside0.mk hpc
     have hpos : 0 < pc.length := by cases pc with | nil => exact absurd rfl hpc | cons a r => simp
     obtain ⟨g2, e2, -⟩ := row_block (g := 0) (Sep.front [_] (_ :: _ :: l) S_wr.out) hpos
     subst e2
     have b3 : decide ((0 : Int) < (pc.length : Int)) = true := decide_eq_true (by omega)
     have b4 : decide (0 < pc.length) = true := decide_eq_true hpos
     clear hE hpc
     cases ok with
     | true =>
      simp only [Bool.false_eq_true, if_false, if_true] at hl
      have HL2 := Aside0.mk hl
      clear hl
      obtain ⟨c_g_0_wr, c_g_1_wr, c_g_2_wr, c_g_3_wr⟩ := XW.cells4 (Sep.front [] (Row (Kd.int .u8) 5 (.slice (some ⟨g2, 0, none⟩) pc.length c0) ((pc.map fun b => (b.toNat : Int))) :: Row Kd.string 9 (.slice Al acc.length cl) (acc) :: Kept gs TO :: l) S_wr.out).blk
      obtain ⟨z_g_0_wr, z_g_1_wr, z_g_2_wr, z_g_3_wr⟩ := XW.froz4 (Sep.front [] (Row (Kd.int .u8) 5 (.slice (some ⟨g2, 0, none⟩) pc.length c0) ((pc.map fun b => (b.toNat : Int))) :: Row Kd.string 9 (.slice Al acc.length cl) (acc) :: Kept gs TO :: l) S_wr.out).blk
      go_wp2_with (first | (go_at_call 33; (with_reducible refine (len_is wr g pc.length c0 (some ⟨g2, 0, none⟩) c_g_1_wr).mono ?_); rintro e w' ⟨rfl, rfl⟩) | (go_at_call 35; (with_reducible refine (end_is wr (Nat.le_trans (hbase) B_wr.out.size) HPC.out (by have := HN.out; omega) t true HE.out S_wr.out).mono ?_); rintro e wr_1 ⟨rfl, hS, hb⟩; have B_wr_1 : Aside0 (Below (base) w wr_1) := ⟨(Below.trans B_wr.out hb)⟩; have S_wr_1 : Aside0 (Sep (base) (Stars (Blk g #[p, .slice (some ⟨g2, 0, none⟩) pc.length c0, .bool false, .int .i64 y] 110 :: Row Kd.string 9 (.slice Al acc.length cl) (acc) :: Kept gs TO :: l)) wr_1) := ⟨hS⟩; obtain ⟨c_g_0_wr_1, c_g_1_wr_1, c_g_2_wr_1, c_g_3_wr_1⟩ := XW.cells4 (Sep.front [] (Row Kd.string 9 (.slice Al acc.length cl) (acc) :: Kept gs TO :: l) S_wr_1.out).blk; obtain ⟨z_g_0_wr_1, z_g_1_wr_1, z_g_2_wr_1, z_g_3_wr_1⟩ := XW.froz4 (Sep.front [] (Row Kd.string 9 (.slice Al acc.length cl) (acc) :: Kept gs TO :: l) S_wr_1.out).blk; clear S_wr c_g_0_wr c_g_1_wr c_g_2_wr c_g_3_wr z_g_0_wr z_g_1_wr z_g_2_wr z_g_3_wr; clear hS hb) | ((with_reducible refine gate_builtin (b := .append) (xs := #[.tmp 52, .tmp 54]) rfl ?_); at_builtin; go_must (refine sep_append (enc := Value.string) (h1 := fun _ => rfl) (base) rfl (.tmp 52) (.tmp 54) 34 9 (.string ⟨#[]⟩) 16 rfl Tryz.underlying34 info9 rfl (by decide) _ (acc) (t) rfl rfl (Sep.front [Blk g #[p, .slice (some ⟨g2, 0, none⟩) pc.length c0, .bool false, .int .i64 y] 110] (Kept gs TO :: l) S_wr_1.out) (Nat.le_trans (hbase) B_wr_1.out.size) ?al ?_); (case al => have h0 := HA.out; omega); intro vq wr_2 hS hb; obtain ⟨A1, c1, hv, -, hC9⟩ := Sep.row hS; subst hv; clear hC9; have B_wr_2 : Aside0 (Below (base) w wr_2) := ⟨(Below.trans B_wr_1.out hb)⟩; have S_wr_2 : Aside0 (Sep (base) (Stars (Blk g #[p, .slice (some ⟨g2, 0, none⟩) pc.length c0, .bool false, .int .i64 y] 110 :: Row Kd.string 9 (.slice A1 (acc ++ [t]).length c1) (acc ++ [t]) :: Kept gs TO :: l)) wr_2) := ⟨Sep.back [Blk g #[p, .slice (some ⟨g2, 0, none⟩) pc.length c0, .bool false, .int .i64 y] 110] (Kept gs TO :: l) hS⟩; obtain ⟨c_g_0_wr_2, c_g_1_wr_2, c_g_2_wr_2, c_g_3_wr_2⟩ := XW.cells4 (Sep.front [] (Row Kd.string 9 (.slice A1 (acc ++ [t]).length c1) (acc ++ [t]) :: Kept gs TO :: l) S_wr_2.out).blk; obtain ⟨z_g_0_wr_2, z_g_1_wr_2, z_g_2_wr_2, z_g_3_wr_2⟩ := XW.froz4 (Sep.front [] (Row Kd.string 9 (.slice A1 (acc ++ [t]).length c1) (acc ++ [t]) :: Kept gs TO :: l) S_wr_2.out).blk; clear S_wr_1 c_g_0_wr_1 c_g_1_wr_1 c_g_2_wr_1 c_g_3_wr_1 z_g_0_wr_1 z_g_1_wr_1 z_g_2_wr_1 z_g_3_wr_1; clear hS hb) | (go_at_call 36; (with_reducible refine (reset_s wr_2 (Nat.le_trans (hbase) B_wr_2.out.size) S_wr_2.out).mono ?_); rintro e wr_3 ⟨rfl, hS, hb⟩; have B_wr_3 : Aside0 (Below (base) w wr_3) := ⟨(Below.trans B_wr_2.out hb)⟩; have S_wr_3 : Aside0 (Sep (base) (Stars (Blk g #[.pointer none, .slice none 0 0, .bool false, .int .i64 y] 110 :: Row Kd.string 9 (.slice A1 (acc ++ [t]).length c1) (acc ++ [t]) :: Kept gs TO :: l)) wr_3) := ⟨hS⟩; obtain ⟨c_g_0_wr_3, c_g_1_wr_3, c_g_2_wr_3, c_g_3_wr_3⟩ := XW.cells4 (Sep.front [] (Row Kd.string 9 (.slice A1 (acc ++ [t]).length c1) (acc ++ [t]) :: Kept gs TO :: l) S_wr_3.out).blk; obtain ⟨z_g_0_wr_3, z_g_1_wr_3, z_g_2_wr_3, z_g_3_wr_3⟩ := XW.froz4 (Sep.front [] (Row Kd.string 9 (.slice A1 (acc ++ [t]).length c1) (acc ++ [t]) :: Kept gs TO :: l) S_wr_3.out).blk; clear S_wr_2 c_g_0_wr_2 c_g_1_wr_2 c_g_2_wr_2 c_g_3_wr_2 z_g_0_wr_2 z_g_1_wr_2 z_g_2_wr_2 z_g_3_wr_2; clear hS hb) | ((with_reducible refine gate_store (t := 4) (p := 69) rfl ?_); go_must (refine store_event (t := 4) (p := 69) (v := ?vo_2) (w1 := (wr_3.setCell ⟨g, 2, none⟩ (.bool false))) ?hg ?ho ?hn ?hr ?_; (case ho => rfl); (case hg => rfl); (case hn => rfl); (case hr => first | (go_simp; done) | (go_simp; rfl)); intro wr_4 hw; have B_wr_4 : Aside0 (Below (base) w wr_4) := ⟨by rw [hw]; exact (Below.setCell B_wr_3.out ((Sep.front [] (Row Kd.string 9 (.slice A1 (acc ++ [t]).length c1) (acc ++ [t]) :: Kept gs TO :: l) S_wr_3.out).blk_le) _)⟩; have S_wr_4 : Aside0 (Sep (base) (Stars (Blk g #[.pointer none, .slice none 0 0, .bool false, .int .i64 y] 110 :: Row Kd.string 9 (.slice A1 (acc ++ [t]).length c1) (acc ++ [t]) :: Kept gs TO :: l)) wr_4) := ⟨by rw [hw]; exact Sep.back [] (Row Kd.string 9 (.slice A1 (acc ++ [t]).length c1) (acc ++ [t]) :: Kept gs TO :: l) (Sep.store (Sep.front [] (Row Kd.string 9 (.slice A1 (acc ++ [t]).length c1) (acc ++ [t]) :: Kept gs TO :: l) S_wr_3.out) (Nat.le_trans (hbase) B_wr_3.out.size) 2 (.bool false) (cs' := #[.pointer none, .slice none 0 0, .bool false, .int .i64 y]) rfl)⟩; obtain ⟨c_g_0_wr_4, c_g_1_wr_4, c_g_2_wr_4, c_g_3_wr_4⟩ := XW.cells4 (Sep.front [] (Row Kd.string 9 (.slice A1 (acc ++ [t]).length c1) (acc ++ [t]) :: Kept gs TO :: l) S_wr_4.out).blk; obtain ⟨z_g_0_wr_4, z_g_1_wr_4, z_g_2_wr_4, z_g_3_wr_4⟩ := XW.froz4 (Sep.front [] (Row Kd.string 9 (.slice A1 (acc ++ [t]).length c1) (acc ++ [t]) :: Kept gs TO :: l) S_wr_4.out).blk; clear S_wr_3 c_g_0_wr_3 c_g_1_wr_3 c_g_2_wr_3 c_g_3_wr_3 z_g_0_wr_3 z_g_1_wr_3 z_g_2_wr_3 z_g_3_wr_3; clear hw)))
      go_roundw
      case rel => exact ⟨j + 1, [], acc ++ [t], _, _, _, _, by omega, by go_num, rfl, ⟨.inl rfl⟩, ⟨HL2.out⟩, ⟨by simp⟩, ⟨by have := HA.out; simp; omega⟩, ⟨by have := S_wr_4.out; simp only [List.length_append, List.length_cons, List.length_nil, Nat.zero_add] at this; exact fresh_row this⟩, B_wr_4⟩
      case measure => simp [intOf]; omega
     | false =>
      simp only [Bool.false_eq_true, if_false, if_true] at hl
      have HL2 := Aside0.mk hl
      clear hl
      obtain ⟨c_g_0_wr, c_g_1_wr, c_g_2_wr, c_g_3_wr⟩ := XW.cells4 (Sep.front [] (Row (Kd.int .u8) 5 (.slice (some ⟨g2, 0, none⟩) pc.length c0) ((pc.map fun b => (b.toNat : Int))) :: Row Kd.string 9 (.slice Al acc.length cl) (acc) :: Kept gs TO :: l) S_wr.out).blk
      obtain ⟨z_g_0_wr, z_g_1_wr, z_g_2_wr, z_g_3_wr⟩ := XW.froz4 (Sep.front [] (Row (Kd.int .u8) 5 (.slice (some ⟨g2, 0, none⟩) pc.length c0) ((pc.map fun b => (b.toNat : Int))) :: Row Kd.string 9 (.slice Al acc.length cl) (acc) :: Kept gs TO :: l) S_wr.out).blk
      go_wp2_with (first | (go_at_call 33; (with_reducible refine (len_is wr g pc.length c0 (some ⟨g2, 0, none⟩) c_g_1_wr).mono ?_); rintro e w' ⟨rfl, rfl⟩) | (go_at_call 35; (with_reducible refine (end_is wr (Nat.le_trans (hbase) B_wr.out.size) HPC.out (by have := HN.out; omega) t false HE.out S_wr.out).mono ?_); rintro e wr_1 ⟨rfl, hS, hb⟩; have B_wr_1 : Aside0 (Below (base) w wr_1) := ⟨(Below.trans B_wr.out hb)⟩; have S_wr_1 : Aside0 (Sep (base) (Stars (Blk g #[p, .slice (some ⟨g2, 0, none⟩) pc.length c0, .bool false, .int .i64 y] 110 :: Row Kd.string 9 (.slice Al acc.length cl) (acc) :: Kept gs TO :: l)) wr_1) := ⟨hS⟩; obtain ⟨c_g_0_wr_1, c_g_1_wr_1, c_g_2_wr_1, c_g_3_wr_1⟩ := XW.cells4 (Sep.front [] (Row Kd.string 9 (.slice Al acc.length cl) (acc) :: Kept gs TO :: l) S_wr_1.out).blk; obtain ⟨z_g_0_wr_1, z_g_1_wr_1, z_g_2_wr_1, z_g_3_wr_1⟩ := XW.froz4 (Sep.front [] (Row Kd.string 9 (.slice Al acc.length cl) (acc) :: Kept gs TO :: l) S_wr_1.out).blk; clear S_wr c_g_0_wr c_g_1_wr c_g_2_wr c_g_3_wr z_g_0_wr z_g_1_wr z_g_2_wr z_g_3_wr; clear hS hb) | ((with_reducible refine gate_store (t := 3) (p := 62) rfl ?_); go_must (refine store_event (t := 3) (p := 62) (v := ?vo_3) (w1 := (wr_1.setCell ⟨g, 3, none⟩ (.int .i64 (wrap64 (y + 1))))) ?hg ?ho ?hn ?hr ?_; (case ho => rfl); (case hg => rfl); (case hn => rfl); (case hr => first | (go_simp; done) | (go_simp; rfl)); intro wr_2 hw; have B_wr_2 : Aside0 (Below (base) w wr_2) := ⟨by rw [hw]; exact (Below.setCell B_wr_1.out ((Sep.front [] (Row Kd.string 9 (.slice Al acc.length cl) (acc) :: Kept gs TO :: l) S_wr_1.out).blk_le) _)⟩; have S_wr_2 : Aside0 (Sep (base) (Stars (Blk g #[p, .slice (some ⟨g2, 0, none⟩) pc.length c0, .bool false, .int .i64 (wrap64 (y + 1))] 110 :: Row Kd.string 9 (.slice Al acc.length cl) (acc) :: Kept gs TO :: l)) wr_2) := ⟨by rw [hw]; exact Sep.back [] (Row Kd.string 9 (.slice Al acc.length cl) (acc) :: Kept gs TO :: l) (Sep.store (Sep.front [] (Row Kd.string 9 (.slice Al acc.length cl) (acc) :: Kept gs TO :: l) S_wr_1.out) (Nat.le_trans (hbase) B_wr_1.out.size) 3 (.int .i64 (wrap64 (y + 1))) (cs' := #[p, .slice (some ⟨g2, 0, none⟩) pc.length c0, .bool false, .int .i64 (wrap64 (y + 1))]) rfl)⟩; obtain ⟨c_g_0_wr_2, c_g_1_wr_2, c_g_2_wr_2, c_g_3_wr_2⟩ := XW.cells4 (Sep.front [] (Row Kd.string 9 (.slice Al acc.length cl) (acc) :: Kept gs TO :: l) S_wr_2.out).blk; obtain ⟨z_g_0_wr_2, z_g_1_wr_2, z_g_2_wr_2, z_g_3_wr_2⟩ := XW.froz4 (Sep.front [] (Row Kd.string 9 (.slice Al acc.length cl) (acc) :: Kept gs TO :: l) S_wr_2.out).blk; clear S_wr_1 c_g_0_wr_1 c_g_1_wr_1 c_g_2_wr_1 c_g_3_wr_1 z_g_0_wr_1 z_g_1_wr_1 z_g_2_wr_1 z_g_3_wr_1; clear hw)) | (go_at_call 36; (with_reducible refine (reset_s wr_2 (Nat.le_trans (hbase) B_wr_2.out.size) S_wr_2.out).mono ?_); rintro e wr_3 ⟨rfl, hS, hb⟩; have B_wr_3 : Aside0 (Below (base) w wr_3) := ⟨(Below.trans B_wr_2.out hb)⟩; have S_wr_3 : Aside0 (Sep (base) (Stars (Blk g #[.pointer none, .slice none 0 0, .bool false, .int .i64 (wrap64 (y + 1))] 110 :: Row Kd.string 9 (.slice Al acc.length cl) (acc) :: Kept gs TO :: l)) wr_3) := ⟨hS⟩; obtain ⟨c_g_0_wr_3, c_g_1_wr_3, c_g_2_wr_3, c_g_3_wr_3⟩ := XW.cells4 (Sep.front [] (Row Kd.string 9 (.slice Al acc.length cl) (acc) :: Kept gs TO :: l) S_wr_3.out).blk; obtain ⟨z_g_0_wr_3, z_g_1_wr_3, z_g_2_wr_3, z_g_3_wr_3⟩ := XW.froz4 (Sep.front [] (Row Kd.string 9 (.slice Al acc.length cl) (acc) :: Kept gs TO :: l) S_wr_3.out).blk; clear S_wr_2 c_g_0_wr_2 c_g_1_wr_2 c_g_2_wr_2 c_g_3_wr_2 z_g_0_wr_2 z_g_1_wr_2 z_g_2_wr_2 z_g_3_wr_2; clear hS hb) | ((with_reducible refine gate_store (t := 4) (p := 69) rfl ?_); go_must (refine store_event (t := 4) (p := 69) (v := ?vo_4) (w1 := (wr_3.setCell ⟨g, 2, none⟩ (.bool false))) ?hg ?ho ?hn ?hr ?_; (case ho => rfl); (case hg => rfl); (case hn => rfl); (case hr => first | (go_simp; done) | (go_simp; rfl)); intro wr_4 hw; have B_wr_4 : Aside0 (Below (base) w wr_4) := ⟨by rw [hw]; exact (Below.setCell B_wr_3.out ((Sep.front [] (Row Kd.string 9 (.slice Al acc.length cl) (acc) :: Kept gs TO :: l) S_wr_3.out).blk_le) _)⟩; have S_wr_4 : Aside0 (Sep (base) (Stars (Blk g #[.pointer none, .slice none 0 0, .bool false, .int .i64 (wrap64 (y + 1))] 110 :: Row Kd.string 9 (.slice Al acc.length cl) (acc) :: Kept gs TO :: l)) wr_4) := ⟨by rw [hw]; exact Sep.back [] (Row Kd.string 9 (.slice Al acc.length cl) (acc) :: Kept gs TO :: l) (Sep.store (Sep.front [] (Row Kd.string 9 (.slice Al acc.length cl) (acc) :: Kept gs TO :: l) S_wr_3.out) (Nat.le_trans (hbase) B_wr_3.out.size) 2 (.bool false) (cs' := #[.pointer none, .slice none 0 0, .bool false, .int .i64 (wrap64 (y + 1))]) rfl)⟩; obtain ⟨c_g_0_wr_4, c_g_1_wr_4, c_g_2_wr_4, c_g_3_wr_4⟩ := XW.cells4 (Sep.front [] (Row Kd.string 9 (.slice Al acc.length cl) (acc) :: Kept gs TO :: l) S_wr_4.out).blk; obtain ⟨z_g_0_wr_4, z_g_1_wr_4, z_g_2_wr_4, z_g_3_wr_4⟩ := XW.froz4 (Sep.front [] (Row Kd.string 9 (.slice Al acc.length cl) (acc) :: Kept gs TO :: l) S_wr_4.out).blk; clear S_wr_3 c_g_0_wr_3 c_g_1_wr_3 c_g_2_wr_3 c_g_3_wr_3 z_g_0_wr_3 z_g_1_wr_3 z_g_2_wr_3 z_g_3_wr_3; clear hw)))
      go_roundw
      case rel => exact ⟨j + 1, [], acc, _, _, _, _, by omega, by go_num, rfl, ⟨.inl rfl⟩, ⟨HL2.out⟩, ⟨by simp⟩, ⟨by have := HA.out; omega⟩, ⟨fresh_row S_wr_4.out⟩, B_wr_4⟩
      case measure => simp [intOf]; omega
  ·obtain rfl : j = s.size := by omega
   have hlt3 : decide ((s.size : Int) < (s.size : Int)) = false := decide_eq_false (by omega)
   have hl := HL.out
   rw [List.drop_eq_nil_of_le (by rw [data_length]; exact Nat.le_refl _)] at hl
   simp only [feedL, Option.some.injEq] at hl
   subst hl
   go_wp2
   go_ret
   exact ⟨_, rfl, tail_ (tail_ (Sep.front [_, _, _] l S_wr.out).right), B_wr.out⟩
end Go.Proofs.YtphdjpfdelpecaaGreatDoor.FrmA
