/- Searches: the reference's New, Type, Rub, Back, On. Conditions: none beyond those that each theorem states. -/
import Derived.Test.YthofobcbbddeeaaSrchG
namespace Go.Proofs.Ythofobcbbddeeaa.SrchA
open Go.RowKit Go.Proofs.YthofobcbbddeeaaW.PrintWords Go.Proofs.YthofobcbbddeeaaW.PrintLast Go.Proofs.YthofobcbbddeeaaW.PrintMore Go.Proofs.Ythofobcbbddeeaa.XS Go.Proofs.Ythofobcbbddeeaa.PSrch
set_option linter.unusedVariables false
set_option linter.unusedSimpArgs false
abbrev Fh0 : Array Bool := #[false, false, false, false, false, false, false, false, false, false, false, false, false, false, false]
abbrev Fh1 : Array Bool := #[true, false, false, false, false, false, false, false, false, false, false, false, false, false, false]
abbrev Fh2 : Array Bool := #[true, true, false, false, false, false, false, false, false, false, false, false, false, false, false]
abbrev Fh3 : Array Bool := #[true, true, true, false, false, false, false, false, false, false, false, false, false, false, false]
abbrev Fh4 : Array Bool := #[true, true, true, true, false, false, false, false, false, false, false, false, false, false, false]
abbrev Fh5 : Array Bool := #[true, true, true, true, false, true, false, false, false, false, false, false, false, false, false]
abbrev Fh6 : Array Bool := #[true, true, true, true, false, true, true, false, false, false, false, false, false, false, false]
abbrev Fh7 : Array Bool := #[true, true, true, true, false, true, true, true, false, false, false, false, false, false, false]
abbrev Fh8 : Array Bool := #[true, true, true, true, true, true, true, true, false, false, false, false, false, false, false]
abbrev Fh9 : Array Bool := #[true, true, true, true, true, true, true, true, true, false, false, false, false, false, false]
abbrev Fh10 : Array Bool := #[true, true, true, true, true, true, true, true, true, true, false, false, false, false, false]
abbrev Fh11 : Array Bool := #[true, true, true, true, true, true, true, true, true, true, true, false, false, false, false]
abbrev Fh12 : Array Bool := #[true, true, true, true, true, true, true, true, true, true, true, true, false, false, false]
abbrev Fh13 : Array Bool := #[true, true, true, true, true, true, true, true, true, true, true, true, true, false, false]
abbrev Fh14 : Array Bool := #[true, true, true, true, true, true, true, true, true, true, true, true, true, true, false]
abbrev Fh15 : Array Bool := #[true, true, true, true, true, true, true, true, true, true, true, true, true, true, true]
theorem ge_dec (r : Int) (h : -1 ≤ r) : decide (0 ≤ r) = decide (r ≠ -1) := decide_eq_decide.mpr (by omega)
set_option maxHeartbeats 8000000 in
set_option maxRecDepth 100000 in
theorem refnew_is (w : World) (A : Option Addr) (c : Nat) (L : List ByteArray) (hC : Kd.string.C w A L.length L) (hc : L.length ≤ c) (hL : L.length ≤ 1000) : Calls Try.prog 40 #[.slice A L.length c] w fun e w' => ∃ g, e = .returned (.pointer (some ⟨g, 0, none⟩)) ∧ Sep w.heap.size (SS 68 .i64 3 g L [] (-1)) w' ∧ Below w.heap.size w w' := by
  have HC := Aside0.mk hC
  clear hC
  have hu68 := Try.underlying68
  have B_w := Aside0.mk (Below.refl w.heap.size w)
  have S_w : Aside0 (Sep w.heap.size (Stars []) w) := ⟨Sep.emp _ _⟩
  have hun := Try.underlying42
  go_enter Try.func40, Try.ntmps40
  go_wp2_with (first | ((with_reducible refine gate_dst (N := 5) rfl ?_); (try (refine gate_guard (by rfl) ?_; dsimp only)); refine box_event ?hg (N := 5) ?hd (cs := #[.slice none 0 0, .slice none 0 0, .int .i64 (-1)]) (t := 68) ?hr ?_; (case hd => rfl); (case hg => rfl); (case hr => first | (go_simp; done) | (go_simp; rfl)); intro g hg_g w_1 hX hb; have B_w_1 : Aside0 (Below (w.heap.size) w w_1) := ⟨below_then B_w.out B_w.out.size hb⟩; have S_w_1 : Aside0 (Sep (w.heap.size) (Stars [Blk g #[.slice none 0 0, .slice none 0 0, .int .i64 (-1)] 68]) w_1) := ⟨Sep.new_blk S_w.out B_w.out.size hg_g hb hX⟩; have Q_w_1 : Aside0 (Below w.heap.size w w_1) := ⟨hb⟩; obtain ⟨c_g_0_w_1, c_g_1_w_1, c_g_2_w_1⟩ := XW.cells3 (Sep.front [] [] S_w_1.out).blk; obtain ⟨z_g_0_w_1, z_g_1_w_1, z_g_2_w_1⟩ := XW.froz3 (Sep.front [] [] S_w_1.out).blk; clear S_w; clear hX hb hg_g; have S_n : Aside0 (Sep w.heap.size (Stars [Row Kd.string 9 (.slice none 0 0) (([] : List ByteArray)), Blk g #[.slice none 0 0, .slice none 0 0, .int .i64 (-1)] 68]) w_1) := ⟨Sep.nil_row Kd.string 9 S_w_1.out⟩; clear S_w_1; have S_w_1 := S_n; clear S_n) | ((with_reducible refine gate_builtin (b := .append) (xs := #[.tmp 10, .tmp 11]) rfl ?_); at_builtin; go_must (refine sep_append_rows Kd.string (Rr := Kd.K Kd.string w_1) (w.heap.size) rfl (.tmp 10) (.tmp 11) 42 9 (.string ⟨#[]⟩) 16 rfl Try.underlying42 info9 rfl (by decide) (by decide) _ (([] : List ByteArray)) (L) (A) (L.length) (c) rfl rfl (Sep.front [] [Blk g #[.slice none 0 0, .slice none 0 0, .int .i64 (-1)] 68] S_w_1.out) (Kd.C_below HC.out B_w_1.out) (fun _ _ h => h) B_w_1.out.size ?al ?_); (case al => have := hL; simp only [List.length_nil]; omega); intro vr w_2 hS hb; obtain ⟨A1, c1, hv, -, -⟩ := Sep.row hS; subst hv; have B_w_2 : Aside0 (Below (w.heap.size) w w_2) := ⟨(Below.trans B_w_1.out hb)⟩; have S_w_2 : Aside0 (Sep (w.heap.size) (Stars [Row Kd.string 9 (.slice A1 L.length c1) (L), Blk g #[.slice none 0 0, .slice none 0 0, .int .i64 (-1)] 68]) w_2) := ⟨Sep.back [] [Blk g #[.slice none 0 0, .slice none 0 0, .int .i64 (-1)] 68] hS⟩; obtain ⟨c_g_0_w_2, c_g_1_w_2, c_g_2_w_2⟩ := XW.cells3 (Sep.front [Row Kd.string 9 (.slice A1 L.length c1) (L)] [] S_w_2.out).blk; obtain ⟨z_g_0_w_2, z_g_1_w_2, z_g_2_w_2⟩ := XW.froz3 (Sep.front [Row Kd.string 9 (.slice A1 L.length c1) (L)] [] S_w_2.out).blk; clear S_w_1 c_g_0_w_1 c_g_1_w_1 c_g_2_w_1 z_g_0_w_1 z_g_1_w_1 z_g_2_w_1; clear hS hb) | ((with_reducible refine gate_store (t := 42) (p := 14) rfl ?_); go_must (refine store_event (t := 42) (p := 14) (v := ?vo_1) (w1 := (w_2.setCell ⟨g, 0, none⟩ (.slice A1 L.length c1))) ?hg ?ho ?hn ?hr ?_; (case ho => rfl); (case hg => rfl); (case hn => rfl); (case hr => first | (go_simp; done) | (go_simp; rfl)); intro w_3 hw; have B_w_3 : Aside0 (Below (w.heap.size) w w_3) := ⟨by rw [hw]; exact (Below.setCell B_w_2.out ((Sep.front [Row Kd.string 9 (.slice A1 L.length c1) (L)] [] S_w_2.out).blk_le) _)⟩; have S_w_3 : Aside0 (Sep (w.heap.size) (Stars [Row Kd.string 9 (.slice A1 L.length c1) (L), Blk g #[.slice A1 L.length c1, .slice none 0 0, .int .i64 (-1)] 68]) w_3) := ⟨by rw [hw]; exact Sep.back [Row Kd.string 9 (.slice A1 L.length c1) (L)] [] (Sep.store (Sep.front [Row Kd.string 9 (.slice A1 L.length c1) (L)] [] S_w_2.out) B_w_2.out.size 0 (.slice A1 L.length c1) (cs' := #[.slice A1 L.length c1, .slice none 0 0, .int .i64 (-1)]) rfl)⟩; obtain ⟨c_g_0_w_3, c_g_1_w_3, c_g_2_w_3⟩ := XW.cells3 (Sep.front [Row Kd.string 9 (.slice A1 L.length c1) (L)] [] S_w_3.out).blk; obtain ⟨z_g_0_w_3, z_g_1_w_3, z_g_2_w_3⟩ := XW.froz3 (Sep.front [Row Kd.string 9 (.slice A1 L.length c1) (L)] [] S_w_3.out).blk; clear S_w_2 c_g_0_w_2 c_g_1_w_2 c_g_2_w_2 z_g_0_w_2 z_g_1_w_2 z_g_2_w_2; clear hw)))
  go_ret
  have h1 := Sep.nil_row (Kd.int .i64) 3 S_w_3.out
  have h2 : Sep w.heap.size (Stars [Blk g #[.slice A1 L.length c1, .slice none 0 0, .int .i64 (-1)] 68, Row (Kd.int .i64) 3 (.slice none 0 0) [], Row Kd.string 9 (.slice A1 L.length c1) L]) w_3 := Sep.front [Row (Kd.int .i64) 3 (.slice none 0 0) [], Row Kd.string 9 (.slice A1 L.length c1) L] [] h1
  have h3 : Sep w.heap.size (Stars [Blk g #[.slice A1 L.length c1, .slice none 0 0, .int .i64 (-1)] 68, Row Kd.string 9 (.slice A1 L.length c1) L, Row (Kd.int .i64) 3 (.slice none 0 0) []]) w_3 := Sep.back [Blk g #[.slice A1 L.length c1, .slice none 0 0, .int .i64 (-1)] 68, Row Kd.string 9 (.slice A1 L.length c1) L] [] (Sep.front [Blk g #[.slice A1 L.length c1, .slice none 0 0, .int .i64 (-1)] 68] [Row Kd.string 9 (.slice A1 L.length c1) L] h2)
  exact ⟨g, rfl, (SS.close (l := []) h3).left, B_w_3.out⟩
set_option maxHeartbeats 8000000 in
set_option maxRecDepth 100000 in
theorem reftype_is {base g : Nat} {L : List ByteArray} {Q : List Int} {p : Int} {l : List Assn} (w : World) (h : Sep base (Star (SS 68 .i64 3 g L Q p) (Stars l)) w) (hbase : base ≤ w.heap.size) (hok : Ok L Q p) (n : Int) (b : Bool) (hb : typeB L Q p n = b) (Q2 : List Int) (hQ2 : typeQ Q n = Q2) (p2 : Int) (hp2 : typeP L Q p n = p2) : Calls Try.prog 41 #[.pointer (some ⟨g, 0, none⟩), .int .i64 n] w fun e w' => e = .returned (.bool b) ∧ Sep base (Star (SS 68 .i64 3 g L Q2 p2) (Stars l)) w' ∧ Below base w w' := by
  subst hb hQ2 hp2
  have HR : Aside0 (duetref04_Rune.f n = some (decide (Rn n))) := ⟨refrune_is n⟩
  have OK := Aside0.mk hok
  clear hok
  obtain ⟨A0, c0, A1, c1, hl0, hl1, hC0, hC1, hS⟩ := SS.open h
  have S_w := Aside0.mk hS
  have B_w := Aside0.mk (Below.refl base w)
  clear h hS hC0 hC1
  obtain ⟨c_g_0_w, c_g_1_w, c_g_2_w⟩ := XW.cells3 (Sep.front [] (Row Kd.string 9 (.slice A0 L.length c0) (L) :: Row (Kd.int .i64) 3 (.slice A1 Q.length c1) (Q) :: l) S_w.out).blk
  obtain ⟨z_g_0_w, z_g_1_w, z_g_2_w⟩ := XW.froz3 (Sep.front [] (Row Kd.string 9 (.slice A0 L.length c0) (L) :: Row (Kd.int .i64) 3 (.slice A1 Q.length c1) (Q) :: l) S_w.out).blk
  by_cases hr : Rn n
  case neg =>
    have HR2 : Aside0 (duetref04_Rune.f n = some false) := ⟨by rw [HR.out, decide_eq_false hr]⟩
    have hF : ¬ (Rn n ∧ Q.length < 200) := fun c => hr c.1
    unfold typeB typeQ typeP
    rw [if_neg hF, if_neg hF, if_neg hF]
    clear hF
    go_enter Try.func41, Try.ntmps41
    go_wp2_with (first | (go_at_call 21; (with_reducible refine (duetref04_Rune.calls n false _ HR2.out).mono ?_); rintro e w_1 ⟨rfl, hb0⟩; have hb := Aside0.mk hb0; clear hb0; have B_w_1 : Aside0 (Below (base) w w_1) := ⟨below_then B_w.out (Nat.le_trans (hbase) B_w.out.size) hb.out.below⟩; have S_w_1 : Aside0 (Sep (base) (Stars (Blk g #[.slice A0 L.length c0, .slice A1 Q.length c1, .int .i64 p] 68 :: Row Kd.string 9 (.slice A0 L.length c0) (L) :: Row (Kd.int .i64) 3 (.slice A1 Q.length c1) (Q) :: l)) w_1) := ⟨Sep.below S_w.out hb.out.below⟩; have Q_w_1 : Aside0 (Below w.heap.size w w_1) := ⟨hb.out.below⟩; obtain ⟨c_g_0_w_1, c_g_1_w_1, c_g_2_w_1⟩ := XW.cells3 (Sep.front [] (Row Kd.string 9 (.slice A0 L.length c0) (L) :: Row (Kd.int .i64) 3 (.slice A1 Q.length c1) (Q) :: l) S_w_1.out).blk; obtain ⟨z_g_0_w_1, z_g_1_w_1, z_g_2_w_1⟩ := XW.froz3 (Sep.front [] (Row Kd.string 9 (.slice A0 L.length c0) (L) :: Row (Kd.int .i64) 3 (.slice A1 Q.length c1) (Q) :: l) S_w_1.out).blk; clear S_w c_g_0_w c_g_1_w c_g_2_w z_g_0_w z_g_1_w z_g_2_w; clear hb))
    go_ret
    exact ⟨rfl, SS.close S_w_1.out, B_w_1.out⟩
  have HR2 : Aside0 (duetref04_Rune.f n = some true) := ⟨by rw [HR.out, decide_eq_true hr]⟩
  by_cases hq : Q.length < 200
  case neg =>
    have hq2 : (200 : Int) ≤ (Q.length : Int) := by omega
    have hq3 : ¬ (Q.length : Int) < 200 := by omega
    have hF : ¬ (Rn n ∧ Q.length < 200) := fun c => hq c.2
    unfold typeB typeQ typeP
    rw [if_neg hF, if_neg hF, if_neg hF]
    clear hF
    go_enter Try.func41, Try.ntmps41
    go_wp2_with (first | (go_at_call 21; (with_reducible refine (duetref04_Rune.calls n true _ HR2.out).mono ?_); rintro e w_1 ⟨rfl, hb0⟩; have hb := Aside0.mk hb0; clear hb0; have B_w_1 : Aside0 (Below (base) w w_1) := ⟨below_then B_w.out (Nat.le_trans (hbase) B_w.out.size) hb.out.below⟩; have S_w_1 : Aside0 (Sep (base) (Stars (Blk g #[.slice A0 L.length c0, .slice A1 Q.length c1, .int .i64 p] 68 :: Row Kd.string 9 (.slice A0 L.length c0) (L) :: Row (Kd.int .i64) 3 (.slice A1 Q.length c1) (Q) :: l)) w_1) := ⟨Sep.below S_w.out hb.out.below⟩; have Q_w_1 : Aside0 (Below w.heap.size w w_1) := ⟨hb.out.below⟩; obtain ⟨c_g_0_w_1, c_g_1_w_1, c_g_2_w_1⟩ := XW.cells3 (Sep.front [] (Row Kd.string 9 (.slice A0 L.length c0) (L) :: Row (Kd.int .i64) 3 (.slice A1 Q.length c1) (Q) :: l) S_w_1.out).blk; obtain ⟨z_g_0_w_1, z_g_1_w_1, z_g_2_w_1⟩ := XW.froz3 (Sep.front [] (Row Kd.string 9 (.slice A0 L.length c0) (L) :: Row (Kd.int .i64) 3 (.slice A1 Q.length c1) (Q) :: l) S_w_1.out).blk; clear S_w c_g_0_w c_g_1_w c_g_2_w z_g_0_w z_g_1_w z_g_2_w; clear hb))
    go_ret
    exact ⟨rfl, SS.close S_w_1.out, B_w_1.out⟩
  have hF : Rn n ∧ Q.length < 200 := ⟨hr, hq⟩
  unfold typeB typeQ typeP
  rw [if_pos hF, if_pos hF, if_pos hF]
  have hq2 : ¬ (200 : Int) ≤ (Q.length : Int) := by omega
  have hq4 : (Q.length : Int) < 200 := by omega
  obtain ⟨r, hr2⟩ : ∃ r, lastF L (qs (Q ++ [n])) (from_ L p) = r := ⟨_, rfl⟩
  rw [hr2]
  have HF := Aside0.mk hr2
  have hrg : -1 ≤ r := by rw [← hr2]; exact (lastF_lt _ _ _).1
  have hfl := from_le OK.out
  have hp0 := OK.out.p0
  have hp1 := OK.out.p1
  have hll := OK.out.len
  have hq5 : (Q ++ [n]).length ≤ 1000 := by rw [List.length_append]; simp; omega
  rw [← ge_dec r hrg]
  clear hF hr hr2
  by_cases hpn : p = -1
  · have HI : Aside0 ((L.length : Int) - 1 = ((from_ L p : Nat) : Int) - 1) := ⟨by unfold from_; rw [if_pos hpn]⟩
    have hpl : p < 0 := by omega
    have hpd : decide (p < 0) = true := decide_eq_true hpl
    clear hpn
    have hw : wrap64 ((L.length : Int) - 1) = (L.length : Int) - 1 := by unfold wrap64; omega
    go_enter Try.func41, Try.ntmps41
    go_wp2_with (first | (go_at_call 21; (with_reducible refine (duetref04_Rune.calls n true _ HR2.out).mono ?_); rintro e w_1 ⟨rfl, hb0⟩; have hb := Aside0.mk hb0; clear hb0; have B_w_1 : Aside0 (Below (base) w w_1) := ⟨below_then B_w.out (Nat.le_trans (hbase) B_w.out.size) hb.out.below⟩; have S_w_1 : Aside0 (Sep (base) (Stars (Blk g #[.slice A0 L.length c0, .slice A1 Q.length c1, .int .i64 p] 68 :: Row Kd.string 9 (.slice A0 L.length c0) (L) :: Row (Kd.int .i64) 3 (.slice A1 Q.length c1) (Q) :: l)) w_1) := ⟨Sep.below S_w.out hb.out.below⟩; have Q_w_1 : Aside0 (Below w.heap.size w w_1) := ⟨hb.out.below⟩; obtain ⟨c_g_0_w_1, c_g_1_w_1, c_g_2_w_1⟩ := XW.cells3 (Sep.front [] (Row Kd.string 9 (.slice A0 L.length c0) (L) :: Row (Kd.int .i64) 3 (.slice A1 Q.length c1) (Q) :: l) S_w_1.out).blk; obtain ⟨z_g_0_w_1, z_g_1_w_1, z_g_2_w_1⟩ := XW.froz3 (Sep.front [] (Row Kd.string 9 (.slice A0 L.length c0) (L) :: Row (Kd.int .i64) 3 (.slice A1 Q.length c1) (Q) :: l) S_w_1.out).blk; clear S_w c_g_0_w c_g_1_w c_g_2_w z_g_0_w z_g_1_w z_g_2_w; clear hb) | ((with_reducible refine gate_builtin (b := .append) (xs := #[.tmp 21, .tmp 23]) rfl ?_); at_builtin; go_must (refine sep_append (enc := Value.int .i64) (h1 := fun _ => rfl) (base) rfl (.tmp 21) (.tmp 23) 22 3 (.int .i64 0) 8 rfl Try.underlying22 info3 rfl (by decide) _ (Q) (n) rfl rfl (Sep.front [Blk g #[.slice A0 L.length c0, .slice A1 Q.length c1, .int .i64 p] 68, Row Kd.string 9 (.slice A0 L.length c0) (L)] (l) S_w_1.out) (Nat.le_trans (hbase) B_w_1.out.size) ?al ?_); (case al => omega); intro vq w_2 hS hb; obtain ⟨A2, c2, hv, -, -⟩ := Sep.row hS; subst hv; have B_w_2 : Aside0 (Below (base) w w_2) := ⟨(Below.trans B_w_1.out hb)⟩; have S_w_2 : Aside0 (Sep (base) (Stars (Blk g #[.slice A0 L.length c0, .slice A1 Q.length c1, .int .i64 p] 68 :: Row Kd.string 9 (.slice A0 L.length c0) (L) :: Row (Kd.int .i64) 3 (.slice A2 (Q ++ [n]).length c2) (Q ++ [n]) :: l)) w_2) := ⟨Sep.back [Blk g #[.slice A0 L.length c0, .slice A1 Q.length c1, .int .i64 p] 68, Row Kd.string 9 (.slice A0 L.length c0) (L)] (l) hS⟩; obtain ⟨c_g_0_w_2, c_g_1_w_2, c_g_2_w_2⟩ := XW.cells3 (Sep.front [] (Row Kd.string 9 (.slice A0 L.length c0) (L) :: Row (Kd.int .i64) 3 (.slice A2 (Q ++ [n]).length c2) (Q ++ [n]) :: l) S_w_2.out).blk; obtain ⟨z_g_0_w_2, z_g_1_w_2, z_g_2_w_2⟩ := XW.froz3 (Sep.front [] (Row Kd.string 9 (.slice A0 L.length c0) (L) :: Row (Kd.int .i64) 3 (.slice A2 (Q ++ [n]).length c2) (Q ++ [n]) :: l) S_w_2.out).blk; clear S_w_1 c_g_0_w_1 c_g_1_w_1 c_g_2_w_1 z_g_0_w_1 z_g_1_w_1 z_g_2_w_1; clear hS hb) | ((with_reducible refine gate_store (t := 22) (p := 26) rfl ?_); go_must (refine store_event (t := 22) (p := 26) (v := ?vo_2) (w1 := (w_2.setCell ⟨g, 1, none⟩ (.slice A2 (Q ++ [n]).length c2))) ?hg ?ho ?hn ?hr ?_; (case ho => rfl); (case hg => rfl); (case hn => rfl); (case hr => first | (go_simp; done) | (go_simp; rfl)); intro w_3 hw; have B_w_3 : Aside0 (Below (base) w w_3) := ⟨by rw [hw]; exact (Below.setCell B_w_2.out ((Sep.front [] (Row Kd.string 9 (.slice A0 L.length c0) (L) :: Row (Kd.int .i64) 3 (.slice A2 (Q ++ [n]).length c2) (Q ++ [n]) :: l) S_w_2.out).blk_le) _)⟩; have S_w_3 : Aside0 (Sep (base) (Stars (Blk g #[.slice A0 L.length c0, .slice A2 (Q ++ [n]).length c2, .int .i64 p] 68 :: Row Kd.string 9 (.slice A0 L.length c0) (L) :: Row (Kd.int .i64) 3 (.slice A2 (Q ++ [n]).length c2) (Q ++ [n]) :: l)) w_3) := ⟨by rw [hw]; exact Sep.back [] (Row Kd.string 9 (.slice A0 L.length c0) (L) :: Row (Kd.int .i64) 3 (.slice A2 (Q ++ [n]).length c2) (Q ++ [n]) :: l) (Sep.store (Sep.front [] (Row Kd.string 9 (.slice A0 L.length c0) (L) :: Row (Kd.int .i64) 3 (.slice A2 (Q ++ [n]).length c2) (Q ++ [n]) :: l) S_w_2.out) (Nat.le_trans (hbase) B_w_2.out.size) 1 (.slice A2 (Q ++ [n]).length c2) (cs' := #[.slice A0 L.length c0, .slice A2 (Q ++ [n]).length c2, .int .i64 p]) rfl)⟩; obtain ⟨c_g_0_w_3, c_g_1_w_3, c_g_2_w_3⟩ := XW.cells3 (Sep.front [] (Row Kd.string 9 (.slice A0 L.length c0) (L) :: Row (Kd.int .i64) 3 (.slice A2 (Q ++ [n]).length c2) (Q ++ [n]) :: l) S_w_3.out).blk; obtain ⟨z_g_0_w_3, z_g_1_w_3, z_g_2_w_3⟩ := XW.froz3 (Sep.front [] (Row Kd.string 9 (.slice A0 L.length c0) (L) :: Row (Kd.int .i64) 3 (.slice A2 (Q ++ [n]).length c2) (Q ++ [n]) :: l) S_w_3.out).blk; clear S_w_2 c_g_0_w_2 c_g_1_w_2 c_g_2_w_2 z_g_0_w_2 z_g_1_w_2 z_g_2_w_2; clear hw)) | (go_at_call 71; (with_reducible refine (last_is _ (Sf.of S_w_3.out) hq5 OK.out.short hll (from_ L p) hfl ((L.length : Int) - 1) HI.out r HF.out).mono ?_); rintro e w_4 ⟨rfl, hb⟩; have B_w_4 : Aside0 (Below (base) w w_4) := ⟨below_then B_w_3.out (Nat.le_trans (hbase) B_w_3.out.size) hb⟩; have S_w_4 : Aside0 (Sep (base) (Stars (Blk g #[.slice A0 L.length c0, .slice A2 (Q ++ [n]).length c2, .int .i64 p] 68 :: Row Kd.string 9 (.slice A0 L.length c0) (L) :: Row (Kd.int .i64) 3 (.slice A2 (Q ++ [n]).length c2) (Q ++ [n]) :: l)) w_4) := ⟨Sep.below S_w_3.out hb⟩; obtain ⟨c_g_0_w_4, c_g_1_w_4, c_g_2_w_4⟩ := XW.cells3 (Sep.front [] (Row Kd.string 9 (.slice A0 L.length c0) (L) :: Row (Kd.int .i64) 3 (.slice A2 (Q ++ [n]).length c2) (Q ++ [n]) :: l) S_w_4.out).blk; obtain ⟨z_g_0_w_4, z_g_1_w_4, z_g_2_w_4⟩ := XW.froz3 (Sep.front [] (Row Kd.string 9 (.slice A0 L.length c0) (L) :: Row (Kd.int .i64) 3 (.slice A2 (Q ++ [n]).length c2) (Q ++ [n]) :: l) S_w_4.out).blk; clear S_w_3 c_g_0_w_3 c_g_1_w_3 c_g_2_w_3 z_g_0_w_3 z_g_1_w_3 z_g_2_w_3; clear hb) | ((with_reducible refine gate_store (t := 3) (p := 44) rfl ?_); go_must (refine store_event (t := 3) (p := 44) (v := ?vo_3) (w1 := (w_4.setCell ⟨g, 2, none⟩ (.int .i64 r))) ?hg ?ho ?hn ?hr ?_; (case ho => rfl); (case hg => rfl); (case hn => rfl); (case hr => first | (go_simp; done) | (go_simp; rfl)); intro w_5 hw; have B_w_5 : Aside0 (Below (base) w w_5) := ⟨by rw [hw]; exact (Below.setCell B_w_4.out ((Sep.front [] (Row Kd.string 9 (.slice A0 L.length c0) (L) :: Row (Kd.int .i64) 3 (.slice A2 (Q ++ [n]).length c2) (Q ++ [n]) :: l) S_w_4.out).blk_le) _)⟩; have S_w_5 : Aside0 (Sep (base) (Stars (Blk g #[.slice A0 L.length c0, .slice A2 (Q ++ [n]).length c2, .int .i64 r] 68 :: Row Kd.string 9 (.slice A0 L.length c0) (L) :: Row (Kd.int .i64) 3 (.slice A2 (Q ++ [n]).length c2) (Q ++ [n]) :: l)) w_5) := ⟨by rw [hw]; exact Sep.back [] (Row Kd.string 9 (.slice A0 L.length c0) (L) :: Row (Kd.int .i64) 3 (.slice A2 (Q ++ [n]).length c2) (Q ++ [n]) :: l) (Sep.store (Sep.front [] (Row Kd.string 9 (.slice A0 L.length c0) (L) :: Row (Kd.int .i64) 3 (.slice A2 (Q ++ [n]).length c2) (Q ++ [n]) :: l) S_w_4.out) (Nat.le_trans (hbase) B_w_4.out.size) 2 (.int .i64 r) (cs' := #[.slice A0 L.length c0, .slice A2 (Q ++ [n]).length c2, .int .i64 r]) rfl)⟩; obtain ⟨c_g_0_w_5, c_g_1_w_5, c_g_2_w_5⟩ := XW.cells3 (Sep.front [] (Row Kd.string 9 (.slice A0 L.length c0) (L) :: Row (Kd.int .i64) 3 (.slice A2 (Q ++ [n]).length c2) (Q ++ [n]) :: l) S_w_5.out).blk; obtain ⟨z_g_0_w_5, z_g_1_w_5, z_g_2_w_5⟩ := XW.froz3 (Sep.front [] (Row Kd.string 9 (.slice A0 L.length c0) (L) :: Row (Kd.int .i64) 3 (.slice A2 (Q ++ [n]).length c2) (Q ++ [n]) :: l) S_w_5.out).blk; clear S_w_4 c_g_0_w_4 c_g_1_w_4 c_g_2_w_4 z_g_0_w_4 z_g_1_w_4 z_g_2_w_4; clear hw)))
    go_ret
    exact ⟨rfl, SS.close S_w_5.out, B_w_5.out⟩
  · have HI : Aside0 (p = ((from_ L p : Nat) : Int) - 1) := ⟨by unfold from_; rw [if_neg hpn]; omega⟩
    have hpl : ¬ p < 0 := by omega
    have hpd : decide (p < 0) = false := decide_eq_false hpl
    clear hpn
    go_enter Try.func41, Try.ntmps41
    go_wp2_with (first | (go_at_call 21; (with_reducible refine (duetref04_Rune.calls n true _ HR2.out).mono ?_); rintro e w_1 ⟨rfl, hb0⟩; have hb := Aside0.mk hb0; clear hb0; have B_w_1 : Aside0 (Below (base) w w_1) := ⟨below_then B_w.out (Nat.le_trans (hbase) B_w.out.size) hb.out.below⟩; have S_w_1 : Aside0 (Sep (base) (Stars (Blk g #[.slice A0 L.length c0, .slice A1 Q.length c1, .int .i64 p] 68 :: Row Kd.string 9 (.slice A0 L.length c0) (L) :: Row (Kd.int .i64) 3 (.slice A1 Q.length c1) (Q) :: l)) w_1) := ⟨Sep.below S_w.out hb.out.below⟩; have Q_w_1 : Aside0 (Below w.heap.size w w_1) := ⟨hb.out.below⟩; obtain ⟨c_g_0_w_1, c_g_1_w_1, c_g_2_w_1⟩ := XW.cells3 (Sep.front [] (Row Kd.string 9 (.slice A0 L.length c0) (L) :: Row (Kd.int .i64) 3 (.slice A1 Q.length c1) (Q) :: l) S_w_1.out).blk; obtain ⟨z_g_0_w_1, z_g_1_w_1, z_g_2_w_1⟩ := XW.froz3 (Sep.front [] (Row Kd.string 9 (.slice A0 L.length c0) (L) :: Row (Kd.int .i64) 3 (.slice A1 Q.length c1) (Q) :: l) S_w_1.out).blk; clear S_w c_g_0_w c_g_1_w c_g_2_w z_g_0_w z_g_1_w z_g_2_w; clear hb) | ((with_reducible refine gate_builtin (b := .append) (xs := #[.tmp 21, .tmp 23]) rfl ?_); at_builtin; go_must (refine sep_append (enc := Value.int .i64) (h1 := fun _ => rfl) (base) rfl (.tmp 21) (.tmp 23) 22 3 (.int .i64 0) 8 rfl Try.underlying22 info3 rfl (by decide) _ (Q) (n) rfl rfl (Sep.front [Blk g #[.slice A0 L.length c0, .slice A1 Q.length c1, .int .i64 p] 68, Row Kd.string 9 (.slice A0 L.length c0) (L)] (l) S_w_1.out) (Nat.le_trans (hbase) B_w_1.out.size) ?al ?_); (case al => omega); intro vq w_2 hS hb; obtain ⟨A2, c2, hv, -, -⟩ := Sep.row hS; subst hv; have B_w_2 : Aside0 (Below (base) w w_2) := ⟨(Below.trans B_w_1.out hb)⟩; have S_w_2 : Aside0 (Sep (base) (Stars (Blk g #[.slice A0 L.length c0, .slice A1 Q.length c1, .int .i64 p] 68 :: Row Kd.string 9 (.slice A0 L.length c0) (L) :: Row (Kd.int .i64) 3 (.slice A2 (Q ++ [n]).length c2) (Q ++ [n]) :: l)) w_2) := ⟨Sep.back [Blk g #[.slice A0 L.length c0, .slice A1 Q.length c1, .int .i64 p] 68, Row Kd.string 9 (.slice A0 L.length c0) (L)] (l) hS⟩; obtain ⟨c_g_0_w_2, c_g_1_w_2, c_g_2_w_2⟩ := XW.cells3 (Sep.front [] (Row Kd.string 9 (.slice A0 L.length c0) (L) :: Row (Kd.int .i64) 3 (.slice A2 (Q ++ [n]).length c2) (Q ++ [n]) :: l) S_w_2.out).blk; obtain ⟨z_g_0_w_2, z_g_1_w_2, z_g_2_w_2⟩ := XW.froz3 (Sep.front [] (Row Kd.string 9 (.slice A0 L.length c0) (L) :: Row (Kd.int .i64) 3 (.slice A2 (Q ++ [n]).length c2) (Q ++ [n]) :: l) S_w_2.out).blk; clear S_w_1 c_g_0_w_1 c_g_1_w_1 c_g_2_w_1 z_g_0_w_1 z_g_1_w_1 z_g_2_w_1; clear hS hb) | ((with_reducible refine gate_store (t := 22) (p := 26) rfl ?_); go_must (refine store_event (t := 22) (p := 26) (v := ?vo_2) (w1 := (w_2.setCell ⟨g, 1, none⟩ (.slice A2 (Q ++ [n]).length c2))) ?hg ?ho ?hn ?hr ?_; (case ho => rfl); (case hg => rfl); (case hn => rfl); (case hr => first | (go_simp; done) | (go_simp; rfl)); intro w_3 hw; have B_w_3 : Aside0 (Below (base) w w_3) := ⟨by rw [hw]; exact (Below.setCell B_w_2.out ((Sep.front [] (Row Kd.string 9 (.slice A0 L.length c0) (L) :: Row (Kd.int .i64) 3 (.slice A2 (Q ++ [n]).length c2) (Q ++ [n]) :: l) S_w_2.out).blk_le) _)⟩; have S_w_3 : Aside0 (Sep (base) (Stars (Blk g #[.slice A0 L.length c0, .slice A2 (Q ++ [n]).length c2, .int .i64 p] 68 :: Row Kd.string 9 (.slice A0 L.length c0) (L) :: Row (Kd.int .i64) 3 (.slice A2 (Q ++ [n]).length c2) (Q ++ [n]) :: l)) w_3) := ⟨by rw [hw]; exact Sep.back [] (Row Kd.string 9 (.slice A0 L.length c0) (L) :: Row (Kd.int .i64) 3 (.slice A2 (Q ++ [n]).length c2) (Q ++ [n]) :: l) (Sep.store (Sep.front [] (Row Kd.string 9 (.slice A0 L.length c0) (L) :: Row (Kd.int .i64) 3 (.slice A2 (Q ++ [n]).length c2) (Q ++ [n]) :: l) S_w_2.out) (Nat.le_trans (hbase) B_w_2.out.size) 1 (.slice A2 (Q ++ [n]).length c2) (cs' := #[.slice A0 L.length c0, .slice A2 (Q ++ [n]).length c2, .int .i64 p]) rfl)⟩; obtain ⟨c_g_0_w_3, c_g_1_w_3, c_g_2_w_3⟩ := XW.cells3 (Sep.front [] (Row Kd.string 9 (.slice A0 L.length c0) (L) :: Row (Kd.int .i64) 3 (.slice A2 (Q ++ [n]).length c2) (Q ++ [n]) :: l) S_w_3.out).blk; obtain ⟨z_g_0_w_3, z_g_1_w_3, z_g_2_w_3⟩ := XW.froz3 (Sep.front [] (Row Kd.string 9 (.slice A0 L.length c0) (L) :: Row (Kd.int .i64) 3 (.slice A2 (Q ++ [n]).length c2) (Q ++ [n]) :: l) S_w_3.out).blk; clear S_w_2 c_g_0_w_2 c_g_1_w_2 c_g_2_w_2 z_g_0_w_2 z_g_1_w_2 z_g_2_w_2; clear hw)) | (go_at_call 71; (with_reducible refine (last_is _ (Sf.of S_w_3.out) hq5 OK.out.short hll (from_ L p) hfl p HI.out r HF.out).mono ?_); rintro e w_4 ⟨rfl, hb⟩; have B_w_4 : Aside0 (Below (base) w w_4) := ⟨below_then B_w_3.out (Nat.le_trans (hbase) B_w_3.out.size) hb⟩; have S_w_4 : Aside0 (Sep (base) (Stars (Blk g #[.slice A0 L.length c0, .slice A2 (Q ++ [n]).length c2, .int .i64 p] 68 :: Row Kd.string 9 (.slice A0 L.length c0) (L) :: Row (Kd.int .i64) 3 (.slice A2 (Q ++ [n]).length c2) (Q ++ [n]) :: l)) w_4) := ⟨Sep.below S_w_3.out hb⟩; obtain ⟨c_g_0_w_4, c_g_1_w_4, c_g_2_w_4⟩ := XW.cells3 (Sep.front [] (Row Kd.string 9 (.slice A0 L.length c0) (L) :: Row (Kd.int .i64) 3 (.slice A2 (Q ++ [n]).length c2) (Q ++ [n]) :: l) S_w_4.out).blk; obtain ⟨z_g_0_w_4, z_g_1_w_4, z_g_2_w_4⟩ := XW.froz3 (Sep.front [] (Row Kd.string 9 (.slice A0 L.length c0) (L) :: Row (Kd.int .i64) 3 (.slice A2 (Q ++ [n]).length c2) (Q ++ [n]) :: l) S_w_4.out).blk; clear S_w_3 c_g_0_w_3 c_g_1_w_3 c_g_2_w_3 z_g_0_w_3 z_g_1_w_3 z_g_2_w_3; clear hb) | ((with_reducible refine gate_store (t := 3) (p := 44) rfl ?_); go_must (refine store_event (t := 3) (p := 44) (v := ?vo_4) (w1 := (w_4.setCell ⟨g, 2, none⟩ (.int .i64 r))) ?hg ?ho ?hn ?hr ?_; (case ho => rfl); (case hg => rfl); (case hn => rfl); (case hr => first | (go_simp; done) | (go_simp; rfl)); intro w_5 hw; have B_w_5 : Aside0 (Below (base) w w_5) := ⟨by rw [hw]; exact (Below.setCell B_w_4.out ((Sep.front [] (Row Kd.string 9 (.slice A0 L.length c0) (L) :: Row (Kd.int .i64) 3 (.slice A2 (Q ++ [n]).length c2) (Q ++ [n]) :: l) S_w_4.out).blk_le) _)⟩; have S_w_5 : Aside0 (Sep (base) (Stars (Blk g #[.slice A0 L.length c0, .slice A2 (Q ++ [n]).length c2, .int .i64 r] 68 :: Row Kd.string 9 (.slice A0 L.length c0) (L) :: Row (Kd.int .i64) 3 (.slice A2 (Q ++ [n]).length c2) (Q ++ [n]) :: l)) w_5) := ⟨by rw [hw]; exact Sep.back [] (Row Kd.string 9 (.slice A0 L.length c0) (L) :: Row (Kd.int .i64) 3 (.slice A2 (Q ++ [n]).length c2) (Q ++ [n]) :: l) (Sep.store (Sep.front [] (Row Kd.string 9 (.slice A0 L.length c0) (L) :: Row (Kd.int .i64) 3 (.slice A2 (Q ++ [n]).length c2) (Q ++ [n]) :: l) S_w_4.out) (Nat.le_trans (hbase) B_w_4.out.size) 2 (.int .i64 r) (cs' := #[.slice A0 L.length c0, .slice A2 (Q ++ [n]).length c2, .int .i64 r]) rfl)⟩; obtain ⟨c_g_0_w_5, c_g_1_w_5, c_g_2_w_5⟩ := XW.cells3 (Sep.front [] (Row Kd.string 9 (.slice A0 L.length c0) (L) :: Row (Kd.int .i64) 3 (.slice A2 (Q ++ [n]).length c2) (Q ++ [n]) :: l) S_w_5.out).blk; obtain ⟨z_g_0_w_5, z_g_1_w_5, z_g_2_w_5⟩ := XW.froz3 (Sep.front [] (Row Kd.string 9 (.slice A0 L.length c0) (L) :: Row (Kd.int .i64) 3 (.slice A2 (Q ++ [n]).length c2) (Q ++ [n]) :: l) S_w_5.out).blk; clear S_w_4 c_g_0_w_4 c_g_1_w_4 c_g_2_w_4 z_g_0_w_4 z_g_1_w_4 z_g_2_w_4; clear hw)))
    go_ret
    exact ⟨rfl, SS.close S_w_5.out, B_w_5.out⟩
set_option maxHeartbeats 8000000 in
set_option maxRecDepth 100000 in
theorem refrub_is {base g : Nat} {L : List ByteArray} {Q : List Int} {p : Int} {l : List Assn} (w : World) (h : Sep base (Star (SS 68 .i64 3 g L Q p) (Stars l)) w) (hbase : base ≤ w.heap.size) (hok : Ok L Q p) (b : Bool) (hb : rubB L Q p = b) (Q2 : List Int) (hQ2 : rubQ Q = Q2) (p2 : Int) (hp2 : rubP L Q p = p2) : Calls Try.prog 43 #[.pointer (some ⟨g, 0, none⟩)] w fun e w' => e = .returned (.bool b) ∧ Sep base (Star (SS 68 .i64 3 g L Q2 p2) (Stars l)) w' ∧ Below base w w' := by
  subst hb
  have OK := Aside0.mk hok
  clear hok
  obtain ⟨A0, c0, A1, c1, hl0, hl1, hC0, hC1, hS⟩ := SS.open h
  have S_w := Aside0.mk hS
  have B_w := Aside0.mk (Below.refl base w)
  clear h hS hC0 hC1
  obtain ⟨c_g_0_w, c_g_1_w, c_g_2_w⟩ := XW.cells3 (Sep.front [] (Row Kd.string 9 (.slice A0 L.length c0) (L) :: Row (Kd.int .i64) 3 (.slice A1 Q.length c1) (Q) :: l) S_w.out).blk
  obtain ⟨z_g_0_w, z_g_1_w, z_g_2_w⟩ := XW.froz3 (Sep.front [] (Row Kd.string 9 (.slice A0 L.length c0) (L) :: Row (Kd.int .i64) 3 (.slice A1 Q.length c1) (Q) :: l) S_w.out).blk
  unfold rubB
  by_cases hq : Q.length = 0
  case pos =>
    obtain rfl : Q = [] := List.eq_nil_of_length_eq_zero hq
    have e1 : rubQ ([] : List Int) = [] := rfl
    rw [e1] at hQ2
    subst hQ2
    have e2 : rubP L [] p = p := by unfold rubP; rw [if_pos (show ([] : List Int).length = 0 from rfl)]
    rw [e2] at hp2
    subst hp2
    rw [if_pos (show ([] : List Int).length = 0 from rfl)]
    clear hq e1 e2
    go_enter Try.func43, Try.ntmps43
    go_wp2
    go_ret
    exact ⟨rfl, SS.close S_w.out, B_w.out⟩
  rw [if_neg hq, hp2]
  have hrg : -1 ≤ p2 := by rw [← hp2]; exact (rub_ok OK.out).p0
  rw [← ge_dec p2 hrg]
  have hlen : Q2.length = Q.length - 1 := by rw [← hQ2]; exact rub_len Q
  have hqe : ((Q.length : Int) == 0) = false := beq_eq_false_iff_ne.mpr (by omega)
  have hqe2 : (Q.length == 0) = false := beq_eq_false_iff_ne.mpr hq
  have hqn : ¬ Q = [] := fun c => hq (by rw [c]; rfl)
  have hq200 := OK.out.q
  have hw : wrap64 ((Q.length : Int) - 1) = (Q2.length : Int) := by unfold wrap64; omega
  have hq2c : Q2.length ≤ c1 := by omega
  have hq2c2 : (Q2.length : Int) ≤ (c1 : Int) := by omega
  have hq20 : (0 : Int) ≤ (Q2.length : Int) := by omega
  have hq21 : Q2.length ≤ 1000 := by omega
  have hcut := Sep.cut (Sep.front [Blk g #[.slice A0 L.length c0, .slice A1 Q.length c1, .int .i64 p] 68, Row Kd.string 9 (.slice A0 L.length c0) (L)] (l) S_w.out) (Q.length - 1) (by omega)
  rw [← hlen] at hcut
  have hQ3 : Q.take Q2.length = Q2 := by rw [hlen]; exact hQ2
  rw [hQ3] at hcut
  have S_w2 : Aside0 (Sep base (Stars (Blk g #[.slice A0 L.length c0, .slice A1 Q.length c1, .int .i64 p] 68 :: Row Kd.string 9 (.slice A0 L.length c0) (L) :: Row (Kd.int .i64) 3 (.slice A1 Q2.length c1) (Q2) :: l)) w) := ⟨Sep.back [Blk g #[.slice A0 L.length c0, .slice A1 Q.length c1, .int .i64 p] 68, Row Kd.string 9 (.slice A0 L.length c0) (L)] (l) hcut⟩
  clear S_w hcut hQ3
  have S_w := S_w2
  clear S_w2
  have hll := OK.out.len
  clear hlen
  go_enter Try.func43, Try.ntmps43
  go_upto_region 3 with (fail)
  refine start_ (n := 15) (S := fun w' => w'.cell? ⟨g, 0, none⟩ = some (.slice A0 L.length c0) ∧ w'.cell? ⟨g, 1, none⟩ = some (.slice A1 Q.length c1) ∧ w'.cell? ⟨g, 2, none⟩ = some (.int .i64 p)) (ds := [14]) Fh0 (by kernel_rfl) rfl rfl ⟨c_g_0_w, c_g_1_w, c_g_2_w⟩ (fun hHeld => ?_)
  generalize hdw : w.drew = w_1 at hHeld ⊢
  have HB_w_1 : Aside0 (Below w.heap.size w w_1) := ⟨by rw [← hdw]; exact below_drew1 (Below.refl _ _)⟩
  clear hdw
  have B_w_1 : Aside0 (Below (base) w w_1) := ⟨below_then B_w.out (Nat.le_trans (hbase) B_w.out.size) HB_w_1.out⟩
  have S_w_1 : Aside0 (Sep (base) (Stars (Blk g #[.slice A0 L.length c0, .slice A1 Q.length c1, .int .i64 p] 68 :: Row Kd.string 9 (.slice A0 L.length c0) (L) :: Row (Kd.int .i64) 3 (.slice A1 Q2.length c1) (Q2) :: l)) w_1) := ⟨Sep.below S_w.out HB_w_1.out⟩
  have Q_w_1 : Aside0 (Below w.heap.size w w_1) := ⟨HB_w_1.out⟩
  obtain ⟨c_g_0_w_1, c_g_1_w_1, c_g_2_w_1⟩ := XW.cells3 (Sep.front [] (Row Kd.string 9 (.slice A0 L.length c0) (L) :: Row (Kd.int .i64) 3 (.slice A1 Q2.length c1) (Q2) :: l) S_w_1.out).blk
  obtain ⟨z_g_0_w_1, z_g_1_w_1, z_g_2_w_1⟩ := XW.froz3 (Sep.front [] (Row Kd.string 9 (.slice A0 L.length c0) (L) :: Row (Kd.int .i64) 3 (.slice A1 Q2.length c1) (Q2) :: l) S_w_1.out).blk
  clear S_w c_g_0_w c_g_1_w c_g_2_w z_g_0_w z_g_1_w z_g_2_w
  refine pure_ (i := 0) (N := some 9) (v := ?_) (a' := ?_) Fh1 rfl rfl (by kernel_rfl) (fun _ _ _ h => h) (Or.inl ⟨by rfl, ?_⟩) ?_ ?_
  rotate_left
  · intro w'
    go_simp
    with_reducible rfl
  rotate_left
  · simp only [Act.put, List.setIfInBounds_toArray, List.set_cons_zero, List.set_cons_succ, i64_w, i32_w]
    rfl
  refine pure_ (i := 1) (N := some 10) (v := ?_) (a' := ?_) Fh2 rfl rfl (by kernel_rfl) (fun _ _ _ h => h) (Or.inl ⟨by rfl, ?_⟩) ?_ ?_
  rotate_left
  · intro w'
    go_simp
    with_reducible rfl
  rotate_left
  · simp only [Act.put, List.setIfInBounds_toArray, List.set_cons_zero, List.set_cons_succ, i64_w, i32_w]
    rfl
  refine pure_ (i := 2) (N := some 11) (v := ?_) (a' := ?_) Fh3 rfl rfl (by kernel_rfl) (fun _ _ _ h => h) (Or.inl ⟨by rfl, ?_⟩) ?_ ?_
  rotate_left
  · intro w'
    go_simp
    with_reducible rfl
  rotate_left
  · simp only [Act.put, List.setIfInBounds_toArray, List.set_cons_zero, List.set_cons_succ, i64_w, i32_w]
    rfl
  refine pure_ (i := 3) (N := some 12) (v := ?_) (a' := ?_) Fh4 rfl rfl (by kernel_rfl) (fun _ _ _ h => h) (Or.inl ⟨by rfl, ?_⟩) ?_ ?_
  rotate_left
  · intro w'
    go_simp
    with_reducible rfl
  rotate_left
  · simp only [Act.put, List.setIfInBounds_toArray, List.set_cons_zero, List.set_cons_succ, i64_w, i32_w]
    rfl
  refine pure_ (i := 5) (N := some 14) (v := ?_) (a' := ?_) Fh5 rfl rfl (by kernel_rfl) (fun _ _ _ h => h) (Or.inl ⟨by rfl, ?_⟩) ?_ ?_
  rotate_left
  · intro w'
    go_simp
    with_reducible rfl
  rotate_left
  · simp only [Act.put, List.setIfInBounds_toArray, List.set_cons_zero, List.set_cons_succ, i64_w, i32_w]
    rfl
  refine pure_ (i := 6) (N := some 15) (v := ?_) (a' := ?_) Fh6 rfl rfl (by kernel_rfl) (fun _ _ _ h => h) (Or.inl ⟨by rfl, ?_⟩) ?_ ?_
  rotate_left
  · intro w'
    go_simp
    with_reducible rfl
  rotate_left
  · simp only [Act.put, List.setIfInBounds_toArray, List.set_cons_zero, List.set_cons_succ, i64_w, i32_w]
    rfl
  refine pure_ (i := 7) (N := some 16) (v := ?_) (a' := ?_) Fh7 rfl rfl (by kernel_rfl) (fun _ _ _ h => h) (Or.inl ⟨by rfl, ?_⟩) ?_ ?_
  rotate_left
  · intro w'
    go_simp
    with_reducible rfl
  rotate_left
  · simp only [Act.put, List.setIfInBounds_toArray, List.set_cons_zero, List.set_cons_succ, i64_w, i32_w]
    rfl
  refine take_ (i := 4) (N := some 13) (v := ?_) (a' := ?_) Fh8 rfl rfl (by kernel_rfl) (fun _ _ _ h => h) (Or.inl ⟨by rfl, ?_⟩) hHeld ?_ ?_
  rotate_left
  · rintro w' ⟨s0, s1, s2⟩
    go_simp
    with_reducible rfl
  rotate_left
  · simp only [Act.put, List.setIfInBounds_toArray, List.set_cons_zero, List.set_cons_succ, i64_w, i32_w]
    rfl
  refine take_ (i := 8) (N := some 17) (v := ?_) (a' := ?_) Fh9 rfl rfl (by kernel_rfl) (fun _ _ _ h => h) (Or.inl ⟨by rfl, ?_⟩) hHeld ?_ ?_
  rotate_left
  · rintro w' ⟨s0, s1, s2⟩
    go_simp
    with_reducible rfl
  rotate_left
  · simp only [Act.put, List.setIfInBounds_toArray, List.set_cons_zero, List.set_cons_succ, i64_w, i32_w]
    rfl
  refine pure_ (i := 9) (N := some 18) (v := ?_) (a' := ?_) Fh10 rfl rfl (by kernel_rfl) (fun _ _ _ h => h) (Or.inl ⟨by rfl, ?_⟩) ?_ ?_
  rotate_left
  · intro w'
    go_simp
    with_reducible rfl
  rotate_left
  · simp only [Act.put, List.setIfInBounds_toArray, List.set_cons_zero, List.set_cons_succ, i64_w, i32_w]
    rfl
  refine pure_ (i := 10) (N := some 19) (v := ?_) (a' := ?_) Fh11 rfl rfl (by kernel_rfl) (fun _ _ _ h => h) (Or.inl ⟨by rfl, ?_⟩) ?_ ?_
  rotate_left
  · intro w'
    go_simp
    with_reducible rfl
  rotate_left
  · simp only [Act.put, List.setIfInBounds_toArray, List.set_cons_zero, List.set_cons_succ, i64_w, i32_w]
    rfl
  refine pure_ (i := 11) (N := some 20) (v := ?_) (a' := ?_) Fh12 rfl rfl (by kernel_rfl) (fun _ _ _ h => h) (Or.inl ⟨by rfl, ?_⟩) ?_ ?_
  rotate_left
  · intro w'
    go_simp
    with_reducible rfl
  rotate_left
  · simp only [Act.put, List.setIfInBounds_toArray, List.set_cons_zero, List.set_cons_succ, i64_w, i32_w]
    rfl
  refine pure_ (i := 12) (N := some 21) (v := ?_) (a' := ?_) Fh13 rfl rfl (by kernel_rfl) (fun _ _ _ h => h) (Or.inl ⟨by rfl, ?_⟩) ?_ ?_
  rotate_left
  · intro w'
    go_simp
    with_reducible rfl
  rotate_left
  · simp only [Act.put, List.setIfInBounds_toArray, List.set_cons_zero, List.set_cons_succ, i64_w, i32_w]
    rfl
  refine pure_ (i := 13) (N := some 22) (v := ?_) (a' := ?_) Fh14 rfl rfl (by kernel_rfl) (fun _ _ _ h => h) (Or.inl ⟨by rfl, ?_⟩) ?_ ?_
  rotate_left
  · intro w'
    go_simp
    with_reducible rfl
  rotate_left
  · simp only [Act.put, List.setIfInBounds_toArray, List.set_cons_zero, List.set_cons_succ, i64_w, i32_w]
    rfl
  refine last_ (i := 14) (N := none) Fh15 rfl rfl (by kernel_rfl) (by decide) (fun K hK => ?_)
  refine skip_ (w1 := ?_) (by rfl) rfl ?_ ?_
  rotate_left
  · go_simp
    rfl
  refine hK.out _ _ ?_
  clear hK K
  refine done_ (by kernel_rfl) ?_
  obtain ⟨w_2, hw⟩ : ∃ x, x = (w_1.setCell ⟨g, 1, none⟩ (.slice A1 Q2.length c1)) := ⟨_, rfl⟩
  rw [← hw]
  have B_w_2 : Aside0 (Below (base) w w_2) := ⟨by rw [hw]; exact (Below.setCell B_w_1.out ((Sep.front [] (Row Kd.string 9 (.slice A0 L.length c0) (L) :: Row (Kd.int .i64) 3 (.slice A1 Q2.length c1) (Q2) :: l) S_w_1.out).blk_le) _)⟩
  have S_w_2 : Aside0 (Sep (base) (Stars (Blk g #[.slice A0 L.length c0, .slice A1 Q2.length c1, .int .i64 p] 68 :: Row Kd.string 9 (.slice A0 L.length c0) (L) :: Row (Kd.int .i64) 3 (.slice A1 Q2.length c1) (Q2) :: l)) w_2) := ⟨by rw [hw]; exact Sep.back [] (Row Kd.string 9 (.slice A0 L.length c0) (L) :: Row (Kd.int .i64) 3 (.slice A1 Q2.length c1) (Q2) :: l) (Sep.store (Sep.front [] (Row Kd.string 9 (.slice A0 L.length c0) (L) :: Row (Kd.int .i64) 3 (.slice A1 Q2.length c1) (Q2) :: l) S_w_1.out) (Nat.le_trans (hbase) B_w_1.out.size) 1 (.slice A1 Q2.length c1) (cs' := #[.slice A0 L.length c0, .slice A1 Q2.length c1, .int .i64 p]) rfl)⟩
  obtain ⟨c_g_0_w_2, c_g_1_w_2, c_g_2_w_2⟩ := XW.cells3 (Sep.front [] (Row Kd.string 9 (.slice A0 L.length c0) (L) :: Row (Kd.int .i64) 3 (.slice A1 Q2.length c1) (Q2) :: l) S_w_2.out).blk
  obtain ⟨z_g_0_w_2, z_g_1_w_2, z_g_2_w_2⟩ := XW.froz3 (Sep.front [] (Row Kd.string 9 (.slice A0 L.length c0) (L) :: Row (Kd.int .i64) 3 (.slice A1 Q2.length c1) (Q2) :: l) S_w_2.out).blk
  clear S_w_1 c_g_0_w_1 c_g_1_w_1 c_g_2_w_1 z_g_0_w_1 z_g_1_w_1 z_g_2_w_1
  clear hw
  by_cases hq1 : Q.length = 1
  · have hz : ¬ (0 : Int) < (Q2.length : Int) := by have := rub_len Q; rw [hQ2] at this; omega
    have hp3 : p2 = -1 := by rw [← hp2]; unfold rubP; rw [if_neg hq, if_pos hq1]
    subst hp3
    go_wp2_with (first | ((with_reducible refine gate_store (t := 3) (p := 25) rfl ?_); go_must (refine store_event (t := 3) (p := 25) (v := ?vo_5) (w1 := (w_2.setCell ⟨g, 2, none⟩ (.int .i64 (-1)))) ?hg ?ho ?hn ?hr ?_; (case ho => rfl); (case hg => rfl); (case hn => rfl); (case hr => first | (go_simp; done) | (go_simp; rfl)); intro w_3 hw; have B_w_3 : Aside0 (Below (base) w w_3) := ⟨by rw [hw]; exact (Below.setCell B_w_2.out ((Sep.front [] (Row Kd.string 9 (.slice A0 L.length c0) (L) :: Row (Kd.int .i64) 3 (.slice A1 Q2.length c1) (Q2) :: l) S_w_2.out).blk_le) _)⟩; have S_w_3 : Aside0 (Sep (base) (Stars (Blk g #[.slice A0 L.length c0, .slice A1 Q2.length c1, .int .i64 (-1)] 68 :: Row Kd.string 9 (.slice A0 L.length c0) (L) :: Row (Kd.int .i64) 3 (.slice A1 Q2.length c1) (Q2) :: l)) w_3) := ⟨by rw [hw]; exact Sep.back [] (Row Kd.string 9 (.slice A0 L.length c0) (L) :: Row (Kd.int .i64) 3 (.slice A1 Q2.length c1) (Q2) :: l) (Sep.store (Sep.front [] (Row Kd.string 9 (.slice A0 L.length c0) (L) :: Row (Kd.int .i64) 3 (.slice A1 Q2.length c1) (Q2) :: l) S_w_2.out) (Nat.le_trans (hbase) B_w_2.out.size) 2 (.int .i64 (-1)) (cs' := #[.slice A0 L.length c0, .slice A1 Q2.length c1, .int .i64 (-1)]) rfl)⟩; obtain ⟨c_g_0_w_3, c_g_1_w_3, c_g_2_w_3⟩ := XW.cells3 (Sep.front [] (Row Kd.string 9 (.slice A0 L.length c0) (L) :: Row (Kd.int .i64) 3 (.slice A1 Q2.length c1) (Q2) :: l) S_w_3.out).blk; obtain ⟨z_g_0_w_3, z_g_1_w_3, z_g_2_w_3⟩ := XW.froz3 (Sep.front [] (Row Kd.string 9 (.slice A0 L.length c0) (L) :: Row (Kd.int .i64) 3 (.slice A1 Q2.length c1) (Q2) :: l) S_w_3.out).blk; clear S_w_2 c_g_0_w_2 c_g_1_w_2 c_g_2_w_2 z_g_0_w_2 z_g_1_w_2 z_g_2_w_2; clear hw)))
    go_ret
    exact ⟨by rfl, SS.close S_w_3.out, B_w_3.out⟩
  · have hz : (0 : Int) < (Q2.length : Int) := by have := rub_len Q; rw [hQ2] at this; omega
    have HFD : Aside0 (lastF L (qs Q2) L.length = p2) := ⟨by rw [← hp2]; unfold rubP; rw [if_neg hq, if_neg hq1, hQ2]⟩
    have hwl : wrap64 ((L.length : Int) - 1) = (L.length : Int) - 1 := by unfold wrap64; omega
    clear hp2 hq1 hQ2 hq
    go_wp2_with (first | ((with_reducible refine gate_store (t := 3) (p := 25) rfl ?_); go_must (refine store_event (t := 3) (p := 25) (v := ?vo_5) (w1 := (w_2.setCell ⟨g, 2, none⟩ (.int .i64 (-1)))) ?hg ?ho ?hn ?hr ?_; (case ho => rfl); (case hg => rfl); (case hn => rfl); (case hr => first | (go_simp; done) | (go_simp; rfl)); intro w_3 hw; have B_w_3 : Aside0 (Below (base) w w_3) := ⟨by rw [hw]; exact (Below.setCell B_w_2.out ((Sep.front [] (Row Kd.string 9 (.slice A0 L.length c0) (L) :: Row (Kd.int .i64) 3 (.slice A1 Q2.length c1) (Q2) :: l) S_w_2.out).blk_le) _)⟩; have S_w_3 : Aside0 (Sep (base) (Stars (Blk g #[.slice A0 L.length c0, .slice A1 Q2.length c1, .int .i64 (-1)] 68 :: Row Kd.string 9 (.slice A0 L.length c0) (L) :: Row (Kd.int .i64) 3 (.slice A1 Q2.length c1) (Q2) :: l)) w_3) := ⟨by rw [hw]; exact Sep.back [] (Row Kd.string 9 (.slice A0 L.length c0) (L) :: Row (Kd.int .i64) 3 (.slice A1 Q2.length c1) (Q2) :: l) (Sep.store (Sep.front [] (Row Kd.string 9 (.slice A0 L.length c0) (L) :: Row (Kd.int .i64) 3 (.slice A1 Q2.length c1) (Q2) :: l) S_w_2.out) (Nat.le_trans (hbase) B_w_2.out.size) 2 (.int .i64 (-1)) (cs' := #[.slice A0 L.length c0, .slice A1 Q2.length c1, .int .i64 (-1)]) rfl)⟩; obtain ⟨c_g_0_w_3, c_g_1_w_3, c_g_2_w_3⟩ := XW.cells3 (Sep.front [] (Row Kd.string 9 (.slice A0 L.length c0) (L) :: Row (Kd.int .i64) 3 (.slice A1 Q2.length c1) (Q2) :: l) S_w_3.out).blk; obtain ⟨z_g_0_w_3, z_g_1_w_3, z_g_2_w_3⟩ := XW.froz3 (Sep.front [] (Row Kd.string 9 (.slice A0 L.length c0) (L) :: Row (Kd.int .i64) 3 (.slice A1 Q2.length c1) (Q2) :: l) S_w_3.out).blk; clear S_w_2 c_g_0_w_2 c_g_1_w_2 c_g_2_w_2 z_g_0_w_2 z_g_1_w_2 z_g_2_w_2; clear hw)) | (go_at_call 71; (with_reducible refine (last_is _ (Sf.of S_w_3.out) hq21 OK.out.short hll L.length (Nat.le_refl _) ((L.length : Int) - 1) rfl p2 HFD.out).mono ?_); rintro e w_4 ⟨rfl, hb⟩; have B_w_4 : Aside0 (Below (base) w w_4) := ⟨below_then B_w_3.out (Nat.le_trans (hbase) B_w_3.out.size) hb⟩; have S_w_4 : Aside0 (Sep (base) (Stars (Blk g #[.slice A0 L.length c0, .slice A1 Q2.length c1, .int .i64 (-1)] 68 :: Row Kd.string 9 (.slice A0 L.length c0) (L) :: Row (Kd.int .i64) 3 (.slice A1 Q2.length c1) (Q2) :: l)) w_4) := ⟨Sep.below S_w_3.out hb⟩; obtain ⟨c_g_0_w_4, c_g_1_w_4, c_g_2_w_4⟩ := XW.cells3 (Sep.front [] (Row Kd.string 9 (.slice A0 L.length c0) (L) :: Row (Kd.int .i64) 3 (.slice A1 Q2.length c1) (Q2) :: l) S_w_4.out).blk; obtain ⟨z_g_0_w_4, z_g_1_w_4, z_g_2_w_4⟩ := XW.froz3 (Sep.front [] (Row Kd.string 9 (.slice A0 L.length c0) (L) :: Row (Kd.int .i64) 3 (.slice A1 Q2.length c1) (Q2) :: l) S_w_4.out).blk; clear S_w_3 c_g_0_w_3 c_g_1_w_3 c_g_2_w_3 z_g_0_w_3 z_g_1_w_3 z_g_2_w_3; clear hb) | ((with_reducible refine gate_store (t := 3) (p := 42) rfl ?_); go_must (refine store_event (t := 3) (p := 42) (v := ?vo_6) (w1 := (w_4.setCell ⟨g, 2, none⟩ (.int .i64 p2))) ?hg ?ho ?hn ?hr ?_; (case ho => rfl); (case hg => rfl); (case hn => rfl); (case hr => first | (go_simp; done) | (go_simp; rfl)); intro w_5 hw; have B_w_5 : Aside0 (Below (base) w w_5) := ⟨by rw [hw]; exact (Below.setCell B_w_4.out ((Sep.front [] (Row Kd.string 9 (.slice A0 L.length c0) (L) :: Row (Kd.int .i64) 3 (.slice A1 Q2.length c1) (Q2) :: l) S_w_4.out).blk_le) _)⟩; have S_w_5 : Aside0 (Sep (base) (Stars (Blk g #[.slice A0 L.length c0, .slice A1 Q2.length c1, .int .i64 p2] 68 :: Row Kd.string 9 (.slice A0 L.length c0) (L) :: Row (Kd.int .i64) 3 (.slice A1 Q2.length c1) (Q2) :: l)) w_5) := ⟨by rw [hw]; exact Sep.back [] (Row Kd.string 9 (.slice A0 L.length c0) (L) :: Row (Kd.int .i64) 3 (.slice A1 Q2.length c1) (Q2) :: l) (Sep.store (Sep.front [] (Row Kd.string 9 (.slice A0 L.length c0) (L) :: Row (Kd.int .i64) 3 (.slice A1 Q2.length c1) (Q2) :: l) S_w_4.out) (Nat.le_trans (hbase) B_w_4.out.size) 2 (.int .i64 p2) (cs' := #[.slice A0 L.length c0, .slice A1 Q2.length c1, .int .i64 p2]) rfl)⟩; obtain ⟨c_g_0_w_5, c_g_1_w_5, c_g_2_w_5⟩ := XW.cells3 (Sep.front [] (Row Kd.string 9 (.slice A0 L.length c0) (L) :: Row (Kd.int .i64) 3 (.slice A1 Q2.length c1) (Q2) :: l) S_w_5.out).blk; obtain ⟨z_g_0_w_5, z_g_1_w_5, z_g_2_w_5⟩ := XW.froz3 (Sep.front [] (Row Kd.string 9 (.slice A0 L.length c0) (L) :: Row (Kd.int .i64) 3 (.slice A1 Q2.length c1) (Q2) :: l) S_w_5.out).blk; clear S_w_4 c_g_0_w_4 c_g_1_w_4 c_g_2_w_4 z_g_0_w_4 z_g_1_w_4 z_g_2_w_4; clear hw)))
    go_ret
    exact ⟨rfl, SS.close S_w_5.out, B_w_5.out⟩
set_option maxHeartbeats 8000000 in
set_option maxRecDepth 100000 in
theorem refback_is {base g : Nat} {L : List ByteArray} {Q : List Int} {p : Int} {l : List Assn} (w : World) (h : Sep base (Star (SS 68 .i64 3 g L Q p) (Stars l)) w) (hbase : base ≤ w.heap.size) (hok : Ok L Q p) (r : Int) (hr : backR L Q p = r) (b : Bool) (hb : decide (r ≠ -1) = b) (p2 : Int) (hp2 : goP r p = p2) : Calls Try.prog 45 #[.pointer (some ⟨g, 0, none⟩)] w fun e w' => e = .returned (.bool b) ∧ Sep base (Star (SS 68 .i64 3 g L Q p2) (Stars l)) w' ∧ Below base w w' := by
  have OK := Aside0.mk hok
  clear hok
  obtain ⟨A0, c0, A1, c1, hl0, hl1, hC0, hC1, hS⟩ := SS.open h
  have S_w := Aside0.mk hS
  have B_w := Aside0.mk (Below.refl base w)
  clear h hS hC0 hC1
  obtain ⟨c_g_0_w, c_g_1_w, c_g_2_w⟩ := XW.cells3 (Sep.front [] (Row Kd.string 9 (.slice A0 L.length c0) (L) :: Row (Kd.int .i64) 3 (.slice A1 Q.length c1) (Q) :: l) S_w.out).blk
  obtain ⟨z_g_0_w, z_g_1_w, z_g_2_w⟩ := XW.froz3 (Sep.front [] (Row Kd.string 9 (.slice A0 L.length c0) (L) :: Row (Kd.int .i64) 3 (.slice A1 Q.length c1) (Q) :: l) S_w.out).blk
  by_cases hp : p = -1
  case pos =>
    obtain rfl : r = -1 := by rw [← hr]; unfold backR; rw [if_pos hp]
    obtain rfl : b = false := by rw [← hb]; rfl
    obtain rfl : p2 = p := by rw [← hp2]; rfl
    have hpl : p2 < 0 := by omega
    have hpd : decide (p2 < 0) = true := decide_eq_true hpl
    clear hp hr hb hp2
    go_enter Try.func45, Try.ntmps45
    go_wp2
    go_ret
    exact ⟨rfl, SS.close S_w.out, B_w.out⟩
  have h0 := OK.out.p0
  have h1 := OK.out.p1
  have hll := OK.out.len
  have hq5 : Q.length ≤ 1000 := by have := OK.out.q; omega
  obtain ⟨k, rfl⟩ : ∃ k : Nat, p = (k : Int) := ⟨p.toNat, by omega⟩
  have hpl : ¬ (k : Int) < 0 := by omega
  have hpd : decide ((k : Int) < 0) = false := decide_eq_false hpl
  have hk : k ≤ L.length := by omega
  have hw : wrap64 ((k : Int) - 1) = (k : Int) - 1 := by unfold wrap64; omega
  have HFD : Aside0 (lastF L (qs Q) k = r) := ⟨by rw [← hr]; unfold backR; rw [if_neg hp, Int.toNat_natCast]⟩
  have hrg : -1 ≤ r := by rw [← HFD.out]; exact (lastF_lt _ _ _).1
  clear hr hp
  by_cases hr1 : r = -1
  · obtain rfl : b = false := by rw [← hb, hr1]; rfl
    obtain rfl : p2 = (k : Int) := by rw [← hp2, hr1]; rfl
    have hrl : r < 0 := by omega
    have hrd : decide (r < 0) = true := decide_eq_true hrl
    clear hr1 hb hp2
    go_enter Try.func45, Try.ntmps45
    go_wp2_with (first | (go_at_call 71; (with_reducible refine (last_is _ (Sf.of S_w.out) hq5 OK.out.short hll k hk ((k : Int) - 1) rfl r HFD.out).mono ?_); rintro e w_1 ⟨rfl, hb⟩; have B_w_1 : Aside0 (Below (base) w w_1) := ⟨below_then B_w.out (Nat.le_trans (hbase) B_w.out.size) hb⟩; have S_w_1 : Aside0 (Sep (base) (Stars (Blk g #[.slice A0 L.length c0, .slice A1 Q.length c1, .int .i64 (k : Int)] 68 :: Row Kd.string 9 (.slice A0 L.length c0) (L) :: Row (Kd.int .i64) 3 (.slice A1 Q.length c1) (Q) :: l)) w_1) := ⟨Sep.below S_w.out hb⟩; have Q_w_1 : Aside0 (Below w.heap.size w w_1) := ⟨hb⟩; obtain ⟨c_g_0_w_1, c_g_1_w_1, c_g_2_w_1⟩ := XW.cells3 (Sep.front [] (Row Kd.string 9 (.slice A0 L.length c0) (L) :: Row (Kd.int .i64) 3 (.slice A1 Q.length c1) (Q) :: l) S_w_1.out).blk; obtain ⟨z_g_0_w_1, z_g_1_w_1, z_g_2_w_1⟩ := XW.froz3 (Sep.front [] (Row Kd.string 9 (.slice A0 L.length c0) (L) :: Row (Kd.int .i64) 3 (.slice A1 Q.length c1) (Q) :: l) S_w_1.out).blk; clear S_w c_g_0_w c_g_1_w c_g_2_w z_g_0_w z_g_1_w z_g_2_w; clear hb))
    go_ret
    exact ⟨rfl, SS.close S_w_1.out, B_w_1.out⟩
  · obtain rfl : b = true := by rw [← hb]; exact decide_eq_true hr1
    obtain rfl : r = p2 := by rw [← hp2]; unfold goP; rw [if_neg hr1]
    have hrl : ¬ r < 0 := by omega
    have hrd : decide (r < 0) = false := decide_eq_false hrl
    clear hr1 hb hp2
    go_enter Try.func45, Try.ntmps45
    go_wp2_with (first | (go_at_call 71; (with_reducible refine (last_is _ (Sf.of S_w.out) hq5 OK.out.short hll k hk ((k : Int) - 1) rfl r HFD.out).mono ?_); rintro e w_1 ⟨rfl, hb⟩; have B_w_1 : Aside0 (Below (base) w w_1) := ⟨below_then B_w.out (Nat.le_trans (hbase) B_w.out.size) hb⟩; have S_w_1 : Aside0 (Sep (base) (Stars (Blk g #[.slice A0 L.length c0, .slice A1 Q.length c1, .int .i64 (k : Int)] 68 :: Row Kd.string 9 (.slice A0 L.length c0) (L) :: Row (Kd.int .i64) 3 (.slice A1 Q.length c1) (Q) :: l)) w_1) := ⟨Sep.below S_w.out hb⟩; have Q_w_1 : Aside0 (Below w.heap.size w w_1) := ⟨hb⟩; obtain ⟨c_g_0_w_1, c_g_1_w_1, c_g_2_w_1⟩ := XW.cells3 (Sep.front [] (Row Kd.string 9 (.slice A0 L.length c0) (L) :: Row (Kd.int .i64) 3 (.slice A1 Q.length c1) (Q) :: l) S_w_1.out).blk; obtain ⟨z_g_0_w_1, z_g_1_w_1, z_g_2_w_1⟩ := XW.froz3 (Sep.front [] (Row Kd.string 9 (.slice A0 L.length c0) (L) :: Row (Kd.int .i64) 3 (.slice A1 Q.length c1) (Q) :: l) S_w_1.out).blk; clear S_w c_g_0_w c_g_1_w c_g_2_w z_g_0_w z_g_1_w z_g_2_w; clear hb) | ((with_reducible refine gate_store (t := 3) (p := 21) rfl ?_); go_must (refine store_event (t := 3) (p := 21) (v := ?vo_7) (w1 := (w_1.setCell ⟨g, 2, none⟩ (.int .i64 r))) ?hg ?ho ?hn ?hr ?_; (case ho => rfl); (case hg => rfl); (case hn => rfl); (case hr => first | (go_simp; done) | (go_simp; rfl)); intro w_2 hw; have B_w_2 : Aside0 (Below (base) w w_2) := ⟨by rw [hw]; exact (Below.setCell B_w_1.out ((Sep.front [] (Row Kd.string 9 (.slice A0 L.length c0) (L) :: Row (Kd.int .i64) 3 (.slice A1 Q.length c1) (Q) :: l) S_w_1.out).blk_le) _)⟩; have S_w_2 : Aside0 (Sep (base) (Stars (Blk g #[.slice A0 L.length c0, .slice A1 Q.length c1, .int .i64 r] 68 :: Row Kd.string 9 (.slice A0 L.length c0) (L) :: Row (Kd.int .i64) 3 (.slice A1 Q.length c1) (Q) :: l)) w_2) := ⟨by rw [hw]; exact Sep.back [] (Row Kd.string 9 (.slice A0 L.length c0) (L) :: Row (Kd.int .i64) 3 (.slice A1 Q.length c1) (Q) :: l) (Sep.store (Sep.front [] (Row Kd.string 9 (.slice A0 L.length c0) (L) :: Row (Kd.int .i64) 3 (.slice A1 Q.length c1) (Q) :: l) S_w_1.out) (Nat.le_trans (hbase) B_w_1.out.size) 2 (.int .i64 r) (cs' := #[.slice A0 L.length c0, .slice A1 Q.length c1, .int .i64 r]) rfl)⟩; obtain ⟨c_g_0_w_2, c_g_1_w_2, c_g_2_w_2⟩ := XW.cells3 (Sep.front [] (Row Kd.string 9 (.slice A0 L.length c0) (L) :: Row (Kd.int .i64) 3 (.slice A1 Q.length c1) (Q) :: l) S_w_2.out).blk; obtain ⟨z_g_0_w_2, z_g_1_w_2, z_g_2_w_2⟩ := XW.froz3 (Sep.front [] (Row Kd.string 9 (.slice A0 L.length c0) (L) :: Row (Kd.int .i64) 3 (.slice A1 Q.length c1) (Q) :: l) S_w_2.out).blk; clear S_w_1 c_g_0_w_1 c_g_1_w_1 c_g_2_w_1 z_g_0_w_1 z_g_1_w_1 z_g_2_w_1; clear hw)))
    go_ret
    exact ⟨rfl, SS.close S_w_2.out, B_w_2.out⟩
set_option maxHeartbeats 8000000 in
set_option maxRecDepth 100000 in
theorem refon_is {base g : Nat} {L : List ByteArray} {Q : List Int} {p : Int} {l : List Assn} (w : World) (h : Sep base (Star (SS 68 .i64 3 g L Q p) (Stars l)) w) (hbase : base ≤ w.heap.size) (hok : Ok L Q p) (r : Int) (hr : onR L Q p = r) (b : Bool) (hb : decide (r ≠ -1) = b) (p2 : Int) (hp2 : goP r p = p2) : Calls Try.prog 47 #[.pointer (some ⟨g, 0, none⟩)] w fun e w' => e = .returned (.bool b) ∧ Sep base (Star (SS 68 .i64 3 g L Q p2) (Stars l)) w' ∧ Below base w w' := by
  have OK := Aside0.mk hok
  clear hok
  obtain ⟨A0, c0, A1, c1, hl0, hl1, hC0, hC1, hS⟩ := SS.open h
  have S_w := Aside0.mk hS
  have B_w := Aside0.mk (Below.refl base w)
  clear h hS hC0 hC1
  obtain ⟨c_g_0_w, c_g_1_w, c_g_2_w⟩ := XW.cells3 (Sep.front [] (Row Kd.string 9 (.slice A0 L.length c0) (L) :: Row (Kd.int .i64) 3 (.slice A1 Q.length c1) (Q) :: l) S_w.out).blk
  obtain ⟨z_g_0_w, z_g_1_w, z_g_2_w⟩ := XW.froz3 (Sep.front [] (Row Kd.string 9 (.slice A0 L.length c0) (L) :: Row (Kd.int .i64) 3 (.slice A1 Q.length c1) (Q) :: l) S_w.out).blk
  by_cases hp : p = -1
  case pos =>
    obtain rfl : r = -1 := by rw [← hr]; unfold onR; rw [if_pos hp]
    obtain rfl : b = false := by rw [← hb]; rfl
    obtain rfl : p2 = p := by rw [← hp2]; rfl
    have hpl : p2 < 0 := by omega
    have hpd : decide (p2 < 0) = true := decide_eq_true hpl
    clear hp hr hb hp2
    go_enter Try.func47, Try.ntmps47
    go_wp2
    go_ret
    exact ⟨rfl, SS.close S_w.out, B_w.out⟩
  have h0 := OK.out.p0
  have h1 := OK.out.p1
  have hll := OK.out.len
  have hq5 : Q.length ≤ 1000 := by have := OK.out.q; omega
  obtain ⟨k, rfl⟩ : ∃ k : Nat, p = (k : Int) := ⟨p.toNat, by omega⟩
  have hpl : ¬ (k : Int) < 0 := by omega
  have hpd : decide ((k : Int) < 0) = false := decide_eq_false hpl
  have hk : k < L.length := by omega
  have hw : wrap64 ((k : Int) + 1) = ((k + 1 : Nat) : Int) := by unfold wrap64; omega
  have HFD : Aside0 (nextF L (qs Q) (k + 1) (L.length - (k + 1)) = r) := ⟨by rw [← hr]; unfold onR; rw [if_neg hp, Int.toNat_natCast]⟩
  have HB := Aside0.mk hb
  have HP := Aside0.mk hp2
  clear hr hp hb hp2
  go_enter Try.func47, Try.ntmps47
  go_wp2
  go_loopw [3] (fun i wr => ∃ j : Nat, i = .int .i64 (j : Int) ∧ Aside0 (j ≤ L.length) ∧ Aside0 (nextF L (qs Q) j (L.length - j) = r) ∧ Aside0 (Sep base (Stars (Blk g #[.slice A0 L.length c0, .slice A1 Q.length c1, .int .i64 (k : Int)] 68 :: Row Kd.string 9 (.slice A0 L.length c0) (L) :: Row (Kd.int .i64) 3 (.slice A1 Q.length c1) (Q) :: l)) wr) ∧ Aside0 (Below base w wr)) (fun i _ => L.length - (intOf i).toNat)
  case atStart => exact ⟨k + 1, (by first | rfl | simp), ⟨by omega⟩, HFD, S_w, B_w⟩
  case round =>
    clear S_w c_g_0_w c_g_1_w c_g_2_w z_g_0_w z_g_1_w z_g_2_w
    obtain ⟨j, rfl, HJ, HN, S_wr, B_wr⟩ := hrel
    obtain ⟨c_g_0_wr, c_g_1_wr, c_g_2_wr⟩ := XW.cells3 (Sep.front [] (Row Kd.string 9 (.slice A0 L.length c0) (L) :: Row (Kd.int .i64) 3 (.slice A1 Q.length c1) (Q) :: l) S_wr.out).blk
    obtain ⟨z_g_0_wr, z_g_1_wr, z_g_2_wr⟩ := XW.froz3 (Sep.front [] (Row Kd.string 9 (.slice A0 L.length c0) (L) :: Row (Kd.int .i64) 3 (.slice A1 Q.length c1) (Q) :: l) S_wr.out).blk
    have hj := HJ.out
    have hj0 : (0 : Int) ≤ (j : Int) := by omega
    by_cases hlt : j < L.length
    · have hlt2 : (j : Int) < (L.length : Int) := by omega
      have hw2 : wrap64 ((j : Int) + 1) = (j : Int) + 1 := by unfold wrap64; omega
      obtain ⟨f, hf⟩ : ∃ f, fit (rdOf ByteArray.empty L (j : Int)) (qs Q) = f := ⟨_, rfl⟩
      have HF := Aside0.mk hf
      have HU : Aside0 (nextF L (qs Q) j (L.length - j) = if f = true then (j : Int) else nextF L (qs Q) (j + 1) (L.length - (j + 1))) := ⟨by rw [show L.length - j = (L.length - (j + 1)) + 1 by omega, nextF, hf]⟩
      clear hf
      cases f with
      | true =>
        have hr1 : r = (j : Int) := by rw [← HN.out, HU.out]; rfl
        obtain rfl : b = true := by rw [← HB.out]; exact decide_eq_true (by omega)
        obtain rfl : p2 = (j : Int) := by rw [← HP.out]; unfold goP; rw [if_neg (by omega)]; exact hr1
        clear hr1
        go_wp2_with (first | (go_at_call 74; (with_reducible refine (fits_is _ (Sf.of S_wr.out) hq5 j hlt _ rfl (OK.out.short.at j hlt |> fun h => Nat.le_trans h (by omega)) true HF.out).mono ?_); rintro e wr_1 ⟨rfl, hb⟩; have B_wr_1 : Aside0 (Below (base) w wr_1) := ⟨below_then B_wr.out (Nat.le_trans (hbase) B_wr.out.size) hb⟩; have S_wr_1 : Aside0 (Sep (base) (Stars (Blk g #[.slice A0 L.length c0, .slice A1 Q.length c1, .int .i64 (k : Int)] 68 :: Row Kd.string 9 (.slice A0 L.length c0) (L) :: Row (Kd.int .i64) 3 (.slice A1 Q.length c1) (Q) :: l)) wr_1) := ⟨Sep.below S_wr.out hb⟩; obtain ⟨c_g_0_wr_1, c_g_1_wr_1, c_g_2_wr_1⟩ := XW.cells3 (Sep.front [] (Row Kd.string 9 (.slice A0 L.length c0) (L) :: Row (Kd.int .i64) 3 (.slice A1 Q.length c1) (Q) :: l) S_wr_1.out).blk; obtain ⟨z_g_0_wr_1, z_g_1_wr_1, z_g_2_wr_1⟩ := XW.froz3 (Sep.front [] (Row Kd.string 9 (.slice A0 L.length c0) (L) :: Row (Kd.int .i64) 3 (.slice A1 Q.length c1) (Q) :: l) S_wr_1.out).blk; clear S_wr c_g_0_wr c_g_1_wr c_g_2_wr z_g_0_wr z_g_1_wr z_g_2_wr; clear hb) | ((with_reducible refine gate_store (t := 3) (p := 29) rfl ?_); go_must (refine store_event (t := 3) (p := 29) (v := ?vo_8) (w1 := (wr_1.setCell ⟨g, 2, none⟩ (.int .i64 (j : Int)))) ?hg ?ho ?hn ?hr ?_; (case ho => rfl); (case hg => rfl); (case hn => rfl); (case hr => first | (go_simp; done) | (go_simp; rfl)); intro wr_2 hw; have B_wr_2 : Aside0 (Below (base) w wr_2) := ⟨by rw [hw]; exact (Below.setCell B_wr_1.out ((Sep.front [] (Row Kd.string 9 (.slice A0 L.length c0) (L) :: Row (Kd.int .i64) 3 (.slice A1 Q.length c1) (Q) :: l) S_wr_1.out).blk_le) _)⟩; have S_wr_2 : Aside0 (Sep (base) (Stars (Blk g #[.slice A0 L.length c0, .slice A1 Q.length c1, .int .i64 (j : Int)] 68 :: Row Kd.string 9 (.slice A0 L.length c0) (L) :: Row (Kd.int .i64) 3 (.slice A1 Q.length c1) (Q) :: l)) wr_2) := ⟨by rw [hw]; exact Sep.back [] (Row Kd.string 9 (.slice A0 L.length c0) (L) :: Row (Kd.int .i64) 3 (.slice A1 Q.length c1) (Q) :: l) (Sep.store (Sep.front [] (Row Kd.string 9 (.slice A0 L.length c0) (L) :: Row (Kd.int .i64) 3 (.slice A1 Q.length c1) (Q) :: l) S_wr_1.out) (Nat.le_trans (hbase) B_wr_1.out.size) 2 (.int .i64 (j : Int)) (cs' := #[.slice A0 L.length c0, .slice A1 Q.length c1, .int .i64 (j : Int)]) rfl)⟩; obtain ⟨c_g_0_wr_2, c_g_1_wr_2, c_g_2_wr_2⟩ := XW.cells3 (Sep.front [] (Row Kd.string 9 (.slice A0 L.length c0) (L) :: Row (Kd.int .i64) 3 (.slice A1 Q.length c1) (Q) :: l) S_wr_2.out).blk; obtain ⟨z_g_0_wr_2, z_g_1_wr_2, z_g_2_wr_2⟩ := XW.froz3 (Sep.front [] (Row Kd.string 9 (.slice A0 L.length c0) (L) :: Row (Kd.int .i64) 3 (.slice A1 Q.length c1) (Q) :: l) S_wr_2.out).blk; clear S_wr_1 c_g_0_wr_1 c_g_1_wr_1 c_g_2_wr_1 z_g_0_wr_1 z_g_1_wr_1 z_g_2_wr_1; clear hw)))
        go_ret
        exact ⟨rfl, SS.close S_wr_2.out, B_wr_2.out⟩
      | false =>
        go_wp2_with (first | (go_at_call 74; (with_reducible refine (fits_is _ (Sf.of S_wr.out) hq5 j hlt _ rfl (OK.out.short.at j hlt |> fun h => Nat.le_trans h (by omega)) false HF.out).mono ?_); rintro e wr_1 ⟨rfl, hb⟩; have B_wr_1 : Aside0 (Below (base) w wr_1) := ⟨below_then B_wr.out (Nat.le_trans (hbase) B_wr.out.size) hb⟩; have S_wr_1 : Aside0 (Sep (base) (Stars (Blk g #[.slice A0 L.length c0, .slice A1 Q.length c1, .int .i64 (k : Int)] 68 :: Row Kd.string 9 (.slice A0 L.length c0) (L) :: Row (Kd.int .i64) 3 (.slice A1 Q.length c1) (Q) :: l)) wr_1) := ⟨Sep.below S_wr.out hb⟩; obtain ⟨c_g_0_wr_1, c_g_1_wr_1, c_g_2_wr_1⟩ := XW.cells3 (Sep.front [] (Row Kd.string 9 (.slice A0 L.length c0) (L) :: Row (Kd.int .i64) 3 (.slice A1 Q.length c1) (Q) :: l) S_wr_1.out).blk; obtain ⟨z_g_0_wr_1, z_g_1_wr_1, z_g_2_wr_1⟩ := XW.froz3 (Sep.front [] (Row Kd.string 9 (.slice A0 L.length c0) (L) :: Row (Kd.int .i64) 3 (.slice A1 Q.length c1) (Q) :: l) S_wr_1.out).blk; clear S_wr c_g_0_wr c_g_1_wr c_g_2_wr z_g_0_wr z_g_1_wr z_g_2_wr; clear hb))
        go_roundw
        case rel => first | exact ⟨j + 1, by go_num, ⟨by omega⟩, ⟨by rw [← HN.out, HU.out]; rfl⟩, S_wr_1, B_wr_1⟩ | ((repeat apply Exists.intro); exact ⟨⟨j + 1, by go_num, ⟨by omega⟩, ⟨by rw [← HN.out, HU.out]; rfl⟩, S_wr_1, B_wr_1⟩, rfl⟩)
        case measure => simp [intOf] <;> omega
    · have hlt2 : ¬ (j : Int) < (L.length : Int) := by omega
      have hr1 : r = -1 := by rw [← HN.out, show L.length - j = 0 by omega]; rfl
      obtain rfl : b = false := by rw [← HB.out, hr1]; rfl
      obtain rfl : p2 = (k : Int) := by rw [← HP.out, hr1]; rfl
      clear hr1
      go_wp2
      go_ret
      exact ⟨rfl, SS.close S_wr.out, B_wr.out⟩
end Go.Proofs.Ythofobcbbddeeaa.SrchA
