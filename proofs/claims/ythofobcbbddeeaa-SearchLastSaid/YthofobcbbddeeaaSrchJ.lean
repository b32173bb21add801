/- Browses: Start; the reference's Start. Conditions: none beyond those that each theorem states. -/
import Derived.Test.YthofobcbbddeeaaSrchI
namespace Go.Proofs.Ythofobcbbddeeaa.SrchA
open Go.RowKit Go.Proofs.YthofobcbbddeeaaW.PrintWords Go.Proofs.YthofobcbbddeeaaW.PrintLast Go.Proofs.YthofobcbbddeeaaW.PrintMore Go.Proofs.Ythofobcbbddeeaa.XS Go.Proofs.Ythofobcbbddeeaa.PSrch
set_option linter.unusedVariables false
set_option linter.unusedSimpArgs false
abbrev encS (x : Option Addr × Nat × Nat) : Value := .slice x.1 x.2.1 x.2.2
/-- Slices, as they stand in a row. -/
abbrev KSl : Kd (Option Addr × Nat × Nat) := Kd.scalar encS (fun _ => rfl)
theorem zero_size (z : Value) (k : Nat) (hz : z.cells.size = 1) : (Builtin.zeroCells z.cells k).size = k := by
  unfold Builtin.zeroCells
  simp [hz]
theorem grow_is (w : World) (n : Nat) (h1 : 1 ≤ n) (h2 : n ≤ 2000) : Calls Try.prog 85 #[.slice none 0 0, .int .i64 (n : Int)] w fun e w' => ∃ A c, e = .returned (.slice A 0 c) ∧ Sep w.heap.size (Stars [Row Kd.string 9 (.slice A 0 c) []]) w' ∧ Below w.heap.size w w' := by
  obtain ⟨i0, hi, hz0, hz1, hz2⟩ := info_parts info9
  have hc := Any8.slices_Grow_grow SrchS.lays8n4 i0 (.string ⟨#[]⟩) hi hz0 (by omega) none 0 0 n [] w (by omega) (by omega) (by rw [hz2]; omega) (by omega) (by simp) (fun _ => rfl) (fun a h => by cases h)
  refine hc.mono ?_
  rintro e w' ⟨rfl, rfl⟩
  refine ⟨some ⟨w.heap.size, 0, none⟩, _, rfl, ?_, (Below.drew (Below.refl _ w)).alloc (by simp) _⟩
  have hG1 := grownCap_ge w (0 + n) 0 9
  have hG2 := grownCap_le_maxLen w (0 + n) 0 9 (by unfold maxLen; omega)
  show Sep w.heap.size (Stars [Row Kd.string 9 (.slice (some ⟨w.heap.size, 0, none⟩) 0 (grownCap w (0 + n) 0 9)) []]) (w.drew.alloc (.cells (([] : List Value).toArray ++ Builtin.zeroCells (Value.string ⟨#[]⟩).cells (0 + n - 0) ++ Builtin.zeroCells (Value.string ⟨#[]⟩).cells (grownCap w (0 + n) 0 9 - (0 + n))) 9))
  generalize grownCap w (0 + n) 0 9 = G at hG1 hG2 ⊢
  refine Sep.one (Sep.new_row1 (ok := fun _ => True) ⟨fun _ _ => trivial, [], ⟨rfl, .inr ⟨w.heap.size, G, _, rfl, Nat.le_refl _, by show (w.heap.push _)[w.heap.size]? = _; simp; rfl, Nat.zero_le _, hG2, ?_, by simp⟩⟩, Reps.none _ _⟩)
  rw [Array.size_append, zero_size _ _ rfl, zero_size _ _ rfl]
  show n + (G - n) = G * 1
  omega
theorem grow_at (w : World) (n : Nat) (h1 : 1 ≤ n) (h2 : n ≤ 2000) (i : Int) (hi : i = (n : Int)) : Calls Try.prog 85 #[.slice none 0 0, .int .i64 i] w fun e w' => ∃ A c, e = .returned (.slice A 0 c) ∧ Sep w.heap.size (Stars [Row Kd.string 9 (.slice A 0 c) []]) w' ∧ Below w.heap.size w w' := by
  subst hi; exact grow_is w n h1 h2
set_option maxHeartbeats 8000000 in
set_option maxRecDepth 100000 in
theorem concat_is (w : World) (ga cc : Nat) (A0 : Option Addr) (c0 : Nat) (L : List ByteArray) (A1 : Option Addr) (c1 : Nat) (t : ByteArray) (x0 : w.cell? ⟨ga, 0, none⟩ = some (.slice A0 L.length c0)) (x1 : w.cell? ⟨ga, 1, none⟩ = some (.slice A1 1 c1)) (hC0 : Kd.string.C w A0 L.length L) (hC1 : Kd.string.C w A1 1 [t]) (hL : L.length ≤ 1000) : Calls Try.prog 66 #[.slice (some ⟨ga, 0, none⟩) 2 cc] w fun e w' => ∃ A c, e = .returned (.slice A (L.length + 1) c) ∧ Sep w.heap.size (Stars [Row Kd.string 9 (.slice A (L.length + 1) c) (L ++ [t])]) w' ∧ Below w.heap.size w w' := by
  have HC0 := Aside0.mk hC0
  have HC1 := Aside0.mk hC1
  clear hC0 hC1
  have hw0 : wrap64 (L.length : Int) = (L.length : Int) := by unfold wrap64; omega
  have hw1 : wrap64 ((L.length : Int) + 1) = (L.length : Int) + 1 := by unfold wrap64; omega
  have hn0 : ¬ (L.length : Int) < 0 := by omega
  have hn1 : ¬ (L.length : Int) + 1 < 0 := by omega
  have hun := Try.underlying42
  have hun2 := Try.underlying112
  have B_w := Aside0.mk (Below.refl w.heap.size w)
  have S_w : Aside0 (Sep w.heap.size (Stars []) w) := ⟨Sep.emp _ _⟩
  go_enter Try.func66, Try.ntmps66
  go_wp2
  go_loopw [3, 11] (fun v3 i wr => ((i = .int .i64 0 ∧ v3 = .int .i64 0) ∨ (i = .int .i64 1 ∧ v3 = .int .i64 (L.length : Int)) ∨ (i = .int .i64 2 ∧ v3 = .int .i64 ((L.length : Int) + 1))) ∧ Aside0 (Below w.heap.size w wr)) (fun _ i _ => 2 - (intOf i).toNat)
  case atStart => exact ⟨.inl ⟨rfl, rfl⟩, B_w⟩
  case round =>
    clear S_w
    obtain ⟨hi, B_wr⟩ := hrel
    have x0_wr := pw_cell_below B_wr.out x0
    have x1_wr := pw_cell_below B_wr.out x1
    rcases hi with ⟨rfl, rfl⟩ | ⟨rfl, rfl⟩ | ⟨rfl, rfl⟩
    · skip
      go_wp2
      go_roundw
      case rel => first | exact ⟨.inr (.inl ⟨by first | rfl | simp, by first | rfl | simp⟩), B_wr⟩ | ((repeat apply Exists.intro); exact ⟨⟨.inr (.inl ⟨by first | rfl | simp, by first | rfl | simp⟩), B_wr⟩, rfl⟩)
      case measure => simp [intOf]
    · skip
      go_wp2
      go_roundw
      case rel => first | exact ⟨.inr (.inr ⟨by first | rfl | simp, by first | rfl | simp⟩), B_wr⟩ | ((repeat apply Exists.intro); exact ⟨⟨.inr (.inr ⟨by first | rfl | simp, by first | rfl | simp⟩), B_wr⟩, rfl⟩)
      case measure => simp [intOf]
    · skip
      have S_wr : Aside0 (Sep w.heap.size (Stars []) wr) := ⟨Sep.emp _ _⟩
      have hcast : (L.length : Int) + 1 = ((L.length + 1 : Nat) : Int) := by omega
      have HCA := Aside0.mk hcast
      clear hcast
      go_wp2_with (first | (go_at_call 85; (with_reducible refine (grow_at _ (L.length + 1) (by omega) (by omega) _ HCA.out).mono ?_); rintro e wr_1 ⟨A6, c6, rfl, hN, hb⟩; have B_wr_1 : Aside0 (Below (w.heap.size) w wr_1) := ⟨below_then B_wr.out B_wr.out.size hb⟩; have S_wr_1 : Aside0 (Sep (w.heap.size) (Stars [Row Kd.string 9 (.slice A6 0 c6) (([] : List ByteArray))]) wr_1) := ⟨Sep.more S_wr.out hN.left hb B_wr.out.size⟩; have x0_wr_1 := pw_cell_below B_wr_1.out x0; have x1_wr_1 := pw_cell_below B_wr_1.out x1; clear S_wr x0_wr x1_wr; clear hb))
      go_loopw [6, 27] (fun v6 i wr => ∃ A c, ((i = .int .i64 0 ∧ v6 = .slice A 0 c ∧ Aside0 (Sep w.heap.size (Stars [Row Kd.string 9 (.slice A 0 c) []]) wr)) ∨ (i = .int .i64 1 ∧ v6 = .slice A L.length c ∧ Aside0 (Sep w.heap.size (Stars [Row Kd.string 9 (.slice A L.length c) L]) wr)) ∨ (i = .int .i64 2 ∧ v6 = .slice A (L.length + 1) c ∧ Aside0 (Sep w.heap.size (Stars [Row Kd.string 9 (.slice A (L.length + 1) c) (L ++ [t])]) wr))) ∧ Aside0 (Below w.heap.size w wr)) (fun _ i _ => 2 - (intOf i).toNat)
      case atStart => exact ⟨A6, c6, .inl ⟨rfl, rfl, S_wr_1⟩, B_wr_1⟩
      case round =>
        clear S_wr_1 x0_wr_1 x1_wr_1
        clear B_wr_1 B_wr
        obtain ⟨A, c, hi, B_wr⟩ := hrel
        have x0_wr := pw_cell_below B_wr.out x0
        have x1_wr := pw_cell_below B_wr.out x1
        rcases hi with ⟨rfl, rfl, S_wr⟩ | ⟨rfl, rfl, S_wr⟩ | ⟨rfl, rfl, S_wr⟩
        · skip
          go_wp2_with (first | ((with_reducible refine gate_builtin (b := .append) (xs := #[.tmp 31, .tmp 32]) rfl ?_); at_builtin; go_must (refine sep_append_rows Kd.string (Rr := Kd.K Kd.string wr) (w.heap.size) rfl (.tmp 31) (.tmp 32) 42 9 (.string ⟨#[]⟩) 16 rfl Try.underlying42 info9 rfl (by decide) (by decide) _ (([] : List ByteArray)) (L) (A0) (L.length) (c0) rfl rfl (Sep.front [] [] S_wr.out) (Kd.C_below HC0.out B_wr.out) (fun _ _ h => h) B_wr.out.size ?al ?_); (case al => have := hL; (try simp only [List.length_nil]); omega); intro vr wr_1 hS hb; obtain ⟨A2, c2, hv, -, -⟩ := Sep.row hS; simp only [List.nil_append, List.length_append, List.length_singleton] at hv; (try simp only [List.nil_append] at hS); subst hv; have B_wr_1 : Aside0 (Below (w.heap.size) w wr_1) := ⟨(Below.trans B_wr.out hb)⟩; have S_wr_1 : Aside0 (Sep (w.heap.size) (Stars [Row Kd.string 9 (.slice A2 L.length c2) (L)]) wr_1) := ⟨Sep.back [] [] hS⟩; have x0_wr_1 := pw_cell_below B_wr_1.out x0; have x1_wr_1 := pw_cell_below B_wr_1.out x1; clear S_wr x0_wr x1_wr; clear hS hb))
          go_roundw
          case rel => first | exact ⟨A2, c2, .inr (.inl ⟨by first | rfl | simp, rfl, S_wr_1⟩), B_wr_1⟩ | ((repeat apply Exists.intro); exact ⟨⟨A2, c2, .inr (.inl ⟨by first | rfl | simp, rfl, S_wr_1⟩), B_wr_1⟩, rfl⟩)
          case measure => simp [intOf]
        · skip
          go_wp2_with (first | ((with_reducible refine gate_builtin (b := .append) (xs := #[.tmp 31, .tmp 32]) rfl ?_); at_builtin; go_must (refine sep_append_rows Kd.string (Rr := Kd.K Kd.string wr) (w.heap.size) rfl (.tmp 31) (.tmp 32) 42 9 (.string ⟨#[]⟩) 16 rfl Try.underlying42 info9 rfl (by decide) (by decide) _ (L) ([t]) (A1) (1) (c1) rfl rfl (Sep.front [] [] S_wr.out) (Kd.C_below HC1.out B_wr.out) (fun _ _ h => h) B_wr.out.size ?al ?_); (case al => have := hL; (try simp only [List.length_nil]); omega); intro vr wr_1 hS hb; obtain ⟨A2, c2, hv, -, -⟩ := Sep.row hS; simp only [List.nil_append, List.length_append, List.length_singleton] at hv; (try simp only [List.nil_append] at hS); subst hv; have B_wr_1 : Aside0 (Below (w.heap.size) w wr_1) := ⟨(Below.trans B_wr.out hb)⟩; have S_wr_1 : Aside0 (Sep (w.heap.size) (Stars [Row Kd.string 9 (.slice A2 (L.length + 1) c2) (L ++ [t])]) wr_1) := ⟨Sep.back [] [] hS⟩; have x0_wr_1 := pw_cell_below B_wr_1.out x0; have x1_wr_1 := pw_cell_below B_wr_1.out x1; clear S_wr x0_wr x1_wr; clear hS hb))
          go_roundw
          case rel => first | exact ⟨A2, c2, .inr (.inr ⟨by first | rfl | simp, rfl, S_wr_1⟩), B_wr_1⟩ | ((repeat apply Exists.intro); exact ⟨⟨A2, c2, .inr (.inr ⟨by first | rfl | simp, rfl, S_wr_1⟩), B_wr_1⟩, rfl⟩)
          case measure => simp [intOf]
        · skip
          go_wp2
          go_ret
          exact ⟨A, c, rfl, S_wr.out, B_wr.out⟩
theorem concat_at {base : Nat} {F : Assn} (w : World) (Ap : Option Addr) (cp : Nat) (A0 : Option Addr) (c0 : Nat) (L : List ByteArray) (A1 : Option Addr) (c1 : Nat) (t : ByteArray) (h : Sep base (Star (Row KSl 42 (.slice Ap 2 cp) [(A0, L.length, c0), (A1, 1, c1)]) F) w) (hC0 : Kd.string.C w A0 L.length L) (hC1 : Kd.string.C w A1 1 [t]) (hL : L.length ≤ 1000) : Calls Try.prog 66 #[.slice Ap 2 cp] w fun e w' => ∃ A c, e = .returned (.slice A (L.length + 1) c) ∧ Sep w.heap.size (Stars [Row Kd.string 9 (.slice A (L.length + 1) c) (L ++ [t])]) w' ∧ Below w.heap.size w w' := by
  obtain ⟨ga, rfl, _⟩ := row_block (g := 0) h (by omega)
  have hC := (Sep.row_at h).1
  have hx : ∀ (i : Int) (h0 : 0 ≤ i) (h1 : i < 2), w.cell? ⟨ga, i.toNat, none⟩ = some (encS ([(A0, L.length, c0), (A1, 1, c1)].getD i.toNat (none, 0, 0))) := fun i h0 h1 => by
    obtain ⟨ad, cs, e, _, hK, hc⟩ := Kd.C_get hC (none, 0, 0) i h0 h1
    obtain rfl : (⟨ga, 0, none⟩ : Addr) = ad := by injection e
    have hK : cs = [encS ([(A0, L.length, c0), (A1, 1, c1)].getD i.toNat (none, 0, 0))] := hK
    subst hK
    have := hc 0 _ rfl
    rw [add_plain] at this
    have h2 : i.toNat * KSl.sz + 0 = i.toNat := Nat.mul_one _
    rw [h2] at this
    exact this
  exact concat_is w ga cp A0 c0 L A1 c1 t (hx 0 (by omega) (by omega)) (hx 1 (by omega) (by omega)) hC0 hC1 hL
set_option maxHeartbeats 8000000 in
set_option maxRecDepth 100000 in
theorem start_is (w : World) (A : Option Addr) (c : Nat) (L : List ByteArray) (t : ByteArray) (hC : Kd.string.C w A L.length L) (hc : L.length ≤ c) (hL : L.length ≤ 1000) : Calls Try.prog 27 #[.slice A L.length c, .string t] w fun e w' => ∃ g, e = .returned (.pointer (some ⟨g, 0, none⟩)) ∧ Sep w.heap.size (BA 93 g (L ++ [t]) (L.length : Int)) w' ∧ Below w.heap.size w w' := by
  have HC := Aside0.mk hC
  clear hC
  have hu93 := Try.underlying93
  have hu42 := Try.underlying42
  have hu112 := Try.underlying112
  have B_w := Aside0.mk (Below.refl w.heap.size w)
  have S_w : Aside0 (Sep w.heap.size (Stars []) w) := ⟨Sep.emp _ _⟩
  go_enter Try.func27, Try.ntmps27
  go_wp2_with (first | ((with_reducible refine gate_dst (N := 7) rfl ?_); (try (refine gate_guard (by rfl) ?_; dsimp only)); refine Kd.R_lit Kd.string (w0 := w) w.heap.size 9 ?hg (N := 7) ?hd (xs := ([t] : List ByteArray)) (inner := [Value.string t]) (ok := fun _ => True) (okp := fun _ => True) ?hr ?hp (fun _ hk => hk) trivial (Below.refl _ _) (Nat.le_refl _) (by simp) ?_; (case hd => rfl); (case hg => rfl); (case hr => first | (go_simp; done) | (go_simp; rfl)); (case hp => exact Reps.one (show Kd.M Kd.string _ _ _ t [Value.string t] from rfl) (Reps.none _ _)); intro v w_1 ho hb hg_ hn_; clear hg_ hn_; obtain ⟨As, cs, hv⟩ := Kd.R_slice ho; subst hv; have B_w_1 : Aside0 (Below (w.heap.size) w w_1) := ⟨below_then B_w.out B_w.out.size hb⟩; have S_w_1 : Aside0 (Sep (w.heap.size) (Stars [Row Kd.string 9 (.slice As 1 cs) (([t] : List ByteArray))]) w_1) := ⟨Sep.new_row S_w.out B_w.out.size hb ho⟩; have Q_w_1 : Aside0 (Below w.heap.size w w_1) := ⟨hb⟩; clear S_w; clear ho hb) | ((with_reducible refine gate_dst (N := 8) rfl ?_); (try (refine gate_guard (by rfl) ?_; dsimp only)); refine Kd.R_lit KSl (w0 := w_1) w_1.heap.size 42 ?hg (N := 8) ?hd (xs := ([(A, L.length, c), (As, 1, cs)] : List (Option Addr × Nat × Nat))) (inner := [encS (A, L.length, c), encS (As, 1, cs)]) (ok := fun _ => True) (okp := fun _ => True) ?hr ?hp (fun _ hk => hk) trivial (Below.refl _ _) (Nat.le_refl _) (by simp) ?_; (case hd => rfl); (case hg => rfl); (case hr => first | (go_simp; done) | (go_simp; rfl)); (case hp => exact Reps.one (show Kd.M KSl _ _ _ (A, L.length, c) [encS (A, L.length, c)] from rfl) (Reps.one (show Kd.M KSl _ _ _ (As, 1, cs) [encS (As, 1, cs)] from rfl) (Reps.none _ _))); intro v w_2 ho hb hg_ hn_; clear hg_ hn_; obtain ⟨Ap, cp, hv⟩ := Kd.R_slice ho; subst hv; have B_w_2 : Aside0 (Below (w.heap.size) w w_2) := ⟨below_then B_w_1.out B_w_1.out.size hb⟩; have S_w_2 : Aside0 (Sep (w.heap.size) (Stars [Row KSl 42 (.slice Ap 2 cp) (([(A, L.length, c), (As, 1, cs)] : List (Option Addr × Nat × Nat))), Row Kd.string 9 (.slice As 1 cs) (([t] : List ByteArray))]) w_2) := ⟨Sep.new_row S_w_1.out B_w_1.out.size hb ho⟩; have Q_w_2 : Aside0 (Below w.heap.size w w_2) := ⟨below_step Q_w_1.out hb⟩; clear S_w_1; clear ho hb) | (go_at_call 66; (with_reducible refine (concat_at _ Ap cp A c L As cs t (Sep.front [] [Row Kd.string 9 (.slice As 1 cs) (([t] : List ByteArray))] S_w_2.out) (Kd.C_below HC.out B_w_2.out) (Sep.row_at (Sep.front [Row KSl 42 (.slice Ap 2 cp) (([(A, L.length, c), (As, 1, cs)] : List (Option Addr × Nat × Nat)))] [] S_w_2.out)).1 hL).mono ?_); rintro e w_3 ⟨A9, c9, rfl, hN, hb⟩; have B_w_3 : Aside0 (Below (w.heap.size) w w_3) := ⟨below_then B_w_2.out B_w_2.out.size hb⟩; have S_w_3 : Aside0 (Sep (w.heap.size) (Stars [Row Kd.string 9 (.slice A9 (L.length + 1) c9) (L ++ [t]), Row KSl 42 (.slice Ap 2 cp) (([(A, L.length, c), (As, 1, cs)] : List (Option Addr × Nat × Nat))), Row Kd.string 9 (.slice As 1 cs) (([t] : List ByteArray))]) w_3) := ⟨Sep.more S_w_2.out hN.left hb B_w_2.out.size⟩; have Q_w_3 : Aside0 (Below w.heap.size w w_3) := ⟨below_step Q_w_2.out hb⟩; clear S_w_2; clear hb) | ((with_reducible refine gate_dst (N := 13) rfl ?_); (try (refine gate_guard (by rfl) ?_; dsimp only)); refine box_event ?hg (N := 13) ?hd (cs := #[.slice A9 (L.length + 1) c9, .int .i64 (L.length : Int)]) (t := 93) ?hr ?_; (case hd => rfl); (case hg => rfl); (case hr => first | (go_simp; done) | (go_simp; rfl)); intro g hg_g w_4 hX hb; have B_w_4 : Aside0 (Below (w.heap.size) w w_4) := ⟨below_then B_w_3.out B_w_3.out.size hb⟩; have S_w_4 : Aside0 (Sep (w.heap.size) (Stars [Blk g #[.slice A9 (L.length + 1) c9, .int .i64 (L.length : Int)] 93, Row Kd.string 9 (.slice A9 (L.length + 1) c9) (L ++ [t]), Row KSl 42 (.slice Ap 2 cp) (([(A, L.length, c), (As, 1, cs)] : List (Option Addr × Nat × Nat))), Row Kd.string 9 (.slice As 1 cs) (([t] : List ByteArray))]) w_4) := ⟨Sep.new_blk S_w_3.out B_w_3.out.size hg_g hb hX⟩; have Q_w_4 : Aside0 (Below w.heap.size w w_4) := ⟨below_step Q_w_3.out hb⟩; obtain ⟨c_g_0_w_4, c_g_1_w_4⟩ := XW.cells2 (Sep.front [] [Row Kd.string 9 (.slice A9 (L.length + 1) c9) (L ++ [t]), Row KSl 42 (.slice Ap 2 cp) (([(A, L.length, c), (As, 1, cs)] : List (Option Addr × Nat × Nat))), Row Kd.string 9 (.slice As 1 cs) (([t] : List ByteArray))] S_w_4.out).blk; obtain ⟨z_g_0_w_4, z_g_1_w_4⟩ := XW.froz2 (Sep.front [] [Row Kd.string 9 (.slice A9 (L.length + 1) c9) (L ++ [t]), Row KSl 42 (.slice Ap 2 cp) (([(A, L.length, c), (As, 1, cs)] : List (Option Addr × Nat × Nat))), Row Kd.string 9 (.slice As 1 cs) (([t] : List ByteArray))] S_w_4.out).blk; clear S_w_3; clear hX hb hg_g))
  go_ret
  exact ⟨g, rfl, (BA.close (l := [Row KSl 42 (.slice Ap 2 cp) (([(A, L.length, c), (As, 1, cs)] : List (Option Addr × Nat × Nat))), Row Kd.string 9 (.slice As 1 cs) (([t] : List ByteArray))]) S_w_4.out).left, B_w_4.out⟩
set_option maxHeartbeats 8000000 in
set_option maxRecDepth 100000 in
theorem refstart_is (w : World) (A : Option Addr) (c : Nat) (L : List ByteArray) (t : ByteArray) (hC : Kd.string.C w A L.length L) (hc : L.length ≤ c) (hL : L.length ≤ 1000) : Calls Try.prog 28 #[.slice A L.length c, .string t] w fun e w' => ∃ g, e = .returned (.pointer (some ⟨g, 0, none⟩)) ∧ Sep w.heap.size (BA 54 g (L ++ [t]) (L.length : Int)) w' ∧ Below w.heap.size w w' := by
  have HC := Aside0.mk hC
  clear hC
  have hu54 := Try.underlying54
  have hun := Try.underlying42
  have B_w := Aside0.mk (Below.refl w.heap.size w)
  have S_w : Aside0 (Sep w.heap.size (Stars []) w) := ⟨Sep.emp _ _⟩
  go_enter Try.func28, Try.ntmps28
  go_wp2_with (first | ((with_reducible refine gate_dst (N := 9) rfl ?_); (try (refine gate_guard (by rfl) ?_; dsimp only)); refine box_event ?hg (N := 9) ?hd (cs := #[.slice none 0 0, .int .i64 (L.length : Int)]) (t := 54) ?hr ?_; (case hd => rfl); (case hg => rfl); (case hr => first | (go_simp; done) | (go_simp; rfl)); intro g hg_g w_1 hX hb; have B_w_1 : Aside0 (Below (w.heap.size) w w_1) := ⟨below_then B_w.out B_w.out.size hb⟩; have S_w_1 : Aside0 (Sep (w.heap.size) (Stars [Blk g #[.slice none 0 0, .int .i64 (L.length : Int)] 54]) w_1) := ⟨Sep.new_blk S_w.out B_w.out.size hg_g hb hX⟩; have Q_w_1 : Aside0 (Below w.heap.size w w_1) := ⟨hb⟩; obtain ⟨c_g_0_w_1, c_g_1_w_1⟩ := XW.cells2 (Sep.front [] [] S_w_1.out).blk; obtain ⟨z_g_0_w_1, z_g_1_w_1⟩ := XW.froz2 (Sep.front [] [] S_w_1.out).blk; clear S_w; clear hX hb hg_g; have S_n : Aside0 (Sep w.heap.size (Stars [Row Kd.string 9 (.slice none 0 0) (([] : List ByteArray)), Blk g #[.slice none 0 0, .int .i64 (L.length : Int)] 54]) w_1) := ⟨Sep.nil_row Kd.string 9 S_w_1.out⟩; clear S_w_1; have S_w_1 := S_n; clear S_n) | ((with_reducible refine gate_builtin (b := .append) (xs := #[.tmp 14, .tmp 15]) rfl ?_); at_builtin; go_must (refine sep_append_rows Kd.string (Rr := Kd.K Kd.string w_1) (w.heap.size) rfl (.tmp 14) (.tmp 15) 42 9 (.string ⟨#[]⟩) 16 rfl Try.underlying42 info9 rfl (by decide) (by decide) _ (([] : List ByteArray)) (L) (A) (L.length) (c) rfl rfl (Sep.front [] [Blk g #[.slice none 0 0, .int .i64 (L.length : Int)] 54] S_w_1.out) (Kd.C_below HC.out B_w_1.out) (fun _ _ h => h) B_w_1.out.size ?al ?_); (case al => have := hL; (try simp only [List.length_nil]); omega); intro vr w_2 hS hb; obtain ⟨A1, c1, hv, -, -⟩ := Sep.row hS; subst hv; have B_w_2 : Aside0 (Below (w.heap.size) w w_2) := ⟨(Below.trans B_w_1.out hb)⟩; have S_w_2 : Aside0 (Sep (w.heap.size) (Stars [Row Kd.string 9 (.slice A1 L.length c1) (L), Blk g #[.slice none 0 0, .int .i64 (L.length : Int)] 54]) w_2) := ⟨Sep.back [] [Blk g #[.slice none 0 0, .int .i64 (L.length : Int)] 54] hS⟩; obtain ⟨c_g_0_w_2, c_g_1_w_2⟩ := XW.cells2 (Sep.front [Row Kd.string 9 (.slice A1 L.length c1) (L)] [] S_w_2.out).blk; obtain ⟨z_g_0_w_2, z_g_1_w_2⟩ := XW.froz2 (Sep.front [Row Kd.string 9 (.slice A1 L.length c1) (L)] [] S_w_2.out).blk; clear S_w_1 c_g_0_w_1 c_g_1_w_1 z_g_0_w_1 z_g_1_w_1; clear hS hb) | ((with_reducible refine gate_store (t := 42) (p := 18) rfl ?_); go_must (refine store_event (t := 42) (p := 18) (v := ?vo_1) (w1 := (w_2.setCell ⟨g, 0, none⟩ (.slice A1 L.length c1))) ?hg ?ho ?hn ?hr ?_; (case ho => rfl); (case hg => rfl); (case hn => rfl); (case hr => first | (go_simp; done) | (go_simp; rfl)); intro w_3 hw; have B_w_3 : Aside0 (Below (w.heap.size) w w_3) := ⟨by rw [hw]; exact (Below.setCell B_w_2.out ((Sep.front [Row Kd.string 9 (.slice A1 L.length c1) (L)] [] S_w_2.out).blk_le) _)⟩; have S_w_3 : Aside0 (Sep (w.heap.size) (Stars [Row Kd.string 9 (.slice A1 L.length c1) (L), Blk g #[.slice A1 L.length c1, .int .i64 (L.length : Int)] 54]) w_3) := ⟨by rw [hw]; exact Sep.back [Row Kd.string 9 (.slice A1 L.length c1) (L)] [] (Sep.store (Sep.front [Row Kd.string 9 (.slice A1 L.length c1) (L)] [] S_w_2.out) B_w_2.out.size 0 (.slice A1 L.length c1) (cs' := #[.slice A1 L.length c1, .int .i64 (L.length : Int)]) rfl)⟩; obtain ⟨c_g_0_w_3, c_g_1_w_3⟩ := XW.cells2 (Sep.front [Row Kd.string 9 (.slice A1 L.length c1) (L)] [] S_w_3.out).blk; obtain ⟨z_g_0_w_3, z_g_1_w_3⟩ := XW.froz2 (Sep.front [Row Kd.string 9 (.slice A1 L.length c1) (L)] [] S_w_3.out).blk; clear S_w_2 c_g_0_w_2 c_g_1_w_2 z_g_0_w_2 z_g_1_w_2; clear hw)) | ((with_reducible refine gate_builtin (b := .append) (xs := #[.tmp 23, .tmp 25]) rfl ?_); at_builtin; go_must (refine sep_append (enc := Value.string) (h1 := fun _ => rfl) (w.heap.size) rfl (.tmp 23) (.tmp 25) 42 9 (.string ⟨#[]⟩) 16 rfl Try.underlying42 info9 rfl (by decide) _ (L) (t) rfl rfl (Sep.front [] [Blk g #[.slice A1 L.length c1, .int .i64 (L.length : Int)] 54] S_w_3.out) B_w_3.out.size ?al ?_); (case al => omega); intro vq w_4 hS hb; obtain ⟨A2, c2, hv, -, -⟩ := Sep.row hS; subst hv; have B_w_4 : Aside0 (Below (w.heap.size) w w_4) := ⟨(Below.trans B_w_3.out hb)⟩; have S_w_4 : Aside0 (Sep (w.heap.size) (Stars [Row Kd.string 9 (.slice A2 (L ++ [t]).length c2) (L ++ [t]), Blk g #[.slice A1 L.length c1, .int .i64 (L.length : Int)] 54]) w_4) := ⟨Sep.back [] [Blk g #[.slice A1 L.length c1, .int .i64 (L.length : Int)] 54] hS⟩; obtain ⟨c_g_0_w_4, c_g_1_w_4⟩ := XW.cells2 (Sep.front [Row Kd.string 9 (.slice A2 (L ++ [t]).length c2) (L ++ [t])] [] S_w_4.out).blk; obtain ⟨z_g_0_w_4, z_g_1_w_4⟩ := XW.froz2 (Sep.front [Row Kd.string 9 (.slice A2 (L ++ [t]).length c2) (L ++ [t])] [] S_w_4.out).blk; clear S_w_3 c_g_0_w_3 c_g_1_w_3 z_g_0_w_3 z_g_1_w_3; clear hS hb) | ((with_reducible refine gate_store (t := 42) (p := 28) rfl ?_); go_must (refine store_event (t := 42) (p := 28) (v := ?vo_2) (w1 := (w_4.setCell ⟨g, 0, none⟩ (.slice A2 (L ++ [t]).length c2))) ?hg ?ho ?hn ?hr ?_; (case ho => rfl); (case hg => rfl); (case hn => rfl); (case hr => first | (go_simp; done) | (go_simp; rfl)); intro w_5 hw; have B_w_5 : Aside0 (Below (w.heap.size) w w_5) := ⟨by rw [hw]; exact (Below.setCell B_w_4.out ((Sep.front [Row Kd.string 9 (.slice A2 (L ++ [t]).length c2) (L ++ [t])] [] S_w_4.out).blk_le) _)⟩; have S_w_5 : Aside0 (Sep (w.heap.size) (Stars [Row Kd.string 9 (.slice A2 (L ++ [t]).length c2) (L ++ [t]), Blk g #[.slice A2 (L ++ [t]).length c2, .int .i64 (L.length : Int)] 54]) w_5) := ⟨by rw [hw]; exact Sep.back [Row Kd.string 9 (.slice A2 (L ++ [t]).length c2) (L ++ [t])] [] (Sep.store (Sep.front [Row Kd.string 9 (.slice A2 (L ++ [t]).length c2) (L ++ [t])] [] S_w_4.out) B_w_4.out.size 0 (.slice A2 (L ++ [t]).length c2) (cs' := #[.slice A2 (L ++ [t]).length c2, .int .i64 (L.length : Int)]) rfl)⟩; obtain ⟨c_g_0_w_5, c_g_1_w_5⟩ := XW.cells2 (Sep.front [Row Kd.string 9 (.slice A2 (L ++ [t]).length c2) (L ++ [t])] [] S_w_5.out).blk; obtain ⟨z_g_0_w_5, z_g_1_w_5⟩ := XW.froz2 (Sep.front [Row Kd.string 9 (.slice A2 (L ++ [t]).length c2) (L ++ [t])] [] S_w_5.out).blk; clear S_w_4 c_g_0_w_4 c_g_1_w_4 z_g_0_w_4 z_g_1_w_4; clear hw)))
  go_ret
  exact ⟨g, rfl, (BA.close (l := []) (Sep.front [Row Kd.string 9 (.slice A2 (L ++ [t]).length c2) (L ++ [t])] [] S_w_5.out)).left, B_w_5.out⟩
end Go.Proofs.Ythofobcbbddeeaa.SrchA
