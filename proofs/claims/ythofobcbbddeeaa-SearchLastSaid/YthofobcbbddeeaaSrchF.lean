/- Searches: New, Rub, Back, On. Conditions: none beyond those that each theorem states. -/
import Derived.Test.YthofobcbbddeeaaSrchE
namespace Go.Proofs.Ythofobcbbddeeaa.SrchA
open Go.RowKit Go.Proofs.YthofobcbbddeeaaW.PrintWords Go.Proofs.YthofobcbbddeeaaW.PrintLast Go.Proofs.YthofobcbbddeeaaW.PrintMore Go.Proofs.Ythofobcbbddeeaa.XS Go.Proofs.Ythofobcbbddeeaa.PSrch
set_option linter.unusedVariables false
set_option linter.unusedSimpArgs false
abbrev Fr0 : Array Bool := #[false, false, false, false, false, false, false, false, false, false, false, false, false, false, false]
abbrev Fr1 : Array Bool := #[true, false, false, false, false, false, false, false, false, false, false, false, false, false, false]
abbrev Fr2 : Array Bool := #[true, true, false, false, false, false, false, false, false, false, false, false, false, false, false]
abbrev Fr3 : Array Bool := #[true, true, true, false, false, false, false, false, false, false, false, false, false, false, false]
abbrev Fr4 : Array Bool := #[true, true, true, true, false, false, false, false, false, false, false, false, false, false, false]
abbrev Fr5 : Array Bool := #[true, true, true, true, false, true, false, false, false, false, false, false, false, false, false]
abbrev Fr6 : Array Bool := #[true, true, true, true, false, true, true, false, false, false, false, false, false, false, false]
abbrev Fr7 : Array Bool := #[true, true, true, true, false, true, true, true, false, false, false, false, false, false, false]
abbrev Fr8 : Array Bool := #[true, true, true, true, true, true, true, true, false, false, false, false, false, false, false]
abbrev Fr9 : Array Bool := #[true, true, true, true, true, true, true, true, true, false, false, false, false, false, false]
abbrev Fr10 : Array Bool := #[true, true, true, true, true, true, true, true, true, true, false, false, false, false, false]
abbrev Fr11 : Array Bool := #[true, true, true, true, true, true, true, true, true, true, true, false, false, false, false]
abbrev Fr12 : Array Bool := #[true, true, true, true, true, true, true, true, true, true, true, true, false, false, false]
abbrev Fr13 : Array Bool := #[true, true, true, true, true, true, true, true, true, true, true, true, true, false, false]
abbrev Fr14 : Array Bool := #[true, true, true, true, true, true, true, true, true, true, true, true, true, true, false]
abbrev Fr15 : Array Bool := #[true, true, true, true, true, true, true, true, true, true, true, true, true, true, true]
theorem own_cut {w : World} {base : Nat} {e : TypeId} {size n k c : Nat} {A : Option Addr} {cs : List Value} (h : w.ownsRow base e size (.slice A n c) n cs) (hk : k ≤ n) : w.ownsRow base e size (.slice A k c) k (cs.take (k * size)) := by
  obtain ⟨hl, h⟩ := h
  have hks : k * size ≤ n * size := Nat.mul_le_mul_right _ hk
  refine ⟨by rw [List.length_take]; omega, ?_⟩
  rcases h with ⟨hv, hn⟩ | ⟨g, cap, cur, hv, hb, hc, hnc, hcm, hsz, ht⟩
  · subst hn
    obtain rfl : k = 0 := by omega
    exact .inl ⟨hv, rfl⟩
  · injection hv with h1 h2 h3
    subst h1; subst h3
    refine .inr ⟨g, c, cur, rfl, hb, hc, by omega, hcm, hsz, ?_⟩
    rw [← ht, List.take_take]
    congr 1; omega
theorem reps_cut {α : Type} {R : α → List Value → Prop} {size : Nat} {ps : List α} {cs : List Value} (h : Reps R size ps cs) (k : Nat) (hk : k ≤ ps.length) : Reps R size (ps.take k) (cs.take (k * size)) := by
  have hks : k * size ≤ ps.length * size := Nat.mul_le_mul_right _ hk
  refine ⟨by rw [List.length_take, List.length_take, h.1]; congr 1; rw [Nat.min_eq_left hk]; exact Nat.min_eq_left hks, fun j p hp => ?_⟩
  rw [List.getElem?_take] at hp
  by_cases c : j < k
  · rw [if_pos c] at hp
    have h2 := h.2 j p hp
    have hj : j * size + size ≤ k * size := by rw [← Nat.succ_mul]; exact Nat.mul_le_mul_right _ c
    rw [List.drop_take, List.take_take, Nat.min_eq_left (by omega)]
    exact h2
  · rw [if_neg c] at hp; cases hp
theorem own_block_len (A : Option Addr) (k n c : Nat) : (Value.slice A k c).ownBlock = (Value.slice A n c).ownBlock := by cases A <;> rfl
/-- A row's beginning. -/
theorem Sep.cut {α : Type} {base : Nat} {F : Assn} {w : World} {d : Kd α} {e c : Nat} {A : Option Addr} {xs : List α} (h : Sep base (Star (Row d e (.slice A xs.length c) xs) F) w) (k : Nat) (hk : k ≤ xs.length) : Sep base (Star (Row d e (.slice A k c) (xs.take k)) F) w := by
  refine Sep.imp h (fun f hr => ?_)
  obtain ⟨h0, inner, ho, hp⟩ := hr
  have ho2 := own_cut ho hk
  refine ⟨fun i hi => h0 i (by rw [own_block_len A xs.length k c]; exact hi), inner.take (k * d.sz), ?_, ?_⟩
  · rw [List.length_take, Nat.min_eq_left hk]; exact ho2
  · exact reps_cut (hp.imp_ (fun _ _ hm => d.M_mono (fun i hi => ⟨hi.1, by rw [own_block_len A k xs.length c]; exact hi.2⟩) hm)) k hk
set_option maxHeartbeats 8000000 in
set_option maxRecDepth 100000 in
theorem move_is {base g : Nat} {v0 v1 : Value} {p : Int} {l : List Assn} (w : World) (h : Sep base (Stars (Blk g #[v0, v1, .int .i64 p] 97 :: l)) w) (hbase : base ≤ w.heap.size) (i : Int) (b : Bool) (hb : decide (i ≠ -1) = b) (p2 : Int) (hp2 : (if i = -1 then p else i) = p2) : Calls Try.prog 72 #[.pointer (some ⟨g, 0, none⟩), .int .i64 i] w fun e w' => e = .returned (.bool b) ∧ Sep base (Stars (Blk g #[v0, v1, .int .i64 p2] 97 :: l)) w' ∧ Below base w w' := by
  subst hb hp2
  have S_w := Aside0.mk h
  have B_w := Aside0.mk (Below.refl base w)
  clear h
  obtain ⟨c_g_0_w, c_g_1_w, c_g_2_w⟩ := XW.cells3 (Sep.front [] (l) S_w.out).blk
  obtain ⟨z_g_0_w, z_g_1_w, z_g_2_w⟩ := XW.froz3 (Sep.front [] (l) S_w.out).blk
  by_cases hi : i = -1
  · rw [decide_eq_false (fun c => c hi), if_pos hi]
    have b1 : (i != -1) = false := bne_eq_false_iff_eq.mpr hi
    clear hi
    go_enter Try.func72, Try.ntmps72
    go_wp2
    go_ret
    exact ⟨rfl, S_w.out, B_w.out⟩
  · rw [decide_eq_true hi, if_neg hi]
    have b1 : (i != -1) = true := bne_iff_ne.mpr hi
    clear hi
    go_enter Try.func72, Try.ntmps72
    go_wp2_with (first | ((with_reducible refine gate_store (t := 3) (p := 10) rfl ?_); go_must (refine store_event (t := 3) (p := 10) (v := ?vo_1) (w1 := (w.setCell ⟨g, 2, none⟩ (.int .i64 i))) ?hg ?ho ?hn ?hr ?_; (case ho => rfl); (case hg => rfl); (case hn => rfl); (case hr => first | (go_simp; done) | (go_simp; rfl)); intro w_1 hw; have B_w_1 : Aside0 (Below (base) w w_1) := ⟨by rw [hw]; exact (Below.setCell B_w.out ((Sep.front [] (l) S_w.out).blk_le) _)⟩; have S_w_1 : Aside0 (Sep (base) (Stars (Blk g #[v0, v1, .int .i64 i] 97 :: l)) w_1) := ⟨by rw [hw]; exact Sep.back [] (l) (Sep.store (Sep.front [] (l) S_w.out) (Nat.le_trans (hbase) B_w.out.size) 2 (.int .i64 i) (cs' := #[v0, v1, .int .i64 i]) rfl)⟩; obtain ⟨c_g_0_w_1, c_g_1_w_1, c_g_2_w_1⟩ := XW.cells3 (Sep.front [] (l) S_w_1.out).blk; obtain ⟨z_g_0_w_1, z_g_1_w_1, z_g_2_w_1⟩ := XW.froz3 (Sep.front [] (l) S_w_1.out).blk; clear S_w c_g_0_w c_g_1_w c_g_2_w z_g_0_w z_g_1_w z_g_2_w; clear hw)))
    go_ret
    exact ⟨rfl, S_w_1.out, B_w_1.out⟩
theorem none_nil {α : Type} {d : Kd α} {w : World} {n : Nat} {xs : List α} (z : α) (h : d.C w none n xs) (hn : n = xs.length) : xs = [] := by
  rcases Nat.eq_zero_or_pos xs.length with e | e
  · exact List.eq_nil_of_length_eq_zero e
  · obtain ⟨ad, c, e2, _⟩ := Kd.C_get h z 0 (by omega) (by omega)
    cases e2
set_option maxHeartbeats 8000000 in
set_option maxRecDepth 100000 in
theorem clone_is (w : World) (A : Option Addr) (c : Nat) (L : List ByteArray) (hC : Kd.string.C w A L.length L) (hc : L.length ≤ c) (hL : L.length ≤ 1000) : Calls Try.prog 68 #[.slice A L.length c] w fun e w' => ∃ A1 c1, e = .returned (.slice A1 L.length c1) ∧ Sep w.heap.size (Stars [Row Kd.string 9 (.slice A1 L.length c1) L]) w' ∧ Below w.heap.size w w' := by
  cases A with
  | none =>
    obtain rfl := none_nil (ByteArray.empty) hC rfl
    have heq := fun W n c => Lib.run_eql_slice_nil (P := Try.prog) W 42 9 none n c 0 0 Try.underlying42
    go_enter Try.func68, Try.ntmps68
    go_wp2
    go_ret
    exact ⟨none, 0, rfl, Sep.nil_row Kd.string 9 (Sep.emp _ _), Below.refl _ _⟩
  | some ad =>
    have heq := fun W n c => Lib.run_eql_slice_nil (P := Try.prog) W 42 9 (some ad) n c 0 0 Try.underlying42
    have hun := Try.underlying42
    have HC := Aside0.mk hC
    clear hC
    have B_w := Aside0.mk (Below.refl w.heap.size w)
    have S_w : Aside0 (Sep w.heap.size (Stars []) w) := ⟨Sep.emp _ _⟩
    go_enter Try.func68, Try.ntmps68
    go_wp2_with (first | ((with_reducible refine gate_dst (N := 5) rfl ?_); (try (refine gate_guard (by rfl) ?_; dsimp only)); refine Kd.R_lit Kd.string (w0 := w) w.heap.size 9 ?hg (N := 5) ?hd (xs := ([] : List ByteArray)) (inner := ([] : List Value)) (ok := fun _ => True) (okp := fun _ => True) ?hr ?hp (fun _ hk => hk) trivial (Below.refl _ _) (Nat.le_refl _) (by simp) ?_; (case hd => rfl); (case hg => rfl); (case hr => first | (go_simp; done) | (go_simp; rfl)); (case hp => exact Reps.none _ _); intro v w_1 ho hb hg_ hn_; clear hg_ hn_; obtain ⟨Ae, ce, hv⟩ := Kd.R_slice ho; subst hv; have B_w_1 : Aside0 (Below (w.heap.size) w w_1) := ⟨below_then B_w.out B_w.out.size hb⟩; have S_w_1 : Aside0 (Sep (w.heap.size) (Stars [Row Kd.string 9 (.slice Ae 0 ce) (([] : List ByteArray))]) w_1) := ⟨Sep.new_row S_w.out B_w.out.size hb ho⟩; have Q_w_1 : Aside0 (Below w.heap.size w w_1) := ⟨hb⟩; clear S_w; clear ho hb) | ((with_reducible refine gate_builtin (b := .append) (xs := #[.tmp 5, .tmp 6]) rfl ?_); at_builtin; go_must (refine sep_append_rows Kd.string (Rr := Kd.K Kd.string w_1) (w.heap.size) rfl (.tmp 5) (.tmp 6) 42 9 (.string ⟨#[]⟩) 16 rfl Try.underlying42 info9 rfl (by decide) (by decide) _ (([] : List ByteArray)) (L) ((some ad)) (L.length) (c) rfl rfl (Sep.front [] [] S_w_1.out) (Kd.C_below HC.out B_w_1.out) (fun _ _ h => h) B_w_1.out.size ?al ?_); (case al => have := hL; simp only [List.length_nil]; omega); intro vr w_2 hS hb; have B_w_2 : Aside0 (Below (w.heap.size) w w_2) := ⟨(Below.trans B_w_1.out hb)⟩; have S_w_2 : Aside0 (Sep (w.heap.size) (Stars [Row Kd.string 9 (vr) (([] : List ByteArray) ++ L)]) w_2) := ⟨Sep.back [] [] hS⟩; clear S_w_1; clear hS hb))
    obtain ⟨A1, c1, hv, -, -⟩ := Sep.row S_w_2.out
    subst hv
    go_ret
    refine ⟨A1, c1, rfl, S_w_2.out, B_w_2.out⟩
set_option maxHeartbeats 8000000 in
set_option maxRecDepth 100000 in
theorem new_is (w : World) (A : Option Addr) (c : Nat) (L : List ByteArray) (hC : Kd.string.C w A L.length L) (hc : L.length ≤ c) (hL : L.length ≤ 1000) : Calls Try.prog 35 #[.slice A L.length c] w fun e w' => ∃ g, e = .returned (.pointer (some ⟨g, 0, none⟩)) ∧ Sep w.heap.size (SS 97 .i32 21 g L [] (-1)) w' ∧ Below w.heap.size w w' := by
  have HC := Aside0.mk hC
  clear hC
  have hu97 := Try.underlying97
  have B_w := Aside0.mk (Below.refl w.heap.size w)
  have S_w : Aside0 (Sep w.heap.size (Stars []) w) := ⟨Sep.emp _ _⟩
  go_enter Try.func35, Try.ntmps35
  go_wp2_with (first | (go_at_call 68; (with_reducible refine (clone_is _ A c L HC.out hc hL).mono ?_); rintro e w_1 ⟨A1, c1, rfl, hN, hb⟩; have B_w_1 : Aside0 (Below (w.heap.size) w w_1) := ⟨below_then B_w.out B_w.out.size hb⟩; have S_w_1 : Aside0 (Sep (w.heap.size) (Stars [Row Kd.string 9 (.slice A1 L.length c1) (L)]) w_1) := ⟨Sep.more S_w.out hN.left hb B_w.out.size⟩; have Q_w_1 : Aside0 (Below w.heap.size w w_1) := ⟨hb⟩; clear S_w; clear hb) | ((with_reducible refine gate_dst (N := 6) rfl ?_); (try (refine gate_guard (by rfl) ?_; dsimp only)); refine box_event ?hg (N := 6) ?hd (cs := #[.slice A1 L.length c1, .slice none 0 0, .int .i64 (-1)]) (t := 97) ?hr ?_; (case hd => rfl); (case hg => rfl); (case hr => first | (go_simp; done) | (go_simp; rfl)); intro g hg_g w_2 hX hb; have B_w_2 : Aside0 (Below (w.heap.size) w w_2) := ⟨below_then B_w_1.out B_w_1.out.size hb⟩; have S_w_2 : Aside0 (Sep (w.heap.size) (Stars [Blk g #[.slice A1 L.length c1, .slice none 0 0, .int .i64 (-1)] 97, Row Kd.string 9 (.slice A1 L.length c1) (L)]) w_2) := ⟨Sep.new_blk S_w_1.out B_w_1.out.size hg_g hb hX⟩; have Q_w_2 : Aside0 (Below w.heap.size w w_2) := ⟨below_step Q_w_1.out hb⟩; obtain ⟨c_g_0_w_2, c_g_1_w_2, c_g_2_w_2⟩ := XW.cells3 (Sep.front [] [Row Kd.string 9 (.slice A1 L.length c1) (L)] S_w_2.out).blk; obtain ⟨z_g_0_w_2, z_g_1_w_2, z_g_2_w_2⟩ := XW.froz3 (Sep.front [] [Row Kd.string 9 (.slice A1 L.length c1) (L)] S_w_2.out).blk; clear S_w_1; clear hX hb hg_g))
  go_ret
  have h1 := Sep.nil_row (Kd.int .i32) 21 S_w_2.out
  have h2 : Sep w.heap.size (Stars [Blk g #[.slice A1 L.length c1, .slice none 0 0, .int .i64 (-1)] 97, Row Kd.string 9 (.slice A1 L.length c1) L, Row (Kd.int .i32) 21 (.slice none 0 0) []]) w_2 := Sep.back [Blk g #[.slice A1 L.length c1, .slice none 0 0, .int .i64 (-1)] 97, Row Kd.string 9 (.slice A1 L.length c1) L] [] h1
  exact ⟨g, rfl, (SS.close (l := []) h2).left, B_w_2.out⟩
/-- Rub: what is answered, the query, the place. -/
def rubQ (Q : List Int) : List Int := Q.take (Q.length - 1)
def rubP (L : List ByteArray) (Q : List Int) (p : Int) : Int := if Q.length = 0 then p else if Q.length = 1 then -1 else lastF L (qs (rubQ Q)) L.length
def rubB (L : List ByteArray) (Q : List Int) (p : Int) : Bool := if Q.length = 0 then false else decide (rubP L Q p ≠ -1)
theorem rub_len (Q : List Int) : (rubQ Q).length = Q.length - 1 := by unfold rubQ; rw [List.length_take]; omega
theorem rub_ok {L : List ByteArray} {Q : List Int} {p : Int} (h : Ok L Q p) : Ok L (rubQ Q) (rubP L Q p) := by
  have h1 := lastF_lt L (qs (rubQ Q)) L.length
  have h2 := rub_len Q
  have h3 := h.q
  have h4 := h.p0
  have h5 := h.p1
  unfold rubP
  refine ⟨h.short, h.len, by omega, ?_, ?_⟩
  · split
    · exact h4
    · split <;> omega
  · split
    · exact h5
    · split <;> omega
set_option maxHeartbeats 8000000 in
set_option maxRecDepth 100000 in
theorem rub_is {base g : Nat} {L : List ByteArray} {Q : List Int} {p : Int} {l : List Assn} (w : World) (h : Sep base (Star (SS 97 .i32 21 g L Q p) (Stars l)) w) (hbase : base ≤ w.heap.size) (hb0 : 0 < base) (hok : Ok L Q p) (m : Int) (hm : w.cell? ⟨0, 0, none⟩ = some (.int .i64 m)) (b : Bool) (hb : rubB L Q p = b) (Q2 : List Int) (hQ2 : rubQ Q = Q2) (p2 : Int) (hp2 : rubP L Q p = p2) : Calls Try.prog 42 #[.pointer (some ⟨g, 0, none⟩)] w fun e w' => e = .returned (.bool b) ∧ Sep base (Star (SS 97 .i32 21 g L Q2 p2) (Stars l)) w' ∧ Below base w w' := by
  subst hb
  have HM := Aside0.mk hm
  have OK := Aside0.mk hok
  clear hm hok
  obtain ⟨A0, c0, A1, c1, hl0, hl1, hC0, hC1, hS⟩ := SS.open h
  have S_w := Aside0.mk hS
  have B_w := Aside0.mk (Below.refl base w)
  clear h hS hC0 hC1
  obtain ⟨c_g_0_w, c_g_1_w, c_g_2_w⟩ := XW.cells3 (Sep.front [] (Row Kd.string 9 (.slice A0 L.length c0) (L) :: Row (Kd.int .i32) 21 (.slice A1 Q.length c1) (Q) :: l) S_w.out).blk
  obtain ⟨z_g_0_w, z_g_1_w, z_g_2_w⟩ := XW.froz3 (Sep.front [] (Row Kd.string 9 (.slice A0 L.length c0) (L) :: Row (Kd.int .i32) 21 (.slice A1 Q.length c1) (Q) :: l) S_w.out).blk
  unfold rubB
  by_cases hq : Q.length = 0
  case pos =>
    obtain rfl : Q = [] := List.eq_nil_of_length_eq_zero hq
    have e1 : rubQ ([] : List Int) = [] := rfl
    rw [e1] at hQ2
    subst hQ2
    have e2 : rubP L [] p = p := by unfold rubP; rw [if_pos (show ([] : List Int).length = 0 from rfl)]
    rw [e2] at hp2
    subst hp2
    rw [if_pos (show ([] : List Int).length = 0 from rfl)]
    clear hq e1 e2
    go_enter Try.func42, Try.ntmps42
    go_wp2
    go_ret
    exact ⟨rfl, SS.close S_w.out, B_w.out⟩
  rw [if_neg hq, hp2]
  have hlen : Q2.length = Q.length - 1 := by rw [← hQ2]; exact rub_len Q
  have hqe : ((Q.length : Int) == 0) = false := beq_eq_false_iff_ne.mpr (by omega)
  have hqe2 : (Q.length == 0) = false := beq_eq_false_iff_ne.mpr hq
  have hqn : ¬ Q = [] := fun c => hq (by rw [c]; rfl)
  have hq200 := OK.out.q
  have hw : wrap64 ((Q.length : Int) - 1) = (Q2.length : Int) := by unfold wrap64; omega
  have hq2c : Q2.length ≤ c1 := by omega
  have hq2c2 : (Q2.length : Int) ≤ (c1 : Int) := by omega
  have hq20 : (0 : Int) ≤ (Q2.length : Int) := by omega
  have hcut := Sep.cut (Sep.front [Blk g #[.slice A0 L.length c0, .slice A1 Q.length c1, .int .i64 p] 97, Row Kd.string 9 (.slice A0 L.length c0) (L)] (l) S_w.out) (Q.length - 1) (by omega)
  rw [← hlen] at hcut
  have hQ3 : Q.take Q2.length = Q2 := by rw [hlen]; exact hQ2
  rw [hQ3] at hcut
  have S_w2 : Aside0 (Sep base (Stars (Blk g #[.slice A0 L.length c0, .slice A1 Q.length c1, .int .i64 p] 97 :: Row Kd.string 9 (.slice A0 L.length c0) (L) :: Row (Kd.int .i32) 21 (.slice A1 Q2.length c1) (Q2) :: l)) w) := ⟨Sep.back [Blk g #[.slice A0 L.length c0, .slice A1 Q.length c1, .int .i64 p] 97, Row Kd.string 9 (.slice A0 L.length c0) (L)] (l) hcut⟩
  clear S_w hcut hQ3
  have S_w := S_w2
  clear S_w2
  have hll := OK.out.len
  clear hlen
  go_enter Try.func42, Try.ntmps42
  go_upto_region 3 with (fail)
  refine start_ (n := 15) (S := fun w' => w'.cell? ⟨g, 0, none⟩ = some (.slice A0 L.length c0) ∧ w'.cell? ⟨g, 1, none⟩ = some (.slice A1 Q.length c1) ∧ w'.cell? ⟨g, 2, none⟩ = some (.int .i64 p)) (ds := [14]) Fr0 (by kernel_rfl) rfl rfl ⟨c_g_0_w, c_g_1_w, c_g_2_w⟩ (fun hHeld => ?_)
  generalize hdw : w.drew = w_1 at hHeld ⊢
  have HB_w_1 : Aside0 (Below w.heap.size w w_1) := ⟨by rw [← hdw]; exact below_drew1 (Below.refl _ _)⟩
  clear hdw
  have B_w_1 : Aside0 (Below (base) w w_1) := ⟨below_then B_w.out (Nat.le_trans (hbase) B_w.out.size) HB_w_1.out⟩
  have S_w_1 : Aside0 (Sep (base) (Stars (Blk g #[.slice A0 L.length c0, .slice A1 Q.length c1, .int .i64 p] 97 :: Row Kd.string 9 (.slice A0 L.length c0) (L) :: Row (Kd.int .i32) 21 (.slice A1 Q2.length c1) (Q2) :: l)) w_1) := ⟨Sep.below S_w.out HB_w_1.out⟩
  have Q_w_1 : Aside0 (Below w.heap.size w w_1) := ⟨HB_w_1.out⟩
  obtain ⟨c_g_0_w_1, c_g_1_w_1, c_g_2_w_1⟩ := XW.cells3 (Sep.front [] (Row Kd.string 9 (.slice A0 L.length c0) (L) :: Row (Kd.int .i32) 21 (.slice A1 Q2.length c1) (Q2) :: l) S_w_1.out).blk
  obtain ⟨z_g_0_w_1, z_g_1_w_1, z_g_2_w_1⟩ := XW.froz3 (Sep.front [] (Row Kd.string 9 (.slice A0 L.length c0) (L) :: Row (Kd.int .i32) 21 (.slice A1 Q2.length c1) (Q2) :: l) S_w_1.out).blk
  clear S_w c_g_0_w c_g_1_w c_g_2_w z_g_0_w z_g_1_w z_g_2_w
  refine pure_ (i := 0) (N := some 13) (v := ?_) (a' := ?_) Fr1 rfl rfl (by kernel_rfl) (fun _ _ _ h => h) (Or.inl ⟨by rfl, ?_⟩) ?_ ?_
  rotate_left
  · intro w'
    go_simp
    with_reducible rfl
  rotate_left
  · simp only [Act.put, List.setIfInBounds_toArray, List.set_cons_zero, List.set_cons_succ, i64_w, i32_w]
    rfl
  refine pure_ (i := 1) (N := some 14) (v := ?_) (a' := ?_) Fr2 rfl rfl (by kernel_rfl) (fun _ _ _ h => h) (Or.inl ⟨by rfl, ?_⟩) ?_ ?_
  rotate_left
  · intro w'
    go_simp
    with_reducible rfl
  rotate_left
  · simp only [Act.put, List.setIfInBounds_toArray, List.set_cons_zero, List.set_cons_succ, i64_w, i32_w]
    rfl
  refine pure_ (i := 2) (N := some 15) (v := ?_) (a' := ?_) Fr3 rfl rfl (by kernel_rfl) (fun _ _ _ h => h) (Or.inl ⟨by rfl, ?_⟩) ?_ ?_
  rotate_left
  · intro w'
    go_simp
    with_reducible rfl
  rotate_left
  · simp only [Act.put, List.setIfInBounds_toArray, List.set_cons_zero, List.set_cons_succ, i64_w, i32_w]
    rfl
  refine pure_ (i := 3) (N := some 16) (v := ?_) (a' := ?_) Fr4 rfl rfl (by kernel_rfl) (fun _ _ _ h => h) (Or.inl ⟨by rfl, ?_⟩) ?_ ?_
  rotate_left
  · intro w'
    go_simp
    with_reducible rfl
  rotate_left
  · simp only [Act.put, List.setIfInBounds_toArray, List.set_cons_zero, List.set_cons_succ, i64_w, i32_w]
    rfl
  refine pure_ (i := 5) (N := some 18) (v := ?_) (a' := ?_) Fr5 rfl rfl (by kernel_rfl) (fun _ _ _ h => h) (Or.inl ⟨by rfl, ?_⟩) ?_ ?_
  rotate_left
  · intro w'
    go_simp
    with_reducible rfl
  rotate_left
  · simp only [Act.put, List.setIfInBounds_toArray, List.set_cons_zero, List.set_cons_succ, i64_w, i32_w]
    rfl
  refine pure_ (i := 6) (N := some 19) (v := ?_) (a' := ?_) Fr6 rfl rfl (by kernel_rfl) (fun _ _ _ h => h) (Or.inl ⟨by rfl, ?_⟩) ?_ ?_
  rotate_left
  · intro w'
    go_simp
    with_reducible rfl
  rotate_left
  · simp only [Act.put, List.setIfInBounds_toArray, List.set_cons_zero, List.set_cons_succ, i64_w, i32_w]
    rfl
  refine pure_ (i := 7) (N := some 20) (v := ?_) (a' := ?_) Fr7 rfl rfl (by kernel_rfl) (fun _ _ _ h => h) (Or.inl ⟨by rfl, ?_⟩) ?_ ?_
  rotate_left
  · intro w'
    go_simp
    with_reducible rfl
  rotate_left
  · simp only [Act.put, List.setIfInBounds_toArray, List.set_cons_zero, List.set_cons_succ, i64_w, i32_w]
    rfl
  refine take_ (i := 4) (N := some 17) (v := ?_) (a' := ?_) Fr8 rfl rfl (by kernel_rfl) (fun _ _ _ h => h) (Or.inl ⟨by rfl, ?_⟩) hHeld ?_ ?_
  rotate_left
  · rintro w' ⟨s0, s1, s2⟩
    go_simp
    with_reducible rfl
  rotate_left
  · simp only [Act.put, List.setIfInBounds_toArray, List.set_cons_zero, List.set_cons_succ, i64_w, i32_w]
    rfl
  refine take_ (i := 8) (N := some 21) (v := ?_) (a' := ?_) Fr9 rfl rfl (by kernel_rfl) (fun _ _ _ h => h) (Or.inl ⟨by rfl, ?_⟩) hHeld ?_ ?_
  rotate_left
  · rintro w' ⟨s0, s1, s2⟩
    go_simp
    with_reducible rfl
  rotate_left
  · simp only [Act.put, List.setIfInBounds_toArray, List.set_cons_zero, List.set_cons_succ, i64_w, i32_w]
    rfl
  refine pure_ (i := 9) (N := some 22) (v := ?_) (a' := ?_) Fr10 rfl rfl (by kernel_rfl) (fun _ _ _ h => h) (Or.inl ⟨by rfl, ?_⟩) ?_ ?_
  rotate_left
  · intro w'
    go_simp
    with_reducible rfl
  rotate_left
  · simp only [Act.put, List.setIfInBounds_toArray, List.set_cons_zero, List.set_cons_succ, i64_w, i32_w]
    rfl
  refine pure_ (i := 10) (N := some 23) (v := ?_) (a' := ?_) Fr11 rfl rfl (by kernel_rfl) (fun _ _ _ h => h) (Or.inl ⟨by rfl, ?_⟩) ?_ ?_
  rotate_left
  · intro w'
    go_simp
    with_reducible rfl
  rotate_left
  · simp only [Act.put, List.setIfInBounds_toArray, List.set_cons_zero, List.set_cons_succ, i64_w, i32_w]
    rfl
  refine pure_ (i := 11) (N := some 24) (v := ?_) (a' := ?_) Fr12 rfl rfl (by kernel_rfl) (fun _ _ _ h => h) (Or.inl ⟨by rfl, ?_⟩) ?_ ?_
  rotate_left
  · intro w'
    go_simp
    with_reducible rfl
  rotate_left
  · simp only [Act.put, List.setIfInBounds_toArray, List.set_cons_zero, List.set_cons_succ, i64_w, i32_w]
    rfl
  refine pure_ (i := 12) (N := some 25) (v := ?_) (a' := ?_) Fr13 rfl rfl (by kernel_rfl) (fun _ _ _ h => h) (Or.inl ⟨by rfl, ?_⟩) ?_ ?_
  rotate_left
  · intro w'
    go_simp
    with_reducible rfl
  rotate_left
  · simp only [Act.put, List.setIfInBounds_toArray, List.set_cons_zero, List.set_cons_succ, i64_w, i32_w]
    rfl
  refine pure_ (i := 13) (N := some 26) (v := ?_) (a' := ?_) Fr14 rfl rfl (by kernel_rfl) (fun _ _ _ h => h) (Or.inl ⟨by rfl, ?_⟩) ?_ ?_
  rotate_left
  · intro w'
    go_simp
    with_reducible rfl
  rotate_left
  · simp only [Act.put, List.setIfInBounds_toArray, List.set_cons_zero, List.set_cons_succ, i64_w, i32_w]
    rfl
  refine last_ (i := 14) (N := none) Fr15 rfl rfl (by kernel_rfl) (by decide) (fun K hK => ?_)
  refine skip_ (w1 := ?_) (by rfl) rfl ?_ ?_
  rotate_left
  · go_simp
    rfl
  refine hK.out _ _ ?_
  clear hK K
  refine done_ (by kernel_rfl) ?_
  obtain ⟨w_2, hw⟩ : ∃ x, x = (w_1.setCell ⟨g, 1, none⟩ (.slice A1 Q2.length c1)) := ⟨_, rfl⟩
  rw [← hw]
  have B_w_2 : Aside0 (Below (base) w w_2) := ⟨by rw [hw]; exact (Below.setCell B_w_1.out ((Sep.front [] (Row Kd.string 9 (.slice A0 L.length c0) (L) :: Row (Kd.int .i32) 21 (.slice A1 Q2.length c1) (Q2) :: l) S_w_1.out).blk_le) _)⟩
  have S_w_2 : Aside0 (Sep (base) (Stars (Blk g #[.slice A0 L.length c0, .slice A1 Q2.length c1, .int .i64 p] 97 :: Row Kd.string 9 (.slice A0 L.length c0) (L) :: Row (Kd.int .i32) 21 (.slice A1 Q2.length c1) (Q2) :: l)) w_2) := ⟨by rw [hw]; exact Sep.back [] (Row Kd.string 9 (.slice A0 L.length c0) (L) :: Row (Kd.int .i32) 21 (.slice A1 Q2.length c1) (Q2) :: l) (Sep.store (Sep.front [] (Row Kd.string 9 (.slice A0 L.length c0) (L) :: Row (Kd.int .i32) 21 (.slice A1 Q2.length c1) (Q2) :: l) S_w_1.out) (Nat.le_trans (hbase) B_w_1.out.size) 1 (.slice A1 Q2.length c1) (cs' := #[.slice A0 L.length c0, .slice A1 Q2.length c1, .int .i64 p]) rfl)⟩
  obtain ⟨c_g_0_w_2, c_g_1_w_2, c_g_2_w_2⟩ := XW.cells3 (Sep.front [] (Row Kd.string 9 (.slice A0 L.length c0) (L) :: Row (Kd.int .i32) 21 (.slice A1 Q2.length c1) (Q2) :: l) S_w_2.out).blk
  obtain ⟨z_g_0_w_2, z_g_1_w_2, z_g_2_w_2⟩ := XW.froz3 (Sep.front [] (Row Kd.string 9 (.slice A0 L.length c0) (L) :: Row (Kd.int .i32) 21 (.slice A1 Q2.length c1) (Q2) :: l) S_w_2.out).blk
  clear S_w_1 c_g_0_w_1 c_g_1_w_1 c_g_2_w_1 z_g_0_w_1 z_g_1_w_1 z_g_2_w_1
  clear hw
  by_cases hq1 : Q.length = 1
  · have hz : ¬ (0 : Int) < (Q2.length : Int) := by have := rub_len Q; rw [hQ2] at this; omega
    have hp3 : p2 = -1 := by rw [← hp2]; unfold rubP; rw [if_neg hq, if_pos hq1]
    subst hp3
    go_wp2_with (first | ((with_reducible refine gate_store (t := 3) (p := 29) rfl ?_); go_must (refine store_event (t := 3) (p := 29) (v := ?vo_2) (w1 := (w_2.setCell ⟨g, 2, none⟩ (.int .i64 (-1)))) ?hg ?ho ?hn ?hr ?_; (case ho => rfl); (case hg => rfl); (case hn => rfl); (case hr => first | (go_simp; done) | (go_simp; rfl)); intro w_3 hw; have B_w_3 : Aside0 (Below (base) w w_3) := ⟨by rw [hw]; exact (Below.setCell B_w_2.out ((Sep.front [] (Row Kd.string 9 (.slice A0 L.length c0) (L) :: Row (Kd.int .i32) 21 (.slice A1 Q2.length c1) (Q2) :: l) S_w_2.out).blk_le) _)⟩; have S_w_3 : Aside0 (Sep (base) (Stars (Blk g #[.slice A0 L.length c0, .slice A1 Q2.length c1, .int .i64 (-1)] 97 :: Row Kd.string 9 (.slice A0 L.length c0) (L) :: Row (Kd.int .i32) 21 (.slice A1 Q2.length c1) (Q2) :: l)) w_3) := ⟨by rw [hw]; exact Sep.back [] (Row Kd.string 9 (.slice A0 L.length c0) (L) :: Row (Kd.int .i32) 21 (.slice A1 Q2.length c1) (Q2) :: l) (Sep.store (Sep.front [] (Row Kd.string 9 (.slice A0 L.length c0) (L) :: Row (Kd.int .i32) 21 (.slice A1 Q2.length c1) (Q2) :: l) S_w_2.out) (Nat.le_trans (hbase) B_w_2.out.size) 2 (.int .i64 (-1)) (cs' := #[.slice A0 L.length c0, .slice A1 Q2.length c1, .int .i64 (-1)]) rfl)⟩; obtain ⟨c_g_0_w_3, c_g_1_w_3, c_g_2_w_3⟩ := XW.cells3 (Sep.front [] (Row Kd.string 9 (.slice A0 L.length c0) (L) :: Row (Kd.int .i32) 21 (.slice A1 Q2.length c1) (Q2) :: l) S_w_3.out).blk; obtain ⟨z_g_0_w_3, z_g_1_w_3, z_g_2_w_3⟩ := XW.froz3 (Sep.front [] (Row Kd.string 9 (.slice A0 L.length c0) (L) :: Row (Kd.int .i32) 21 (.slice A1 Q2.length c1) (Q2) :: l) S_w_3.out).blk; clear S_w_2 c_g_0_w_2 c_g_1_w_2 c_g_2_w_2 z_g_0_w_2 z_g_1_w_2 z_g_2_w_2; clear hw)))
    go_ret
    exact ⟨by rfl, SS.close S_w_3.out, B_w_3.out⟩
  · have hz : (0 : Int) < (Q2.length : Int) := by have := rub_len Q; rw [hQ2] at this; omega
    have HFD : Aside0 (firstF (qs Q2) (downs L L.length) = p2) := ⟨by rw [first_downs L _ OK.out.short _ (Nat.le_refl _), ← hp2]; unfold rubP; rw [if_neg hq, if_neg hq1, hQ2]⟩
    have hwl : wrap64 ((L.length : Int) - 1) = (L.length : Int) - 1 := by unfold wrap64; omega
    clear hp2 hq1 hQ2 hq
    go_wp2_with (first | ((with_reducible refine gate_store (t := 3) (p := 29) rfl ?_); go_must (refine store_event (t := 3) (p := 29) (v := ?vo_2) (w1 := (w_2.setCell ⟨g, 2, none⟩ (.int .i64 (-1)))) ?hg ?ho ?hn ?hr ?_; (case ho => rfl); (case hg => rfl); (case hn => rfl); (case hr => first | (go_simp; done) | (go_simp; rfl)); intro w_3 hw; have B_w_3 : Aside0 (Below (base) w w_3) := ⟨by rw [hw]; exact (Below.setCell B_w_2.out ((Sep.front [] (Row Kd.string 9 (.slice A0 L.length c0) (L) :: Row (Kd.int .i32) 21 (.slice A1 Q2.length c1) (Q2) :: l) S_w_2.out).blk_le) _)⟩; have S_w_3 : Aside0 (Sep (base) (Stars (Blk g #[.slice A0 L.length c0, .slice A1 Q2.length c1, .int .i64 (-1)] 97 :: Row Kd.string 9 (.slice A0 L.length c0) (L) :: Row (Kd.int .i32) 21 (.slice A1 Q2.length c1) (Q2) :: l)) w_3) := ⟨by rw [hw]; exact Sep.back [] (Row Kd.string 9 (.slice A0 L.length c0) (L) :: Row (Kd.int .i32) 21 (.slice A1 Q2.length c1) (Q2) :: l) (Sep.store (Sep.front [] (Row Kd.string 9 (.slice A0 L.length c0) (L) :: Row (Kd.int .i32) 21 (.slice A1 Q2.length c1) (Q2) :: l) S_w_2.out) (Nat.le_trans (hbase) B_w_2.out.size) 2 (.int .i64 (-1)) (cs' := #[.slice A0 L.length c0, .slice A1 Q2.length c1, .int .i64 (-1)]) rfl)⟩; obtain ⟨c_g_0_w_3, c_g_1_w_3, c_g_2_w_3⟩ := XW.cells3 (Sep.front [] (Row Kd.string 9 (.slice A0 L.length c0) (L) :: Row (Kd.int .i32) 21 (.slice A1 Q2.length c1) (Q2) :: l) S_w_3.out).blk; obtain ⟨z_g_0_w_3, z_g_1_w_3, z_g_2_w_3⟩ := XW.froz3 (Sep.front [] (Row Kd.string 9 (.slice A0 L.length c0) (L) :: Row (Kd.int .i32) 21 (.slice A1 Q2.length c1) (Q2) :: l) S_w_3.out).blk; clear S_w_2 c_g_0_w_2 c_g_1_w_2 c_g_2_w_2 z_g_0_w_2 z_g_1_w_2 z_g_2_w_2; clear hw)) | (go_at_call 70; (with_reducible refine (back_is _ (Sf.of S_w_3.out) OK.out.len L.length (Nat.le_refl _) ((L.length : Int) - 1) rfl).mono ?_); rintro e w_4 ⟨B, rfl, hBc, hb⟩; have HBc := Aside0.mk hBc; clear hBc; have B_w_4 : Aside0 (Below (base) w w_4) := ⟨below_then B_w_3.out (Nat.le_trans (hbase) B_w_3.out.size) hb⟩; have S_w_4 : Aside0 (Sep (base) (Stars (Blk g #[.slice A0 L.length c0, .slice A1 Q2.length c1, .int .i64 (-1)] 97 :: Row Kd.string 9 (.slice A0 L.length c0) (L) :: Row (Kd.int .i32) 21 (.slice A1 Q2.length c1) (Q2) :: l)) w_4) := ⟨Sep.below S_w_3.out hb⟩; obtain ⟨c_g_0_w_4, c_g_1_w_4, c_g_2_w_4⟩ := XW.cells3 (Sep.front [] (Row Kd.string 9 (.slice A0 L.length c0) (L) :: Row (Kd.int .i32) 21 (.slice A1 Q2.length c1) (Q2) :: l) S_w_4.out).blk; obtain ⟨z_g_0_w_4, z_g_1_w_4, z_g_2_w_4⟩ := XW.froz3 (Sep.front [] (Row Kd.string 9 (.slice A0 L.length c0) (L) :: Row (Kd.int .i32) 21 (.slice A1 Q2.length c1) (Q2) :: l) S_w_4.out).blk; clear S_w_3 c_g_0_w_3 c_g_1_w_3 c_g_2_w_3 z_g_0_w_3 z_g_1_w_3 z_g_2_w_3; clear hb) | (go_at_call 69; (with_reducible refine (first_is _ (Sf.of S_w_4.out) m (cell_low B_w_4.out hb0 HM.out) 91 _ enters91 (downs L L.length) (fun n_ hn_ => by rw [downs_len]; exact back_stops n_ hn_ _ _ (Sf.of S_w_4.out) OK.out.short OK.out.len L.length (Nat.le_refl _) B HBc.out (Below.refl _ _)) p2 HFD.out).mono ?_); rintro e w_5 ⟨rfl, hb⟩; have B_w_5 : Aside0 (Below (base) w w_5) := ⟨below_then B_w_4.out (Nat.le_trans (hbase) B_w_4.out.size) hb⟩; have S_w_5 : Aside0 (Sep (base) (Stars (Blk g #[.slice A0 L.length c0, .slice A1 Q2.length c1, .int .i64 (-1)] 97 :: Row Kd.string 9 (.slice A0 L.length c0) (L) :: Row (Kd.int .i32) 21 (.slice A1 Q2.length c1) (Q2) :: l)) w_5) := ⟨Sep.below S_w_4.out hb⟩; obtain ⟨c_g_0_w_5, c_g_1_w_5, c_g_2_w_5⟩ := XW.cells3 (Sep.front [] (Row Kd.string 9 (.slice A0 L.length c0) (L) :: Row (Kd.int .i32) 21 (.slice A1 Q2.length c1) (Q2) :: l) S_w_5.out).blk; obtain ⟨z_g_0_w_5, z_g_1_w_5, z_g_2_w_5⟩ := XW.froz3 (Sep.front [] (Row Kd.string 9 (.slice A0 L.length c0) (L) :: Row (Kd.int .i32) 21 (.slice A1 Q2.length c1) (Q2) :: l) S_w_5.out).blk; clear S_w_4 c_g_0_w_4 c_g_1_w_4 c_g_2_w_4 z_g_0_w_4 z_g_1_w_4 z_g_2_w_4; clear hb) | ((with_reducible refine gate_store (t := 3) (p := 48) rfl ?_); go_must (refine store_event (t := 3) (p := 48) (v := ?vo_3) (w1 := (w_5.setCell ⟨g, 2, none⟩ (.int .i64 p2))) ?hg ?ho ?hn ?hr ?_; (case ho => rfl); (case hg => rfl); (case hn => rfl); (case hr => first | (go_simp; done) | (go_simp; rfl)); intro w_6 hw; have B_w_6 : Aside0 (Below (base) w w_6) := ⟨by rw [hw]; exact (Below.setCell B_w_5.out ((Sep.front [] (Row Kd.string 9 (.slice A0 L.length c0) (L) :: Row (Kd.int .i32) 21 (.slice A1 Q2.length c1) (Q2) :: l) S_w_5.out).blk_le) _)⟩; have S_w_6 : Aside0 (Sep (base) (Stars (Blk g #[.slice A0 L.length c0, .slice A1 Q2.length c1, .int .i64 p2] 97 :: Row Kd.string 9 (.slice A0 L.length c0) (L) :: Row (Kd.int .i32) 21 (.slice A1 Q2.length c1) (Q2) :: l)) w_6) := ⟨by rw [hw]; exact Sep.back [] (Row Kd.string 9 (.slice A0 L.length c0) (L) :: Row (Kd.int .i32) 21 (.slice A1 Q2.length c1) (Q2) :: l) (Sep.store (Sep.front [] (Row Kd.string 9 (.slice A0 L.length c0) (L) :: Row (Kd.int .i32) 21 (.slice A1 Q2.length c1) (Q2) :: l) S_w_5.out) (Nat.le_trans (hbase) B_w_5.out.size) 2 (.int .i64 p2) (cs' := #[.slice A0 L.length c0, .slice A1 Q2.length c1, .int .i64 p2]) rfl)⟩; obtain ⟨c_g_0_w_6, c_g_1_w_6, c_g_2_w_6⟩ := XW.cells3 (Sep.front [] (Row Kd.string 9 (.slice A0 L.length c0) (L) :: Row (Kd.int .i32) 21 (.slice A1 Q2.length c1) (Q2) :: l) S_w_6.out).blk; obtain ⟨z_g_0_w_6, z_g_1_w_6, z_g_2_w_6⟩ := XW.froz3 (Sep.front [] (Row Kd.string 9 (.slice A0 L.length c0) (L) :: Row (Kd.int .i32) 21 (.slice A1 Q2.length c1) (Q2) :: l) S_w_6.out).blk; clear S_w_5 c_g_0_w_5 c_g_1_w_5 c_g_2_w_5 z_g_0_w_5 z_g_1_w_5 z_g_2_w_5; clear hw)))
    go_ret
    exact ⟨by first | (rw [← ne_dec]; done) | (rw [← ne_dec]; rfl), SS.close S_w_6.out, B_w_6.out⟩
end Go.Proofs.Ythofobcbbddeeaa.SrchA
