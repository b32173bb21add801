/- Searches: what they are; what only reads them. Conditions: none beyond those that each theorem states. -/
import Derived.Test.YthofobcbbddeeaaSrchL
namespace Go.Proofs.Ythofobcbbddeeaa.SrchA
open Go.RowKit Go.Proofs.YthofobcbbddeeaaW.PrintWords Go.Proofs.YthofobcbbddeeaaW.PrintLast Go.Proofs.YthofobcbbddeeaaW.PrintMore Go.Proofs.Ythofobcbbddeeaa.XS Go.Proofs.Ythofobcbbddeeaa.PSrch
set_option linter.unusedVariables false
set_option linter.unusedSimpArgs false
/-- A search at g: lines, a query, a place (T: its type; k, e: its runes' kind and type). -/
def SS (T : Nat) (k : IntKind) (e g : Nat) (L : List ByteArray) (Q : List Int) (p : Int) : Assn := Ex fun v0 => Ex fun v1 => Star (Blk g #[v0, v1, .int .i64 p] T) (Star (Row Kd.string 9 v0 L) (Row (Kd.int k) e v1 Q))
theorem SS.open {T : Nat} {k : IntKind} {e base g : Nat} {L : List ByteArray} {Q : List Int} {p : Int} {l : List Assn} {w : World} (h : Sep base (Star (SS T k e g L Q p) (Stars l)) w) :
    ∃ A0 c0 A1 c1, L.length ≤ c0 ∧ Q.length ≤ c1 ∧ Kd.string.C w A0 L.length L ∧ (Kd.int k).C w A1 Q.length Q ∧ Sep base (Stars (Blk g #[.slice A0 L.length c0, .slice A1 Q.length c1, .int .i64 p] T :: Row Kd.string 9 (.slice A0 L.length c0) L :: Row (Kd.int k) e (.slice A1 Q.length c1) Q :: l)) w := by
  obtain ⟨v0, h⟩ := h.ex
  obtain ⟨v1, h⟩ := h.ex
  have h : Sep base (Star (Blk g #[v0, v1, .int .i64 p] T) (Star (Star (Row Kd.string 9 v0 L) (Row (Kd.int k) e v1 Q)) (Stars l))) w := h.assoc
  have h : Sep base (Stars [Blk g #[v0, v1, .int .i64 p] T]) w ∧ Sep base (Star (Star (Row Kd.string 9 v0 L) (Row (Kd.int k) e v1 Q)) (Star (Blk g #[v0, v1, .int .i64 p] T) (Stars l))) w := ⟨Sep.one h.left, h.swap⟩
  have h1 : Sep base (Stars (Row Kd.string 9 v0 L :: Row (Kd.int k) e v1 Q :: Blk g #[v0, v1, .int .i64 p] T :: l)) w := h.2.assoc
  obtain ⟨A0, c0, rfl, hl0, hC0⟩ := Sep.row h1
  have h2 := Sep.front [Row Kd.string 9 (.slice A0 L.length c0) L] (Blk g #[.slice A0 L.length c0, v1, .int .i64 p] T :: l) h1
  obtain ⟨A1, c1, rfl, hl1, hC1⟩ := Sep.row h2
  exact ⟨A0, c0, A1, c1, hl0, hl1, hC0, hC1, Sep.front [Row Kd.string 9 (.slice A0 L.length c0) L, Row (Kd.int k) e (.slice A1 Q.length c1) Q] l h1⟩
theorem SS.close {T : Nat} {k : IntKind} {e base g : Nat} {L : List ByteArray} {Q : List Int} {p : Int} {l : List Assn} {w : World} {v0 v1 : Value} (h : Sep base (Stars (Blk g #[v0, v1, .int .i64 p] T :: Row Kd.string 9 v0 L :: Row (Kd.int k) e v1 Q :: l)) w) : Sep base (Star (SS T k e g L Q p) (Stars l)) w := by
  have h1 : Sep base (Stars (Row Kd.string 9 v0 L :: Row (Kd.int k) e v1 Q :: Blk g #[v0, v1, .int .i64 p] T :: l)) w := Sep.back [Row Kd.string 9 v0 L, Row (Kd.int k) e v1 Q] l h
  have h2 : Sep base (Star (Star (Row Kd.string 9 v0 L) (Row (Kd.int k) e v1 Q)) (Star (Blk g #[v0, v1, .int .i64 p] T) (Stars l))) w := Sep.assoc' h1
  have h3 : Sep base (Star (Blk g #[v0, v1, .int .i64 p] T) (Star (Star (Row Kd.string 9 v0 L) (Row (Kd.int k) e v1 Q)) (Stars l))) w := h2.swap
  exact Sep.ex_mk v0 (Sep.ex_mk v1 h3.assoc')
/-- A search as it reads. -/
structure Sf (k : IntKind) (g : Nat) (A0 : Option Addr) (c0 : Nat) (A1 : Option Addr) (c1 : Nat) (L : List ByteArray) (Q : List Int) (p : Int) (w : World) : Prop where
  l0 : L.length ≤ c0
  l1 : Q.length ≤ c1
  x0 : w.cell? ⟨g, 0, none⟩ = some (.slice A0 L.length c0)
  x1 : w.cell? ⟨g, 1, none⟩ = some (.slice A1 Q.length c1)
  x2 : w.cell? ⟨g, 2, none⟩ = some (.int .i64 p)
  C0 : Kd.string.C w A0 L.length L
  C1 : (Kd.int k).C w A1 Q.length Q
theorem Sf.below {k : IntKind} {g c0 c1 : Nat} {A0 A1 : Option Addr} {L : List ByteArray} {Q : List Int} {p : Int} {w w1 : World} (h : Sf k g A0 c0 A1 c1 L Q p w) (hb : Below w.heap.size w w1) : Sf k g A0 c0 A1 c1 L Q p w1 :=
  ⟨h.l0, h.l1, pw_cell_below hb h.x0, pw_cell_below hb h.x1, pw_cell_below hb h.x2, Kd.C_below h.C0 hb, Kd.C_below h.C1 hb⟩
theorem SS.fr {T : Nat} {k : IntKind} {e base g : Nat} {L : List ByteArray} {Q : List Int} {p : Int} {l : List Assn} {w : World} (h : Sep base (Star (SS T k e g L Q p) (Stars l)) w) : ∃ A0 c0 A1 c1, Sf k g A0 c0 A1 c1 L Q p w := by
  obtain ⟨A0, c0, A1, c1, h0, h1, hC0, hC1, hS⟩ := SS.open h
  obtain ⟨x0, x1, x2⟩ := XW.cells3 (Sep.blk hS)
  exact ⟨A0, c0, A1, c1, h0, h1, x0, x1, x2, hC0, hC1⟩
/-- The query's text. -/
def qs (Q : List Int) : ByteArray := runesBytes Q
theorem qs_le (Q : List Int) : (qs Q).size ≤ 4 * Q.length := runesBytes_size_le Q
theorem rd_getD (Q : List Int) (j : Nat) : rd Q (j : Int) = Q.getD j 0 := by simp [rd]
theorem conv_is (w : World) {A : Option Addr} {c : Nat} {Q : List Int} (h : (Kd.int .i32).C w A Q.length Q) : (convert 95 9 (.slice A Q.length c)).run Try.prog w = .ok (.string (qs Q)) w := by
  cases A with
  | none =>
    have hq : Q = [] := by
      rcases Nat.eq_zero_or_pos Q.length with e | e
      · exact List.eq_nil_of_length_eq_zero e
      · obtain ⟨ad, e2, _⟩ := Kd.at_int h 0 (by omega) (by omega)
        cases e2
    subst hq
    exact run_convert_runes_nil w 95 9 21 _ _ Try.underlying95 Try.underlying21 Try.underlying9
  | some ad =>
    have := run_convert_runes (P := Try.prog) w 95 9 21 ad Q.length c Q (Nat.le_refl _) Try.underlying95 Try.underlying21 Try.underlying9 (fun j hj => by
      obtain ⟨ad', e, hc⟩ := Kd.at_int h (j : Int) (by omega) (by omega)
      obtain rfl : ad = ad' := by injection e
      rw [Int.toNat_natCast] at hc
      rw [hc, rd_getD])
    rw [List.take_length] at this
    exact this
theorem query_nil (w : World) : Calls Try.prog 39 #[.pointer none] w fun e w' => e = .returned (.string ⟨#[]⟩) ∧ w = w' := by
  go_enter Try.func39, Try.ntmps39
  go_wp2
  go_ret
  exact ⟨rfl, rfl⟩
theorem query_is {g c0 c1 : Nat} {A0 A1 : Option Addr} {L : List ByteArray} {Q : List Int} {p : Int} (w : World) (h : Sf .i32 g A0 c0 A1 c1 L Q p w) (q : ByteArray) (hq : qs Q = q) : Calls Try.prog 39 #[.pointer (some ⟨g, 0, none⟩)] w fun e w' => e = .returned (.string q) ∧ w = w' := by
  subst hq
  have x1 := h.x1
  have hcv := fun c => conv_is w (c := c) h.C1
  clear h
  go_enter Try.func39, Try.ntmps39
  go_wp2
  go_ret
  exact ⟨rfl, rfl⟩
theorem found_nil (w : World) : Calls Try.prog 38 #[.pointer none] w fun e w' => e = .returned (.tuple #[.int .i64 0, .string ⟨#[]⟩, .bool false]) ∧ w = w' := by
  go_enter Try.func38, Try.ntmps38
  go_wp2
  go_ret3
  exact ⟨rfl, rfl⟩
theorem found_no {g c0 c1 : Nat} {A0 A1 : Option Addr} {L : List ByteArray} {Q : List Int} (w : World) (h : Sf .i32 g A0 c0 A1 c1 L Q (-1) w) : Calls Try.prog 38 #[.pointer (some ⟨g, 0, none⟩)] w fun e w' => e = .returned (.tuple #[.int .i64 0, .string ⟨#[]⟩, .bool false]) ∧ w = w' := by
  have x2 := h.x2
  clear h
  go_enter Try.func38, Try.ntmps38
  go_wp2
  go_ret3
  exact ⟨rfl, rfl⟩
set_option maxHeartbeats 8000000 in
set_option maxRecDepth 100000 in
theorem found_yes {g c0 c1 : Nat} {A0 A1 : Option Addr} {L : List ByteArray} {Q : List Int} {p : Int} (w : World) (h : Sf .i32 g A0 c0 A1 c1 L Q p w) (hp0 : 0 ≤ p) (hp1 : p < (L.length : Int)) (t : ByteArray) (ht : rdOf ByteArray.empty L p = t) : Calls Try.prog 38 #[.pointer (some ⟨g, 0, none⟩)] w fun e w' => e = .returned (.tuple #[.int .i64 p, .string t, .bool true]) ∧ Below w.heap.size w w' := by
  obtain ⟨ad, rfl, xe⟩ := Kd.at_string h.C0 p hp0 hp1
  rw [ht] at xe
  have x0 := h.x0
  have x2 := h.x2
  have hn : (p == -1) = false := beq_eq_false_iff_ne.mpr (by omega)
  clear h ht
  have B_w := Aside0.mk (Below.refl w.heap.size w)
  have S_w : Aside0 (Sep w.heap.size (Stars []) w) := ⟨Sep.emp _ _⟩
  go_enter Try.func38, Try.ntmps38
  go_upto_region 3 with (fail)
  refine start_ (n := 17) (S := fun w' => w'.cell? ⟨g, 0, none⟩ = some (.slice (some ad) L.length c0) ∧ w'.cell? ⟨g, 2, none⟩ = some (.int .i64 p) ∧ w'.cell? (ad.add p.toNat) = some (.string t)) (ds := []) #[false, false, false, false, false, false, false, false, false, false, false, false, false, false, false, false, false] (by kernel_rfl) rfl rfl ⟨x0, x2, xe⟩ (fun hHeld => ?_)
  generalize hdw : w.drew = w_1 at hHeld ⊢
  have HB_w_1 : Aside0 (Below w.heap.size w w_1) := ⟨by rw [← hdw]; exact below_drew1 (Below.refl _ _)⟩
  clear hdw
  have B_w_1 : Aside0 (Below (w.heap.size) w w_1) := ⟨below_then B_w.out B_w.out.size HB_w_1.out⟩
  have S_w_1 : Aside0 (Sep (w.heap.size) (Stars []) w_1) := ⟨Sep.below S_w.out HB_w_1.out⟩
  have Q_w_1 : Aside0 (Below w.heap.size w w_1) := ⟨HB_w_1.out⟩
  have x0_w_1 := pw_cell_below Q_w_1.out x0
  have x2_w_1 := pw_cell_below Q_w_1.out x2
  have xe_w_1 := pw_cell_below Q_w_1.out xe
  clear S_w
  refine pure_ (i := 0) (N := some 14) (v := ?_) (a' := ?_) #[true, false, false, false, false, false, false, false, false, false, false, false, false, false, false, false, false] rfl rfl (by kernel_rfl) (fun _ _ _ h => h) (Or.inl ⟨by rfl, ?_⟩) ?_ ?_
  rotate_left
  · intro w'
    go_simp
    with_reducible rfl
  rotate_left
  · simp only [Act.put, List.setIfInBounds_toArray, List.set_cons_zero, List.set_cons_succ, i64_w, i32_w]
    rfl
  refine pure_ (i := 1) (N := some 15) (v := ?_) (a' := ?_) #[true, true, false, false, false, false, false, false, false, false, false, false, false, false, false, false, false] rfl rfl (by kernel_rfl) (fun _ _ _ h => h) (Or.inl ⟨by rfl, ?_⟩) ?_ ?_
  rotate_left
  · intro w'
    go_simp
    with_reducible rfl
  rotate_left
  · simp only [Act.put, List.setIfInBounds_toArray, List.set_cons_zero, List.set_cons_succ, i64_w, i32_w]
    rfl
  refine pure_ (i := 2) (N := some 16) (v := ?_) (a' := ?_) #[true, true, true, false, false, false, false, false, false, false, false, false, false, false, false, false, false] rfl rfl (by kernel_rfl) (fun _ _ _ h => h) (Or.inl ⟨by rfl, ?_⟩) ?_ ?_
  rotate_left
  · intro w'
    go_simp
    with_reducible rfl
  rotate_left
  · simp only [Act.put, List.setIfInBounds_toArray, List.set_cons_zero, List.set_cons_succ, i64_w, i32_w]
    rfl
  refine pure_ (i := 4) (N := some 18) (v := ?_) (a' := ?_) #[true, true, true, false, true, false, false, false, false, false, false, false, false, false, false, false, false] rfl rfl (by kernel_rfl) (fun _ _ _ h => h) (Or.inl ⟨by rfl, ?_⟩) ?_ ?_
  rotate_left
  · intro w'
    go_simp
    with_reducible rfl
  rotate_left
  · simp only [Act.put, List.setIfInBounds_toArray, List.set_cons_zero, List.set_cons_succ, i64_w, i32_w]
    rfl
  refine pure_ (i := 5) (N := some 19) (v := ?_) (a' := ?_) #[true, true, true, false, true, true, false, false, false, false, false, false, false, false, false, false, false] rfl rfl (by kernel_rfl) (fun _ _ _ h => h) (Or.inl ⟨by rfl, ?_⟩) ?_ ?_
  rotate_left
  · intro w'
    go_simp
    with_reducible rfl
  rotate_left
  · simp only [Act.put, List.setIfInBounds_toArray, List.set_cons_zero, List.set_cons_succ, i64_w, i32_w]
    rfl
  refine pure_ (i := 6) (N := some 20) (v := ?_) (a' := ?_) #[true, true, true, false, true, true, true, false, false, false, false, false, false, false, false, false, false] rfl rfl (by kernel_rfl) (fun _ _ _ h => h) (Or.inl ⟨by rfl, ?_⟩) ?_ ?_
  rotate_left
  · intro w'
    go_simp
    with_reducible rfl
  rotate_left
  · simp only [Act.put, List.setIfInBounds_toArray, List.set_cons_zero, List.set_cons_succ, i64_w, i32_w]
    rfl
  refine pure_ (i := 8) (N := some 22) (v := ?_) (a' := ?_) #[true, true, true, false, true, true, true, false, true, false, false, false, false, false, false, false, false] rfl rfl (by kernel_rfl) (fun _ _ _ h => h) (Or.inl ⟨by rfl, ?_⟩) ?_ ?_
  rotate_left
  · intro w'
    go_simp
    with_reducible rfl
  rotate_left
  · simp only [Act.put, List.setIfInBounds_toArray, List.set_cons_zero, List.set_cons_succ, i64_w, i32_w]
    rfl
  refine pure_ (i := 9) (N := some 23) (v := ?_) (a' := ?_) #[true, true, true, false, true, true, true, false, true, true, false, false, false, false, false, false, false] rfl rfl (by kernel_rfl) (fun _ _ _ h => h) (Or.inl ⟨by rfl, ?_⟩) ?_ ?_
  rotate_left
  · intro w'
    go_simp
    with_reducible rfl
  rotate_left
  · simp only [Act.put, List.setIfInBounds_toArray, List.set_cons_zero, List.set_cons_succ, i64_w, i32_w]
    rfl
  refine pure_ (i := 10) (N := some 24) (v := ?_) (a' := ?_) #[true, true, true, false, true, true, true, false, true, true, true, false, false, false, false, false, false] rfl rfl (by kernel_rfl) (fun _ _ _ h => h) (Or.inl ⟨by rfl, ?_⟩) ?_ ?_
  rotate_left
  · intro w'
    go_simp
    with_reducible rfl
  rotate_left
  · simp only [Act.put, List.setIfInBounds_toArray, List.set_cons_zero, List.set_cons_succ, i64_w, i32_w]
    rfl
  refine take_ (i := 3) (N := some 17) (v := ?_) (a' := ?_) #[true, true, true, true, true, true, true, false, true, true, true, false, false, false, false, false, false] rfl rfl (by kernel_rfl) (fun _ _ _ h => h) (Or.inl ⟨by rfl, ?_⟩) hHeld ?_ ?_
  rotate_left
  · rintro w' ⟨s0, s1, s2⟩
    go_simp
    with_reducible rfl
  rotate_left
  · simp only [Act.put, List.setIfInBounds_toArray, List.set_cons_zero, List.set_cons_succ, i64_w, i32_w]
    rfl
  refine pure_ (i := 14) (N := some 2) (v := ?_) (a' := ?_) #[true, true, true, true, true, true, true, false, true, true, true, false, false, false, true, false, false] rfl rfl (by kernel_rfl) (fun _ _ _ h => h) (Or.inl ⟨by rfl, ?_⟩) ?_ ?_
  rotate_left
  · intro w'
    go_simp
    with_reducible rfl
  rotate_left
  · simp only [Act.put, List.setIfInBounds_toArray, List.set_cons_zero, List.set_cons_succ, i64_w, i32_w]
    rfl
  refine take_ (i := 7) (N := some 21) (v := ?_) (a' := ?_) #[true, true, true, true, true, true, true, true, true, true, true, false, false, false, true, false, false] rfl rfl (by kernel_rfl) (fun _ _ _ h => h) (Or.inl ⟨by rfl, ?_⟩) hHeld ?_ ?_
  rotate_left
  · rintro w' ⟨s0, s1, s2⟩
    go_simp
    with_reducible rfl
  rotate_left
  · simp only [Act.put, List.setIfInBounds_toArray, List.set_cons_zero, List.set_cons_succ, i64_w, i32_w]
    rfl
  refine take_ (i := 11) (N := some 25) (v := ?_) (a' := ?_) #[true, true, true, true, true, true, true, true, true, true, true, true, false, false, true, false, false] rfl rfl (by kernel_rfl) (fun _ _ _ h => h) (Or.inl ⟨by rfl, ?_⟩) hHeld ?_ ?_
  rotate_left
  · rintro w' ⟨s0, s1, s2⟩
    go_simp
    with_reducible rfl
  rotate_left
  · simp only [Act.put, List.setIfInBounds_toArray, List.set_cons_zero, List.set_cons_succ, i64_w, i32_w]
    rfl
  refine pure_ (i := 12) (N := some 26) (v := ?_) (a' := ?_) #[true, true, true, true, true, true, true, true, true, true, true, true, true, false, true, false, false] rfl rfl (by kernel_rfl) (fun _ _ _ h => h) (Or.inl ⟨by rfl, ?_⟩) ?_ ?_
  rotate_left
  · intro w'
    go_simp
    with_reducible rfl
  rotate_left
  · simp only [Act.put, List.setIfInBounds_toArray, List.set_cons_zero, List.set_cons_succ, i64_w, i32_w]
    rfl
  refine take_ (i := 13) (N := some 27) (v := ?_) (a' := ?_) #[true, true, true, true, true, true, true, true, true, true, true, true, true, true, true, false, false] rfl rfl (by kernel_rfl) (fun _ _ _ h => h) (Or.inl ⟨by rfl, ?_⟩) hHeld ?_ ?_
  rotate_left
  · rintro w' ⟨s0, s1, s2⟩
    go_simp
    with_reducible rfl
  rotate_left
  · simp only [Act.put, List.setIfInBounds_toArray, List.set_cons_zero, List.set_cons_succ, i64_w, i32_w]
    rfl
  refine pure_ (i := 15) (N := some 3) (v := ?_) (a' := ?_) #[true, true, true, true, true, true, true, true, true, true, true, true, true, true, true, true, false] rfl rfl (by kernel_rfl) (fun _ _ _ h => h) (Or.inl ⟨by rfl, ?_⟩) ?_ ?_
  rotate_left
  · intro w'
    go_simp
    with_reducible rfl
  rotate_left
  · simp only [Act.put, List.setIfInBounds_toArray, List.set_cons_zero, List.set_cons_succ, i64_w, i32_w]
    rfl
  refine pure_ (i := 16) (N := some 4) (v := ?_) (a' := ?_) #[true, true, true, true, true, true, true, true, true, true, true, true, true, true, true, true, true] rfl rfl (by kernel_rfl) (fun _ _ _ h => h) (Or.inl ⟨by rfl, ?_⟩) ?_ ?_
  rotate_left
  · intro w'
    go_simp
    with_reducible rfl
  rotate_left
  · simp only [Act.put, List.setIfInBounds_toArray, List.set_cons_zero, List.set_cons_succ, i64_w, i32_w]
    rfl
  refine done_ (by kernel_rfl) ?_
  go_wp2
  go_ret3
  exact ⟨rfl, B_w_1.out⟩
theorem size_add (a b : ByteArray) : (a ++ b).size = a.size + b.size := ByteArray.size_append
set_option maxHeartbeats 8000000 in
set_option maxRecDepth 100000 in
theorem refquery_is {g c0 c1 : Nat} {A0 A1 : Option Addr} {L : List ByteArray} {Q : List Int} {p : Int} (w : World) (h : Sf .i64 g A0 c0 A1 c1 L Q p w) (hQ : Q.length ≤ 1000) (q : ByteArray) (hq : qs Q = q) : Calls Try.prog 48 #[.pointer (some ⟨g, 0, none⟩)] w fun e w' => e = .returned (.string q) ∧ Below w.heap.size w w' := by
  have H := Aside0.mk h
  have x1 := h.x1
  have HQ := Aside0.mk hq
  clear h hq
  have B_w := Aside0.mk (Below.refl w.heap.size w)
  have S_w : Aside0 (Sep w.heap.size (Stars []) w) := ⟨Sep.emp _ _⟩
  go_enter Try.func48, Try.ntmps48
  go_wp2
  go_loopw [3, 4] (fun v3 i wr => ∃ j : Nat, j ≤ Q.length ∧ i = .int .i64 j ∧ v3 = .string (runesBytes (Q.take j)) ∧ Aside0 (Below w.heap.size w wr)) (fun _ i _ => Q.length - (intOf i).toNat)
  case atStart => exact ⟨0, by omega, rfl, rfl, B_w⟩
  case round =>
    clear S_w x1
    obtain ⟨j, hj, rfl, rfl, B_wr⟩ := hrel
    by_cases hlt : j < Q.length
    · have hlt2 : (j : Int) < (Q.length : Int) := by omega
      have hj0 : (0 : Int) ≤ (j : Int) := by omega
      have S_wr : Aside0 (Sep w.heap.size (Stars []) wr) := ⟨Sep.emp _ _⟩
      obtain ⟨ad, hA, xe⟩ := Kd.at_int H.out.C1 (j : Int) hj0 hlt2
      rw [Int.toNat_natCast] at xe
      subst hA
      have x1 := H.out.x1
      have hs1 := runesBytes_size_le (Q.take j)
      rw [List.length_take] at hs1
      have hs2 := encode_size_le (rd Q (j : Int))
      have hsum : (runesBytes (Q.take j)).size + (Utf8.encode (rd Q (j : Int))).size ≤ 9223372036854775807 := by omega
      have HT := Aside0.mk (runes_take Q j hlt)
      have HS : Aside0 (duetref12_Sign.f 5 (rd Q (j : Int)) = some (Utf8.encode (rd Q (j : Int)))) := ⟨sign_is _ 5 (by omega)⟩
      clear hs1 hs2
      generalize runesBytes (Q.take j) = acc at hsum HT ⊢
      generalize Utf8.encode (rd Q (j : Int)) = sg at hsum HT HS ⊢
      generalize rd Q (j : Int) = rn at xe HS
      have x1_wr := pw_cell_below B_wr.out x1
      have xe_wr := pw_cell_below B_wr.out xe
      go_wp2_with (first | (go_at_call 75; (with_reducible refine (duetref12_Sign.calls 5 rn sg _ HS.out).mono ?_); rintro e wr_1 ⟨rfl, hb⟩; have B_wr_1 : Aside0 (Below (w.heap.size) w wr_1) := ⟨below_then B_wr.out B_wr.out.size hb⟩; have S_wr_1 : Aside0 (Sep (w.heap.size) (Stars []) wr_1) := ⟨Sep.below S_wr.out hb⟩; have x1_wr_1 := pw_cell_below B_wr_1.out x1; have xe_wr_1 := pw_cell_below B_wr_1.out xe; clear S_wr x1_wr xe_wr; clear hb))
      go_roundw
      case rel => first | exact ⟨j + 1, by omega, by go_num, by rw [HT.out], B_wr_1⟩ | ((repeat apply Exists.intro); exact ⟨⟨j + 1, by omega, by go_num, by rw [HT.out], B_wr_1⟩, rfl⟩)
      case measure => simp [intOf]; omega
    · obtain rfl : j = Q.length := by omega
      have hlt2 : ¬ (Q.length : Int) < (Q.length : Int) := by omega
      have x1_wr := pw_cell_below B_wr.out H.out.x1
      rw [List.take_length]
      have hq2 : runesBytes Q = q := HQ.out
      rw [hq2]
      go_wp2
      go_ret
      exact ⟨rfl, B_wr.out⟩
end Go.Proofs.Ythofobcbbddeeaa.SrchA
