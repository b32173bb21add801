/- Browses: what they are; Line, Up, Down, Edit. Conditions: none beyond those that each theorem states. -/
import Derived.Test.YthofobcbbddeeaaSrchF
namespace Go.Proofs.Ythofobcbbddeeaa.SrchA
open Go.RowKit Go.Proofs.YthofobcbbddeeaaW.PrintWords Go.Proofs.YthofobcbbddeeaaW.PrintLast Go.Proofs.YthofobcbbddeeaaW.PrintMore Go.Proofs.Ythofobcbbddeeaa.XS Go.Proofs.Ythofobcbbddeeaa.PSrch
set_option linter.unusedVariables false
set_option linter.unusedSimpArgs false
abbrev Fi0 : Array Bool := #[false, false, false, false, false, false, false, false, false, false, false]
abbrev Fi1 : Array Bool := #[true, false, false, false, false, false, false, false, false, false, false]
abbrev Fi2 : Array Bool := #[true, true, false, false, false, false, false, false, false, false, false]
abbrev Fi3 : Array Bool := #[true, true, true, false, false, false, false, false, false, false, false]
abbrev Fi4 : Array Bool := #[true, true, true, false, true, false, false, false, false, false, false]
abbrev Fi5 : Array Bool := #[true, true, true, false, true, true, false, false, false, false, false]
abbrev Fi6 : Array Bool := #[true, true, true, false, true, true, true, false, false, false, false]
abbrev Fi7 : Array Bool := #[true, true, true, true, true, true, true, false, false, false, false]
abbrev Fi8 : Array Bool := #[true, true, true, true, true, true, true, true, false, false, false]
abbrev Fi9 : Array Bool := #[true, true, true, true, true, true, true, true, true, false, false]
abbrev Fi10 : Array Bool := #[true, true, true, true, true, true, true, true, true, true, false]
abbrev Fi11 : Array Bool := #[true, true, true, true, true, true, true, true, true, true, true]
abbrev Fi12 : Array Bool := #[false, false, false, false, false, false, false, false, false, false, false, false, false, false, false, false, false, false, false, false, false, false, false, false, false]
abbrev Fi13 : Array Bool := #[true, false, false, false, false, false, false, false, false, false, false, false, false, false, false, false, false, false, false, false, false, false, false, false, false]
abbrev Fi14 : Array Bool := #[true, true, false, false, false, false, false, false, false, false, false, false, false, false, false, false, false, false, false, false, false, false, false, false, false]
abbrev Fi15 : Array Bool := #[true, true, true, false, false, false, false, false, false, false, false, false, false, false, false, false, false, false, false, false, false, false, false, false, false]
abbrev Fi16 : Array Bool := #[true, true, true, true, false, false, false, false, false, false, false, false, false, false, false, false, false, false, false, false, false, false, false, false, false]
abbrev Fi17 : Array Bool := #[true, true, true, true, true, false, false, false, false, false, false, false, false, false, false, false, false, false, false, false, false, false, false, false, false]
abbrev Fi18 : Array Bool := #[true, true, true, true, true, true, false, false, false, false, false, false, false, false, false, false, false, false, false, false, false, false, false, false, false]
abbrev Fi19 : Array Bool := #[true, true, true, true, true, true, true, false, false, false, false, false, false, false, false, false, false, false, false, false, false, false, false, false, false]
abbrev Fi20 : Array Bool := #[true, true, true, true, true, true, true, true, false, false, false, false, false, false, false, false, false, false, false, false, false, false, false, false, false]
abbrev Fi21 : Array Bool := #[true, true, true, true, true, true, true, true, true, false, false, false, false, false, false, false, false, false, false, false, false, false, false, false, false]
abbrev Fi22 : Array Bool := #[true, true, true, true, true, true, true, true, true, true, false, false, false, false, false, false, false, false, false, false, false, false, false, false, false]
abbrev Fi23 : Array Bool := #[true, true, true, true, true, true, true, true, true, true, true, false, false, false, false, false, false, false, false, false, false, false, false, false, false]
abbrev Fi24 : Array Bool := #[true, true, true, true, true, true, true, true, true, true, true, true, false, false, false, false, false, false, false, false, false, false, false, false, false]
abbrev Fi25 : Array Bool := #[true, true, true, true, true, true, true, true, true, true, true, true, true, false, false, false, false, false, false, false, false, false, false, false, false]
abbrev Fi26 : Array Bool := #[true, true, true, true, true, true, true, true, true, true, true, true, true, true, false, false, false, false, false, false, false, false, false, false, false]
abbrev Fi27 : Array Bool := #[true, true, true, true, true, true, true, true, true, true, true, true, true, true, true, false, false, false, false, false, false, false, false, false, false]
abbrev Fi28 : Array Bool := #[true, true, true, true, true, true, true, true, true, true, true, true, true, true, true, true, false, false, false, false, false, false, false, false, false]
abbrev Fi29 : Array Bool := #[true, true, true, true, true, true, true, true, true, true, true, true, true, true, true, true, true, false, false, false, false, false, false, false, false]
abbrev Fi30 : Array Bool := #[true, true, true, true, true, true, true, true, true, true, true, true, true, true, true, true, true, true, false, false, false, false, false, false, false]
abbrev Fi31 : Array Bool := #[true, true, true, true, true, true, true, true, true, true, true, true, true, true, true, true, true, true, true, false, false, false, false, false, false]
abbrev Fi32 : Array Bool := #[true, true, true, true, true, true, true, true, true, true, true, true, true, true, true, true, true, true, true, true, false, false, false, false, false]
abbrev Fi33 : Array Bool := #[true, true, true, true, true, true, true, true, true, true, true, true, true, true, true, true, true, true, true, true, true, false, false, false, false]
abbrev Fi34 : Array Bool := #[true, true, true, true, true, true, true, true, true, true, true, true, true, true, true, true, true, true, true, true, true, true, false, false, false]
abbrev Fi35 : Array Bool := #[true, true, true, true, true, true, true, true, true, true, true, true, true, true, true, true, true, true, true, true, true, true, true, false, false]
abbrev Fi36 : Array Bool := #[true, true, true, true, true, true, true, true, true, true, true, true, true, true, true, true, true, true, true, true, true, true, true, true, false]
abbrev Fi37 : Array Bool := #[true, true, true, true, true, true, true, true, true, true, true, true, true, true, true, true, true, true, true, true, true, true, true, true, true]
abbrev Fi38 : Array Bool := #[true, true, true, true, true, true, false, true, false, false, false, false, false, false, false, false, false, false, false, false, false, false, false, false, false]
abbrev Fi39 : Array Bool := #[true, true, true, true, true, true, true, true, true, true, true, true, true, true, true, false, true, false, false, false, false, false, false, false, false]
abbrev Fi40 : Array Bool := #[true, true, true, true, true, true, true, true, true, true, true, true, true, true, true, false, true, false, true, false, false, false, false, false, false]
abbrev Fi41 : Array Bool := #[true, true, true, true, true, true, true, true, true, true, true, true, true, true, true, false, true, false, true, true, false, false, false, false, false]
abbrev Fi42 : Array Bool := #[true, true, true, true, true, true, true, true, true, true, true, true, true, true, true, false, true, false, true, true, true, false, false, false, false]
abbrev Fi43 : Array Bool := #[true, true, true, true, true, true, true, true, true, true, true, true, true, true, true, true, true, false, true, true, true, false, false, false, false]
abbrev Fi44 : Array Bool := #[true, true, true, false, true, true, true, false, true, false, false]
abbrev Fi45 : Array Bool := #[true, true, true, true, true, true, true, false, true, false, false]
/-- A browse at g: lines, a place (T: its type). -/
def BA (T g : Nat) (L : List ByteArray) (a : Int) : Assn := Ex fun v => Star (Blk g #[v, .int .i64 a] T) (Row Kd.string 9 v L)
theorem BA.open {T base g : Nat} {L : List ByteArray} {a : Int} {l : List Assn} {w : World} (h : Sep base (Star (BA T g L a) (Stars l)) w) :
    ∃ A c, L.length ≤ c ∧ Kd.string.C w A L.length L ∧ Sep base (Stars (Blk g #[.slice A L.length c, .int .i64 a] T :: Row Kd.string 9 (.slice A L.length c) L :: l)) w := by
  obtain ⟨v, h⟩ := h.ex
  have h := h.assoc
  have h1 : Sep base (Stars (Blk g #[v, .int .i64 a] T :: Row Kd.string 9 v L :: l)) w := h
  obtain ⟨A, c, rfl, hl, hC⟩ := Sep.row (Sep.front [Blk g #[v, .int .i64 a] T] l h1)
  exact ⟨A, c, hl, hC, h1⟩
theorem BA.close {T base g : Nat} {L : List ByteArray} {a : Int} {l : List Assn} {w : World} {v : Value} (h : Sep base (Stars (Blk g #[v, .int .i64 a] T :: Row Kd.string 9 v L :: l)) w) : Sep base (Star (BA T g L a) (Stars l)) w := Sep.ex_mk v (Sep.assoc' h)
/-- A browse as it reads. -/
structure Bf (g : Nat) (A : Option Addr) (c : Nat) (L : List ByteArray) (a : Int) (w : World) : Prop where
  l0 : L.length ≤ c
  x0 : w.cell? ⟨g, 0, none⟩ = some (.slice A L.length c)
  x1 : w.cell? ⟨g, 1, none⟩ = some (.int .i64 a)
  C0 : Kd.string.C w A L.length L
theorem BA.fr {T base g : Nat} {L : List ByteArray} {a : Int} {l : List Assn} {w : World} (h : Sep base (Star (BA T g L a) (Stars l)) w) : ∃ A c, Bf g A c L a w := by
  obtain ⟨A, c, hl, hC, hS⟩ := BA.open h
  obtain ⟨x0, x1⟩ := XW.cells2 (Sep.blk hS)
  exact ⟨A, c, hl, x0, x1, hC⟩
theorem line_nil (w : World) : Calls Try.prog 29 #[.pointer none] w fun e w' => e = .returned (.string ⟨#[]⟩) ∧ w = w' := by
  go_enter Try.func29, Try.ntmps29
  go_wp2
  go_ret
  exact ⟨rfl, rfl⟩
set_option maxHeartbeats 8000000 in
set_option maxRecDepth 100000 in
theorem line_is {g c : Nat} {A : Option Addr} {L : List ByteArray} {a : Int} (w : World) (h : Bf g A c L a w) (ha0 : 0 ≤ a) (ha1 : a < (L.length : Int)) (t : ByteArray) (ht : rdOf ByteArray.empty L a = t) : Calls Try.prog 29 #[.pointer (some ⟨g, 0, none⟩)] w fun e w' => e = .returned (.string t) ∧ Below w.heap.size w w' := by
  obtain ⟨ad, rfl, xe⟩ := Kd.at_string h.C0 a ha0 ha1
  rw [ht] at xe
  have x0 := h.x0
  have x1 := h.x1
  clear h ht
  have B_w := Aside0.mk (Below.refl w.heap.size w)
  have S_w : Aside0 (Sep w.heap.size (Stars []) w) := ⟨Sep.emp _ _⟩
  go_enter Try.func29, Try.ntmps29
  go_upto_region 3 with (fail)
  refine start_ (n := 11) (S := fun w' => w'.cell? ⟨g, 0, none⟩ = some (.slice (some ad) L.length c) ∧ w'.cell? ⟨g, 1, none⟩ = some (.int .i64 a) ∧ w'.cell? (ad.add a.toNat) = some (.string t)) (ds := []) Fi0 (by kernel_rfl) rfl rfl ⟨x0, x1, xe⟩ (fun hHeld => ?_)
  generalize hdw : w.drew = w_1 at hHeld ⊢
  have HB_w_1 : Aside0 (Below w.heap.size w w_1) := ⟨by rw [← hdw]; exact below_drew1 (Below.refl _ _)⟩
  clear hdw
  have B_w_1 : Aside0 (Below (w.heap.size) w w_1) := ⟨below_then B_w.out B_w.out.size HB_w_1.out⟩
  have S_w_1 : Aside0 (Sep (w.heap.size) (Stars []) w_1) := ⟨Sep.below S_w.out HB_w_1.out⟩
  have Q_w_1 : Aside0 (Below w.heap.size w w_1) := ⟨HB_w_1.out⟩
  have x0_w_1 := pw_cell_below Q_w_1.out x0
  have x1_w_1 := pw_cell_below Q_w_1.out x1
  have xe_w_1 := pw_cell_below Q_w_1.out xe
  clear S_w
  refine pure_ (i := 0) (N := some 5) (v := ?_) (a' := ?_) Fi1 rfl rfl (by kernel_rfl) (fun _ _ _ h => h) (Or.inl ⟨by rfl, ?_⟩) ?_ ?_
  rotate_left
  · intro w'
    go_simp
    with_reducible rfl
  rotate_left
  · simp only [Act.put, List.setIfInBounds_toArray, List.set_cons_zero, List.set_cons_succ, i64_w, i32_w]
    rfl
  refine pure_ (i := 1) (N := some 6) (v := ?_) (a' := ?_) Fi2 rfl rfl (by kernel_rfl) (fun _ _ _ h => h) (Or.inl ⟨by rfl, ?_⟩) ?_ ?_
  rotate_left
  · intro w'
    go_simp
    with_reducible rfl
  rotate_left
  · simp only [Act.put, List.setIfInBounds_toArray, List.set_cons_zero, List.set_cons_succ, i64_w, i32_w]
    rfl
  refine pure_ (i := 2) (N := some 7) (v := ?_) (a' := ?_) Fi3 rfl rfl (by kernel_rfl) (fun _ _ _ h => h) (Or.inl ⟨by rfl, ?_⟩) ?_ ?_
  rotate_left
  · intro w'
    go_simp
    with_reducible rfl
  rotate_left
  · simp only [Act.put, List.setIfInBounds_toArray, List.set_cons_zero, List.set_cons_succ, i64_w, i32_w]
    rfl
  refine pure_ (i := 4) (N := some 9) (v := ?_) (a' := ?_) Fi4 rfl rfl (by kernel_rfl) (fun _ _ _ h => h) (Or.inl ⟨by rfl, ?_⟩) ?_ ?_
  rotate_left
  · intro w'
    go_simp
    with_reducible rfl
  rotate_left
  · simp only [Act.put, List.setIfInBounds_toArray, List.set_cons_zero, List.set_cons_succ, i64_w, i32_w]
    rfl
  refine pure_ (i := 5) (N := some 10) (v := ?_) (a' := ?_) Fi5 rfl rfl (by kernel_rfl) (fun _ _ _ h => h) (Or.inl ⟨by rfl, ?_⟩) ?_ ?_
  rotate_left
  · intro w'
    go_simp
    with_reducible rfl
  rotate_left
  · simp only [Act.put, List.setIfInBounds_toArray, List.set_cons_zero, List.set_cons_succ, i64_w, i32_w]
    rfl
  refine pure_ (i := 6) (N := some 11) (v := ?_) (a' := ?_) Fi6 rfl rfl (by kernel_rfl) (fun _ _ _ h => h) (Or.inl ⟨by rfl, ?_⟩) ?_ ?_
  rotate_left
  · intro w'
    go_simp
    with_reducible rfl
  rotate_left
  · simp only [Act.put, List.setIfInBounds_toArray, List.set_cons_zero, List.set_cons_succ, i64_w, i32_w]
    rfl
  refine take_ (i := 3) (N := some 8) (v := ?_) (a' := ?_) Fi7 rfl rfl (by kernel_rfl) (fun _ _ _ h => h) (Or.inl ⟨by rfl, ?_⟩) hHeld ?_ ?_
  rotate_left
  · rintro w' ⟨s0, s1, s2⟩
    go_simp
    with_reducible rfl
  rotate_left
  · simp only [Act.put, List.setIfInBounds_toArray, List.set_cons_zero, List.set_cons_succ, i64_w, i32_w]
    rfl
  refine take_ (i := 7) (N := some 12) (v := ?_) (a' := ?_) Fi8 rfl rfl (by kernel_rfl) (fun _ _ _ h => h) (Or.inl ⟨by rfl, ?_⟩) hHeld ?_ ?_
  rotate_left
  · rintro w' ⟨s0, s1, s2⟩
    go_simp
    with_reducible rfl
  rotate_left
  · simp only [Act.put, List.setIfInBounds_toArray, List.set_cons_zero, List.set_cons_succ, i64_w, i32_w]
    rfl
  refine pure_ (i := 8) (N := some 13) (v := ?_) (a' := ?_) Fi9 rfl rfl (by kernel_rfl) (fun _ _ _ h => h) (Or.inl ⟨by rfl, ?_⟩) ?_ ?_
  rotate_left
  · intro w'
    go_simp
    with_reducible rfl
  rotate_left
  · simp only [Act.put, List.setIfInBounds_toArray, List.set_cons_zero, List.set_cons_succ, i64_w, i32_w]
    rfl
  refine take_ (i := 9) (N := some 14) (v := ?_) (a' := ?_) Fi10 rfl rfl (by kernel_rfl) (fun _ _ _ h => h) (Or.inl ⟨by rfl, ?_⟩) hHeld ?_ ?_
  rotate_left
  · rintro w' ⟨s0, s1, s2⟩
    go_simp
    with_reducible rfl
  rotate_left
  · simp only [Act.put, List.setIfInBounds_toArray, List.set_cons_zero, List.set_cons_succ, i64_w, i32_w]
    rfl
  refine pure_ (i := 10) (N := some 2) (v := ?_) (a' := ?_) Fi11 rfl rfl (by kernel_rfl) (fun _ _ _ h => h) (Or.inl ⟨by rfl, ?_⟩) ?_ ?_
  rotate_left
  · intro w'
    go_simp
    with_reducible rfl
  rotate_left
  · simp only [Act.put, List.setIfInBounds_toArray, List.set_cons_zero, List.set_cons_succ, i64_w, i32_w]
    rfl
  refine done_ (by kernel_rfl) ?_
  go_wp2
  go_ret
  exact ⟨rfl, B_w_1.out⟩
/-- A step: what is answered, the place. -/
def stepB (L : List ByteArray) (a n : Int) : Bool := decide (0 ≤ a + n ∧ a + n < (L.length : Int))
def stepP (L : List ByteArray) (a n : Int) : Int := if 0 ≤ a + n ∧ a + n < (L.length : Int) then a + n else a
theorem step_ok {L : List ByteArray} {a : Int} (h0 : 0 ≤ a) (h1 : a < (L.length : Int)) (n : Int) : 0 ≤ stepP L a n ∧ stepP L a n < (L.length : Int) := by unfold stepP; split <;> omega
theorem step_nil (w : World) (n : Int) : Calls Try.prog 67 #[.pointer none, .int .i64 n] w fun e w' => e = .returned (.bool false) ∧ Below w.heap.size w w' := by
  have B_w := Aside0.mk (Below.refl w.heap.size w)
  have S_w : Aside0 (Sep w.heap.size (Stars []) w) := ⟨Sep.emp _ _⟩
  go_enter Try.func67, Try.ntmps67
  go_upto_region 1 with (fail)
  refine start_ (n := 25) (S := fun w' => True) (ds := []) Fi12 (by kernel_rfl) rfl rfl trivial (fun hHeld => ?_)
  generalize hdw : w.drew = w_1 at hHeld ⊢
  have HB_w_1 : Aside0 (Below w.heap.size w w_1) := ⟨by rw [← hdw]; exact below_drew1 (Below.refl _ _)⟩
  clear hdw
  have B_w_1 : Aside0 (Below (w.heap.size) w w_1) := ⟨below_then B_w.out B_w.out.size HB_w_1.out⟩
  have S_w_1 : Aside0 (Sep (w.heap.size) (Stars []) w_1) := ⟨Sep.below S_w.out HB_w_1.out⟩
  have Q_w_1 : Aside0 (Below w.heap.size w w_1) := ⟨HB_w_1.out⟩
  clear S_w
  refine pure_ (i := 0) (N := some 5) (v := ?_) (a' := ?_) Fi13 rfl rfl (by kernel_rfl) (fun _ _ _ h => h) (Or.inl ⟨by rfl, ?_⟩) ?_ ?_
  rotate_left
  · intro w'
    go_simp
    with_reducible rfl
  rotate_left
  · simp only [Act.put, List.setIfInBounds_toArray, List.set_cons_zero, List.set_cons_succ, i64_w, i32_w]
    rfl
  refine pure_ (i := 1) (N := some 6) (v := ?_) (a' := ?_) Fi14 rfl rfl (by kernel_rfl) (fun _ _ _ h => h) (Or.inl ⟨by rfl, ?_⟩) ?_ ?_
  rotate_left
  · intro w'
    go_simp
    with_reducible rfl
  rotate_left
  · simp only [Act.put, List.setIfInBounds_toArray, List.set_cons_zero, List.set_cons_succ, i64_w, i32_w]
    rfl
  refine pure_ (i := 2) (N := some 7) (v := ?_) (a' := ?_) Fi15 rfl rfl (by kernel_rfl) (fun _ _ _ h => h) (Or.inl ⟨by rfl, ?_⟩) ?_ ?_
  rotate_left
  · intro w'
    go_simp
    with_reducible rfl
  rotate_left
  · simp only [Act.put, List.setIfInBounds_toArray, List.set_cons_zero, List.set_cons_succ, i64_w, i32_w]
    rfl
  refine pure_ (i := 3) (N := some 8) (v := undef) (a' := ?_) Fi16 rfl rfl (by kernel_rfl) (fun _ _ _ h => h) (Or.inr ⟨by rfl, rfl⟩) ?_ ?_
  rotate_left
  · simp only [Act.put, List.setIfInBounds_toArray, List.set_cons_zero, List.set_cons_succ, i64_w, i32_w]
    rfl
  refine pure_ (i := 4) (N := some 9) (v := undef) (a' := ?_) Fi17 rfl rfl (by kernel_rfl) (fun _ _ _ h => h) (Or.inr ⟨by rfl, rfl⟩) ?_ ?_
  rotate_left
  · simp only [Act.put, List.setIfInBounds_toArray, List.set_cons_zero, List.set_cons_succ, i64_w, i32_w]
    rfl
  refine pure_ (i := 5) (N := some 10) (v := undef) (a' := ?_) Fi18 rfl rfl (by kernel_rfl) (fun _ _ _ h => h) (Or.inr ⟨by rfl, rfl⟩) ?_ ?_
  rotate_left
  · simp only [Act.put, List.setIfInBounds_toArray, List.set_cons_zero, List.set_cons_succ, i64_w, i32_w]
    rfl
  refine pure_ (i := 6) (N := some 11) (v := undef) (a' := ?_) Fi19 rfl rfl (by kernel_rfl) (fun _ _ _ h => h) (Or.inr ⟨by rfl, rfl⟩) ?_ ?_
  rotate_left
  · simp only [Act.put, List.setIfInBounds_toArray, List.set_cons_zero, List.set_cons_succ, i64_w, i32_w]
    rfl
  refine pure_ (i := 7) (N := some 12) (v := undef) (a' := ?_) Fi20 rfl rfl (by kernel_rfl) (fun _ _ _ h => h) (Or.inr ⟨by rfl, rfl⟩) ?_ ?_
  rotate_left
  · simp only [Act.put, List.setIfInBounds_toArray, List.set_cons_zero, List.set_cons_succ, i64_w, i32_w]
    rfl
  refine pure_ (i := 8) (N := some 13) (v := undef) (a' := ?_) Fi21 rfl rfl (by kernel_rfl) (fun _ _ _ h => h) (Or.inr ⟨by rfl, rfl⟩) ?_ ?_
  rotate_left
  · simp only [Act.put, List.setIfInBounds_toArray, List.set_cons_zero, List.set_cons_succ, i64_w, i32_w]
    rfl
  refine pure_ (i := 9) (N := some 14) (v := undef) (a' := ?_) Fi22 rfl rfl (by kernel_rfl) (fun _ _ _ h => h) (Or.inr ⟨by rfl, rfl⟩) ?_ ?_
  rotate_left
  · simp only [Act.put, List.setIfInBounds_toArray, List.set_cons_zero, List.set_cons_succ, i64_w, i32_w]
    rfl
  refine pure_ (i := 10) (N := some 15) (v := ?_) (a' := ?_) Fi23 rfl rfl (by kernel_rfl) (fun _ _ _ h => h) (Or.inl ⟨by rfl, ?_⟩) ?_ ?_
  rotate_left
  · intro w'
    go_simp
    with_reducible rfl
  rotate_left
  · simp only [Act.put, List.setIfInBounds_toArray, List.set_cons_zero, List.set_cons_succ, i64_w, i32_w]
    rfl
  refine pure_ (i := 11) (N := some 16) (v := ?_) (a' := ?_) Fi24 rfl rfl (by kernel_rfl) (fun _ _ _ h => h) (Or.inl ⟨by rfl, ?_⟩) ?_ ?_
  rotate_left
  · intro w'
    go_simp
    with_reducible rfl
  rotate_left
  · simp only [Act.put, List.setIfInBounds_toArray, List.set_cons_zero, List.set_cons_succ, i64_w, i32_w]
    rfl
  refine pure_ (i := 12) (N := some 17) (v := undef) (a' := ?_) Fi25 rfl rfl (by kernel_rfl) (fun _ _ _ h => h) (Or.inr ⟨by rfl, rfl⟩) ?_ ?_
  rotate_left
  · simp only [Act.put, List.setIfInBounds_toArray, List.set_cons_zero, List.set_cons_succ, i64_w, i32_w]
    rfl
  refine pure_ (i := 13) (N := some 18) (v := undef) (a' := ?_) Fi26 rfl rfl (by kernel_rfl) (fun _ _ _ h => h) (Or.inr ⟨by rfl, rfl⟩) ?_ ?_
  rotate_left
  · simp only [Act.put, List.setIfInBounds_toArray, List.set_cons_zero, List.set_cons_succ, i64_w, i32_w]
    rfl
  refine pure_ (i := 14) (N := some 19) (v := undef) (a' := ?_) Fi27 rfl rfl (by kernel_rfl) (fun _ _ _ h => h) (Or.inr ⟨by rfl, rfl⟩) ?_ ?_
  rotate_left
  · simp only [Act.put, List.setIfInBounds_toArray, List.set_cons_zero, List.set_cons_succ, i64_w, i32_w]
    rfl
  refine pure_ (i := 15) (N := some 20) (v := undef) (a' := ?_) Fi28 rfl rfl (by kernel_rfl) (fun _ _ _ h => h) (Or.inr ⟨by rfl, rfl⟩) ?_ ?_
  rotate_left
  · simp only [Act.put, List.setIfInBounds_toArray, List.set_cons_zero, List.set_cons_succ, i64_w, i32_w]
    rfl
  refine pure_ (i := 16) (N := some 21) (v := undef) (a' := ?_) Fi29 rfl rfl (by kernel_rfl) (fun _ _ _ h => h) (Or.inr ⟨by rfl, rfl⟩) ?_ ?_
  rotate_left
  · simp only [Act.put, List.setIfInBounds_toArray, List.set_cons_zero, List.set_cons_succ, i64_w, i32_w]
    rfl
  refine pure_ (i := 17) (N := some 22) (v := undef) (a' := ?_) Fi30 rfl rfl (by kernel_rfl) (fun _ _ _ h => h) (Or.inr ⟨by rfl, rfl⟩) ?_ ?_
  rotate_left
  · simp only [Act.put, List.setIfInBounds_toArray, List.set_cons_zero, List.set_cons_succ, i64_w, i32_w]
    rfl
  refine pure_ (i := 18) (N := some 23) (v := undef) (a' := ?_) Fi31 rfl rfl (by kernel_rfl) (fun _ _ _ h => h) (Or.inr ⟨by rfl, rfl⟩) ?_ ?_
  rotate_left
  · simp only [Act.put, List.setIfInBounds_toArray, List.set_cons_zero, List.set_cons_succ, i64_w, i32_w]
    rfl
  refine pure_ (i := 19) (N := some 24) (v := undef) (a' := ?_) Fi32 rfl rfl (by kernel_rfl) (fun _ _ _ h => h) (Or.inr ⟨by rfl, rfl⟩) ?_ ?_
  rotate_left
  · simp only [Act.put, List.setIfInBounds_toArray, List.set_cons_zero, List.set_cons_succ, i64_w, i32_w]
    rfl
  refine pure_ (i := 20) (N := some 25) (v := undef) (a' := ?_) Fi33 rfl rfl (by kernel_rfl) (fun _ _ _ h => h) (Or.inr ⟨by rfl, rfl⟩) ?_ ?_
  rotate_left
  · simp only [Act.put, List.setIfInBounds_toArray, List.set_cons_zero, List.set_cons_succ, i64_w, i32_w]
    rfl
  refine pure_ (i := 21) (N := some 26) (v := undef) (a' := ?_) Fi34 rfl rfl (by kernel_rfl) (fun _ _ _ h => h) (Or.inr ⟨by rfl, rfl⟩) ?_ ?_
  rotate_left
  · simp only [Act.put, List.setIfInBounds_toArray, List.set_cons_zero, List.set_cons_succ, i64_w, i32_w]
    rfl
  refine pure_ (i := 22) (N := some 27) (v := undef) (a' := ?_) Fi35 rfl rfl (by kernel_rfl) (fun _ _ _ h => h) (Or.inr ⟨by rfl, rfl⟩) ?_ ?_
  rotate_left
  · simp only [Act.put, List.setIfInBounds_toArray, List.set_cons_zero, List.set_cons_succ, i64_w, i32_w]
    rfl
  refine pure_ (i := 23) (N := some 28) (v := undef) (a' := ?_) Fi36 rfl rfl (by kernel_rfl) (fun _ _ _ h => h) (Or.inr ⟨by rfl, rfl⟩) ?_ ?_
  rotate_left
  · simp only [Act.put, List.setIfInBounds_toArray, List.set_cons_zero, List.set_cons_succ, i64_w, i32_w]
    rfl
  refine pure_ (i := 24) (N := some 29) (v := ?_) (a' := ?_) Fi37 rfl rfl (by kernel_rfl) (fun _ _ _ h => h) (Or.inl ⟨by rfl, ?_⟩) ?_ ?_
  rotate_left
  · intro w'
    go_simp
    with_reducible rfl
  rotate_left
  · simp only [Act.put, List.setIfInBounds_toArray, List.set_cons_zero, List.set_cons_succ, i64_w, i32_w]
    rfl
  refine done_ (by kernel_rfl) ?_
  go_wp2
  go_ret
  exact ⟨rfl, B_w_1.out⟩
set_option maxHeartbeats 8000000 in
set_option maxRecDepth 100000 in
theorem step_is {base g : Nat} {L : List ByteArray} {a : Int} {l : List Assn} (w : World) (h : Sep base (Star (BA 93 g L a) (Stars l)) w) (hbase : base ≤ w.heap.size) (ha0 : 0 ≤ a) (ha1 : a < (L.length : Int)) (hL : L.length ≤ 1000) (n : Int) (hn0 : -1 ≤ n) (hn1 : n ≤ 1) (b : Bool) (hb : stepB L a n = b) (a2 : Int) (ha2 : stepP L a n = a2) : Calls Try.prog 67 #[.pointer (some ⟨g, 0, none⟩), .int .i64 n] w fun e w' => e = .returned (.bool b) ∧ Sep base (Star (BA 93 g L a2) (Stars l)) w' ∧ Below base w w' := by
  subst hb ha2
  obtain ⟨A0, c0, hl0, hC0, hS⟩ := BA.open h
  have S_w := Aside0.mk hS
  have B_w := Aside0.mk (Below.refl base w)
  clear h hS hC0
  obtain ⟨c_g_0_w, c_g_1_w⟩ := XW.cells2 (Sep.front [] (Row Kd.string 9 (.slice A0 L.length c0) (L) :: l) S_w.out).blk
  obtain ⟨z_g_0_w, z_g_1_w⟩ := XW.froz2 (Sep.front [] (Row Kd.string 9 (.slice A0 L.length c0) (L) :: l) S_w.out).blk
  have hw : wrap64 (a + n) = a + n := by unfold wrap64; omega
  unfold stepB stepP
  by_cases c0 : a + n < 0
  · rw [decide_eq_false (fun h : 0 ≤ a + n ∧ a + n < (L.length : Int) => by omega), if_neg (fun h : 0 ≤ a + n ∧ a + n < (L.length : Int) => by omega)]
    have d0 : decide (a + n < 0) = true := decide_eq_true c0
    clear c0
    go_enter Try.func67, Try.ntmps67
    go_upto_region 1 with (fail)
    refine start_ (n := 25) (S := fun w' => w'.cell? ⟨g, 0, none⟩ = some (.slice A0 L.length c0) ∧ w'.cell? ⟨g, 1, none⟩ = some (.int .i64 a)) (ds := []) Fi12 (by kernel_rfl) rfl rfl ⟨c_g_0_w, c_g_1_w⟩ (fun hHeld => ?_)
    generalize hdw : w.drew = w_1 at hHeld ⊢
    have HB_w_1 : Aside0 (Below w.heap.size w w_1) := ⟨by rw [← hdw]; exact below_drew1 (Below.refl _ _)⟩
    clear hdw
    have B_w_1 : Aside0 (Below (base) w w_1) := ⟨below_then B_w.out (Nat.le_trans (hbase) B_w.out.size) HB_w_1.out⟩
    have S_w_1 : Aside0 (Sep (base) (Stars (Blk g #[.slice A0 L.length c0, .int .i64 a] 93 :: Row Kd.string 9 (.slice A0 L.length c0) (L) :: l)) w_1) := ⟨Sep.below S_w.out HB_w_1.out⟩
    have Q_w_1 : Aside0 (Below w.heap.size w w_1) := ⟨HB_w_1.out⟩
    obtain ⟨c_g_0_w_1, c_g_1_w_1⟩ := XW.cells2 (Sep.front [] (Row Kd.string 9 (.slice A0 L.length c0) (L) :: l) S_w_1.out).blk
    obtain ⟨z_g_0_w_1, z_g_1_w_1⟩ := XW.froz2 (Sep.front [] (Row Kd.string 9 (.slice A0 L.length c0) (L) :: l) S_w_1.out).blk
    clear S_w c_g_0_w c_g_1_w z_g_0_w z_g_1_w
    refine pure_ (i := 0) (N := some 5) (v := ?_) (a' := ?_) Fi13 rfl rfl (by kernel_rfl) (fun _ _ _ h => h) (Or.inl ⟨by rfl, ?_⟩) ?_ ?_
    rotate_left
    · intro w'
      go_simp
      with_reducible rfl
    rotate_left
    · simp only [Act.put, List.setIfInBounds_toArray, List.set_cons_zero, List.set_cons_succ, i64_w, i32_w]
      rfl
    refine pure_ (i := 1) (N := some 6) (v := ?_) (a' := ?_) Fi14 rfl rfl (by kernel_rfl) (fun _ _ _ h => h) (Or.inl ⟨by rfl, ?_⟩) ?_ ?_
    rotate_left
    · intro w'
      go_simp
      with_reducible rfl
    rotate_left
    · simp only [Act.put, List.setIfInBounds_toArray, List.set_cons_zero, List.set_cons_succ, i64_w, i32_w]
      rfl
    refine pure_ (i := 2) (N := some 7) (v := ?_) (a' := ?_) Fi15 rfl rfl (by kernel_rfl) (fun _ _ _ h => h) (Or.inl ⟨by rfl, ?_⟩) ?_ ?_
    rotate_left
    · intro w'
      go_simp
      with_reducible rfl
    rotate_left
    · simp only [Act.put, List.setIfInBounds_toArray, List.set_cons_zero, List.set_cons_succ, i64_w, i32_w]
      rfl
    refine pure_ (i := 3) (N := some 8) (v := ?_) (a' := ?_) Fi16 rfl rfl (by kernel_rfl) (fun _ _ _ h => h) (Or.inl ⟨by rfl, ?_⟩) ?_ ?_
    rotate_left
    · intro w'
      go_simp
      with_reducible rfl
    rotate_left
    · simp only [Act.put, List.setIfInBounds_toArray, List.set_cons_zero, List.set_cons_succ, i64_w, i32_w]
      rfl
    refine pure_ (i := 4) (N := some 9) (v := ?_) (a' := ?_) Fi17 rfl rfl (by kernel_rfl) (fun _ _ _ h => h) (Or.inl ⟨by rfl, ?_⟩) ?_ ?_
    rotate_left
    · intro w'
      go_simp
      with_reducible rfl
    rotate_left
    · simp only [Act.put, List.setIfInBounds_toArray, List.set_cons_zero, List.set_cons_succ, i64_w, i32_w]
      rfl
    refine pure_ (i := 5) (N := some 10) (v := ?_) (a' := ?_) Fi18 rfl rfl (by kernel_rfl) (fun _ _ _ h => h) (Or.inl ⟨by rfl, ?_⟩) ?_ ?_
    rotate_left
    · intro w'
      go_simp
      with_reducible rfl
    rotate_left
    · simp only [Act.put, List.setIfInBounds_toArray, List.set_cons_zero, List.set_cons_succ, i64_w, i32_w]
      rfl
    refine pure_ (i := 7) (N := some 12) (v := ?_) (a' := ?_) Fi38 rfl rfl (by kernel_rfl) (fun _ _ _ h => h) (Or.inl ⟨by rfl, ?_⟩) ?_ ?_
    rotate_left
    · intro w'
      go_simp
      with_reducible rfl
    rotate_left
    · simp only [Act.put, List.setIfInBounds_toArray, List.set_cons_zero, List.set_cons_succ, i64_w, i32_w]
      rfl
    refine take_ (i := 6) (N := some 11) (v := ?_) (a' := ?_) Fi20 rfl rfl (by kernel_rfl) (fun _ _ _ h => h) (Or.inl ⟨by rfl, ?_⟩) hHeld ?_ ?_
    rotate_left
    · rintro w' ⟨s0, s1⟩
      go_simp
      with_reducible rfl
    rotate_left
    · simp only [Act.put, List.setIfInBounds_toArray, List.set_cons_zero, List.set_cons_succ, i64_w, i32_w]
      rfl
    refine pure_ (i := 8) (N := some 13) (v := ?_) (a' := ?_) Fi21 rfl rfl (by kernel_rfl) (fun _ _ _ h => h) (Or.inl ⟨by rfl, ?_⟩) ?_ ?_
    rotate_left
    · intro w'
      go_simp
      with_reducible rfl
    rotate_left
    · simp only [Act.put, List.setIfInBounds_toArray, List.set_cons_zero, List.set_cons_succ, i64_w, i32_w]
      rfl
    refine pure_ (i := 9) (N := some 14) (v := ?_) (a' := ?_) Fi22 rfl rfl (by kernel_rfl) (fun _ _ _ h => h) (Or.inl ⟨by rfl, ?_⟩) ?_ ?_
    rotate_left
    · intro w'
      go_simp
      with_reducible rfl
    rotate_left
    · simp only [Act.put, List.setIfInBounds_toArray, List.set_cons_zero, List.set_cons_succ, i64_w, i32_w]
      rfl
    refine pure_ (i := 10) (N := some 15) (v := ?_) (a' := ?_) Fi23 rfl rfl (by kernel_rfl) (fun _ _ _ h => h) (Or.inl ⟨by rfl, ?_⟩) ?_ ?_
    rotate_left
    · intro w'
      go_simp
      with_reducible rfl
    rotate_left
    · simp only [Act.put, List.setIfInBounds_toArray, List.set_cons_zero, List.set_cons_succ, i64_w, i32_w]
      rfl
    refine pure_ (i := 11) (N := some 16) (v := ?_) (a' := ?_) Fi24 rfl rfl (by kernel_rfl) (fun _ _ _ h => h) (Or.inl ⟨by rfl, ?_⟩) ?_ ?_
    rotate_left
    · intro w'
      go_simp
      with_reducible rfl
    rotate_left
    · simp only [Act.put, List.setIfInBounds_toArray, List.set_cons_zero, List.set_cons_succ, i64_w, i32_w]
      rfl
    refine pure_ (i := 12) (N := some 17) (v := undef) (a' := ?_) Fi25 rfl rfl (by kernel_rfl) (fun _ _ _ h => h) (Or.inr ⟨by rfl, rfl⟩) ?_ ?_
    rotate_left
    · simp only [Act.put, List.setIfInBounds_toArray, List.set_cons_zero, List.set_cons_succ, i64_w, i32_w]
      rfl
    refine pure_ (i := 13) (N := some 18) (v := undef) (a' := ?_) Fi26 rfl rfl (by kernel_rfl) (fun _ _ _ h => h) (Or.inr ⟨by rfl, rfl⟩) ?_ ?_
    rotate_left
    · simp only [Act.put, List.setIfInBounds_toArray, List.set_cons_zero, List.set_cons_succ, i64_w, i32_w]
      rfl
    refine pure_ (i := 14) (N := some 19) (v := undef) (a' := ?_) Fi27 rfl rfl (by kernel_rfl) (fun _ _ _ h => h) (Or.inr ⟨by rfl, rfl⟩) ?_ ?_
    rotate_left
    · simp only [Act.put, List.setIfInBounds_toArray, List.set_cons_zero, List.set_cons_succ, i64_w, i32_w]
      rfl
    refine pure_ (i := 15) (N := some 20) (v := undef) (a' := ?_) Fi28 rfl rfl (by kernel_rfl) (fun _ _ _ h => h) (Or.inr ⟨by rfl, rfl⟩) ?_ ?_
    rotate_left
    · simp only [Act.put, List.setIfInBounds_toArray, List.set_cons_zero, List.set_cons_succ, i64_w, i32_w]
      rfl
    refine pure_ (i := 16) (N := some 21) (v := undef) (a' := ?_) Fi29 rfl rfl (by kernel_rfl) (fun _ _ _ h => h) (Or.inr ⟨by rfl, rfl⟩) ?_ ?_
    rotate_left
    · simp only [Act.put, List.setIfInBounds_toArray, List.set_cons_zero, List.set_cons_succ, i64_w, i32_w]
      rfl
    refine pure_ (i := 17) (N := some 22) (v := undef) (a' := ?_) Fi30 rfl rfl (by kernel_rfl) (fun _ _ _ h => h) (Or.inr ⟨by rfl, rfl⟩) ?_ ?_
    rotate_left
    · simp only [Act.put, List.setIfInBounds_toArray, List.set_cons_zero, List.set_cons_succ, i64_w, i32_w]
      rfl
    refine pure_ (i := 18) (N := some 23) (v := undef) (a' := ?_) Fi31 rfl rfl (by kernel_rfl) (fun _ _ _ h => h) (Or.inr ⟨by rfl, rfl⟩) ?_ ?_
    rotate_left
    · simp only [Act.put, List.setIfInBounds_toArray, List.set_cons_zero, List.set_cons_succ, i64_w, i32_w]
      rfl
    refine pure_ (i := 19) (N := some 24) (v := undef) (a' := ?_) Fi32 rfl rfl (by kernel_rfl) (fun _ _ _ h => h) (Or.inr ⟨by rfl, rfl⟩) ?_ ?_
    rotate_left
    · simp only [Act.put, List.setIfInBounds_toArray, List.set_cons_zero, List.set_cons_succ, i64_w, i32_w]
      rfl
    refine pure_ (i := 20) (N := some 25) (v := undef) (a' := ?_) Fi33 rfl rfl (by kernel_rfl) (fun _ _ _ h => h) (Or.inr ⟨by rfl, rfl⟩) ?_ ?_
    rotate_left
    · simp only [Act.put, List.setIfInBounds_toArray, List.set_cons_zero, List.set_cons_succ, i64_w, i32_w]
      rfl
    refine pure_ (i := 21) (N := some 26) (v := undef) (a' := ?_) Fi34 rfl rfl (by kernel_rfl) (fun _ _ _ h => h) (Or.inr ⟨by rfl, rfl⟩) ?_ ?_
    rotate_left
    · simp only [Act.put, List.setIfInBounds_toArray, List.set_cons_zero, List.set_cons_succ, i64_w, i32_w]
      rfl
    refine pure_ (i := 22) (N := some 27) (v := undef) (a' := ?_) Fi35 rfl rfl (by kernel_rfl) (fun _ _ _ h => h) (Or.inr ⟨by rfl, rfl⟩) ?_ ?_
    rotate_left
    · simp only [Act.put, List.setIfInBounds_toArray, List.set_cons_zero, List.set_cons_succ, i64_w, i32_w]
      rfl
    refine pure_ (i := 23) (N := some 28) (v := undef) (a' := ?_) Fi36 rfl rfl (by kernel_rfl) (fun _ _ _ h => h) (Or.inr ⟨by rfl, rfl⟩) ?_ ?_
    rotate_left
    · simp only [Act.put, List.setIfInBounds_toArray, List.set_cons_zero, List.set_cons_succ, i64_w, i32_w]
      rfl
    refine pure_ (i := 24) (N := some 29) (v := ?_) (a' := ?_) Fi37 rfl rfl (by kernel_rfl) (fun _ _ _ h => h) (Or.inl ⟨by rfl, ?_⟩) ?_ ?_
    rotate_left
    · intro w'
      go_simp
      with_reducible rfl
    rotate_left
    · simp only [Act.put, List.setIfInBounds_toArray, List.set_cons_zero, List.set_cons_succ, i64_w, i32_w]
      rfl
    refine done_ (by kernel_rfl) ?_
    go_wp2
    go_ret
    exact ⟨rfl, BA.close S_w_1.out, B_w_1.out⟩
  have d0 : decide (a + n < 0) = false := decide_eq_false c0
  by_cases c1 : (L.length : Int) ≤ a + n
  · rw [decide_eq_false (fun h : 0 ≤ a + n ∧ a + n < (L.length : Int) => by omega), if_neg (fun h : 0 ≤ a + n ∧ a + n < (L.length : Int) => by omega)]
    have d1 : decide ((L.length : Int) ≤ a + n) = true := decide_eq_true c1
    clear c0 c1
    go_enter Try.func67, Try.ntmps67
    go_upto_region 1 with (fail)
    refine start_ (n := 25) (S := fun w' => w'.cell? ⟨g, 0, none⟩ = some (.slice A0 L.length c0) ∧ w'.cell? ⟨g, 1, none⟩ = some (.int .i64 a)) (ds := []) Fi12 (by kernel_rfl) rfl rfl ⟨c_g_0_w, c_g_1_w⟩ (fun hHeld => ?_)
    generalize hdw : w.drew = w_1 at hHeld ⊢
    have HB_w_1 : Aside0 (Below w.heap.size w w_1) := ⟨by rw [← hdw]; exact below_drew1 (Below.refl _ _)⟩
    clear hdw
    have B_w_1 : Aside0 (Below (base) w w_1) := ⟨below_then B_w.out (Nat.le_trans (hbase) B_w.out.size) HB_w_1.out⟩
    have S_w_1 : Aside0 (Sep (base) (Stars (Blk g #[.slice A0 L.length c0, .int .i64 a] 93 :: Row Kd.string 9 (.slice A0 L.length c0) (L) :: l)) w_1) := ⟨Sep.below S_w.out HB_w_1.out⟩
    have Q_w_1 : Aside0 (Below w.heap.size w w_1) := ⟨HB_w_1.out⟩
    obtain ⟨c_g_0_w_1, c_g_1_w_1⟩ := XW.cells2 (Sep.front [] (Row Kd.string 9 (.slice A0 L.length c0) (L) :: l) S_w_1.out).blk
    obtain ⟨z_g_0_w_1, z_g_1_w_1⟩ := XW.froz2 (Sep.front [] (Row Kd.string 9 (.slice A0 L.length c0) (L) :: l) S_w_1.out).blk
    clear S_w c_g_0_w c_g_1_w z_g_0_w z_g_1_w
    refine pure_ (i := 0) (N := some 5) (v := ?_) (a' := ?_) Fi13 rfl rfl (by kernel_rfl) (fun _ _ _ h => h) (Or.inl ⟨by rfl, ?_⟩) ?_ ?_
    rotate_left
    · intro w'
      go_simp
      with_reducible rfl
    rotate_left
    · simp only [Act.put, List.setIfInBounds_toArray, List.set_cons_zero, List.set_cons_succ, i64_w, i32_w]
      rfl
    refine pure_ (i := 1) (N := some 6) (v := ?_) (a' := ?_) Fi14 rfl rfl (by kernel_rfl) (fun _ _ _ h => h) (Or.inl ⟨by rfl, ?_⟩) ?_ ?_
    rotate_left
    · intro w'
      go_simp
      with_reducible rfl
    rotate_left
    · simp only [Act.put, List.setIfInBounds_toArray, List.set_cons_zero, List.set_cons_succ, i64_w, i32_w]
      rfl
    refine pure_ (i := 2) (N := some 7) (v := ?_) (a' := ?_) Fi15 rfl rfl (by kernel_rfl) (fun _ _ _ h => h) (Or.inl ⟨by rfl, ?_⟩) ?_ ?_
    rotate_left
    · intro w'
      go_simp
      with_reducible rfl
    rotate_left
    · simp only [Act.put, List.setIfInBounds_toArray, List.set_cons_zero, List.set_cons_succ, i64_w, i32_w]
      rfl
    refine pure_ (i := 3) (N := some 8) (v := ?_) (a' := ?_) Fi16 rfl rfl (by kernel_rfl) (fun _ _ _ h => h) (Or.inl ⟨by rfl, ?_⟩) ?_ ?_
    rotate_left
    · intro w'
      go_simp
      with_reducible rfl
    rotate_left
    · simp only [Act.put, List.setIfInBounds_toArray, List.set_cons_zero, List.set_cons_succ, i64_w, i32_w]
      rfl
    refine pure_ (i := 4) (N := some 9) (v := ?_) (a' := ?_) Fi17 rfl rfl (by kernel_rfl) (fun _ _ _ h => h) (Or.inl ⟨by rfl, ?_⟩) ?_ ?_
    rotate_left
    · intro w'
      go_simp
      with_reducible rfl
    rotate_left
    · simp only [Act.put, List.setIfInBounds_toArray, List.set_cons_zero, List.set_cons_succ, i64_w, i32_w]
      rfl
    refine pure_ (i := 5) (N := some 10) (v := ?_) (a' := ?_) Fi18 rfl rfl (by kernel_rfl) (fun _ _ _ h => h) (Or.inl ⟨by rfl, ?_⟩) ?_ ?_
    rotate_left
    · intro w'
      go_simp
      with_reducible rfl
    rotate_left
    · simp only [Act.put, List.setIfInBounds_toArray, List.set_cons_zero, List.set_cons_succ, i64_w, i32_w]
      rfl
    refine pure_ (i := 7) (N := some 12) (v := ?_) (a' := ?_) Fi38 rfl rfl (by kernel_rfl) (fun _ _ _ h => h) (Or.inl ⟨by rfl, ?_⟩) ?_ ?_
    rotate_left
    · intro w'
      go_simp
      with_reducible rfl
    rotate_left
    · simp only [Act.put, List.setIfInBounds_toArray, List.set_cons_zero, List.set_cons_succ, i64_w, i32_w]
      rfl
    refine take_ (i := 6) (N := some 11) (v := ?_) (a' := ?_) Fi20 rfl rfl (by kernel_rfl) (fun _ _ _ h => h) (Or.inl ⟨by rfl, ?_⟩) hHeld ?_ ?_
    rotate_left
    · rintro w' ⟨s0, s1⟩
      go_simp
      with_reducible rfl
    rotate_left
    · simp only [Act.put, List.setIfInBounds_toArray, List.set_cons_zero, List.set_cons_succ, i64_w, i32_w]
      rfl
    refine pure_ (i := 8) (N := some 13) (v := ?_) (a' := ?_) Fi21 rfl rfl (by kernel_rfl) (fun _ _ _ h => h) (Or.inl ⟨by rfl, ?_⟩) ?_ ?_
    rotate_left
    · intro w'
      go_simp
      with_reducible rfl
    rotate_left
    · simp only [Act.put, List.setIfInBounds_toArray, List.set_cons_zero, List.set_cons_succ, i64_w, i32_w]
      rfl
    refine pure_ (i := 9) (N := some 14) (v := ?_) (a' := ?_) Fi22 rfl rfl (by kernel_rfl) (fun _ _ _ h => h) (Or.inl ⟨by rfl, ?_⟩) ?_ ?_
    rotate_left
    · intro w'
      go_simp
      with_reducible rfl
    rotate_left
    · simp only [Act.put, List.setIfInBounds_toArray, List.set_cons_zero, List.set_cons_succ, i64_w, i32_w]
      rfl
    refine pure_ (i := 10) (N := some 15) (v := ?_) (a' := ?_) Fi23 rfl rfl (by kernel_rfl) (fun _ _ _ h => h) (Or.inl ⟨by rfl, ?_⟩) ?_ ?_
    rotate_left
    · intro w'
      go_simp
      with_reducible rfl
    rotate_left
    · simp only [Act.put, List.setIfInBounds_toArray, List.set_cons_zero, List.set_cons_succ, i64_w, i32_w]
      rfl
    refine pure_ (i := 11) (N := some 16) (v := ?_) (a' := ?_) Fi24 rfl rfl (by kernel_rfl) (fun _ _ _ h => h) (Or.inl ⟨by rfl, ?_⟩) ?_ ?_
    rotate_left
    · intro w'
      go_simp
      with_reducible rfl
    rotate_left
    · simp only [Act.put, List.setIfInBounds_toArray, List.set_cons_zero, List.set_cons_succ, i64_w, i32_w]
      rfl
    refine pure_ (i := 12) (N := some 17) (v := ?_) (a' := ?_) Fi25 rfl rfl (by kernel_rfl) (fun _ _ _ h => h) (Or.inl ⟨by rfl, ?_⟩) ?_ ?_
    rotate_left
    · intro w'
      go_simp
      with_reducible rfl
    rotate_left
    · simp only [Act.put, List.setIfInBounds_toArray, List.set_cons_zero, List.set_cons_succ, i64_w, i32_w]
      rfl
    refine pure_ (i := 13) (N := some 18) (v := ?_) (a' := ?_) Fi26 rfl rfl (by kernel_rfl) (fun _ _ _ h => h) (Or.inl ⟨by rfl, ?_⟩) ?_ ?_
    rotate_left
    · intro w'
      go_simp
      with_reducible rfl
    rotate_left
    · simp only [Act.put, List.setIfInBounds_toArray, List.set_cons_zero, List.set_cons_succ, i64_w, i32_w]
      rfl
    refine pure_ (i := 14) (N := some 19) (v := ?_) (a' := ?_) Fi27 rfl rfl (by kernel_rfl) (fun _ _ _ h => h) (Or.inl ⟨by rfl, ?_⟩) ?_ ?_
    rotate_left
    · intro w'
      go_simp
      with_reducible rfl
    rotate_left
    · simp only [Act.put, List.setIfInBounds_toArray, List.set_cons_zero, List.set_cons_succ, i64_w, i32_w]
      rfl
    refine pure_ (i := 16) (N := some 21) (v := ?_) (a' := ?_) Fi39 rfl rfl (by kernel_rfl) (fun _ _ _ h => h) (Or.inl ⟨by rfl, ?_⟩) ?_ ?_
    rotate_left
    · intro w'
      go_simp
      with_reducible rfl
    rotate_left
    · simp only [Act.put, List.setIfInBounds_toArray, List.set_cons_zero, List.set_cons_succ, i64_w, i32_w]
      rfl
    refine pure_ (i := 18) (N := some 23) (v := ?_) (a' := ?_) Fi40 rfl rfl (by kernel_rfl) (fun _ _ _ h => h) (Or.inl ⟨by rfl, ?_⟩) ?_ ?_
    rotate_left
    · intro w'
      go_simp
      with_reducible rfl
    rotate_left
    · simp only [Act.put, List.setIfInBounds_toArray, List.set_cons_zero, List.set_cons_succ, i64_w, i32_w]
      rfl
    refine pure_ (i := 19) (N := some 24) (v := ?_) (a' := ?_) Fi41 rfl rfl (by kernel_rfl) (fun _ _ _ h => h) (Or.inl ⟨by rfl, ?_⟩) ?_ ?_
    rotate_left
    · intro w'
      go_simp
      with_reducible rfl
    rotate_left
    · simp only [Act.put, List.setIfInBounds_toArray, List.set_cons_zero, List.set_cons_succ, i64_w, i32_w]
      rfl
    refine pure_ (i := 20) (N := some 25) (v := ?_) (a' := ?_) Fi42 rfl rfl (by kernel_rfl) (fun _ _ _ h => h) (Or.inl ⟨by rfl, ?_⟩) ?_ ?_
    rotate_left
    · intro w'
      go_simp
      with_reducible rfl
    rotate_left
    · simp only [Act.put, List.setIfInBounds_toArray, List.set_cons_zero, List.set_cons_succ, i64_w, i32_w]
      rfl
    refine take_ (i := 15) (N := some 20) (v := ?_) (a' := ?_) Fi43 rfl rfl (by kernel_rfl) (fun _ _ _ h => h) (Or.inl ⟨by rfl, ?_⟩) hHeld ?_ ?_
    rotate_left
    · rintro w' ⟨s0, s1⟩
      go_simp
      with_reducible rfl
    rotate_left
    · simp only [Act.put, List.setIfInBounds_toArray, List.set_cons_zero, List.set_cons_succ, i64_w, i32_w]
      rfl
    refine pure_ (i := 17) (N := some 22) (v := ?_) (a' := ?_) Fi33 rfl rfl (by kernel_rfl) (fun _ _ _ h => h) (Or.inl ⟨by rfl, ?_⟩) ?_ ?_
    rotate_left
    · intro w'
      go_simp
      with_reducible rfl
    rotate_left
    · simp only [Act.put, List.setIfInBounds_toArray, List.set_cons_zero, List.set_cons_succ, i64_w, i32_w]
      rfl
    refine take_ (i := 21) (N := some 26) (v := ?_) (a' := ?_) Fi34 rfl rfl (by kernel_rfl) (fun _ _ _ h => h) (Or.inl ⟨by rfl, ?_⟩) hHeld ?_ ?_
    rotate_left
    · rintro w' ⟨s0, s1⟩
      go_simp
      with_reducible rfl
    rotate_left
    · simp only [Act.put, List.setIfInBounds_toArray, List.set_cons_zero, List.set_cons_succ, i64_w, i32_w]
      rfl
    refine pure_ (i := 22) (N := some 27) (v := ?_) (a' := ?_) Fi35 rfl rfl (by kernel_rfl) (fun _ _ _ h => h) (Or.inl ⟨by rfl, ?_⟩) ?_ ?_
    rotate_left
    · intro w'
      go_simp
      with_reducible rfl
    rotate_left
    · simp only [Act.put, List.setIfInBounds_toArray, List.set_cons_zero, List.set_cons_succ, i64_w, i32_w]
      rfl
    refine pure_ (i := 23) (N := some 28) (v := ?_) (a' := ?_) Fi36 rfl rfl (by kernel_rfl) (fun _ _ _ h => h) (Or.inl ⟨by rfl, ?_⟩) ?_ ?_
    rotate_left
    · intro w'
      go_simp
      with_reducible rfl
    rotate_left
    · simp only [Act.put, List.setIfInBounds_toArray, List.set_cons_zero, List.set_cons_succ, i64_w, i32_w]
      rfl
    refine pure_ (i := 24) (N := some 29) (v := ?_) (a' := ?_) Fi37 rfl rfl (by kernel_rfl) (fun _ _ _ h => h) (Or.inl ⟨by rfl, ?_⟩) ?_ ?_
    rotate_left
    · intro w'
      go_simp
      with_reducible rfl
    rotate_left
    · simp only [Act.put, List.setIfInBounds_toArray, List.set_cons_zero, List.set_cons_succ, i64_w, i32_w]
      rfl
    refine done_ (by kernel_rfl) ?_
    go_wp2
    go_ret
    exact ⟨rfl, BA.close S_w_1.out, B_w_1.out⟩
  · rw [decide_eq_true (show 0 ≤ a + n ∧ a + n < (L.length : Int) by omega), if_pos (show 0 ≤ a + n ∧ a + n < (L.length : Int) by omega)]
    have d1 : decide ((L.length : Int) ≤ a + n) = false := decide_eq_false c1
    clear c0 c1
    go_enter Try.func67, Try.ntmps67
    go_upto_region 1 with (fail)
    refine start_ (n := 25) (S := fun w' => w'.cell? ⟨g, 0, none⟩ = some (.slice A0 L.length c0) ∧ w'.cell? ⟨g, 1, none⟩ = some (.int .i64 a)) (ds := []) Fi12 (by kernel_rfl) rfl rfl ⟨c_g_0_w, c_g_1_w⟩ (fun hHeld => ?_)
    generalize hdw : w.drew = w_1 at hHeld ⊢
    have HB_w_1 : Aside0 (Below w.heap.size w w_1) := ⟨by rw [← hdw]; exact below_drew1 (Below.refl _ _)⟩
    clear hdw
    have B_w_1 : Aside0 (Below (base) w w_1) := ⟨below_then B_w.out (Nat.le_trans (hbase) B_w.out.size) HB_w_1.out⟩
    have S_w_1 : Aside0 (Sep (base) (Stars (Blk g #[.slice A0 L.length c0, .int .i64 a] 93 :: Row Kd.string 9 (.slice A0 L.length c0) (L) :: l)) w_1) := ⟨Sep.below S_w.out HB_w_1.out⟩
    have Q_w_1 : Aside0 (Below w.heap.size w w_1) := ⟨HB_w_1.out⟩
    obtain ⟨c_g_0_w_1, c_g_1_w_1⟩ := XW.cells2 (Sep.front [] (Row Kd.string 9 (.slice A0 L.length c0) (L) :: l) S_w_1.out).blk
    obtain ⟨z_g_0_w_1, z_g_1_w_1⟩ := XW.froz2 (Sep.front [] (Row Kd.string 9 (.slice A0 L.length c0) (L) :: l) S_w_1.out).blk
    clear S_w c_g_0_w c_g_1_w z_g_0_w z_g_1_w
    refine pure_ (i := 0) (N := some 5) (v := ?_) (a' := ?_) Fi13 rfl rfl (by kernel_rfl) (fun _ _ _ h => h) (Or.inl ⟨by rfl, ?_⟩) ?_ ?_
    rotate_left
    · intro w'
      go_simp
      with_reducible rfl
    rotate_left
    · simp only [Act.put, List.setIfInBounds_toArray, List.set_cons_zero, List.set_cons_succ, i64_w, i32_w]
      rfl
    refine pure_ (i := 1) (N := some 6) (v := ?_) (a' := ?_) Fi14 rfl rfl (by kernel_rfl) (fun _ _ _ h => h) (Or.inl ⟨by rfl, ?_⟩) ?_ ?_
    rotate_left
    · intro w'
      go_simp
      with_reducible rfl
    rotate_left
    · simp only [Act.put, List.setIfInBounds_toArray, List.set_cons_zero, List.set_cons_succ, i64_w, i32_w]
      rfl
    refine pure_ (i := 2) (N := some 7) (v := ?_) (a' := ?_) Fi15 rfl rfl (by kernel_rfl) (fun _ _ _ h => h) (Or.inl ⟨by rfl, ?_⟩) ?_ ?_
    rotate_left
    · intro w'
      go_simp
      with_reducible rfl
    rotate_left
    · simp only [Act.put, List.setIfInBounds_toArray, List.set_cons_zero, List.set_cons_succ, i64_w, i32_w]
      rfl
    refine pure_ (i := 3) (N := some 8) (v := ?_) (a' := ?_) Fi16 rfl rfl (by kernel_rfl) (fun _ _ _ h => h) (Or.inl ⟨by rfl, ?_⟩) ?_ ?_
    rotate_left
    · intro w'
      go_simp
      with_reducible rfl
    rotate_left
    · simp only [Act.put, List.setIfInBounds_toArray, List.set_cons_zero, List.set_cons_succ, i64_w, i32_w]
      rfl
    refine pure_ (i := 4) (N := some 9) (v := ?_) (a' := ?_) Fi17 rfl rfl (by kernel_rfl) (fun _ _ _ h => h) (Or.inl ⟨by rfl, ?_⟩) ?_ ?_
    rotate_left
    · intro w'
      go_simp
      with_reducible rfl
    rotate_left
    · simp only [Act.put, List.setIfInBounds_toArray, List.set_cons_zero, List.set_cons_succ, i64_w, i32_w]
      rfl
    refine pure_ (i := 5) (N := some 10) (v := ?_) (a' := ?_) Fi18 rfl rfl (by kernel_rfl) (fun _ _ _ h => h) (Or.inl ⟨by rfl, ?_⟩) ?_ ?_
    rotate_left
    · intro w'
      go_simp
      with_reducible rfl
    rotate_left
    · simp only [Act.put, List.setIfInBounds_toArray, List.set_cons_zero, List.set_cons_succ, i64_w, i32_w]
      rfl
    refine pure_ (i := 7) (N := some 12) (v := ?_) (a' := ?_) Fi38 rfl rfl (by kernel_rfl) (fun _ _ _ h => h) (Or.inl ⟨by rfl, ?_⟩) ?_ ?_
    rotate_left
    · intro w'
      go_simp
      with_reducible rfl
    rotate_left
    · simp only [Act.put, List.setIfInBounds_toArray, List.set_cons_zero, List.set_cons_succ, i64_w, i32_w]
      rfl
    refine take_ (i := 6) (N := some 11) (v := ?_) (a' := ?_) Fi20 rfl rfl (by kernel_rfl) (fun _ _ _ h => h) (Or.inl ⟨by rfl, ?_⟩) hHeld ?_ ?_
    rotate_left
    · rintro w' ⟨s0, s1⟩
      go_simp
      with_reducible rfl
    rotate_left
    · simp only [Act.put, List.setIfInBounds_toArray, List.set_cons_zero, List.set_cons_succ, i64_w, i32_w]
      rfl
    refine pure_ (i := 8) (N := some 13) (v := ?_) (a' := ?_) Fi21 rfl rfl (by kernel_rfl) (fun _ _ _ h => h) (Or.inl ⟨by rfl, ?_⟩) ?_ ?_
    rotate_left
    · intro w'
      go_simp
      with_reducible rfl
    rotate_left
    · simp only [Act.put, List.setIfInBounds_toArray, List.set_cons_zero, List.set_cons_succ, i64_w, i32_w]
      rfl
    refine pure_ (i := 9) (N := some 14) (v := ?_) (a' := ?_) Fi22 rfl rfl (by kernel_rfl) (fun _ _ _ h => h) (Or.inl ⟨by rfl, ?_⟩) ?_ ?_
    rotate_left
    · intro w'
      go_simp
      with_reducible rfl
    rotate_left
    · simp only [Act.put, List.setIfInBounds_toArray, List.set_cons_zero, List.set_cons_succ, i64_w, i32_w]
      rfl
    refine pure_ (i := 10) (N := some 15) (v := ?_) (a' := ?_) Fi23 rfl rfl (by kernel_rfl) (fun _ _ _ h => h) (Or.inl ⟨by rfl, ?_⟩) ?_ ?_
    rotate_left
    · intro w'
      go_simp
      with_reducible rfl
    rotate_left
    · simp only [Act.put, List.setIfInBounds_toArray, List.set_cons_zero, List.set_cons_succ, i64_w, i32_w]
      rfl
    refine pure_ (i := 11) (N := some 16) (v := ?_) (a' := ?_) Fi24 rfl rfl (by kernel_rfl) (fun _ _ _ h => h) (Or.inl ⟨by rfl, ?_⟩) ?_ ?_
    rotate_left
    · intro w'
      go_simp
      with_reducible rfl
    rotate_left
    · simp only [Act.put, List.setIfInBounds_toArray, List.set_cons_zero, List.set_cons_succ, i64_w, i32_w]
      rfl
    refine pure_ (i := 12) (N := some 17) (v := ?_) (a' := ?_) Fi25 rfl rfl (by kernel_rfl) (fun _ _ _ h => h) (Or.inl ⟨by rfl, ?_⟩) ?_ ?_
    rotate_left
    · intro w'
      go_simp
      with_reducible rfl
    rotate_left
    · simp only [Act.put, List.setIfInBounds_toArray, List.set_cons_zero, List.set_cons_succ, i64_w, i32_w]
      rfl
    refine pure_ (i := 13) (N := some 18) (v := ?_) (a' := ?_) Fi26 rfl rfl (by kernel_rfl) (fun _ _ _ h => h) (Or.inl ⟨by rfl, ?_⟩) ?_ ?_
    rotate_left
    · intro w'
      go_simp
      with_reducible rfl
    rotate_left
    · simp only [Act.put, List.setIfInBounds_toArray, List.set_cons_zero, List.set_cons_succ, i64_w, i32_w]
      rfl
    refine pure_ (i := 14) (N := some 19) (v := ?_) (a' := ?_) Fi27 rfl rfl (by kernel_rfl) (fun _ _ _ h => h) (Or.inl ⟨by rfl, ?_⟩) ?_ ?_
    rotate_left
    · intro w'
      go_simp
      with_reducible rfl
    rotate_left
    · simp only [Act.put, List.setIfInBounds_toArray, List.set_cons_zero, List.set_cons_succ, i64_w, i32_w]
      rfl
    refine pure_ (i := 16) (N := some 21) (v := ?_) (a' := ?_) Fi39 rfl rfl (by kernel_rfl) (fun _ _ _ h => h) (Or.inl ⟨by rfl, ?_⟩) ?_ ?_
    rotate_left
    · intro w'
      go_simp
      with_reducible rfl
    rotate_left
    · simp only [Act.put, List.setIfInBounds_toArray, List.set_cons_zero, List.set_cons_succ, i64_w, i32_w]
      rfl
    refine pure_ (i := 18) (N := some 23) (v := ?_) (a' := ?_) Fi40 rfl rfl (by kernel_rfl) (fun _ _ _ h => h) (Or.inl ⟨by rfl, ?_⟩) ?_ ?_
    rotate_left
    · intro w'
      go_simp
      with_reducible rfl
    rotate_left
    · simp only [Act.put, List.setIfInBounds_toArray, List.set_cons_zero, List.set_cons_succ, i64_w, i32_w]
      rfl
    refine pure_ (i := 19) (N := some 24) (v := ?_) (a' := ?_) Fi41 rfl rfl (by kernel_rfl) (fun _ _ _ h => h) (Or.inl ⟨by rfl, ?_⟩) ?_ ?_
    rotate_left
    · intro w'
      go_simp
      with_reducible rfl
    rotate_left
    · simp only [Act.put, List.setIfInBounds_toArray, List.set_cons_zero, List.set_cons_succ, i64_w, i32_w]
      rfl
    refine pure_ (i := 20) (N := some 25) (v := ?_) (a' := ?_) Fi42 rfl rfl (by kernel_rfl) (fun _ _ _ h => h) (Or.inl ⟨by rfl, ?_⟩) ?_ ?_
    rotate_left
    · intro w'
      go_simp
      with_reducible rfl
    rotate_left
    · simp only [Act.put, List.setIfInBounds_toArray, List.set_cons_zero, List.set_cons_succ, i64_w, i32_w]
      rfl
    refine take_ (i := 15) (N := some 20) (v := ?_) (a' := ?_) Fi43 rfl rfl (by kernel_rfl) (fun _ _ _ h => h) (Or.inl ⟨by rfl, ?_⟩) hHeld ?_ ?_
    rotate_left
    · rintro w' ⟨s0, s1⟩
      go_simp
      with_reducible rfl
    rotate_left
    · simp only [Act.put, List.setIfInBounds_toArray, List.set_cons_zero, List.set_cons_succ, i64_w, i32_w]
      rfl
    refine pure_ (i := 17) (N := some 22) (v := ?_) (a' := ?_) Fi33 rfl rfl (by kernel_rfl) (fun _ _ _ h => h) (Or.inl ⟨by rfl, ?_⟩) ?_ ?_
    rotate_left
    · intro w'
      go_simp
      with_reducible rfl
    rotate_left
    · simp only [Act.put, List.setIfInBounds_toArray, List.set_cons_zero, List.set_cons_succ, i64_w, i32_w]
      rfl
    refine take_ (i := 21) (N := some 26) (v := ?_) (a' := ?_) Fi34 rfl rfl (by kernel_rfl) (fun _ _ _ h => h) (Or.inl ⟨by rfl, ?_⟩) hHeld ?_ ?_
    rotate_left
    · rintro w' ⟨s0, s1⟩
      go_simp
      with_reducible rfl
    rotate_left
    · simp only [Act.put, List.setIfInBounds_toArray, List.set_cons_zero, List.set_cons_succ, i64_w, i32_w]
      rfl
    refine pure_ (i := 22) (N := some 27) (v := ?_) (a' := ?_) Fi35 rfl rfl (by kernel_rfl) (fun _ _ _ h => h) (Or.inl ⟨by rfl, ?_⟩) ?_ ?_
    rotate_left
    · intro w'
      go_simp
      with_reducible rfl
    rotate_left
    · simp only [Act.put, List.setIfInBounds_toArray, List.set_cons_zero, List.set_cons_succ, i64_w, i32_w]
      rfl
    refine pure_ (i := 23) (N := some 28) (v := ?_) (a' := ?_) Fi36 rfl rfl (by kernel_rfl) (fun _ _ _ h => h) (Or.inl ⟨by rfl, ?_⟩) ?_ ?_
    rotate_left
    · intro w'
      go_simp
      with_reducible rfl
    rotate_left
    · simp only [Act.put, List.setIfInBounds_toArray, List.set_cons_zero, List.set_cons_succ, i64_w, i32_w]
      rfl
    refine pure_ (i := 24) (N := some 29) (v := ?_) (a' := ?_) Fi37 rfl rfl (by kernel_rfl) (fun _ _ _ h => h) (Or.inl ⟨by rfl, ?_⟩) ?_ ?_
    rotate_left
    · intro w'
      go_simp
      with_reducible rfl
    rotate_left
    · simp only [Act.put, List.setIfInBounds_toArray, List.set_cons_zero, List.set_cons_succ, i64_w, i32_w]
      rfl
    refine done_ (by kernel_rfl) ?_
    go_wp2_with (first | ((with_reducible refine gate_store (t := 3) (p := 37) rfl ?_); go_must (refine store_event (t := 3) (p := 37) (v := ?vo_1) (w1 := (w_1.setCell ⟨g, 1, none⟩ (.int .i64 (a + n)))) ?hg ?ho ?hn ?hr ?_; (case ho => rfl); (case hg => rfl); (case hn => rfl); (case hr => first | (go_simp; done) | (go_simp; rfl)); intro w_2 hw; have B_w_2 : Aside0 (Below (base) w w_2) := ⟨by rw [hw]; exact (Below.setCell B_w_1.out ((Sep.front [] (Row Kd.string 9 (.slice A0 L.length c0) (L) :: l) S_w_1.out).blk_le) _)⟩; have S_w_2 : Aside0 (Sep (base) (Stars (Blk g #[.slice A0 L.length c0, .int .i64 (a + n)] 93 :: Row Kd.string 9 (.slice A0 L.length c0) (L) :: l)) w_2) := ⟨by rw [hw]; exact Sep.back [] (Row Kd.string 9 (.slice A0 L.length c0) (L) :: l) (Sep.store (Sep.front [] (Row Kd.string 9 (.slice A0 L.length c0) (L) :: l) S_w_1.out) (Nat.le_trans (hbase) B_w_1.out.size) 1 (.int .i64 (a + n)) (cs' := #[.slice A0 L.length c0, .int .i64 (a + n)]) rfl)⟩; obtain ⟨c_g_0_w_2, c_g_1_w_2⟩ := XW.cells2 (Sep.front [] (Row Kd.string 9 (.slice A0 L.length c0) (L) :: l) S_w_2.out).blk; obtain ⟨z_g_0_w_2, z_g_1_w_2⟩ := XW.froz2 (Sep.front [] (Row Kd.string 9 (.slice A0 L.length c0) (L) :: l) S_w_2.out).blk; clear S_w_1 c_g_0_w_1 c_g_1_w_1 z_g_0_w_1 z_g_1_w_1; clear hw)))
    go_ret
    exact ⟨rfl, BA.close S_w_2.out, B_w_2.out⟩
theorem up_nil (w : World) : Calls Try.prog 30 #[.pointer none] w fun e w' => e = .returned (.bool false) ∧ Below w.heap.size w w' := by
  go_enter Try.func30, Try.ntmps30
  go_wp2_with (first | (go_at_call 67; (with_reducible refine (step_nil _ (-1)).mono ?_); rintro e w' ⟨rfl, hb⟩))
  go_ret
  exact ⟨rfl, hb⟩
theorem up_is {base g : Nat} {L : List ByteArray} {a : Int} {l : List Assn} (w : World) (h : Sep base (Star (BA 93 g L a) (Stars l)) w) (hbase : base ≤ w.heap.size) (ha0 : 0 ≤ a) (ha1 : a < (L.length : Int)) (hL : L.length ≤ 1000) (b : Bool) (hb : stepB L a (-1) = b) (a2 : Int) (ha2 : stepP L a (-1) = a2) : Calls Try.prog 30 #[.pointer (some ⟨g, 0, none⟩)] w fun e w' => e = .returned (.bool b) ∧ Sep base (Star (BA 93 g L a2) (Stars l)) w' ∧ Below base w w' := by
  go_enter Try.func30, Try.ntmps30
  go_wp2_with (first | (go_at_call 67; (with_reducible refine (step_is _ h hbase ha0 ha1 hL (-1) (by decide) (by decide) b hb a2 ha2).mono ?_); rintro e w' ⟨rfl, hS, hb⟩))
  go_ret
  exact ⟨rfl, hS, hb⟩
theorem down_nil (w : World) : Calls Try.prog 32 #[.pointer none] w fun e w' => e = .returned (.bool false) ∧ Below w.heap.size w w' := by
  go_enter Try.func32, Try.ntmps32
  go_wp2_with (first | (go_at_call 67; (with_reducible refine (step_nil _ 1).mono ?_); rintro e w' ⟨rfl, hb⟩))
  go_ret
  exact ⟨rfl, hb⟩
theorem down_is {base g : Nat} {L : List ByteArray} {a : Int} {l : List Assn} (w : World) (h : Sep base (Star (BA 93 g L a) (Stars l)) w) (hbase : base ≤ w.heap.size) (ha0 : 0 ≤ a) (ha1 : a < (L.length : Int)) (hL : L.length ≤ 1000) (b : Bool) (hb : stepB L a 1 = b) (a2 : Int) (ha2 : stepP L a 1 = a2) : Calls Try.prog 32 #[.pointer (some ⟨g, 0, none⟩)] w fun e w' => e = .returned (.bool b) ∧ Sep base (Star (BA 93 g L a2) (Stars l)) w' ∧ Below base w w' := by
  go_enter Try.func32, Try.ntmps32
  go_wp2_with (first | (go_at_call 67; (with_reducible refine (step_is _ h hbase ha0 ha1 hL 1 (by decide) (by decide) b hb a2 ha2).mono ?_); rintro e w' ⟨rfl, hS, hb⟩))
  go_ret
  exact ⟨rfl, hS, hb⟩
set_option maxHeartbeats 8000000 in
set_option maxRecDepth 100000 in
theorem refup_is {base g : Nat} {L : List ByteArray} {a : Int} {l : List Assn} (w : World) (h : Sep base (Star (BA 54 g L a) (Stars l)) w) (hbase : base ≤ w.heap.size) (ha0 : 0 ≤ a) (ha1 : a < (L.length : Int)) (hL : L.length ≤ 1000) (b : Bool) (hb : stepB L a (-1) = b) (a2 : Int) (ha2 : stepP L a (-1) = a2) : Calls Try.prog 31 #[.pointer (some ⟨g, 0, none⟩)] w fun e w' => e = .returned (.bool b) ∧ Sep base (Star (BA 54 g L a2) (Stars l)) w' ∧ Below base w w' := by
  subst hb ha2
  obtain ⟨A0, c0, hl0, hC0, hS⟩ := BA.open h
  have S_w := Aside0.mk hS
  have B_w := Aside0.mk (Below.refl base w)
  clear h hS hC0
  obtain ⟨c_g_0_w, c_g_1_w⟩ := XW.cells2 (Sep.front [] (Row Kd.string 9 (.slice A0 L.length c0) (L) :: l) S_w.out).blk
  obtain ⟨z_g_0_w, z_g_1_w⟩ := XW.froz2 (Sep.front [] (Row Kd.string 9 (.slice A0 L.length c0) (L) :: l) S_w.out).blk
  unfold stepB stepP
  by_cases c0 : a = 0
  · rw [decide_eq_false (fun h : 0 ≤ a + -1 ∧ a + -1 < (L.length : Int) => by omega), if_neg (fun h : 0 ≤ a + -1 ∧ a + -1 < (L.length : Int) => by omega)]
    have b0 : (a == 0) = true := beq_iff_eq.mpr c0
    clear c0
    go_enter Try.func31, Try.ntmps31
    go_wp2
    go_ret
    exact ⟨rfl, BA.close S_w.out, B_w.out⟩
  · rw [decide_eq_true (show 0 ≤ a + -1 ∧ a + -1 < (L.length : Int) by omega), if_pos (show 0 ≤ a + -1 ∧ a + -1 < (L.length : Int) by omega)]
    have b0 : (a == 0) = false := beq_eq_false_iff_ne.mpr c0
    have hw : wrap64 (a - 1) = a - 1 := by unfold wrap64; omega
    have HE : Aside0 (a + -1 = a - 1) := ⟨by omega⟩
    clear c0
    go_enter Try.func31, Try.ntmps31
    go_wp2_with (first | ((with_reducible refine gate_store (t := 3) (p := 14) rfl ?_); go_must (refine store_event (t := 3) (p := 14) (v := ?vo_2) (w1 := (w.setCell ⟨g, 1, none⟩ (.int .i64 (a - 1)))) ?hg ?ho ?hn ?hr ?_; (case ho => rfl); (case hg => rfl); (case hn => rfl); (case hr => first | (go_simp; done) | (go_simp; rfl)); intro w_1 hw; have B_w_1 : Aside0 (Below (base) w w_1) := ⟨by rw [hw]; exact (Below.setCell B_w.out ((Sep.front [] (Row Kd.string 9 (.slice A0 L.length c0) (L) :: l) S_w.out).blk_le) _)⟩; have S_w_1 : Aside0 (Sep (base) (Stars (Blk g #[.slice A0 L.length c0, .int .i64 (a - 1)] 54 :: Row Kd.string 9 (.slice A0 L.length c0) (L) :: l)) w_1) := ⟨by rw [hw]; exact Sep.back [] (Row Kd.string 9 (.slice A0 L.length c0) (L) :: l) (Sep.store (Sep.front [] (Row Kd.string 9 (.slice A0 L.length c0) (L) :: l) S_w.out) (Nat.le_trans (hbase) B_w.out.size) 1 (.int .i64 (a - 1)) (cs' := #[.slice A0 L.length c0, .int .i64 (a - 1)]) rfl)⟩; obtain ⟨c_g_0_w_1, c_g_1_w_1⟩ := XW.cells2 (Sep.front [] (Row Kd.string 9 (.slice A0 L.length c0) (L) :: l) S_w_1.out).blk; obtain ⟨z_g_0_w_1, z_g_1_w_1⟩ := XW.froz2 (Sep.front [] (Row Kd.string 9 (.slice A0 L.length c0) (L) :: l) S_w_1.out).blk; clear S_w c_g_0_w c_g_1_w z_g_0_w z_g_1_w; clear hw)))
    go_ret
    exact ⟨rfl, by rw [HE.out]; exact BA.close S_w_1.out, B_w_1.out⟩
set_option maxHeartbeats 8000000 in
set_option maxRecDepth 100000 in
theorem refdown_is {base g : Nat} {L : List ByteArray} {a : Int} {l : List Assn} (w : World) (h : Sep base (Star (BA 54 g L a) (Stars l)) w) (hbase : base ≤ w.heap.size) (ha0 : 0 ≤ a) (ha1 : a < (L.length : Int)) (hL : L.length ≤ 1000) (b : Bool) (hb : stepB L a 1 = b) (a2 : Int) (ha2 : stepP L a 1 = a2) : Calls Try.prog 33 #[.pointer (some ⟨g, 0, none⟩)] w fun e w' => e = .returned (.bool b) ∧ Sep base (Star (BA 54 g L a2) (Stars l)) w' ∧ Below base w w' := by
  subst hb ha2
  obtain ⟨A0, c0, hl0, hC0, hS⟩ := BA.open h
  have S_w := Aside0.mk hS
  have B_w := Aside0.mk (Below.refl base w)
  clear h hS hC0
  obtain ⟨c_g_0_w, c_g_1_w⟩ := XW.cells2 (Sep.front [] (Row Kd.string 9 (.slice A0 L.length c0) (L) :: l) S_w.out).blk
  obtain ⟨z_g_0_w, z_g_1_w⟩ := XW.froz2 (Sep.front [] (Row Kd.string 9 (.slice A0 L.length c0) (L) :: l) S_w.out).blk
  unfold stepB stepP
  have hwl : wrap64 ((L.length : Int) - 1) = (L.length : Int) - 1 := by unfold wrap64; omega
  by_cases c0 : a = (L.length : Int) - 1
  · rw [decide_eq_false (fun h : 0 ≤ a + 1 ∧ a + 1 < (L.length : Int) => by omega), if_neg (fun h : 0 ≤ a + 1 ∧ a + 1 < (L.length : Int) => by omega)]
    have b0 : (a == (L.length : Int) - 1) = true := beq_iff_eq.mpr c0
    clear c0
    go_enter Try.func33, Try.ntmps33
    go_upto_region 1 with (fail)
    refine start_ (n := 11) (S := fun w' => w'.cell? ⟨g, 0, none⟩ = some (.slice A0 L.length c0) ∧ w'.cell? ⟨g, 1, none⟩ = some (.int .i64 a)) (ds := []) Fi0 (by kernel_rfl) rfl rfl ⟨c_g_0_w, c_g_1_w⟩ (fun hHeld => ?_)
    generalize hdw : w.drew = w_1 at hHeld ⊢
    have HB_w_1 : Aside0 (Below w.heap.size w w_1) := ⟨by rw [← hdw]; exact below_drew1 (Below.refl _ _)⟩
    clear hdw
    have B_w_1 : Aside0 (Below (base) w w_1) := ⟨below_then B_w.out (Nat.le_trans (hbase) B_w.out.size) HB_w_1.out⟩
    have S_w_1 : Aside0 (Sep (base) (Stars (Blk g #[.slice A0 L.length c0, .int .i64 a] 54 :: Row Kd.string 9 (.slice A0 L.length c0) (L) :: l)) w_1) := ⟨Sep.below S_w.out HB_w_1.out⟩
    have Q_w_1 : Aside0 (Below w.heap.size w w_1) := ⟨HB_w_1.out⟩
    obtain ⟨c_g_0_w_1, c_g_1_w_1⟩ := XW.cells2 (Sep.front [] (Row Kd.string 9 (.slice A0 L.length c0) (L) :: l) S_w_1.out).blk
    obtain ⟨z_g_0_w_1, z_g_1_w_1⟩ := XW.froz2 (Sep.front [] (Row Kd.string 9 (.slice A0 L.length c0) (L) :: l) S_w_1.out).blk
    clear S_w c_g_0_w c_g_1_w z_g_0_w z_g_1_w
    refine pure_ (i := 0) (N := some 3) (v := ?_) (a' := ?_) Fi1 rfl rfl (by kernel_rfl) (fun _ _ _ h => h) (Or.inl ⟨by rfl, ?_⟩) ?_ ?_
    rotate_left
    · intro w'
      go_simp
      with_reducible rfl
    rotate_left
    · simp only [Act.put, List.setIfInBounds_toArray, List.set_cons_zero, List.set_cons_succ, i64_w, i32_w]
      rfl
    refine pure_ (i := 1) (N := some 4) (v := ?_) (a' := ?_) Fi2 rfl rfl (by kernel_rfl) (fun _ _ _ h => h) (Or.inl ⟨by rfl, ?_⟩) ?_ ?_
    rotate_left
    · intro w'
      go_simp
      with_reducible rfl
    rotate_left
    · simp only [Act.put, List.setIfInBounds_toArray, List.set_cons_zero, List.set_cons_succ, i64_w, i32_w]
      rfl
    refine pure_ (i := 2) (N := some 5) (v := ?_) (a' := ?_) Fi3 rfl rfl (by kernel_rfl) (fun _ _ _ h => h) (Or.inl ⟨by rfl, ?_⟩) ?_ ?_
    rotate_left
    · intro w'
      go_simp
      with_reducible rfl
    rotate_left
    · simp only [Act.put, List.setIfInBounds_toArray, List.set_cons_zero, List.set_cons_succ, i64_w, i32_w]
      rfl
    refine pure_ (i := 4) (N := some 7) (v := ?_) (a' := ?_) Fi4 rfl rfl (by kernel_rfl) (fun _ _ _ h => h) (Or.inl ⟨by rfl, ?_⟩) ?_ ?_
    rotate_left
    · intro w'
      go_simp
      with_reducible rfl
    rotate_left
    · simp only [Act.put, List.setIfInBounds_toArray, List.set_cons_zero, List.set_cons_succ, i64_w, i32_w]
      rfl
    refine pure_ (i := 5) (N := some 8) (v := ?_) (a' := ?_) Fi5 rfl rfl (by kernel_rfl) (fun _ _ _ h => h) (Or.inl ⟨by rfl, ?_⟩) ?_ ?_
    rotate_left
    · intro w'
      go_simp
      with_reducible rfl
    rotate_left
    · simp only [Act.put, List.setIfInBounds_toArray, List.set_cons_zero, List.set_cons_succ, i64_w, i32_w]
      rfl
    refine pure_ (i := 6) (N := some 9) (v := ?_) (a' := ?_) Fi6 rfl rfl (by kernel_rfl) (fun _ _ _ h => h) (Or.inl ⟨by rfl, ?_⟩) ?_ ?_
    rotate_left
    · intro w'
      go_simp
      with_reducible rfl
    rotate_left
    · simp only [Act.put, List.setIfInBounds_toArray, List.set_cons_zero, List.set_cons_succ, i64_w, i32_w]
      rfl
    refine take_ (i := 3) (N := some 6) (v := ?_) (a' := ?_) Fi7 rfl rfl (by kernel_rfl) (fun _ _ _ h => h) (Or.inl ⟨by rfl, ?_⟩) hHeld ?_ ?_
    rotate_left
    · rintro w' ⟨s0, s1⟩
      go_simp
      with_reducible rfl
    rotate_left
    · simp only [Act.put, List.setIfInBounds_toArray, List.set_cons_zero, List.set_cons_succ, i64_w, i32_w]
      rfl
    refine take_ (i := 7) (N := some 10) (v := ?_) (a' := ?_) Fi8 rfl rfl (by kernel_rfl) (fun _ _ _ h => h) (Or.inl ⟨by rfl, ?_⟩) hHeld ?_ ?_
    rotate_left
    · rintro w' ⟨s0, s1⟩
      go_simp
      with_reducible rfl
    rotate_left
    · simp only [Act.put, List.setIfInBounds_toArray, List.set_cons_zero, List.set_cons_succ, i64_w, i32_w]
      rfl
    refine pure_ (i := 8) (N := some 11) (v := ?_) (a' := ?_) Fi9 rfl rfl (by kernel_rfl) (fun _ _ _ h => h) (Or.inl ⟨by rfl, ?_⟩) ?_ ?_
    rotate_left
    · intro w'
      go_simp
      with_reducible rfl
    rotate_left
    · simp only [Act.put, List.setIfInBounds_toArray, List.set_cons_zero, List.set_cons_succ, i64_w, i32_w]
      rfl
    refine pure_ (i := 9) (N := some 12) (v := ?_) (a' := ?_) Fi10 rfl rfl (by kernel_rfl) (fun _ _ _ h => h) (Or.inl ⟨by rfl, ?_⟩) ?_ ?_
    rotate_left
    · intro w'
      go_simp
      with_reducible rfl
    rotate_left
    · simp only [Act.put, List.setIfInBounds_toArray, List.set_cons_zero, List.set_cons_succ, i64_w, i32_w]
      rfl
    refine pure_ (i := 10) (N := some 13) (v := ?_) (a' := ?_) Fi11 rfl rfl (by kernel_rfl) (fun _ _ _ h => h) (Or.inl ⟨by rfl, ?_⟩) ?_ ?_
    rotate_left
    · intro w'
      go_simp
      with_reducible rfl
    rotate_left
    · simp only [Act.put, List.setIfInBounds_toArray, List.set_cons_zero, List.set_cons_succ, i64_w, i32_w]
      rfl
    refine done_ (by kernel_rfl) ?_
    go_wp2
    go_ret
    exact ⟨rfl, BA.close S_w_1.out, B_w_1.out⟩
  · rw [decide_eq_true (show 0 ≤ a + 1 ∧ a + 1 < (L.length : Int) by omega), if_pos (show 0 ≤ a + 1 ∧ a + 1 < (L.length : Int) by omega)]
    have b0 : (a == (L.length : Int) - 1) = false := beq_eq_false_iff_ne.mpr c0
    have hw : wrap64 (a + 1) = a + 1 := by unfold wrap64; omega
    clear c0
    go_enter Try.func33, Try.ntmps33
    go_upto_region 1 with (fail)
    refine start_ (n := 11) (S := fun w' => w'.cell? ⟨g, 0, none⟩ = some (.slice A0 L.length c0) ∧ w'.cell? ⟨g, 1, none⟩ = some (.int .i64 a)) (ds := []) Fi0 (by kernel_rfl) rfl rfl ⟨c_g_0_w, c_g_1_w⟩ (fun hHeld => ?_)
    generalize hdw : w.drew = w_1 at hHeld ⊢
    have HB_w_1 : Aside0 (Below w.heap.size w w_1) := ⟨by rw [← hdw]; exact below_drew1 (Below.refl _ _)⟩
    clear hdw
    have B_w_1 : Aside0 (Below (base) w w_1) := ⟨below_then B_w.out (Nat.le_trans (hbase) B_w.out.size) HB_w_1.out⟩
    have S_w_1 : Aside0 (Sep (base) (Stars (Blk g #[.slice A0 L.length c0, .int .i64 a] 54 :: Row Kd.string 9 (.slice A0 L.length c0) (L) :: l)) w_1) := ⟨Sep.below S_w.out HB_w_1.out⟩
    have Q_w_1 : Aside0 (Below w.heap.size w w_1) := ⟨HB_w_1.out⟩
    obtain ⟨c_g_0_w_1, c_g_1_w_1⟩ := XW.cells2 (Sep.front [] (Row Kd.string 9 (.slice A0 L.length c0) (L) :: l) S_w_1.out).blk
    obtain ⟨z_g_0_w_1, z_g_1_w_1⟩ := XW.froz2 (Sep.front [] (Row Kd.string 9 (.slice A0 L.length c0) (L) :: l) S_w_1.out).blk
    clear S_w c_g_0_w c_g_1_w z_g_0_w z_g_1_w
    refine pure_ (i := 0) (N := some 3) (v := ?_) (a' := ?_) Fi1 rfl rfl (by kernel_rfl) (fun _ _ _ h => h) (Or.inl ⟨by rfl, ?_⟩) ?_ ?_
    rotate_left
    · intro w'
      go_simp
      with_reducible rfl
    rotate_left
    · simp only [Act.put, List.setIfInBounds_toArray, List.set_cons_zero, List.set_cons_succ, i64_w, i32_w]
      rfl
    refine pure_ (i := 1) (N := some 4) (v := ?_) (a' := ?_) Fi2 rfl rfl (by kernel_rfl) (fun _ _ _ h => h) (Or.inl ⟨by rfl, ?_⟩) ?_ ?_
    rotate_left
    · intro w'
      go_simp
      with_reducible rfl
    rotate_left
    · simp only [Act.put, List.setIfInBounds_toArray, List.set_cons_zero, List.set_cons_succ, i64_w, i32_w]
      rfl
    refine pure_ (i := 2) (N := some 5) (v := ?_) (a' := ?_) Fi3 rfl rfl (by kernel_rfl) (fun _ _ _ h => h) (Or.inl ⟨by rfl, ?_⟩) ?_ ?_
    rotate_left
    · intro w'
      go_simp
      with_reducible rfl
    rotate_left
    · simp only [Act.put, List.setIfInBounds_toArray, List.set_cons_zero, List.set_cons_succ, i64_w, i32_w]
      rfl
    refine pure_ (i := 4) (N := some 7) (v := ?_) (a' := ?_) Fi4 rfl rfl (by kernel_rfl) (fun _ _ _ h => h) (Or.inl ⟨by rfl, ?_⟩) ?_ ?_
    rotate_left
    · intro w'
      go_simp
      with_reducible rfl
    rotate_left
    · simp only [Act.put, List.setIfInBounds_toArray, List.set_cons_zero, List.set_cons_succ, i64_w, i32_w]
      rfl
    refine pure_ (i := 5) (N := some 8) (v := ?_) (a' := ?_) Fi5 rfl rfl (by kernel_rfl) (fun _ _ _ h => h) (Or.inl ⟨by rfl, ?_⟩) ?_ ?_
    rotate_left
    · intro w'
      go_simp
      with_reducible rfl
    rotate_left
    · simp only [Act.put, List.setIfInBounds_toArray, List.set_cons_zero, List.set_cons_succ, i64_w, i32_w]
      rfl
    refine pure_ (i := 6) (N := some 9) (v := ?_) (a' := ?_) Fi6 rfl rfl (by kernel_rfl) (fun _ _ _ h => h) (Or.inl ⟨by rfl, ?_⟩) ?_ ?_
    rotate_left
    · intro w'
      go_simp
      with_reducible rfl
    rotate_left
    · simp only [Act.put, List.setIfInBounds_toArray, List.set_cons_zero, List.set_cons_succ, i64_w, i32_w]
      rfl
    refine take_ (i := 3) (N := some 6) (v := ?_) (a' := ?_) Fi7 rfl rfl (by kernel_rfl) (fun _ _ _ h => h) (Or.inl ⟨by rfl, ?_⟩) hHeld ?_ ?_
    rotate_left
    · rintro w' ⟨s0, s1⟩
      go_simp
      with_reducible rfl
    rotate_left
    · simp only [Act.put, List.setIfInBounds_toArray, List.set_cons_zero, List.set_cons_succ, i64_w, i32_w]
      rfl
    refine take_ (i := 7) (N := some 10) (v := ?_) (a' := ?_) Fi8 rfl rfl (by kernel_rfl) (fun _ _ _ h => h) (Or.inl ⟨by rfl, ?_⟩) hHeld ?_ ?_
    rotate_left
    · rintro w' ⟨s0, s1⟩
      go_simp
      with_reducible rfl
    rotate_left
    · simp only [Act.put, List.setIfInBounds_toArray, List.set_cons_zero, List.set_cons_succ, i64_w, i32_w]
      rfl
    refine pure_ (i := 8) (N := some 11) (v := ?_) (a' := ?_) Fi9 rfl rfl (by kernel_rfl) (fun _ _ _ h => h) (Or.inl ⟨by rfl, ?_⟩) ?_ ?_
    rotate_left
    · intro w'
      go_simp
      with_reducible rfl
    rotate_left
    · simp only [Act.put, List.setIfInBounds_toArray, List.set_cons_zero, List.set_cons_succ, i64_w, i32_w]
      rfl
    refine pure_ (i := 9) (N := some 12) (v := ?_) (a' := ?_) Fi10 rfl rfl (by kernel_rfl) (fun _ _ _ h => h) (Or.inl ⟨by rfl, ?_⟩) ?_ ?_
    rotate_left
    · intro w'
      go_simp
      with_reducible rfl
    rotate_left
    · simp only [Act.put, List.setIfInBounds_toArray, List.set_cons_zero, List.set_cons_succ, i64_w, i32_w]
      rfl
    refine pure_ (i := 10) (N := some 13) (v := ?_) (a' := ?_) Fi11 rfl rfl (by kernel_rfl) (fun _ _ _ h => h) (Or.inl ⟨by rfl, ?_⟩) ?_ ?_
    rotate_left
    · intro w'
      go_simp
      with_reducible rfl
    rotate_left
    · simp only [Act.put, List.setIfInBounds_toArray, List.set_cons_zero, List.set_cons_succ, i64_w, i32_w]
      rfl
    refine done_ (by kernel_rfl) ?_
    go_wp2_with (first | ((with_reducible refine gate_store (t := 3) (p := 20) rfl ?_); go_must (refine store_event (t := 3) (p := 20) (v := ?vo_3) (w1 := (w_1.setCell ⟨g, 1, none⟩ (.int .i64 (a + 1)))) ?hg ?ho ?hn ?hr ?_; (case ho => rfl); (case hg => rfl); (case hn => rfl); (case hr => first | (go_simp; done) | (go_simp; rfl)); intro w_2 hw; have B_w_2 : Aside0 (Below (base) w w_2) := ⟨by rw [hw]; exact (Below.setCell B_w_1.out ((Sep.front [] (Row Kd.string 9 (.slice A0 L.length c0) (L) :: l) S_w_1.out).blk_le) _)⟩; have S_w_2 : Aside0 (Sep (base) (Stars (Blk g #[.slice A0 L.length c0, .int .i64 (a + 1)] 54 :: Row Kd.string 9 (.slice A0 L.length c0) (L) :: l)) w_2) := ⟨by rw [hw]; exact Sep.back [] (Row Kd.string 9 (.slice A0 L.length c0) (L) :: l) (Sep.store (Sep.front [] (Row Kd.string 9 (.slice A0 L.length c0) (L) :: l) S_w_1.out) (Nat.le_trans (hbase) B_w_1.out.size) 1 (.int .i64 (a + 1)) (cs' := #[.slice A0 L.length c0, .int .i64 (a + 1)]) rfl)⟩; obtain ⟨c_g_0_w_2, c_g_1_w_2⟩ := XW.cells2 (Sep.front [] (Row Kd.string 9 (.slice A0 L.length c0) (L) :: l) S_w_2.out).blk; obtain ⟨z_g_0_w_2, z_g_1_w_2⟩ := XW.froz2 (Sep.front [] (Row Kd.string 9 (.slice A0 L.length c0) (L) :: l) S_w_2.out).blk; clear S_w_1 c_g_0_w_1 c_g_1_w_1 z_g_0_w_1 z_g_1_w_1; clear hw)))
    go_ret
    exact ⟨rfl, BA.close S_w_2.out, B_w_2.out⟩
theorem sep_store_str {W : World} {F : Assn} {base e g n cap : Nat} {xs : List ByteArray} (HS : Sep base (Star (Row Kd.string e (.slice (some ⟨g, 0, none⟩) n cap) xs) F) W) (hbase : base ≤ W.heap.size) (i : Nat) (hi : i < n) (t : ByteArray) :
    Sep base (Star (Row Kd.string e (.slice (some ⟨g, 0, none⟩) n cap) (xs.set i t)) F) (W.setCell ⟨g, i, none⟩ (.string t)) :=
  sep_store_elem Kd.string rfl (E := Emp) (x' := t) (u := .string t) (fun _ _ => rfl) ((HS.comm.imp (fun f h => star_comm (star_emp h))).comm) hbase i hi
theorem edit_nil (w : World) (t : ByteArray) : Calls Try.prog 34 #[.pointer none, .string t] w fun e w' => (∃ v, e = .returned v) ∧ w = w' := by
  go_enter Try.func34, Try.ntmps34
  go_wp2
  go_end0
  exact ⟨⟨_, rfl⟩, rfl⟩
set_option maxHeartbeats 8000000 in
set_option maxRecDepth 100000 in
theorem edit_is {base g : Nat} {L : List ByteArray} {a : Int} {l : List Assn} (w : World) (h : Sep base (Star (BA 93 g L a) (Stars l)) w) (hbase : base ≤ w.heap.size) (ha0 : 0 ≤ a) (ha1 : a < (L.length : Int)) (hL : L.length ≤ 1000) (t : ByteArray) : Calls Try.prog 34 #[.pointer (some ⟨g, 0, none⟩), .string t] w fun e w' => e = .returned (.tuple #[]) ∧ Sep base (Star (BA 93 g (L.set a.toNat t) a) (Stars l)) w' ∧ Below base w w' := by
  obtain ⟨A0, c0, hl0, hC0, hS⟩ := BA.open h
  have S_w := Aside0.mk hS
  have B_w := Aside0.mk (Below.refl base w)
  clear h hS hC0
  obtain ⟨c_g_0_w, c_g_1_w⟩ := XW.cells2 (Sep.front [] (Row Kd.string 9 (.slice A0 L.length c0) (L) :: l) S_w.out).blk
  obtain ⟨z_g_0_w, z_g_1_w⟩ := XW.froz2 (Sep.front [] (Row Kd.string 9 (.slice A0 L.length c0) (L) :: l) S_w.out).blk
  obtain ⟨k, rfl⟩ : ∃ k : Nat, a = (k : Int) := ⟨a.toNat, by omega⟩
  have hk : k < L.length := by omega
  obtain ⟨gr, hgr, hle⟩ := row_block (g := 0) (Sep.front [Blk g #[.slice A0 L.length c0, .int .i64 (k : Int)] 93] l S_w.out) (by omega)
  subst hgr
  have Hle := Aside0.mk hle
  clear hle
  obtain ⟨ad, hA, xe⟩ := Kd.at_string (Sep.row_at (Sep.front [Blk g #[.slice (some ⟨gr, 0, none⟩) L.length c0, .int .i64 (k : Int)] 93] (l) S_w.out)).1 (k : Int) (by omega) (by omega)
  obtain rfl : (⟨gr, 0, none⟩ : Addr) = ad := by injection hA
  clear hA
  rw [Int.toNat_natCast, add_plain] at xe
  rw [Int.toNat_natCast]
  go_enter Try.func34, Try.ntmps34
  go_upto_region 1 with (fail)
  refine start_ (n := 11) (S := fun w' => w'.cell? ⟨g, 0, none⟩ = some (.slice (some ⟨gr, 0, none⟩) L.length c0) ∧ w'.cell? ⟨g, 1, none⟩ = some (.int .i64 (k : Int)) ∧ w'.cell? ⟨gr, k, none⟩ = some (.string (rdOf ByteArray.empty L (k : Int)))) (ds := [10]) Fi0 (by kernel_rfl) rfl rfl ⟨c_g_0_w, c_g_1_w, xe⟩ (fun hHeld => ?_)
  generalize hdw : w.drew = w_1 at hHeld ⊢
  have HB_w_1 : Aside0 (Below w.heap.size w w_1) := ⟨by rw [← hdw]; exact below_drew1 (Below.refl _ _)⟩
  clear hdw
  have B_w_1 : Aside0 (Below (base) w w_1) := ⟨below_then B_w.out (Nat.le_trans (hbase) B_w.out.size) HB_w_1.out⟩
  have S_w_1 : Aside0 (Sep (base) (Stars (Blk g #[.slice (some ⟨gr, 0, none⟩) L.length c0, .int .i64 (k : Int)] 93 :: Row Kd.string 9 (.slice (some ⟨gr, 0, none⟩) L.length c0) (L) :: l)) w_1) := ⟨Sep.below S_w.out HB_w_1.out⟩
  have Q_w_1 : Aside0 (Below w.heap.size w w_1) := ⟨HB_w_1.out⟩
  have xe_w_1 := pw_cell_below Q_w_1.out xe
  obtain ⟨c_g_0_w_1, c_g_1_w_1⟩ := XW.cells2 (Sep.front [] (Row Kd.string 9 (.slice (some ⟨gr, 0, none⟩) L.length c0) (L) :: l) S_w_1.out).blk
  obtain ⟨z_g_0_w_1, z_g_1_w_1⟩ := XW.froz2 (Sep.front [] (Row Kd.string 9 (.slice (some ⟨gr, 0, none⟩) L.length c0) (L) :: l) S_w_1.out).blk
  clear S_w c_g_0_w c_g_1_w z_g_0_w z_g_1_w
  refine pure_ (i := 0) (N := some 6) (v := ?_) (a' := ?_) Fi1 rfl rfl (by kernel_rfl) (fun _ _ _ h => h) (Or.inl ⟨by rfl, ?_⟩) ?_ ?_
  rotate_left
  · intro w'
    go_simp
    with_reducible rfl
  rotate_left
  · simp only [Act.put, List.setIfInBounds_toArray, List.set_cons_zero, List.set_cons_succ, i64_w, i32_w]
    rfl
  refine pure_ (i := 1) (N := some 7) (v := ?_) (a' := ?_) Fi2 rfl rfl (by kernel_rfl) (fun _ _ _ h => h) (Or.inl ⟨by rfl, ?_⟩) ?_ ?_
  rotate_left
  · intro w'
    go_simp
    with_reducible rfl
  rotate_left
  · simp only [Act.put, List.setIfInBounds_toArray, List.set_cons_zero, List.set_cons_succ, i64_w, i32_w]
    rfl
  refine pure_ (i := 2) (N := some 8) (v := ?_) (a' := ?_) Fi3 rfl rfl (by kernel_rfl) (fun _ _ _ h => h) (Or.inl ⟨by rfl, ?_⟩) ?_ ?_
  rotate_left
  · intro w'
    go_simp
    with_reducible rfl
  rotate_left
  · simp only [Act.put, List.setIfInBounds_toArray, List.set_cons_zero, List.set_cons_succ, i64_w, i32_w]
    rfl
  refine pure_ (i := 4) (N := some 10) (v := ?_) (a' := ?_) Fi4 rfl rfl (by kernel_rfl) (fun _ _ _ h => h) (Or.inl ⟨by rfl, ?_⟩) ?_ ?_
  rotate_left
  · intro w'
    go_simp
    with_reducible rfl
  rotate_left
  · simp only [Act.put, List.setIfInBounds_toArray, List.set_cons_zero, List.set_cons_succ, i64_w, i32_w]
    rfl
  refine pure_ (i := 5) (N := some 11) (v := ?_) (a' := ?_) Fi5 rfl rfl (by kernel_rfl) (fun _ _ _ h => h) (Or.inl ⟨by rfl, ?_⟩) ?_ ?_
  rotate_left
  · intro w'
    go_simp
    with_reducible rfl
  rotate_left
  · simp only [Act.put, List.setIfInBounds_toArray, List.set_cons_zero, List.set_cons_succ, i64_w, i32_w]
    rfl
  refine pure_ (i := 6) (N := some 12) (v := ?_) (a' := ?_) Fi6 rfl rfl (by kernel_rfl) (fun _ _ _ h => h) (Or.inl ⟨by rfl, ?_⟩) ?_ ?_
  rotate_left
  · intro w'
    go_simp
    with_reducible rfl
  rotate_left
  · simp only [Act.put, List.setIfInBounds_toArray, List.set_cons_zero, List.set_cons_succ, i64_w, i32_w]
    rfl
  refine pure_ (i := 8) (N := some 14) (v := ?_) (a' := ?_) Fi44 rfl rfl (by kernel_rfl) (fun _ _ _ h => h) (Or.inl ⟨by rfl, ?_⟩) ?_ ?_
  rotate_left
  · intro w'
    go_simp
    with_reducible rfl
  rotate_left
  · simp only [Act.put, List.setIfInBounds_toArray, List.set_cons_zero, List.set_cons_succ, i64_w, i32_w]
    rfl
  refine take_ (i := 3) (N := some 9) (v := ?_) (a' := ?_) Fi45 rfl rfl (by kernel_rfl) (fun _ _ _ h => h) (Or.inl ⟨by rfl, ?_⟩) hHeld ?_ ?_
  rotate_left
  · rintro w' ⟨s0, s1, s2⟩
    go_simp
    with_reducible rfl
  rotate_left
  · simp only [Act.put, List.setIfInBounds_toArray, List.set_cons_zero, List.set_cons_succ, i64_w, i32_w]
    rfl
  refine take_ (i := 7) (N := some 13) (v := ?_) (a' := ?_) Fi9 rfl rfl (by kernel_rfl) (fun _ _ _ h => h) (Or.inl ⟨by rfl, ?_⟩) hHeld ?_ ?_
  rotate_left
  · rintro w' ⟨s0, s1, s2⟩
    go_simp
    with_reducible rfl
  rotate_left
  · simp only [Act.put, List.setIfInBounds_toArray, List.set_cons_zero, List.set_cons_succ, i64_w, i32_w]
    rfl
  refine pure_ (i := 9) (N := some 15) (v := ?_) (a' := ?_) Fi10 rfl rfl (by kernel_rfl) (fun _ _ _ h => h) (Or.inl ⟨by rfl, ?_⟩) ?_ ?_
  rotate_left
  · intro w'
    go_simp
    with_reducible rfl
  rotate_left
  · simp only [Act.put, List.setIfInBounds_toArray, List.set_cons_zero, List.set_cons_succ, i64_w, i32_w]
    rfl
  refine last_ (i := 10) (N := none) Fi11 rfl rfl (by kernel_rfl) (by decide) (fun K hK => ?_)
  have zr := row_frozen (Sep.front [Blk g #[.slice (some ⟨gr, 0, none⟩) L.length c0, .int .i64 (k : Int)] 93] (l) S_w_1.out) k
  have xe1 := xe_w_1
  refine skip_ (w1 := ?_) (by rfl) rfl ?_ ?_
  rotate_left
  · go_simp
    rfl
  refine hK.out _ _ ?_
  clear hK K
  refine done_ (by kernel_rfl) ?_
  have S_9 := Sep.back [Blk g #[.slice (some ⟨gr, 0, none⟩) L.length c0, .int .i64 (k : Int)] 93] (l) (sep_store_str (Sep.front [Blk g #[.slice (some ⟨gr, 0, none⟩) L.length c0, .int .i64 (k : Int)] 93] (l) S_w_1.out) (Nat.le_trans (hbase) B_w_1.out.size) k hk t)
  have B_9 : Below base w (w_1.setCell ⟨gr, k, none⟩ (.string t)) := Below.setCell B_w_1.out Hle.out _
  have HS9 := Aside0.mk S_9
  have HB9 := Aside0.mk B_9
  clear S_9 B_9
  go_wp2
  go_end0
  refine ⟨rfl, BA.close (v := .slice (some ⟨gr, 0, none⟩) L.length c0) ?_, HB9.out⟩
  exact HS9.out
end Go.Proofs.Ythofobcbbddeeaa.SrchA
