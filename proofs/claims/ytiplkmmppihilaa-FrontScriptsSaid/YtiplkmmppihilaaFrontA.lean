/- Fronts: what they are; has, isMore, Row. Conditions: none beyond those that each theorem states. -/
import Derived.Test.YtiplkmmppihilaaFrontL
import Derived.Test.YtiplkmmppihilaaXU
namespace Go.Proofs.Ytiplkmmppihilaa.FrontA
open Go.RowKit Go.Proofs.YtiplkmmppihilaaW.PrintWords Go.Proofs.YtiplkmmppihilaaW.PrintLast Go.Proofs.YtiplkmmppihilaaW.PrintMore Go.Proofs.Ytiplkmmppihilaa.XS Go.Proofs.Ytiplkmmppihilaa.PFront
set_option linter.unusedVariables false
set_option linter.unusedSimpArgs false
abbrev KI : Kd Int := Kd.int .i64
abbrev KR : Kd (List Int) := Kd.slice 3 (Kd.int .i64)
/-- A front at g with the rows R (T: its type, E: its rows' type). -/
def FA (T E g : Nat) (R : List (List Int)) : Assn := Ex fun v => Star (Blk g #[v] T) (Row KR E v R)
theorem FA.open {T E base g : Nat} {R : List (List Int)} {F : Assn} {w : World} (h : Sep base (Star (FA T E g R) F) w) :
    ∃ A c, R.length ≤ c ∧ w.heap[g]? = some (.cells #[.slice A R.length c] T (0, 0)) ∧ KR.C w A R.length R ∧ Sep base (Star (Blk g #[.slice A R.length c] T) (Star (Row KR E (.slice A R.length c) R) F)) w := by
  obtain ⟨v, h⟩ := h.ex
  have h := h.assoc
  obtain ⟨A, c, rfl, hc, hC⟩ := h.comm.assoc.row
  exact ⟨A, c, hc, h.blk, hC, h⟩
theorem FA.close {T E base g : Nat} {R : List (List Int)} {F : Assn} {w : World} {v : Value} (h : Sep base (Star (Blk g #[v] T) (Star (Row KR E v R) F)) w) : Sep base (Star (FA T E g R) F) w :=
  Sep.ex_mk v h.assoc'
/-- A front as it reads: its slice, the rows. -/
def Fr (T g : Nat) (A : Option Addr) (c : Nat) (R : List (List Int)) (w : World) : Prop := R.length ≤ c ∧ w.cell? ⟨g, 0, none⟩ = some (.slice A R.length c) ∧ KR.C w A R.length R
theorem Fr.below {T g : Nat} {A : Option Addr} {c : Nat} {R : List (List Int)} {w w1 : World} (h : Fr T g A c R w) (hb : Below w.heap.size w w1) : Fr T g A c R w1 := ⟨h.1, pw_cell_below hb h.2.1, Kd.C_below h.2.2 hb⟩
theorem FA.fr {T E base g : Nat} {R : List (List Int)} {F : Assn} {w : World} (h : Sep base (Star (FA T E g R) F) w) : ∃ A c, Fr T g A c R w := by
  obtain ⟨A, c, h1, h2, h3, _⟩ := FA.open h
  exact ⟨A, c, h1, XW.cells1 h2, h3⟩
/-- So many rows, each as long, of numbers that may be. -/
def Good (R : List (List Int)) : Prop := 1 ≤ R.length ∧ R.length ≤ 16 ∧ ∀ l ∈ R, l.length = R.length ∧ Vok l
theorem rdL_mem (R : List (List Int)) (i : Nat) (h : i < R.length) : rd_L1 R i ∈ R := by
  simp only [rd_L1, Int.toNat_natCast, List.getD_eq_getElem?_getD, List.getElem?_eq_getElem h, Option.getD_some]
  exact List.getElem_mem h
theorem Good.row {R : List (List Int)} (h : Good R) (i : Nat) (hi : i < R.length) : (rd_L1 R i).length = R.length ∧ Vok (rd_L1 R i) := h.2.2 _ (rdL_mem R i hi)
theorem zeros_is (l : List Int) (K : Nat) (hl : l.length ≤ 1000) (hK : 3000 ≤ K) : duetref09_zeros.f K l = some (decide (l = List.replicate l.length 0)) := by
  unfold duetref09_zeros.f
  rw [zero_is _ K hl (by omega), Option.bind_some, same_is _ _ K (by omega) (by omega)]
  try rfl
theorem max_zero {l : List Int} (h : Vok l) : decide (0 < maxTo l (l.length - 1)) = !decide (l = List.replicate l.length 0) := by
  by_cases c : l = List.replicate l.length 0
  · rw [decide_eq_true c, decide_eq_false]; rfl
    intro h0
    obtain ⟨i, hi, h1⟩ := (maxTo_gt l 0 _).mp h0
    have hm : rd l i ∈ l := rd_mem l i (by have := h.1; omega)
    have h2 : ∀ x ∈ l, x = 0 := fun x hx => by rw [c, List.mem_replicate] at hx; exact hx.2
    have := h2 _ hm
    omega
  · rw [decide_eq_false c, decide_eq_true]; rfl
    apply Classical.byContradiction
    intro h0
    apply c
    rw [List.eq_replicate_iff]
    refine ⟨rfl, fun b hb => ?_⟩
    have h1 := h.2.2 b hb
    obtain ⟨i, hi, rfl⟩ := mem_rd hb
    have h2 : ¬ rd l i > 0 := fun hc => h0 ((maxTo_gt l 0 _).mpr ⟨i, by omega, hc⟩)
    omega
/-- Does a site tell of more of another one than can be? -/
def more (R : List (List Int)) (s o n : Int) : Bool := o != s && !decide (rd_L1 R o = List.replicate (rd_L1 R o).length 0) && decide (rd (rd_L1 R o) o < n) && decide (rd (rd_L1 R s) o < n)

theorem has_nil (w : World) (s : Int) : Calls Try.prog 56 #[.pointer none, .int .i64 s] w fun e w' => e = .returned (.bool false) ∧ w = w' := by
  go_enter Try.func56, Try.ntmps56
  go_wp2
  go_ret
  exact ⟨rfl, rfl⟩
set_option maxHeartbeats 1000000 in
theorem has_is {g c : Nat} {A : Option Addr} {R : List (List Int)} (w : World) (s : Int) (h : Fr 103 g A c R w) : Calls Try.prog 56 #[.pointer (some ⟨g, 0, none⟩), .int .i64 s] w fun e w' => e = .returned (.bool (decide (0 ≤ s ∧ s < (R.length : Int)))) ∧ w = w' := by
  have x0 := h.2.1
  clear h
  by_cases h0 : 0 ≤ s
  · have d0 : decide (0 ≤ s) = true := decide_eq_true h0
    by_cases h1 : s < (R.length : Int)
    · have d1 : decide (s < (R.length : Int)) = true := decide_eq_true h1
      rw [decide_eq_true (⟨h0, h1⟩ : 0 ≤ s ∧ s < (R.length : Int))]
      clear h0 h1
      go_enter Try.func56, Try.ntmps56
      go_wp2
      go_ret
      exact ⟨rfl, rfl⟩
    · have d1 : decide (s < (R.length : Int)) = false := decide_eq_false h1
      rw [decide_eq_false (fun h : 0 ≤ s ∧ s < (R.length : Int) => h1 h.2)]
      clear h0 h1
      go_enter Try.func56, Try.ntmps56
      go_wp2
      go_ret
      exact ⟨rfl, rfl⟩
  · have d0 : decide (0 ≤ s) = false := decide_eq_false h0
    rw [decide_eq_false (fun h : 0 ≤ s ∧ s < (R.length : Int) => h0 h.1)]
    clear h0
    go_enter Try.func56, Try.ntmps56
    go_wp2
    go_ret
    exact ⟨rfl, rfl⟩
set_option maxHeartbeats 2000000 in
theorem more_is {g c : Nat} {A : Option Addr} {R : List (List Int)} (w : World) (s ot n : Int) (h : Fr 103 g A c R w) (hG : Good R) (hs0 : 0 ≤ s) (hs1 : s < (R.length : Int)) (ho0 : 0 ≤ ot) (ho1 : ot < (R.length : Int)) : Calls Try.prog 58 #[.pointer (some ⟨g, 0, none⟩), .int .i64 s, .int .i64 ot, .int .i64 n] w fun e w' => e = .returned (.bool (more R s ot n)) ∧ Below w.heap.size w w' := by
  have x0 := h.2.1
  have B_w := Aside0.mk (Below.refl w.heap.size w)
  have S_w : Aside0 (Sep w.heap.size (Stars []) w) := ⟨Sep.emp _ _⟩
  obtain ⟨lo, hv⟩ : (rd_L1 R ot).length = R.length ∧ Vok (rd_L1 R ot) := by have := hG.row ot.toNat (by omega); rwa [show ((ot.toNat : Nat) : Int) = ot by omega] at this
  have ls : (rd_L1 R s).length = R.length := by have := (hG.row s.toNat (by omega)).1; rwa [show ((s.toNat : Nat) : Int) = s by omega] at this
  obtain ⟨ad, Ao, co, hA, xo, hco, hCo⟩ := at_L1 h.2.2 ot ho0 ho1
  obtain ⟨ad', As, cs, hA', xs, hcs, hCs⟩ := at_L1 h.2.2 s hs0 hs1
  rw [hA] at hA'
  injection hA' with hA'
  subst hA' hA
  have hno : vec_Vec_int_76.f (rd_L1 R ot) = some (maxTo (rd_L1 R ot) ((rd_L1 R ot).length - 1)) := by unfold vec_Vec_int_76.f; rw [if_neg (by omega)]
  have hmz := max_zero hv
  obtain ⟨aoo, rfl, xoo⟩ := Kd.at_int hCo ot ho0 (by omega)
  obtain ⟨aso, rfl, xso⟩ := Kd.at_int hCs ot ho0 (by omega)
  have HCo := Aside0.mk hCo
  have Hco := Aside0.mk hco
  have Hno := Aside0.mk hno
  have q4 : ot < ((rd_L1 R ot).length : Int) := by omega
  have q5 : ot < ((rd_L1 R s).length : Int) := by omega
  clear hCo hCs hco hcs hno h hv
  unfold more
  by_cases c0 : ot = s
  · have d0 : (ot != s) = false := bne_eq_false_iff_eq.mpr c0
    clear c0
    rw [d0]
    simp only [Bool.false_and]
    clear hG lo ls
    go_enter Try.func58, Try.ntmps58
    go_wp2
    go_ret
    exact ⟨rfl, B_w.out⟩
  have d0 : (ot != s) = true := bne_iff_ne.mpr c0
  clear c0
  rw [d0, ← hmz]
  clear hmz
  try simp only [Bool.true_and]
  by_cases c1 : 0 < maxTo (rd_L1 R ot) ((rd_L1 R ot).length - 1)
  case neg =>
    have d1 : decide (0 < maxTo (rd_L1 R ot) ((rd_L1 R ot).length - 1)) = false := decide_eq_false c1
    rw [d1]
    clear c1
    try simp only [Bool.false_and, Bool.and_false, Bool.true_and]
    clear hG lo ls
    go_enter Try.func58, Try.ntmps58
    go_wp2_with (first | (go_at_call 76; (with_reducible refine (vec_Vec_int_76.at _ _ _ _ _ _ HCo.out Hco.out Hno.out).mono ?_); rintro e w_1 ⟨rfl, hb0⟩; have hb := Aside0.mk hb0; clear hb0; have B_w_1 : Aside0 (Below (w.heap.size) w w_1) := ⟨below_then B_w.out B_w.out.size hb.out.below⟩; have S_w_1 : Aside0 (Sep (w.heap.size) (Stars []) w_1) := ⟨Sep.below S_w.out hb.out.below⟩; have Q_w_1 : Aside0 (Below w.heap.size w w_1) := ⟨hb.out.below⟩; have x0_w_1 := pw_cell_below Q_w_1.out x0; have xo_w_1 := pw_cell_below Q_w_1.out xo; have xs_w_1 := pw_cell_below Q_w_1.out xs; have xoo_w_1 := pw_cell_below Q_w_1.out xoo; have xso_w_1 := pw_cell_below Q_w_1.out xso; clear S_w; clear hb))
    go_ret
    exact ⟨rfl, B_w_1.out⟩
  have d1 : decide (0 < maxTo (rd_L1 R ot) ((rd_L1 R ot).length - 1)) = true := decide_eq_true c1
  rw [d1]
  clear c1
  try simp only [Bool.true_and]
  by_cases c1 : rd (rd_L1 R ot) ot < n
  case neg =>
    have d2 : decide (rd (rd_L1 R ot) ot < n) = false := decide_eq_false c1
    rw [d2]
    clear c1
    try simp only [Bool.false_and, Bool.and_false, Bool.true_and]
    clear hG lo ls
    go_enter Try.func58, Try.ntmps58
    go_wp2_with (first | (go_at_call 76; (with_reducible refine (vec_Vec_int_76.at _ _ _ _ _ _ HCo.out Hco.out Hno.out).mono ?_); rintro e w_1 ⟨rfl, hb0⟩; have hb := Aside0.mk hb0; clear hb0; have B_w_1 : Aside0 (Below (w.heap.size) w w_1) := ⟨below_then B_w.out B_w.out.size hb.out.below⟩; have S_w_1 : Aside0 (Sep (w.heap.size) (Stars []) w_1) := ⟨Sep.below S_w.out hb.out.below⟩; have Q_w_1 : Aside0 (Below w.heap.size w w_1) := ⟨hb.out.below⟩; have x0_w_1 := pw_cell_below Q_w_1.out x0; have xo_w_1 := pw_cell_below Q_w_1.out xo; have xs_w_1 := pw_cell_below Q_w_1.out xs; have xoo_w_1 := pw_cell_below Q_w_1.out xoo; have xso_w_1 := pw_cell_below Q_w_1.out xso; clear S_w; clear hb))
    go_ret
    exact ⟨rfl, B_w_1.out⟩
  have d2 : decide (rd (rd_L1 R ot) ot < n) = true := decide_eq_true c1
  rw [d2]
  clear c1
  try simp only [Bool.true_and]
  by_cases c1 : rd (rd_L1 R s) ot < n
  case neg =>
    have d3 : decide (rd (rd_L1 R s) ot < n) = false := decide_eq_false c1
    rw [d3]
    clear c1
    try simp only [Bool.false_and, Bool.and_false, Bool.true_and]
    clear hG lo ls
    go_enter Try.func58, Try.ntmps58
    go_wp2_with (first | (go_at_call 76; (with_reducible refine (vec_Vec_int_76.at _ _ _ _ _ _ HCo.out Hco.out Hno.out).mono ?_); rintro e w_1 ⟨rfl, hb0⟩; have hb := Aside0.mk hb0; clear hb0; have B_w_1 : Aside0 (Below (w.heap.size) w w_1) := ⟨below_then B_w.out B_w.out.size hb.out.below⟩; have S_w_1 : Aside0 (Sep (w.heap.size) (Stars []) w_1) := ⟨Sep.below S_w.out hb.out.below⟩; have Q_w_1 : Aside0 (Below w.heap.size w w_1) := ⟨hb.out.below⟩; have x0_w_1 := pw_cell_below Q_w_1.out x0; have xo_w_1 := pw_cell_below Q_w_1.out xo; have xs_w_1 := pw_cell_below Q_w_1.out xs; have xoo_w_1 := pw_cell_below Q_w_1.out xoo; have xso_w_1 := pw_cell_below Q_w_1.out xso; clear S_w; clear hb))
    go_ret
    exact ⟨rfl, B_w_1.out⟩
  have d3 : decide (rd (rd_L1 R s) ot < n) = true := decide_eq_true c1
  rw [d3]
  clear c1
  try simp only [Bool.true_and]
  clear hG lo ls
  go_enter Try.func58, Try.ntmps58
  go_wp2_with (first | (go_at_call 76; (with_reducible refine (vec_Vec_int_76.at _ _ _ _ _ _ HCo.out Hco.out Hno.out).mono ?_); rintro e w_1 ⟨rfl, hb0⟩; have hb := Aside0.mk hb0; clear hb0; have B_w_1 : Aside0 (Below (w.heap.size) w w_1) := ⟨below_then B_w.out B_w.out.size hb.out.below⟩; have S_w_1 : Aside0 (Sep (w.heap.size) (Stars []) w_1) := ⟨Sep.below S_w.out hb.out.below⟩; have Q_w_1 : Aside0 (Below w.heap.size w w_1) := ⟨hb.out.below⟩; have x0_w_1 := pw_cell_below Q_w_1.out x0; have xo_w_1 := pw_cell_below Q_w_1.out xo; have xs_w_1 := pw_cell_below Q_w_1.out xs; have xoo_w_1 := pw_cell_below Q_w_1.out xoo; have xso_w_1 := pw_cell_below Q_w_1.out xso; clear S_w; clear hb))
  go_ret
  exact ⟨rfl, B_w_1.out⟩
/-- The row of a site; none where there is no such site. -/
def rowOf (R : List (List Int)) (s : Int) : List Int := if 0 ≤ s ∧ s < (R.length : Int) then rd_L1 R s else []
theorem row_nil (w : World) (s : Int) : Calls Try.prog 46 #[.pointer none, .int .i64 s] w fun e w' => e = .returned (.slice none 0 0) ∧ w = w' := by
  go_enter Try.func46, Try.ntmps46
  go_wp2_with (first | (go_at_call 56; (with_reducible refine (has_nil _ _).mono ?_); rintro e w' ⟨rfl, rfl⟩))
  go_ret
  exact ⟨rfl, rfl⟩
set_option maxHeartbeats 1000000 in
theorem row_is {g c : Nat} {A : Option Addr} {R : List (List Int)} (w : World) (s : Int) (h : Fr 103 g A c R w) (hG : Good R) : Calls Try.prog 46 #[.pointer (some ⟨g, 0, none⟩), .int .i64 s] w fun e w' => ∃ v : Value, e = .returned v ∧ Kd.R KI 3 w' w.heap.size (fun _ => True) v (rowOf R s) ∧ Below w.heap.size w w' := by
  have x0 := h.2.1
  have H := Aside0.mk h
  unfold rowOf
  by_cases h0 : 0 ≤ s ∧ s < (R.length : Int)
  · have d0 : decide (0 ≤ s ∧ s < (R.length : Int)) = true := decide_eq_true h0
    have q0 : 0 ≤ s := h0.1
    have q1 : s < (R.length : Int) := h0.2
    rw [if_pos h0]
    obtain ⟨ad, As, cs, rfl, xs, hcs, hCs⟩ := at_L1 h.2.2 s h0.1 h0.2
    have hno : vec_Vec_int_66.f (rd_L1 R s) = some (rd_L1 R s) := by
      unfold vec_Vec_int_66.f
      rw [if_pos]
      have := (hG.row s.toNat (by omega)).1
      rw [show ((s.toNat : Nat) : Int) = s by omega] at this
      have := hG.2.1
      omega
    have HCs := Aside0.mk hCs
    have Hcs := Aside0.mk hcs
    have Hno := Aside0.mk hno
    clear hCs hcs hno hG h h0
    go_enter Try.func46, Try.ntmps46
    go_wp2_with (first | (go_at_call 56; (with_reducible refine (has_is _ _ H.out).mono ?_); rintro e w' ⟨rfl, rfl⟩) | (go_at_call 66; (with_reducible refine (vec_Vec_int_66.at _ _ _ _ _ _ HCs.out Hcs.out Hno.out).mono ?_); rintro e w' ⟨v, rfl, hr, hb⟩; have HR := Aside0.mk hr; have HB := Aside0.mk hb; clear hr hb))
    go_ret
    exact ⟨v, rfl, HR.out, HB.out⟩
  · have d0 : decide (0 ≤ s ∧ s < (R.length : Int)) = false := decide_eq_false h0
    rw [if_neg h0]
    clear hG h h0
    go_enter Try.func46, Try.ntmps46
    go_wp2_with (first | (go_at_call 56; (with_reducible refine (has_is _ _ H.out).mono ?_); rintro e w' ⟨rfl, rfl⟩))
    go_ret
    exact ⟨_, rfl, Kd.R_nil _ _ _ _ _, Below.refl _ _⟩
set_option maxHeartbeats 1000000 in
theorem refrow_is {g c : Nat} {A : Option Addr} {R : List (List Int)} (w : World) (s : Int) (h : Fr 105 g A c R w) : Calls Try.prog 47 #[.pointer (some ⟨g, 0, none⟩), .int .i64 s] w fun e w' => ∃ A1 c1, e = .returned (.slice A1 (rowOf R s).length c1) ∧ (rowOf R s).length ≤ c1 ∧ KI.C w' A1 (rowOf R s).length (rowOf R s) ∧ w = w' := by
  have x0 := h.2.1
  unfold rowOf
  by_cases h0 : 0 ≤ s
  · have q0 : decide (s < 0) = false := decide_eq_false (by omega)
    by_cases h1 : s < (R.length : Int)
    · have q1 : decide ((R.length : Int) ≤ s) = false := decide_eq_false (by omega)
      obtain ⟨ad, As, cs, rfl, xs, hcs, hCs⟩ := at_L1 h.2.2 s h0 h1
      have HCs := Aside0.mk hCs
      have Hcs := Aside0.mk hcs
      rw [if_pos ⟨h0, h1⟩]
      clear hCs hcs h
      go_enter Try.func47, Try.ntmps47
      go_wp2
      go_ret
      exact ⟨As, cs, rfl, Hcs.out, HCs.out, rfl⟩
    · have q1 : decide ((R.length : Int) ≤ s) = true := decide_eq_true (by omega)
      rw [if_neg (fun h => h1 h.2)]
      clear h h0 h1
      go_enter Try.func47, Try.ntmps47
      go_wp2
      go_ret
      exact ⟨none, 0, rfl, Nat.le_refl _, Kd.C_nil _ _, rfl⟩
  · have q0 : decide (s < 0) = true := decide_eq_true (by omega)
    rw [if_neg (fun h => h0 h.1)]
    clear h h0
    go_enter Try.func47, Try.ntmps47
    go_wp2
    go_ret
    exact ⟨none, 0, rfl, Nat.le_refl _, Kd.C_nil _ _, rfl⟩
end Go.Proofs.Ytiplkmmppihilaa.FrontA
