/- Searches: the ways through lines (iterators), the first line of a way that fits. Conditions: none beyond those that each theorem states. -/
import Derived.Test.YthofobcbbddeeaaSrchB
import Derived.Test.YthofobcbbddeeaaSrchS
import Derived.RangeFuncNested
import Derived.RangeFuncBound
import Derived.RangeFuncCalls
import Derived.RangeFuncLeaves
import Derived.RangeFuncBox
import Derived.Shelf.Abstract
import Derived.Shelf.RegionOpen
import Derived.WalkKit
import Derived.OwnWalkIn
import Derived.TacticsInMore
import Derived.LoopNIn
import Derived.LoopIn
namespace Go.Proofs.Ythofobcbbddeeaa.SrchA
open Go.RowKit Go.Shelf Go.Proofs.YthofobcbbddeeaaW.PrintWords Go.Proofs.YthofobcbbddeeaaW.PrintLast Go.Proofs.YthofobcbbddeeaaW.PrintMore Go.Proofs.Ythofobcbbddeeaa.XS Go.Proofs.Ythofobcbbddeeaa.PSrch
set_option linter.unusedVariables false
set_option linter.unusedSimpArgs false
attribute [local go_sem] Oper.semAt_some
/-- A line on a way: its place, its text (short). -/
abbrev Ln := { x : Int × ByteArray // x.2.size ≤ 1000 }
def cl (t : ByteArray) : ByteArray := if t.size ≤ 1000 then t else ByteArray.empty
theorem cl_le (t : ByteArray) : (cl t).size ≤ 1000 := by
  unfold cl
  split
  · assumption
  · exact Nat.zero_le _
theorem cl_short {t : ByteArray} (h : t.size ≤ 1000) : cl t = t := by unfold cl; rw [if_pos h]
def ln (i : Int) (t : ByteArray) : Ln := ⟨(i, cl t), cl_le t⟩
abbrev encL (x : Ln) : Array Value := #[.int .i64 x.1.1, .string x.1.2]
/-- The first k lines, the last one first. -/
def downs (L : List ByteArray) : Nat → List Ln
  | 0 => []
  | k + 1 => ln (k : Int) (rdOf ByteArray.empty L (k : Int)) :: downs L k
theorem downs_len (L : List ByteArray) : ∀ k : Nat, (downs L k).length = k
  | 0 => rfl
  | k + 1 => by rw [downs, List.length_cons, downs_len L k]
/-- The d lines from i on. -/
def ups (L : List ByteArray) : Nat → Nat → List Ln
  | _, 0 => []
  | i, d + 1 => ln (i : Int) (rdOf ByteArray.empty L (i : Int)) :: ups L (i + 1) d
theorem ups_len (L : List ByteArray) : ∀ d i : Nat, (ups L i d).length = d
  | 0, _ => rfl
  | d + 1, i => by rw [ups, List.length_cons, ups_len L d]
/-- The place of the first one that fits; -1: there is none. -/
def firstF (q : ByteArray) : List Ln → Int
  | [] => -1
  | x :: xs => if fit x.1.2 q = true then x.1.1 else firstF q xs
theorem firstF_none {q : ByteArray} : ∀ {xs : List Ln}, (∀ y ∈ xs, fit y.1.2 q = false) → firstF q xs = -1
  | [], _ => rfl
  | x :: xs, h => by
    rw [firstF, if_neg (by rw [h x (List.mem_cons_self ..)]; decide)]
    exact firstF_none (fun y hy => h y (List.mem_cons_of_mem _ hy))
theorem firstF_at {q : ByteArray} {x : Ln} {rest : List Ln} (hx : fit x.1.2 q = true) : ∀ {ini : List Ln}, (∀ y ∈ ini, fit y.1.2 q = false) → firstF q (ini ++ x :: rest) = x.1.1
  | [], _ => by rw [List.nil_append, firstF, if_pos hx]
  | y :: ini, h => by
    rw [List.cons_append, firstF, if_neg (by rw [h y (List.mem_cons_self ..)]; decide)]
    exact firstF_at hx (fun z hz => h z (List.mem_cons_of_mem _ hz))
theorem first_downs (L : List ByteArray) (q : ByteArray) (hS : Short L) : ∀ k : Nat, k ≤ L.length → firstF q (downs L k) = lastF L q k
  | 0, _ => rfl
  | k + 1, hk => by
    rw [downs, firstF, lastF, first_downs L q hS k (by omega)]
    show (if fit (cl (rdOf ByteArray.empty L (k : Int))) q = true then (k : Int) else _) = _
    rw [cl_short (hS k (by omega))]
/-- The first of the d lines from i on that fits; -1: there is none. -/
def nextF (L : List ByteArray) (q : ByteArray) : Nat → Nat → Int
  | _, 0 => -1
  | i, d + 1 => if fit (rdOf ByteArray.empty L (i : Int)) q = true then (i : Int) else nextF L q (i + 1) d
theorem first_ups (L : List ByteArray) (q : ByteArray) (hS : Short L) : ∀ d i : Nat, i + d ≤ L.length → firstF q (ups L i d) = nextF L q i d
  | 0, _, _ => rfl
  | d + 1, i, hk => by
    rw [ups, firstF, nextF, first_ups L q hS d (i + 1) (by omega)]
    show (if fit (cl (rdOf ByteArray.empty L (i : Int))) q = true then (i : Int) else _) = _
    rw [cl_short (hS i (by omega))]

/-! ### slices.Backward -/
set_option maxRecDepth 100000 in
set_option maxHeartbeats 4000000 in
theorem back1_in (F : Fence) (n : Nat) (h91 : F.fn 91) (hro : F.round = none) (hn : 1 ≤ n) (l B c k : Nat) (A : Option Addr) (L : List ByteArray) (w0 : World) (hk : k ≤ 1000) (hkc : k ≤ c)
    (hB : w0.cell? ⟨B, 0, none⟩ = some (.slice A k c)) (hat : ∀ j : Nat, j < k → ∃ ad, A = some ad ∧ w0.cell? (ad.add j) = some (.string (cl (rdOf ByteArray.empty L (j : Int))))) (J Jx : List Ln → World → Prop)
    (hY : ∀ pre x W, J pre W → pre.length < k → YieldAt F (n - 1) Try.prog l (encL x) W fun e W' => (e = .returned (.bool true) ∧ J (pre ++ [x]) W' ∧ Below w0.heap.size W W') ∨ (e = .returned (.bool false) ∧ Jx (pre ++ [x]) W'))
    (W : World) (hW : Below w0.heap.size w0 W) (h0 : J [] W) :
    CallsIn F n Try.prog 91 #[.func (.yield l) #[] #[], .pointer (some ⟨B, 0, none⟩)] W fun e W' => (∃ v, e = .returned v) ∧ ((∃ ys, ys = downs L k ∧ J ys W') ∨ (∃ pre, (∃ rest, pre ++ rest = downs L k) ∧ Jx pre W')) := by
  have hBW := pw_cell_below hW hB
  have hw1 : wrap64 ((k : Int) - 1) = (k : Int) - 1 := by unfold wrap64; omega
  refine callsIn_of_wp Try.func91 rfl h91 ?_ hro
  simp only [Try.ntmps91, List.size_toArray, List.length_cons, List.length_nil, Nat.reduceAdd, Nat.reduceSub, Array.replicate_succ, Array.replicate_zero, List.push_toArray, List.append_toArray, List.nil_append, List.cons_append]
  gi_wp2
  gi_loopw [3] (fun i wr => ∃ (m : Nat) (pre : List Ln), m ≤ k ∧ i = .int .i64 ((m : Int) - 1) ∧ pre ++ downs L m = downs L k ∧ J pre wr ∧ Below w0.heap.size w0 wr)
    (fun i _ => (intOf i + 1).toNat)
  case atStart => exact ⟨k, [], Nat.le_refl _, rfl, rfl, h0, hW⟩
  case round =>
    obtain ⟨m, pre, hm, rfl, hpre, hJs, hbw⟩ := hrel
    cases m with
    | zero =>
      have hz : ((0 : Nat) : Int) - 1 = -1 := by omega
      rw [hz]
      gi_wp2
      go_end0
      exact ⟨⟨_, rfl⟩, .inl ⟨pre, by rw [← hpre]; simp [downs], hJs⟩⟩
    | succ m =>
      have hz : ((m + 1 : Nat) : Int) - 1 = (m : Int) := by omega
      rw [hz]
      have hm0 : (0 : Int) ≤ (m : Int) := by omega
      have hmk : (m : Int) < (k : Int) := by omega
      have hw2 : wrap64 ((m : Int) - 1) = (m : Int) - 1 := by unfold wrap64; omega
      obtain ⟨ad, rfl, hx⟩ := hat m (by omega)
      have hBr := pw_cell_below hbw hB
      have hxr := pw_cell_below hbw hx
      have hlen : pre.length < k := by have := congrArg List.length hpre; rw [List.length_append, downs_len, downs_len] at this; omega
      obtain ⟨fn, tmps, assign, body, hy, hR⟩ := hY pre (ln (m : Int) (rdOf ByteArray.empty L (m : Int))) wr hJs hlen
      dsimp only [encL, ln] at hy
      generalize cl (rdOf ByteArray.empty L (m : Int)) = t at hx hxr hy
      clear hx
      gi_wp2
      refine hR.mono ?_
      rintro e W3 (⟨rfl, hJ3, hk3⟩ | ⟨rfl, hJx3⟩)
      · gi_wp2
        go_roundw
        case rel => exact ⟨m, _, by omega, rfl, by rw [List.append_assoc]; exact hpre, hJ3, hbw.trans hk3⟩
        case measure => simp [intOf] <;> omega
      · gi_wp2
        refine bodyPost_ret (results_none rfl _ _ _) rfl ?_
        exact ⟨⟨_, rfl⟩, .inr ⟨_, ⟨downs L m, by rw [List.append_assoc]; exact hpre⟩, hJx3⟩⟩
/-- The way back: the first k of the lines, the last one first. -/
theorem back_stops {g c0 c1 : Nat} {A0 A1 : Option Addr} {L : List ByteArray} {Q : List Int} {p : Int} (n : Nat) (hn : 1 ≤ n) (w0 w1 : World) (h : Sf .i32 g A0 c0 A1 c1 L Q p w0) (hS : Short L) (hL : L.length ≤ 1000) (k : Nat) (hk : k ≤ L.length) (B : Nat) (hB : w1.cell? ⟨B, 0, none⟩ = some (.slice A0 k c0)) (h01 : Below w0.heap.size w0 w1) :
    SeqStopsK Fence.wide n Try.prog 91 #[.pointer (some ⟨B, 0, none⟩)] encL (Below w1.heap.size) (fun ys => ys = downs L k) (fun pre => ∃ rest, pre ++ rest = downs L k) k w1 := fun l J Jx W hW _ _ hY hJ0 => by
  have h1 := h.below h01
  refine back1_in Fence.wide n trivial rfl hn l B c0 k A0 L w1 (by omega) (by have := h.l0; omega) hB (fun j hj => ?_) J Jx hY W hW hJ0
  obtain ⟨ad, e, hx⟩ := Kd.at_string h1.C0 (j : Int) (by omega) (by omega)
  rw [Int.toNat_natCast] at hx
  exact ⟨ad, e, by rw [cl_short (hS j (by omega))]; exact hx⟩
theorem backward_is (w : World) (A : Option Addr) (k c : Nat) : Calls Try.prog 87 #[.slice A k c] w fun e w' => ∃ B, e = .returned (.func (.func 91) #[] #[.pointer (some ⟨B, 0, none⟩)]) ∧ w'.cell? ⟨B, 0, none⟩ = some (.slice A k c) ∧ Below w.heap.size w w' := by
  go_enter Try.func87, Try.ntmps87
  go_wp2
  go_ret
  exact ⟨w.heap.size, rfl, (Boxed.new w 42 (.slice A k c)).cell, (Below.refl _ w).alloc (Nat.le_refl _) _⟩
set_option maxHeartbeats 2000000 in
/-- back: the way back through the first k lines. -/
theorem back_is {g c0 c1 : Nat} {A0 A1 : Option Addr} {L : List ByteArray} {Q : List Int} {p : Int} (w : World) (h : Sf .i32 g A0 c0 A1 c1 L Q p w) (hL : L.length ≤ 1000) (k : Nat) (hk : k ≤ L.length) (i0 : Int) (hi0 : i0 = (k : Int) - 1) : Calls Try.prog 70 #[.pointer (some ⟨g, 0, none⟩), .int .i64 i0] w fun e w' => ∃ B, e = .returned (.func (.func 91) #[] #[.pointer (some ⟨B, 0, none⟩)]) ∧ w'.cell? ⟨B, 0, none⟩ = some (.slice A0 k c0) ∧ Below w.heap.size w w' := by
  subst hi0
  have x0 := h.x0
  have hl0 := h.l0
  have hC0 := h.C0
  clear h
  have hz : (k : Int) - 1 + 1 = (k : Int) := by omega
  have hw : wrap64 ((k : Int) - 1 + 1) = (k : Int) := by unfold wrap64; omega
  have hk0 : (0 : Int) ≤ (k : Int) := by omega
  have hkc : k ≤ c0 := by omega
  have hkc2 : (k : Int) ≤ (c0 : Int) := by omega
  go_enter Try.func70, Try.ntmps70
  go_wp2_with (first | (go_at_call 87; (with_reducible refine (backward_is _ _ _ _).mono ?_); rintro e w_1 ⟨B, rfl, hB, hb⟩))
  go_ret
  exact ⟨B, rfl, hB, hb⟩

/-! ### On's own way -/
set_option maxRecDepth 100000 in
set_option maxHeartbeats 4000000 in
theorem on1_in (F : Fence) (n : Nat) (h73 : F.fn 73) (hro : F.round = none) (hn : 1 ≤ n) (l B g c len p : Nat) (A : Option Addr) (L : List ByteArray) (w0 : World) (hp : p < len) (hlen : len ≤ 1000)
    (hB : w0.cell? ⟨B, 0, none⟩ = some (.pointer (some ⟨g, 0, none⟩))) (x0 : w0.cell? ⟨g, 0, none⟩ = some (.slice A len c)) (x2 : w0.cell? ⟨g, 2, none⟩ = some (.int .i64 (p : Int))) (hat : ∀ j : Nat, j < len → ∃ ad, A = some ad ∧ w0.cell? (ad.add j) = some (.string (cl (rdOf ByteArray.empty L (j : Int))))) (J Jx : List Ln → World → Prop)
    (hY : ∀ pre x W, J pre W → pre.length < len - (p + 1) → YieldAt F (n - 1) Try.prog l (encL x) W fun e W' => (e = .returned (.bool true) ∧ J (pre ++ [x]) W' ∧ Below w0.heap.size W W') ∨ (e = .returned (.bool false) ∧ Jx (pre ++ [x]) W'))
    (W : World) (hW : Below w0.heap.size w0 W) (h0 : J [] W) :
    CallsIn F n Try.prog 73 #[.func (.yield l) #[] #[], .pointer (some ⟨B, 0, none⟩)] W fun e W' => (∃ v, e = .returned v) ∧ ((∃ ys, ys = ups L (p + 1) (len - (p + 1)) ∧ J ys W') ∨ (∃ pre, (∃ rest, pre ++ rest = ups L (p + 1) (len - (p + 1))) ∧ Jx pre W')) := by
  have hBW := pw_cell_below hW hB
  have x2W := pw_cell_below hW x2
  have hw1 : wrap64 ((p : Int) + 1) = (p : Int) + 1 := by unfold wrap64; omega
  refine callsIn_of_wp Try.func73 rfl h73 ?_ hro
  simp only [Try.ntmps73, List.size_toArray, List.length_cons, List.length_nil, Nat.reduceAdd, Nat.reduceSub, Array.replicate_succ, Array.replicate_zero, List.push_toArray, List.append_toArray, List.nil_append, List.cons_append]
  gi_wp2
  gi_loopw [3] (fun i wr => ∃ (m : Nat) (pre : List Ln), m ≤ len ∧ i = .int .i64 (m : Int) ∧ pre ++ ups L m (len - m) = ups L (p + 1) (len - (p + 1)) ∧ J pre wr ∧ Below w0.heap.size w0 wr)
    (fun i _ => len - (intOf i).toNat)
  case atStart => exact ⟨p + 1, [], by omega, rfl, rfl, h0, hW⟩
  case round =>
    obtain ⟨m, pre, hm, rfl, hpre, hJs, hbw⟩ := hrel
    have hBr := pw_cell_below hbw hB
    have x0r := pw_cell_below hbw x0
    have hm0 : (0 : Int) ≤ (m : Int) := by omega
    by_cases hlt : m < len
    · have hlt2 : (m : Int) < (len : Int) := by omega
      have hw2 : wrap64 ((m : Int) + 1) = (m : Int) + 1 := by unfold wrap64; omega
      obtain ⟨ad, rfl, hx⟩ := hat m hlt
      have hxr := pw_cell_below hbw hx
      have hlen2 : pre.length < len - (p + 1) := by have := congrArg List.length hpre; rw [List.length_append, ups_len, ups_len] at this; omega
      obtain ⟨fn, tmps, assign, body, hy, hR⟩ := hY pre (ln (m : Int) (rdOf ByteArray.empty L (m : Int))) wr hJs hlen2
      have hups : ups L m (len - m) = ln (m : Int) (rdOf ByteArray.empty L (m : Int)) :: ups L (m + 1) (len - (m + 1)) := by
        rw [show len - m = (len - (m + 1)) + 1 by omega]; rfl
      rw [hups] at hpre
      dsimp only [encL, ln] at hy
      generalize cl (rdOf ByteArray.empty L (m : Int)) = t at hx hxr hy
      clear hx hups
      gi_wp2
      refine hR.mono ?_
      rintro e W3 (⟨rfl, hJ3, hk3⟩ | ⟨rfl, hJx3⟩)
      · gi_wp2
        go_roundw
        case rel => exact ⟨m + 1, _, by omega, by simp, by rw [List.append_assoc]; exact hpre, hJ3, hbw.trans hk3⟩
        case measure => simp [intOf] <;> omega
      · gi_wp2
        go_end0
        exact ⟨⟨_, rfl⟩, .inr ⟨_, ⟨_, by rw [List.append_assoc]; exact hpre⟩, hJx3⟩⟩
    · have hlt2 : ¬ (m : Int) < (len : Int) := by omega
      obtain rfl : m = len := by omega
      gi_wp2
      refine ⟨fun _ h => (by cases h), ?_⟩
      gi_wp2
      go_end0
      exact ⟨⟨_, rfl⟩, .inl ⟨pre, by rw [← hpre, Nat.sub_self]; simp [ups], hJs⟩⟩
end Go.Proofs.Ythofobcbbddeeaa.SrchA
