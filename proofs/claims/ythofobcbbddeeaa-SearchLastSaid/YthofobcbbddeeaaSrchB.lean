/- Searches: the reference's fits, last. Conditions: none beyond those that each theorem states. -/
import Derived.Test.YthofobcbbddeeaaSrchA
namespace Go.Proofs.Ythofobcbbddeeaa.SrchA
open Go.RowKit Go.Proofs.YthofobcbbddeeaaW.PrintWords Go.Proofs.YthofobcbbddeeaaW.PrintLast Go.Proofs.YthofobcbbddeeaaW.PrintMore Go.Proofs.Ythofobcbbddeeaa.XS Go.Proofs.Ythofobcbbddeeaa.PSrch
set_option linter.unusedVariables false
set_option linter.unusedSimpArgs false
set_option maxHeartbeats 8000000 in
set_option maxRecDepth 100000 in
theorem fits_is {g c0 c1 : Nat} {A0 A1 : Option Addr} {L : List ByteArray} {Q : List Int} {p : Int} (w : World) (h : Sf .i64 g A0 c0 A1 c1 L Q p w) (hQ : Q.length ≤ 1000) (k : Nat) (hk : k < L.length) (t : ByteArray) (hrd : rdOf ByteArray.empty L (k : Int) = t) (ht : t.size ≤ 1000) (b : Bool) (hb : fit t (qs Q) = b) : Calls Try.prog 74 #[.pointer (some ⟨g, 0, none⟩), .int .i64 (k : Int)] w fun e w' => e = .returned (.bool b) ∧ Below w.heap.size w w' := by
  obtain ⟨ad, rfl, xe⟩ := Kd.at_string h.C0 (k : Int) (by omega) (by omega)
  rw [Int.toNat_natCast, hrd] at xe
  have H := Aside0.mk h
  have x0 := h.x0
  have hqs := qs_le Q
  obtain ⟨q, hq⟩ : ∃ q, qs Q = q := ⟨_, rfl⟩
  rw [hq] at hb hqs
  have HQ := Aside0.mk hq
  have HB := Aside0.mk hb
  have HSZ : Aside0 (q.size ≤ 4000) := ⟨by omega⟩
  have hk0 : (0 : Int) ≤ (k : Int) := by omega
  have hk1 : (k : Int) < (L.length : Int) := by omega
  clear h hq hb hrd hqs
  have B_w := Aside0.mk (Below.refl w.heap.size w)
  have S_w : Aside0 (Sep w.heap.size (Stars []) w) := ⟨Sep.emp _ _⟩
  go_enter Try.func74, Try.ntmps74
  go_wp2_with (first | (go_at_call 48; (with_reducible refine (refquery_is _ H.out hQ q HQ.out).mono ?_); rintro e w_1 ⟨rfl, hb⟩; have B_w_1 : Aside0 (Below (w.heap.size) w w_1) := ⟨below_then B_w.out B_w.out.size hb⟩; have S_w_1 : Aside0 (Sep (w.heap.size) (Stars []) w_1) := ⟨Sep.below S_w.out hb⟩; have Q_w_1 : Aside0 (Below w.heap.size w w_1) := ⟨hb⟩; have x0_w_1 := pw_cell_below Q_w_1.out x0; have xe_w_1 := pw_cell_below Q_w_1.out xe; clear S_w; clear hb))
  go_loopw [6] (fun i wr => ∃ j : Nat, i = .int .i64 j ∧ Aside0 (j ≤ t.size + 1) ∧ Aside0 (∀ i' : Nat, i' < j → ¬ At t q i') ∧ Aside0 (Below w.heap.size w wr)) (fun i _ => t.size + 2 - (intOf i).toNat)
  case atStart => exact ⟨0, rfl, ⟨by omega⟩, ⟨fun i' h => by omega⟩, B_w_1⟩
  case round =>
    clear S_w_1 x0_w_1 xe_w_1
    clear B_w_1
    obtain ⟨j, rfl, HJ, HN, B_wr⟩ := hrel
    have S_wr : Aside0 (Sep w.heap.size (Stars []) wr) := ⟨Sep.emp _ _⟩
    have x0_wr := pw_cell_below B_wr.out x0
    have xe_wr := pw_cell_below B_wr.out xe
    have hsz := HSZ.out
    have hj := HJ.out
    have hw : wrap64 ((j : Int) + (q.size : Int)) = (j : Int) + (q.size : Int) := by unfold wrap64; omega
    have hj0 : (0 : Int) ≤ (j : Int) := by omega
    by_cases c : j + q.size ≤ t.size
    · have d0 : (j : Int) + (q.size : Int) ≤ (t.size : Int) := by omega
      have d1 : (j : Int) ≤ (j : Int) + (q.size : Int) := by omega
      have d2 : (0 : Int) ≤ (j : Int) + (q.size : Int) := by omega
      have n1 : ((j : Int) + (q.size : Int)).toNat = j + q.size := by omega
      by_cases e : (t.extract j (j + q.size)).toList = q.toList
      · have b1 : ((t.extract j (j + q.size)).toList == q.toList) = true := beq_iff_eq.mpr e
        have hb2 : b = true := by rw [← HB.out]; exact (fit_iff t q).mpr ⟨j, c, e⟩
        clear e hsz hj
        go_wp2
        go_ret
        exact ⟨by first | rfl | (rw [hb2]; rfl) | rw [hb2], B_wr.out⟩
      · have b1 : ((t.extract j (j + q.size)).toList == q.toList) = false := beq_eq_false_iff_ne.mpr e
        have E := Aside0.mk e
        clear e
        go_wp2
        go_roundw
        case rel => first | exact ⟨j + 1, by go_num, ⟨by omega⟩, ⟨fun i' h h2 => by by_cases e2 : i' = j; exact E.out (by rw [← e2]; exact h2.2); exact HN.out i' (by omega) h2⟩, B_wr⟩ | ((repeat apply Exists.intro); exact ⟨⟨j + 1, by go_num, ⟨by omega⟩, ⟨fun i' h h2 => by by_cases e2 : i' = j; exact E.out (by rw [← e2]; exact h2.2); exact HN.out i' (by omega) h2⟩, B_wr⟩, rfl⟩)
        case measure => simp [intOf] <;> omega
    · have d0 : ¬ (j : Int) + (q.size : Int) ≤ (t.size : Int) := by omega
      have hb2 : b = false := by rw [← HB.out]; exact fit_false (fun i' h2 => HN.out i' (by have := h2.1; omega) h2)
      go_wp2
      go_ret
      exact ⟨by first | rfl | (rw [hb2]; rfl) | rw [hb2], B_wr.out⟩
/-- The last of the first k lines that fits; -1: there is none. -/
def lastF (L : List ByteArray) (q : ByteArray) : Nat → Int
  | 0 => -1
  | k + 1 => if fit (rdOf ByteArray.empty L (k : Int)) q = true then (k : Int) else lastF L q k
theorem lastF_lt (L : List ByteArray) (q : ByteArray) : ∀ k : Nat, -1 ≤ lastF L q k ∧ lastF L q k < (k : Int)
  | 0 => by unfold lastF; omega
  | k + 1 => by
    unfold lastF
    have := lastF_lt L q k
    split <;> omega
/-- The lines are short. -/
def Short (L : List ByteArray) : Prop := ∀ i : Nat, i < L.length → (rdOf ByteArray.empty L (i : Int)).size ≤ 1000
theorem Short.at {L : List ByteArray} (h : Short L) (i : Nat) (hi : i < L.length) : (rdOf ByteArray.empty L (i : Int)).size ≤ 1000 := h i hi
set_option maxHeartbeats 8000000 in
set_option maxRecDepth 100000 in
theorem last_is {g c0 c1 : Nat} {A0 A1 : Option Addr} {L : List ByteArray} {Q : List Int} {p : Int} (w : World) (h : Sf .i64 g A0 c0 A1 c1 L Q p w) (hQ : Q.length ≤ 1000) (hS : Short L) (hL1 : L.length ≤ 1000) (k : Nat) (hk : k ≤ L.length) (i0 : Int) (hi0 : i0 = (k : Int) - 1) (r : Int) (hr : lastF L (qs Q) k = r) : Calls Try.prog 71 #[.pointer (some ⟨g, 0, none⟩), .int .i64 i0] w fun e w' => e = .returned (.int .i64 r) ∧ Below w.heap.size w w' := by
  subst hi0
  have H := Aside0.mk h
  have HR := Aside0.mk hr
  have HS := Aside0.mk hS
  clear h hr hS
  have B_w := Aside0.mk (Below.refl w.heap.size w)
  have S_w : Aside0 (Sep w.heap.size (Stars []) w) := ⟨Sep.emp _ _⟩
  go_enter Try.func71, Try.ntmps71
  go_wp2
  go_loopw [1] (fun i wr => ∃ j : Nat, i = .int .i64 ((j : Int) - 1) ∧ Aside0 (j ≤ L.length) ∧ Aside0 (lastF L (qs Q) j = r) ∧ Aside0 (Below w.heap.size w wr)) (fun i _ => (intOf i + 1).toNat)
  case atStart => exact ⟨k, rfl, ⟨hk⟩, HR, B_w⟩
  case round =>
    clear S_w
    obtain ⟨j, rfl, HJ, HL, B_wr⟩ := hrel
    have S_wr : Aside0 (Sep w.heap.size (Stars []) wr) := ⟨Sep.emp _ _⟩
    cases j with
    | zero =>
      have hz : ((0 : Nat) : Int) - 1 = -1 := by omega
      rw [hz]
      go_wp2
      go_ret
      exact ⟨by rw [← HL.out]; rfl, B_wr.out⟩
    | succ j =>
      have hz : ((j + 1 : Nat) : Int) - 1 = (j : Int) := by omega
      rw [hz]
      have hj0 : (0 : Int) ≤ (j : Int) := by omega
      have hj := HJ.out
      have hw : wrap64 ((j : Int) - 1) = (j : Int) - 1 := by unfold wrap64; omega
      obtain ⟨b, hb⟩ : ∃ b, fit (rdOf ByteArray.empty L (j : Int)) (qs Q) = b := ⟨_, rfl⟩
      have HB := Aside0.mk hb
      clear hb
      cases b with
      | true =>
        go_wp2_with (first | (go_at_call 74; (with_reducible refine (fits_is _ (H.out.below B_wr.out) hQ j (by omega) _ rfl (HS.out.at j (by omega)) true HB.out).mono ?_); rintro e wr_1 ⟨rfl, hb⟩; have B_wr_1 : Aside0 (Below (w.heap.size) w wr_1) := ⟨below_then B_wr.out B_wr.out.size hb⟩; have S_wr_1 : Aside0 (Sep (w.heap.size) (Stars []) wr_1) := ⟨Sep.below S_wr.out hb⟩; clear S_wr; clear hb))
        go_ret
        exact ⟨by rw [← HL.out, lastF, if_pos HB.out]; rfl, B_wr_1.out⟩
      | false =>
        go_wp2_with (first | (go_at_call 74; (with_reducible refine (fits_is _ (H.out.below B_wr.out) hQ j (by omega) _ rfl (HS.out.at j (by omega)) false HB.out).mono ?_); rintro e wr_1 ⟨rfl, hb⟩; have B_wr_1 : Aside0 (Below (w.heap.size) w wr_1) := ⟨below_then B_wr.out B_wr.out.size hb⟩; have S_wr_1 : Aside0 (Sep (w.heap.size) (Stars []) wr_1) := ⟨Sep.below S_wr.out hb⟩; clear S_wr; clear hb))
        go_roundw
        case rel => first | exact ⟨j, by first | rfl | go_num, ⟨by omega⟩, ⟨by rw [← HL.out, lastF, if_neg (by rw [HB.out]; decide)]⟩, B_wr_1⟩ | ((repeat apply Exists.intro); exact ⟨⟨j, by first | rfl | go_num, ⟨by omega⟩, ⟨by rw [← HL.out, lastF, if_neg (by rw [HB.out]; decide)]⟩, B_wr_1⟩, rfl⟩)
        case measure => simp [intOf] <;> omega
end Go.Proofs.Ythofobcbbddeeaa.SrchA
