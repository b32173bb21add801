/- Fronts: what the laws ask of them, as plain facts. Conditions: none beyond those that each theorem states. -/
import Derived.Test.YtiplkmmppihilaaFrontE
namespace Go.Proofs.Ytiplkmmppihilaa.FrontA
open Go.RowKit Go.Proofs.YtiplkmmppihilaaW.PrintWords Go.Proofs.YtiplkmmppihilaaW.PrintLast Go.Proofs.YtiplkmmppihilaaW.PrintMore Go.Proofs.Ytiplkmmppihilaa.XS Go.Proofs.Ytiplkmmppihilaa.PFront
set_option linter.unusedVariables false
set_option linter.unusedSimpArgs false
theorem rd_succ (x : Int) (l : List Int) (i : Nat) : rd (x :: l) ((i + 1 : Nat) : Int) = rd l (i : Int) := by
  simp only [rd, Int.toNat_natCast, List.getD_cons_succ]
theorem lt_of_rd : ∀ (l m : List Int), (∀ i : Nat, i < l.length → i < m.length → rd m (i : Int) ≤ rd l (i : Int)) → lt l m = false
  | [], m, _ => nil_lt m
  | _ :: _, [], _ => lt_nil _
  | a :: l, b :: m, h => by
    simp only [lt, Bool.or_eq_false_iff, decide_eq_false_iff_not]
    refine ⟨?_, lt_of_rd l m (fun i h1 h2 => ?_)⟩
    · have := h 0 (by simp) (by simp)
      have e1 : rd (a :: l) ((0 : Nat) : Int) = a := rfl
      have e2 : rd (b :: m) ((0 : Nat) : Int) = b := rfl
      rw [e1, e2] at this; omega
    · have := h (i + 1) (by simpa using h1) (by simpa using h2)
      rw [rd_succ, rd_succ] at this; exact this
theorem rd_zip (f : Int → Int → Int) (l m : List Int) (i : Nat) (h1 : i < l.length) (h2 : i < m.length) : rd (List.zipWith f l m) (i : Int) = f (rd l (i : Int)) (rd m (i : Int)) := by
  rw [rd_at _ i (by rw [List.length_zipWith]; omega), rd_at l i h1, rd_at m i h2, List.getElem_zipWith]
theorem rd_ext (l m : List Int) (h : l.length = m.length) (hr : ∀ i : Nat, i < l.length → rd l (i : Int) = rd m (i : Int)) : l = m := by
  apply List.ext_getElem h
  intro i h1 h2
  rw [← rd_at l i h1, ← rd_at m i h2]; exact hr i h1
theorem mn_left (a b : Int) : mn a b ≤ a := by unfold mn; split <;> omega
theorem mn_right (a b : Int) : mn a b ≤ b := by unfold mn; split <;> omega
theorem mx_left (a b : Int) : a ≤ mx a b := by unfold mx; split <;> omega
theorem mx_right (a b : Int) : b ≤ mx a b := by unfold mx; split <;> omega
/-- A number of the rows put together comes out of one of them. -/
theorem cum_from {f : Int → Int → Int} (hf : ∀ a b, f a b = a ∨ f a b = b) {R : List (List Int)} (hG : Good R) (i : Nat) (hi : i < R.length) : ∀ k : Nat, k ≤ R.length → ∃ j : Nat, j < R.length ∧ rd (cum f R k) (i : Int) = rd (rd_L1 R (j : Int)) (i : Int)
  | 0, _ => ⟨0, by have := hG.1; omega, rfl⟩
  | k + 1, hk => by
    obtain ⟨j, hj, e⟩ := cum_from hf hG i hi k (by omega)
    have h1 := (cum_good hf hG k (by omega)).1
    have h2 := (hG.row k (by omega)).1
    have e2 := rd_zip f (cum f R k) (rd_L1 R (k : Int)) i (by omega) (by omega)
    show ∃ j : Nat, j < R.length ∧ rd (List.zipWith f (cum f R k) (rd_L1 R (k : Int))) (i : Int) = _
    rcases hf (rd (cum f R k) (i : Int)) (rd (rd_L1 R (k : Int)) (i : Int)) with h | h
    · exact ⟨j, hj, by rw [e2, h, e]⟩
    · exact ⟨k, by omega, by rw [e2, h]⟩
theorem cum_mn {R : List (List Int)} (hG : Good R) (i : Nat) (hi : i < R.length) : ∀ k : Nat, k ≤ R.length → ∀ j : Nat, j < k → rd (cum mn R k) (i : Int) ≤ rd (rd_L1 R (j : Int)) (i : Int)
  | 0, _, j, h => by omega
  | k + 1, hk, j, h => by
    have h1 := (cum_good mn_or hG k (by omega)).1
    have h2 := (hG.row k (by omega)).1
    have e2 := rd_zip mn (cum mn R k) (rd_L1 R (k : Int)) i (by omega) (by omega)
    show rd (List.zipWith mn (cum mn R k) (rd_L1 R (k : Int))) (i : Int) ≤ _
    rw [e2]
    by_cases c : j = k
    · subst c; exact mn_right _ _
    · exact Int.le_trans (mn_left _ _) (cum_mn hG i hi k (by omega) j (by omega))
theorem cum_mx {R : List (List Int)} (hG : Good R) (i : Nat) (hi : i < R.length) : ∀ k : Nat, k ≤ R.length → ∀ j : Nat, j < k → rd (rd_L1 R (j : Int)) (i : Int) ≤ rd (cum mx R k) (i : Int)
  | 0, _, j, h => by omega
  | k + 1, hk, j, h => by
    have h1 := (cum_good mx_or hG k (by omega)).1
    have h2 := (hG.row k (by omega)).1
    have e2 := rd_zip mx (cum mx R k) (rd_L1 R (k : Int)) i (by omega) (by omega)
    show _ ≤ rd (List.zipWith mx (cum mx R k) (rd_L1 R (k : Int))) (i : Int)
    rw [e2]
    by_cases c : j = k
    · subst c; exact mx_right _ _
    · exact Int.le_trans (cum_mx hG i hi k (by omega) j (by omega)) (mx_left _ _)
theorem stable_len {R : List (List Int)} (hG : Good R) : (stable R).length = R.length := (cum_good mn_or hG _ (Nat.le_refl _)).1
theorem most_len {R : List (List Int)} (hG : Good R) : (most R).length = R.length := (cum_good mx_or hG _ (Nat.le_refl _)).1
/-- Each row covers what is stable, the most covers each row. -/
theorem row_over {R : List (List Int)} (hG : Good R) (j : Nat) (hj : j < R.length) : lt (rd_L1 R (j : Int)) (stable R) = false :=
  lt_of_rd _ _ (fun i h1 h2 => cum_mn hG i (by rw [(hG.row j hj).1] at h1; exact h1) R.length (Nat.le_refl _) j hj)
theorem row_under {R : List (List Int)} (hG : Good R) (j : Nat) (hj : j < R.length) : lt (most R) (rd_L1 R (j : Int)) = false :=
  lt_of_rd _ _ (fun i h1 h2 => cum_mx hG i (by rw [(hG.row j hj).1] at h2; exact h2) R.length (Nat.le_refl _) j hj)
theorem rowOf_at {R : List (List Int)} (j : Nat) (hj : j < R.length) : rowOf R (j : Int) = rd_L1 R (j : Int) := by
  unfold rowOf; rw [if_pos (by omega)]
theorem rdL_set (R : List (List Int)) (s j : Nat) (l : List Int) (hj : j < R.length) : rd_L1 (R.set s l) (j : Int) = if s = j then l else rd_L1 R (j : Int) := by
  simp only [rd_L1, Int.toNat_natCast, List.getD_eq_getElem?_getD]
  rw [List.getElem?_set]
  by_cases c : s = j
  · subst c; simp [hj]
  · simp [c]
/-- What Hear leaves in a row is no less than what was there. -/
theorem hear_up {R : List (List Int)} (hG : Good R) (s : Int) (v : List Int) (j i : Nat) (hj : j < R.length) (hi : i < R.length) : rd (rd_L1 R (j : Int)) (i : Int) ≤ rd (rd_L1 (hearR R s v) (j : Int)) (i : Int) := by
  unfold hearR
  by_cases h : hearE R s v = 0
  · rw [if_pos h, rdL_set _ _ _ _ hj]
    have hx := h
    unfold hearE at hx
    by_cases h1 : 0 ≤ s ∧ s < (R.length : Int)
    · rw [if_neg (fun c => c h1)] at hx
      by_cases h2 : v.length = R.length
      · by_cases c : s.toNat = j
        · rw [if_pos c, show s = (j : Int) by omega, rd_zip mx _ _ i (by rw [(hG.row j hj).1]; exact hi) (by omega)]
          exact mx_left _ _
        · rw [if_neg c]; exact Int.le_refl _
      · rw [if_pos h2] at hx; exact absurd hx (by decide)
    · rw [if_pos h1] at hx; exact absurd hx (by decide)
  · rw [if_neg h]; exact Int.le_refl _
theorem stable_up {R : List (List Int)} (hG : Good R) (s : Int) (v : List Int) : lt (stable (hearR R s v)) (stable R) = false := by
  have hG2 := hear_good hG s v
  have hl := hear_len R s v
  refine lt_of_rd _ _ (fun i h1 h2 => ?_)
  rw [stable_len hG2] at h1
  obtain ⟨j, hj, e⟩ := cum_from mn_or hG2 i h1 _ (Nat.le_refl _)
  show _ ≤ rd (cum mn (hearR R s v) (hearR R s v).length) (i : Int)
  rw [e]
  exact Int.le_trans (cum_mn hG i (by omega) R.length (Nat.le_refl _) j (by omega)) (hear_up hG s v j i (by omega) (by omega))
theorem late_all {R : List (List Int)} : ∀ k : Nat, late R k = [] ↔ ∀ j : Nat, j < k → rd_L1 R (j : Int) = most R
  | 0 => ⟨fun _ j h => by omega, fun _ => rfl⟩
  | k + 1 => by
    unfold late
    constructor
    · intro h j hj
      by_cases c : rd_L1 R (k : Int) = most R
      · rw [if_pos c] at h
        by_cases e : j = k
        · subst e; exact c
        · exact (late_all k).mp h j (by omega)
      · rw [if_neg c] at h; simp at h
    · intro h
      rw [if_pos (h k (by omega))]
      exact (late_all k).mpr (fun j hj => h j (by omega))
/-- None is late exactly when what is stable is the most. -/
theorem late_iff {R : List (List Int)} (hG : Good R) : late R R.length = [] ↔ stable R = most R := by
  have h1 := stable_len hG
  have h2 := most_len hG
  rw [late_all]
  constructor
  · intro h
    refine rd_ext _ _ (by omega) (fun i hi => ?_)
    obtain ⟨j, hj, e⟩ := cum_from mn_or hG i (by omega) R.length (Nat.le_refl _)
    show rd (cum mn R R.length) (i : Int) = _
    rw [e, h j hj]
  · intro h j hj
    have h3 := (hG.row j hj).1
    refine rd_ext _ _ (by omega) (fun i hi => ?_)
    have a := cum_mn hG i (by omega) R.length (Nat.le_refl _) j hj
    have b := cum_mx hG i (by omega) R.length (Nat.le_refl _) j hj
    have c : rd (cum mn R R.length) (i : Int) = rd (cum mx R R.length) (i : Int) := congrArg (fun l => rd l (i : Int)) h
    show _ = rd (cum mx R R.length) (i : Int)
    omega
theorem late_len {R : List (List Int)} (hG : Good R) : ((late R R.length).length = 0) ↔ stable R = most R := by
  rw [← late_iff hG]; exact List.length_eq_zero_iff
/-- What is stable is never below zero. -/
theorem stable_zero {R : List (List Int)} (hG : Good R) : lt (stable R) (List.replicate R.length 0) = false := by
  have hv := (cum_good mn_or hG _ (Nat.le_refl _)).2
  have hl := stable_len hG
  refine lt_of_rd _ _ (fun i h1 h2 => ?_)
  have h0 := (hv.rd i h1).1
  have e : rd (List.replicate R.length 0) (i : Int) = 0 := by
    simp only [rd, Int.toNat_natCast, List.getD_eq_getElem?_getD]
    rw [List.getElem?_replicate]; split <;> rfl
  rw [e]; exact h0
/-! ### one site -/
theorem row_other {R : List (List Int)} (s : Int) (v : List Int) (j : Nat) (hj : j < R.length) (h : (j : Int) ≠ s ∨ hearE R s v ≠ 0) : rowOf (hearR R s v) (j : Int) = rowOf R (j : Int) := by
  rw [rowOf_at j hj, rowOf_at j (by rw [hear_len]; exact hj)]
  unfold hearR
  by_cases c : hearE R s v = 0
  · have h : (j : Int) ≠ s := by rcases h with h | h; exact h; exact absurd c h
    rw [if_pos c, rdL_set _ _ _ _ hj]
    have hx := c
    unfold hearE at hx
    by_cases h1 : 0 ≤ s ∧ s < (R.length : Int)
    · rw [if_neg (by omega)]
    · rw [if_pos h1] at hx; exact absurd hx (by decide)
  · rw [if_neg c]
theorem hear_facts {R : List (List Int)} {s : Int} {v : List Int} (h : hearE R s v = 0) : (0 ≤ s ∧ s < (R.length : Int)) ∧ v.length = R.length ∧ Vok v := by
  unfold hearE at h
  by_cases h1 : 0 ≤ s ∧ s < (R.length : Int)
  · rw [if_neg (fun c => c h1)] at h
    by_cases h2 : v.length = R.length
    · rw [if_neg (fun c => c h2)] at h
      by_cases h3 : Vok v
      · exact ⟨h1, h2, h3⟩
      · rw [if_pos h3] at h; exact absurd h (by decide)
    · rw [if_pos h2] at h; exact absurd h (by decide)
  · rw [if_pos h1] at h; exact absurd h (by decide)
theorem row_heard {R : List (List Int)} (hG : Good R) (s : Int) (v : List Int) (h : hearE R s v = 0) : lt (rowOf (hearR R s v) s) v = false := by
  obtain ⟨h1, h2, h3⟩ := hear_facts h
  obtain ⟨j, rfl⟩ : ∃ j : Nat, s = (j : Int) := ⟨s.toNat, by omega⟩
  have hj : j < R.length := by omega
  rw [rowOf_at j (by rw [hear_len]; exact hj)]
  unfold hearR
  rw [if_pos h, rdL_set _ _ _ _ hj, Int.toNat_natCast, if_pos rfl, zip_comm mx mx_comm]
  exact lt_up _ _ (by rw [(hG.row j hj).1]; exact h2)
/-! ### all the same -/
/-- The rows when the first k sites have told v. -/
def told (v : List Int) (k : Nat) : List (List Int) := List.replicate k v ++ List.replicate (v.length - k) (List.replicate v.length 0)
theorem told_zero (v : List Int) : told v 0 = none9 v.length := by unfold told none9; simp
theorem told_len (v : List Int) (k : Nat) (hk : k ≤ v.length) : (told v k).length = v.length := by
  unfold told; rw [List.length_append, List.length_replicate, List.length_replicate]; omega
theorem told_at (v : List Int) (k j : Nat) (hk : k ≤ v.length) (hj : j < v.length) : rd_L1 (told v k) (j : Int) = if j < k then v else List.replicate v.length 0 := by
  unfold told
  simp only [rd_L1, Int.toNat_natCast, List.getD_eq_getElem?_getD]
  by_cases c : j < k
  · rw [if_pos c, List.getElem?_append_left (by rw [List.length_replicate]; exact c), List.getElem?_replicate, if_pos c]; rfl
  · rw [if_neg c, List.getElem?_append_right (by rw [List.length_replicate]; omega), List.getElem?_replicate, List.length_replicate, if_pos (by omega)]; rfl
theorem told_good {v : List Int} (h : Vok v) (k : Nat) (hk : k ≤ v.length) : Good (told v k) := by
  have hl := told_len v k hk
  refine ⟨by rw [hl]; exact h.1, by rw [hl]; exact h.2.1, fun l hl2 => ?_⟩
  rw [hl]
  unfold told at hl2
  rcases List.mem_append.mp hl2 with h1 | h1
  · rw [(List.mem_replicate.mp h1).2]; exact ⟨rfl, h⟩
  · rw [(List.mem_replicate.mp h1).2]; exact ⟨List.length_replicate, good_zeros _ h.1 h.2.1⟩
theorem told_any {v : List Int} (h : Vok v) (k : Nat) (hk : k < v.length) : ∀ n : Nat, n ≤ v.length → any (told v k) (k : Int) v n = false
  | 0, _ => rfl
  | n + 1, hn => by
    rw [any, told_any h k hk n (by omega), Bool.false_or]
    unfold more
    rw [told_at v k n (by omega) (by omega)]
    by_cases c : n < k
    · rw [if_pos c, decide_eq_false (show ¬ rd v (n : Int) < rd v (n : Int) by omega)]; simp
    · rw [if_neg c, decide_eq_true (show List.replicate v.length (0 : Int) = List.replicate (List.replicate v.length (0 : Int)).length 0 by rw [List.length_replicate])]; simp
theorem told_E {v : List Int} (h : Vok v) (k : Nat) (hk : k < v.length) : hearE (told v k) (k : Int) v = 0 := by
  have hl := told_len v k (by omega)
  unfold hearE
  rw [if_neg (by rw [hl]; omega), if_neg (by rw [hl]; exact fun c => c rfl), if_neg (fun c => c h), hl, told_any h k hk _ (Nat.le_refl _), if_neg (by decide)]
theorem told_R {v : List Int} (h : Vok v) (k : Nat) (hk : k < v.length) : hearR (told v k) (k : Int) v = told v (k + 1) := by
  unfold hearR
  rw [if_pos (told_E h k hk), told_at v k k (by omega) hk, if_neg (by omega), Int.toNat_natCast, (zeros_lt v (fun n hn => (h.2.2 n hn).1)).2.1]
  unfold told
  rw [List.set_append_right _ _ (by rw [List.length_replicate]; omega), List.length_replicate, show k - k = 0 by omega, show v.length - k = (v.length - (k + 1)) + 1 by omega, List.replicate_succ, List.set_cons_zero, List.replicate_succ', List.append_assoc]
  rfl
theorem told_cum {f : Int → Int → Int} (hf : ∀ a b, f a b = a ∨ f a b = b) {v : List Int} (h : Vok v) : ∀ k : Nat, k ≤ v.length → cum f (told v v.length) k = v
  | 0, _ => by
    show rd_L1 (told v v.length) ((0 : Nat) : Int) = v
    rw [told_at v v.length 0 (Nat.le_refl _) (by have := h.1; omega), if_pos (by have := h.1; omega)]
  | k + 1, hk => by
    show List.zipWith f (cum f (told v v.length) k) (rd_L1 (told v v.length) (k : Int)) = v
    rw [told_cum hf h k (by omega), told_at v v.length k (Nat.le_refl _) (by omega), if_pos (by omega)]
    exact zip_same (fun a => by rcases hf a a with h | h <;> exact h) v
theorem told_stable {v : List Int} (h : Vok v) : stable (told v v.length) = v := told_cum mn_or h _ (by rw [told_len v _ (Nat.le_refl _)]; exact Nat.le_refl _)
theorem told_most {v : List Int} (h : Vok v) : most (told v v.length) = v := told_cum mx_or h _ (by rw [told_len v _ (Nat.le_refl _)]; exact Nat.le_refl _)
theorem told_late {v : List Int} (h : Vok v) : late (told v v.length) (told v v.length).length = [] := (late_iff (told_good h _ (Nat.le_refl _))).mpr ((told_stable h).trans (told_most h).symm)
end Go.Proofs.Ytiplkmmppihilaa.FrontA
