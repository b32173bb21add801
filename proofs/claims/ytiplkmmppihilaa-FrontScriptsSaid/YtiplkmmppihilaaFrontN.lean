/- Fronts: the laws' scripts in memory, and small facts that all laws ask. Conditions: none beyond those that each theorem states. -/
import Derived.Test.YtiplkmmppihilaaFrontG
import Derived.Test.YtiplkmmppihilaaFrontM
namespace Go.Proofs.Ytiplkmmppihilaa.FrontA
open Go.RowKit Go.Proofs.YtiplkmmppihilaaW.PrintWords Go.Proofs.YtiplkmmppihilaaW.PrintLast Go.Proofs.YtiplkmmppihilaaW.PrintMore Go.Proofs.Ytiplkmmppihilaa.XS Go.Proofs.Ytiplkmmppihilaa.PFront
set_option linter.unusedVariables false
set_option linter.unusedSimpArgs false
abbrev KOp : Kd (Int × List Int) := Kd.iso (Kd.pair (Kd.int .i64) (Kd.slice 3 (Kd.int .i64))) id
theorem at_op {w : World} {A : Option Addr} {n : Nat} {xs : List (Int × List Int)} (h : Kd.C KOp w A n xs) (k : Nat) (h1 : k < n) : ∃ (ad : Addr) (A2 : Option Addr) (c2 : Nat) (s : Int) (v : List Int), A = some ad ∧ w.cell? (ad.add (k * 2)) = some (.int .i64 s) ∧ w.cell? ⟨(ad.add (k * 2)).block, (ad.add (k * 2)).off + 1, none⟩ = some (.slice A2 v.length c2) ∧ v.length ≤ c2 ∧ (Kd.int .i64).C w A2 v.length v := by
  obtain ⟨ad, c, e, _, hK, hc0⟩ := Kd.C_get h (0, []) (k : Int) (by omega) (by omega)
  rw [Int.toNat_natCast] at hK hc0
  have hc : ∀ j u, c[j]? = some u → w.cell? (ad.add (k * 2 + j)) = some u := hc0
  generalize xs.getD k (0, []) = x at hK
  obtain ⟨s, v⟩ := x
  obtain ⟨_, _, rfl, rfl, ⟨A2, c2, rfl, l2, g2⟩⟩ := hK
  exact ⟨ad, A2, c2, s, v, e, hc 0 _ rfl, by rw [← add_field _ _ 1 (by omega)]; exact hc 1 _ rfl, l2, g2⟩
theorem refnew_at (w : World) (m : Int) (n : Nat) (R : List (List Int)) (h1 : 1 ≤ n) (h2 : n ≤ 16) (hm : (n : Int) = m) (hR : none9 n = R) : Calls Try.prog 36 #[.int .i64 m] w fun e w' => ∃ g, e = .returned (.tuple #[.pointer (some ⟨g, 0, none⟩), .int .i64 0]) ∧ Sep w.heap.size (FA 105 50 g R) w' ∧ Below w.heap.size w w' := by
  subst hm; subst hR; exact ref_new w n h1 h2
theorem same_l (l : List Int) (h : l.length ≤ 1000) : duetref01_Same.f (l.length + 1) l l = some true := by
  rw [same_is l l _ (by omega) (by omega), decide_eq_true rfl]
theorem rowOf_len {R : List (List Int)} (hG : Good R) (s : Int) : (rowOf R s).length ≤ 16 := by
  unfold rowOf
  by_cases c : 0 ≤ s ∧ s < (R.length : Int)
  · rw [if_pos c]
    have := (hG.row s.toNat (by omega)).1
    rw [show ((s.toNat : Nat) : Int) = s by omega] at this
    rw [this]; exact hG.2.1
  · rw [if_neg c]; exact Nat.zero_le _
end Go.Proofs.Ytiplkmmppihilaa.FrontA
