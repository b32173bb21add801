/- States side by side: more. Conditions: none beyond those that each lemma states. -/
import Derived.Test.YtphdjpfdelpecaaGreatDoorXS
namespace Go.Proofs.YtphdjpfdelpecaaGreatDoor.XS
open Go.RowKit Go.Proofs.YtphdjpfdelpecaaGreatDoorW.PrintWords
set_option linter.unusedVariables false
set_option linter.unusedSimpArgs false
theorem Sep.row_at {α : Type} {base : Nat} {F : Assn} {w : World} {d : Kd α} {e : Nat} {A' : Option Addr} {n c : Nat} {xs : List α} (h : Sep base (Star (Row d e (.slice A' n c) xs) F) w) : d.C w A' n xs ∧ n ≤ c := by
  obtain ⟨h1, h2, h3⟩ := h.row_cut
  subst h1
  exact ⟨h3, h2⟩
section
variable {P : Program} {ops : Array Oper} {rest : List Oper} {o : Oper} {a : Act} {Q : Exit → Act → World → Prop} {α : Type}
end
end Go.Proofs.YtphdjpfdelpecaaGreatDoor.XS
