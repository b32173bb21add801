/- States side by side: rows of rows. Conditions: none beyond those that each lemma states. -/
import Derived.Test.YtphdjpfdelpecaaGreatDoorXT
namespace Go.Proofs.YtphdjpfdelpecaaGreatDoor.XS
open Go.RowKit Go.Proofs.YtphdjpfdelpecaaGreatDoorW.PrintWords
set_option linter.unusedVariables false
set_option linter.unusedSimpArgs false
section
variable {P : Program} {ops : Array Oper} {rest : List Oper} {o : Oper} {a : Act} {Q : Exit → Act → World → Prop} {α : Type}
end
section
variable {P : Program} {ops : Array Oper} {o : Oper} {a : Act} {Q : Exit → Act → World → Prop} {Kc : Act → World → Prop} {α : Type}
end
section
variable {α : Type}
theorem row_block {base e g n cap : Nat} {A : Option Addr} {d : Kd α} {xs : List α} {F : Assn} {W : World} (h : Sep base (Star (Row d e (.slice A n cap) xs) F) W) (hn : 0 < n) : ∃ g, A = some ⟨g, 0, none⟩ ∧ base ≤ g := by
  obtain ⟨f, ⟨g1, k, hd, hg, hk, ha, hb⟩, hf⟩ := h
  obtain ⟨inner, ho⟩ := Kd.R_own ha
  have hx : n = xs.length := by
    obtain ⟨A', c', hv, _, _⟩ := Kd.R_reads ha
    injection hv
  obtain ⟨g, cap', hv, _, _⟩ := ho.form (by omega)
  injection hv with h1 _ _
  exact ⟨g, h1, hf g (hg g (ha.1 g (by rw [h1]; rfl)))⟩
end
end Go.Proofs.YtphdjpfdelpecaaGreatDoor.XS
