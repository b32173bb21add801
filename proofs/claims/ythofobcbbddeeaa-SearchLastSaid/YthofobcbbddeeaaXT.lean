/- States side by side: more. Conditions: none beyond those that each lemma states. -/
import Derived.Test.YthofobcbbddeeaaXS
namespace Go.Proofs.Ythofobcbbddeeaa.XS
open Go.RowKit Go.Proofs.YthofobcbbddeeaaW.PrintWords
set_option linter.unusedVariables false
set_option linter.unusedSimpArgs false
theorem Sep.row_at {α : Type} {base : Nat} {F : Assn} {w : World} {d : Kd α} {e : Nat} {A' : Option Addr} {n c : Nat} {xs : List α} (h : Sep base (Star (Row d e (.slice A' n c) xs) F) w) : d.C w A' n xs ∧ n ≤ c := by
  obtain ⟨h1, h2, h3⟩ := h.row_cut
  subst h1
  exact ⟨h3, h2⟩
section
variable {P : Program} {ops : Array Oper} {rest : List Oper} {o : Oper} {a : Act} {Q : Exit → Act → World → Prop} {α : Type}
/-- append(v, ys...): v a row of one's own, ys read. -/
theorem sep_append_rows (d : Kd α) {Rr : α → List Value → Prop} {W : World} {F : Assn} (base : Nat) (hgd : o.guard = none) (s x : Operand) (t e : TypeId) (z : Value) (bytes : Nat)
    (ho : o.op = .call { callee := .builtin .append, args := #[s, x], argTypes := #[t, t] })
    (ht : P.underlying t = some (.slice e)) (hinfo : (P.info? e).map (fun i => (i.zero, i.size, i.bytes)) = some (some z, d.sz, bytes)) (hz : z.cells.size = d.sz) (hs0 : 0 < d.sz) (hb0 : 0 < bytes)
    (v : Value) (xs ys : List α) (A : Option Addr) (m c : Nat) (hs : a.eval s = v) (hx : a.eval x = .slice A m c)
    (HS : Sep base (Star (Row d e v xs) F) W) (HR : ReadsRow Rr d.sz W A m ys) (hKM : ∀ x cs, Rr x cs → d.M W 0 (fun _ => False) x cs) (hbase : base ≤ W.heap.size) (hl : (xs.length + m) * bytes ≤ 140737488355328)
    (h : ∀ v1 w1, Sep base (Star (Row d e v1 (xs ++ ys)) F) w1 → Below base W w1 → wpList P ops Q rest (a.put o.dst v1) w1) :
    wpList P ops Q (o :: rest) a W := by
  obtain ⟨f, ⟨g, k, hd, hg, hk, ha, hb⟩, hf⟩ := HS
  have hbd := Kd.R_bound ha
  refine Kd.R_append_rows d (w0 := W) 0 hgd s x t e z bytes ho ht hinfo hz hs0 hb0 v xs ys A m c (fun k => (g k ∧ k < W.heap.size) ∨ W.heap.size ≤ k) (fun _ => False) hs hx (Kd.R_mono hbd (fun k hk => .inl ⟨hk.1, hk.2.2.1⟩)) HR hKM (fun _ h => h.elim) (fun _ h => .inr h) (Below.refl _ _) (Nat.zero_le _) hl ?_
  intro v1 w1 hr hB hgr hat
  have hblk : ∀ k, k < W.heap.size → ¬ g k → w1.heap[k]? = W.heap[k]? := fun k hlt hn => hgr.block k hlt (fun e => hn (hbd.1 k e.symm).1)
  refine h v1 w1 ?_ ⟨hB.os, hB.tape, hB.output, hgr.size, fun i hi => hblk i (Nat.lt_of_lt_of_le hi hbase) (fun hgi => by have := hf i (hg i hgi); omega)⟩
  refine ⟨fun i => ((g i ∧ i < W.heap.size) ∨ W.heap.size ≤ i) ∨ k i, ⟨_, fun i => k i ∧ i < W.heap.size, fun i h1 h2 => ?_, fun _ h => .inl h, fun _ h => .inr h.1, hr, F.step (F.bound hb) (fun i hi _ => hblk i hi.2 (fun hgi => hd i hgi hi.1))⟩, fun i hi => ?_⟩
  · rcases h1 with h1 | h1
    · exact hd i h1.1 h2.1
    · have := h2.2; omega
  · rcases hi with (hi | hi) | hi
    · exact hf i (hg i hi.1)
    · omega
    · exact hf i (hk i hi)
end
end Go.Proofs.Ythofobcbbddeeaa.XS
