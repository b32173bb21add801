/- States side by side: rows of rows. Conditions: none beyond those that each lemma states. -/
import Derived.Test.YthofobcbbddeeaaXT
namespace Go.Proofs.Ythofobcbbddeeaa.XS
open Go.RowKit Go.Proofs.YthofobcbbddeeaaW.PrintWords
set_option linter.unusedVariables false
set_option linter.unusedSimpArgs false
section
variable {P : Program} {ops : Array Oper} {rest : List Oper} {o : Oper} {a : Act} {Q : Exit → Act → World → Prop} {α : Type}
/-- append(v, x): the element x is what E tells of; it becomes v's. -/
theorem sep_append_elem (d : Kd α) {W : World} {E F : Assn} (base : Nat) (hgd : o.guard = none) (s x : Operand) (t e : TypeId) (z : Value) (bytes : Nat)
    (ho : o.op = .call { callee := .builtin .append, args := #[s, x], argTypes := #[t, t] })
    (ht : P.underlying t = some (.slice e)) (hinfo : (P.info? e).map (fun i => (i.zero, i.size, i.bytes)) = some (some z, d.sz, bytes)) (hz : z.cells.size = d.sz) (hs0 : 0 < d.sz) (hb0 : 0 < bytes)
    (v : Value) (xs : List α) (p : α) (cs : List Value) (hs : a.eval s = v) (hx : a.eval x = .slice (some ⟨W.heap.size, 0, none⟩) 1 1) (hE : ∀ f, E.S W f → d.M W 0 f p cs)
    (HS : Sep base (Star (Row d e v xs) (Star E F)) W) (hbase : base ≤ W.heap.size) (hl : (xs.length + 1) * bytes ≤ 140737488355328)
    (h : ∀ v1 w1, Sep base (Star (Row d e v1 (xs ++ [p])) F) w1 → Below base W w1 → wpList P ops Q rest (a.put o.dst v1) w1) :
    wpList P ops Q (o :: rest) a (W.alloc (.cells cs.toArray e)) := by
  obtain ⟨f, ⟨g, k, hd, hg, hk, ha, ⟨g2, k2, hd2, hg2, hk2, he, hb⟩⟩, hf⟩ := HS
  have hbd := Kd.R_bound ha
  refine Kd.R_append d (w0 := W) 0 hgd s x t e z bytes ho ht hinfo hz hs0 hb0 v xs p cs (fun k => ((g k ∨ g2 k) ∧ k < W.heap.size) ∨ W.heap.size ≤ k) (fun k => g2 k ∧ k < W.heap.size) hs hx (hE _ (E.bound he)) (fun i hi => ⟨.inl ⟨.inr hi.1, hi.2⟩, fun e => hd i (hbd.1 i e.symm).1 (hg2 i hi.1 |> hk i |> fun _ => hg2 i hi.1)⟩) (fun _ h => .inr h) (Kd.R_mono hbd (fun k hk => .inl ⟨.inl hk.1, hk.2.2.1⟩)) (Below.refl _ _) (Nat.zero_le _) hl ?_
  intro v1 w1 hr hB hgr hat
  have hblk : ∀ k, k < W.heap.size → ¬ g k → w1.heap[k]? = W.heap[k]? := fun k hlt hn => hgr.block k hlt (fun e => hn (hbd.1 k e.symm).1)
  refine h v1 w1 ?_ ⟨hB.os, hB.tape, hB.output, hgr.size, fun i hi => hblk i (Nat.lt_of_lt_of_le hi hbase) (fun hgi => by have := hf i (hg i hgi); omega)⟩
  refine ⟨fun i => (((g i ∨ g2 i) ∧ i < W.heap.size) ∨ W.heap.size ≤ i) ∨ k2 i, ⟨_, fun i => k2 i ∧ i < W.heap.size, fun i h1 h2 => ?_, fun _ h => .inl h, fun _ h => .inr h.1, hr, F.step (F.bound hb) (fun i hi _ => hblk i hi.2 (fun hgi => hd i hgi (hk2 i hi.1)))⟩, fun i hi => ?_⟩
  · rcases h1 with ⟨h1 | h1, _⟩ | h1
    · exact hd i h1 (hk2 i h2.1)
    · exact hd2 i h1 h2.1
    · have := h2.2; omega
  · rcases hi with (⟨hi | hi, _⟩ | hi) | hi
    · exact hf i (hg i hi)
    · exact hf i (hk i (hg2 i hi))
    · omega
    · exact hf i (hk i (hk2 i hi))
end
section
variable {P : Program} {ops : Array Oper} {o : Oper} {a : Act} {Q : Exit → Act → World → Prop} {Kc : Act → World → Prop} {α : Type}
/-- The same as a step of a region that draws. -/
theorem sep_append_elem_step (d : Kd α) {W : World} {E F : Assn} (base : Nat) (hw : Region.wanted o (yielded ops a.tmps) = true) (s x : Operand) (t e : TypeId) (z : Value) (bytes : Nat)
    (ho : o.op = .call { callee := .builtin .append, args := #[s, x], argTypes := #[t, t] })
    (ht : P.underlying t = some (.slice e)) (hinfo : (P.info? e).map (fun i => (i.zero, i.size, i.bytes)) = some (some z, d.sz, bytes)) (hz : z.cells.size = d.sz) (hs0 : 0 < d.sz) (hb0 : 0 < bytes)
    (v : Value) (xs : List α) (p : α) (cs : List Value) (hs : a.eval s = v) (hx : a.eval x = .slice (some ⟨W.heap.size, 0, none⟩) 1 1) (hE : ∀ f, E.S W f → d.M W 0 f p cs)
    (HS : Sep base (Star (Row d e v xs) (Star E F)) W) (hbase : base ≤ W.heap.size) (hl : (xs.length + 1) * bytes ≤ 140737488355328)
    (h : ∀ v1 w1, Sep base (Star (Row d e v1 (xs ++ [p])) F) w1 → Below base W w1 → Kc (a.put o.dst v1) w1) :
    if Region.wanted o (yielded ops a.tmps) = true then Oper.wp P o a (W.alloc (.cells cs.toArray e)) Kc Q else Kc (a.put o.dst undef) (W.alloc (.cells cs.toArray e)) := by
  obtain ⟨f, ⟨g, k, hd, hg, hk, ha, ⟨g2, k2, hd2, hg2, hk2, he, hb⟩⟩, hf⟩ := HS
  have hbd := Kd.R_bound ha
  refine Kd.R_append_step d (w0 := W) 0 hw s x t e z bytes ho ht hinfo hz hs0 hb0 v xs p cs (fun k => ((g k ∨ g2 k) ∧ k < W.heap.size) ∨ W.heap.size ≤ k) (fun k => g2 k ∧ k < W.heap.size) hs hx (hE _ (E.bound he)) (fun i hi => ⟨.inl ⟨.inr hi.1, hi.2⟩, fun e => hd i (hbd.1 i e.symm).1 (hg2 i hi.1 |> hk i |> fun _ => hg2 i hi.1)⟩) (fun _ h => .inr h) (Kd.R_mono hbd (fun k hk => .inl ⟨.inl hk.1, hk.2.2.1⟩)) (Below.refl _ _) (Nat.zero_le _) hl ?_
  intro v1 w1 hr hB hgr hat
  have hblk : ∀ k, k < W.heap.size → ¬ g k → w1.heap[k]? = W.heap[k]? := fun k hlt hn => hgr.block k hlt (fun e => hn (hbd.1 k e.symm).1)
  refine h v1 w1 ?_ ⟨hB.os, hB.tape, hB.output, hgr.size, fun i hi => hblk i (Nat.lt_of_lt_of_le hi hbase) (fun hgi => by have := hf i (hg i hgi); omega)⟩
  refine ⟨fun i => (((g i ∨ g2 i) ∧ i < W.heap.size) ∨ W.heap.size ≤ i) ∨ k2 i, ⟨_, fun i => k2 i ∧ i < W.heap.size, fun i h1 h2 => ?_, fun _ h => .inl h, fun _ h => .inr h.1, hr, F.step (F.bound hb) (fun i hi _ => hblk i hi.2 (fun hgi => hd i hgi (hk2 i hi.1)))⟩, fun i hi => ?_⟩
  · rcases h1 with ⟨h1 | h1, _⟩ | h1
    · exact hd i h1 (hk2 i h2.1)
    · exact hd2 i h1 h2.1
    · have := h2.2; omega
  · rcases hi with (⟨hi | hi, _⟩ | hi) | hi
    · exact hf i (hg i hi)
    · exact hf i (hk i (hg2 i hi))
    · omega
    · exact hf i (hk i (hk2 i hi))
end
section
variable {α : Type}
/-- v[i] = u: the element u is what E tells of; it becomes v's. -/
theorem sep_store_elem (d : Kd α) (hsz : d.sz = 1) {W : World} {E F : Assn} {base : Nat} {e g n cap : Nat} {xs : List α} {x' : α} {u : Value} (hE : ∀ f, E.S W f → d.M W 0 f x' [u])
    (HS : Sep base (Star (Row d e (.slice (some ⟨g, 0, none⟩) n cap) xs) (Star E F)) W) (hbase : base ≤ W.heap.size) (i : Nat) (hi : i < n) :
    Sep base (Star (Row d e (.slice (some ⟨g, 0, none⟩) n cap) (xs.set i x')) F) (W.setCell ⟨g, i, none⟩ u) := by
  obtain ⟨f, ⟨g1, k, hd, hg, hk, ha, ⟨g2, k2, hd2, hg2, hk2, he, hb⟩⟩, hf⟩ := HS
  have hbd := Kd.R_bound ha
  have hgg : g1 g ∧ g < W.heap.size := by have := hbd.1 g (by simp [Value.ownBlock]); exact ⟨this.1, this.2.2.1⟩
  obtain ⟨A, c', hv, hlc, hC⟩ := Kd.R_reads ha
  injection hv with hA hn hc
  subst hA
  obtain ⟨ad, c, hA2, hcl, _, hcc⟩ := Kd.C_get hC x' (i : Int) (by omega) (by omega)
  injection hA2 with hA2
  subst hA2
  have hset := Kd.R_seg (okp := fun k => g2 k ∧ k < W.heap.size) (ok := fun k => ((g1 k ∨ g2 k) ∧ k < W.heap.size)) (Kd.R_mono hbd (fun k hk => ⟨.inl hk.1, hk.2.2.1⟩)) (i : Int) (by omega) (by omega) (c := c) (seg := [u]) (j := 0) hcl
    (fun j u hj => by rw [← add_plain]; exact hcc j u hj) (by rw [hsz]; simp) (x' := x') (by
      have hc1 : c.length = 1 := hcl.trans hsz
      have : c.take 0 ++ [u] ++ c.drop (0 + [u].length) = [u] := by
        rw [List.take_zero, List.nil_append, List.drop_eq_nil_of_le (by simp [hc1]), List.append_nil]
      rw [this]
      exact hE _ (E.bound he)) (fun k hk => ⟨⟨.inr hk.1, hk.2⟩, fun e => hd g (hgg.1) (hk2 g |> fun _ => by rw [← e]; exact hg2 k hk.1)⟩)
  have hw : W.setCells g ((i : Int).toNat * d.sz + 0) [u] = W.setCell ⟨g, i, none⟩ u := by
    rw [hsz, Int.toNat_natCast, Nat.mul_one, Nat.add_zero]; rfl
  rw [hw, Int.toNat_natCast] at hset
  refine ⟨fun i => ((g1 i ∨ g2 i) ∧ i < W.heap.size) ∨ k2 i, ⟨_, fun i => k2 i ∧ i < W.heap.size, fun i h1 h2 => ?_, fun _ h => .inl h, fun _ h => .inr h.1, hset.1, F.step (F.bound hb) (fun q hq _ => Below.heap_setCell W ⟨g, i, none⟩ u q (fun e => hd g hgg.1 (by have h9 := hk2 q hq.1; rw [e] at h9; exact h9)))⟩, fun i hi => ?_⟩
  · rcases h1 with ⟨h1 | h1, _⟩
    · exact hd i h1 (hk2 i h2.1)
    · exact hd2 i h1 h2.1
  · rcases hi with ⟨hi | hi, _⟩ | hi
    · exact hf i (hg i hi)
    · exact hf i (hk i (hg2 i hi))
    · exact hf i (hk i (hk2 i hi))
/-- A row of one's own as the element of a row of rows. -/
theorem row_elem {e : Nat} {d : Kd α} {v : Value} {xs : List α} {W : World} {f : Nat → Prop} (h : (Row d e v xs).S W f) : (Kd.slice e d).M W 0 f xs [v] := ⟨v, rfl, h⟩
theorem row_block {base e g n cap : Nat} {A : Option Addr} {d : Kd α} {xs : List α} {F : Assn} {W : World} (h : Sep base (Star (Row d e (.slice A n cap) xs) F) W) (hn : 0 < n) : ∃ g, A = some ⟨g, 0, none⟩ ∧ base ≤ g := by
  obtain ⟨f, ⟨g1, k, hd, hg, hk, ha, hb⟩, hf⟩ := h
  obtain ⟨inner, ho⟩ := Kd.R_own ha
  have hx : n = xs.length := by
    obtain ⟨A', c', hv, _, _⟩ := Kd.R_reads ha
    injection hv
  obtain ⟨g, cap', hv, _, _⟩ := ho.form (by omega)
  injection hv with h1 _ _
  exact ⟨g, h1, hf g (hg g (ha.1 g (by rw [h1]; rfl)))⟩
theorem row_frozen {base e g n cap : Nat} {d : Kd α} {xs : List α} {F : Assn} {W : World} (h : Sep base (Star (Row d e (.slice (some ⟨g, 0, none⟩) n cap) xs) F) W) (k : Nat) : W.frozen? ⟨g, k, none⟩ = false := by
  obtain ⟨f, ⟨g1, _, hd, hg, hk, ha, hb⟩, hf⟩ := h
  obtain ⟨inner, ho⟩ := Kd.R_own ha
  obtain ⟨cells, hc⟩ := own_typed ho g (by simp [Value.ownBlock])
  exact blk_frozen hc k
end
end Go.Proofs.Ythofobcbbddeeaa.XS
