/- From what a claim says of an argument's cells to what the functions' proofs ask: numbers, texts, rows, structs, one inside the other. Conditions: none beyond those that each lemma states. -/
import Derived.Test.YthofobcbbddeeaaWMore
import Derived.ChangeArms
import Derived.ChangeShapes
import Derived.WideShapes
import Derived.ChangeOld
import Derived.DataReads
namespace Go.Proofs.Ythofobcbbddeeaa.XO
open Go.ChangeShapes Go.WideShapes Go.RowKit Go.Proofs.YthofobcbbddeeaaW.PrintWords
set_option linter.unusedVariables false
set_option linter.unusedSimpArgs false

/-- Cells of a type that a claim can read, a kind reads too; Q: what is known of the value besides. -/
def Opens (P : Program) (t : TypeId) {α : Type} (d : Kd α) (Q : α → Prop) : Prop :=
  P.cellsOf t = d.sz ∧ ∀ (H : Type) (enc : TypeId × Value → H) (w : World) (fuel : Nat) (cs : List Value) (x : DataW H × List MemPlace),
    DataW.trod enc P w 0 (fun _ => true) true fuel t cs = some x → ∃ a, d.K w a cs ∧ Q a
theorem opens_int {P : Program} {t : TypeId} {k : IntKind} (ht : P.underlying t = some (.int k)) (hc : P.cellsOf t = 1) : Opens P t (Kd.int k) (fun n => (Lit.int k n).wf = true) := by
  refine ⟨hc, fun H enc w fuel cs x h => ?_⟩
  obtain ⟨n, rfl, _, hn⟩ := DataW.trod_int ht h
  exact ⟨n, rfl, hn⟩
theorem opens_string {P : Program} {t : TypeId} (ht : P.underlying t = some .string) (hc : P.cellsOf t = 1) : Opens P t Kd.string (fun s => s.size ≤ maxLen) := by
  refine ⟨hc, fun H enc w fuel cs x h => ?_⟩
  obtain ⟨s, rfl, _, hn⟩ := DataW.trod_string ht h
  exact ⟨s, rfl, hn⟩
theorem opens_bool {P : Program} {t : TypeId} (ht : P.underlying t = some .bool) (hc : P.cellsOf t = 1) : Opens P t Kd.bool (fun _ => True) := by
  refine ⟨hc, fun H enc w fuel cs x h => ?_⟩
  obtain ⟨s, rfl, _⟩ := DataW.trod_bool ht h
  exact ⟨s, rfl, trivial⟩
theorem list_of {α : Type} {R : Nat → α → Prop} : ∀ n : Nat, (∀ i, i < n → ∃ a, R i a) → ∃ l : List α, l.length = n ∧ ∀ i a, l[i]? = some a → R i a
  | 0, _ => ⟨[], rfl, fun i a h => by simp at h⟩
  | n + 1, h => by
    obtain ⟨l, hl, hr⟩ := list_of n (fun i hi => h i (by omega))
    obtain ⟨a, ha⟩ := h n (by omega)
    refine ⟨l ++ [a], by rw [List.length_append, hl]; rfl, fun i b hb => ?_⟩
    by_cases c : i < n
    · rw [List.getElem?_append_left (by omega)] at hb
      exact hr i b hb
    · have hi : i = n := by
        have := (List.getElem?_eq_some_iff.1 hb).1
        rw [List.length_append, hl] at this
        simp at this
        omega
      subst hi
      rw [List.getElem?_append_right (by omega), hl, Nat.sub_self] at hb
      simp at hb
      rw [← hb]
      exact ha
theorem opens_slice {P : Program} {t e : TypeId} {α : Type} {d : Kd α} {Q : α → Prop} (e' : Nat) (ht : P.underlying t = some (.slice e)) (hc : P.cellsOf t = 1) (h : Opens P e d Q) :
    Opens P t (Kd.slice e' d) (fun xs => xs.length ≤ maxLen ∧ ∀ x ∈ xs, Q x) := by
  refine ⟨hc, fun H enc w fuel cs x hx => ?_⟩
  rcases DataW.trod_slice ht hx with ⟨rfl, _⟩ | ⟨a, len, cap, elems, rest, n, _, rfl, _, _, hl, hm, hlen, hel, _, _⟩
  · exact ⟨[], ⟨none, 0, rfl, Nat.le_refl _, rfl, by simp, fun h => absurd h (Nat.lt_irrefl 0)⟩, Nat.zero_le _, fun x hx => absurd hx (List.not_mem_nil)⟩
  · obtain ⟨l, hll, hlr⟩ := list_of (R := fun i y => Q y ∧ ∃ c, c.length = d.sz ∧ d.K w y c ∧ ∀ j u, c[j]? = some u → w.cell? (a.add (i * d.sz + j)) = some u) len (fun i hi => by
      have h1 := hel i hi
      rw [List.getElem?_eq_getElem (by omega), Option.bind_eq_some_iff] at h1
      obtain ⟨c, hc1, hc2⟩ := h1
      obtain ⟨y, hy, hq⟩ := h.2 H enc w n c _ hc2
      obtain ⟨_, hcl, hcc⟩ := World.cells?_some hc1
      refine ⟨y, hq, c, by rw [hcl, h.1], hy, fun j u hu => ?_⟩
      have hj : j < P.cellsOf e := by have := (List.getElem?_eq_some_iff.1 hu).1; omega
      have := hcc j hj
      rw [hu, Addr.add_add, h.1] at this
      exact this)
    refine ⟨l, ⟨some a, cap, by rw [hll], by omega, by rw [hll], ?_, fun _ => ⟨a, rfl, fun j p hp => ?_⟩⟩, by omega, fun y hy => ?_⟩
    · rw [hll]; unfold maxLen at hm; omega
    · obtain ⟨_, c, h1, h2, h3⟩ := hlr j p hp
      exact ⟨c, h1, h2, h3⟩
    · obtain ⟨i, hi, rfl⟩ := List.getElem_of_mem hy
      exact (hlr i _ (List.getElem?_eq_getElem hi)).1
/-- A struct's fields, from an offset on. -/
def OpensF (P : Program) (L : List (Nat × TypeId)) (o : Nat) {α : Type} (d : Kd α) (Q : α → Prop) : Prop :=
  ∀ (H : Type) (enc : TypeId × Value → H) (w : World) (n : Nat) (cs : List Value), cs.length = o + d.sz →
    (∀ p ∈ L, ∃ x, DataW.trod enc P w 0 (fun _ => true) true n p.2 ((cs.drop p.1).take (P.cellsOf p.2)) = some x) → ∃ a, d.K w a (cs.drop o) ∧ Q a
theorem opensF_one {P : Program} {t : TypeId} {α : Type} {d : Kd α} {Q : α → Prop} (o : Nat) (h : Opens P t d Q) : OpensF P [(o, t)] o d Q := by
  intro H enc w n cs hl hp
  obtain ⟨x, hx⟩ := hp _ (List.mem_singleton.2 rfl)
  simp only at hx
  rw [h.1, List.take_of_length_le (by rw [List.length_drop]; omega)] at hx
  exact h.2 H enc w n _ x hx
theorem opensF_cons {P : Program} {t : TypeId} {L : List (Nat × TypeId)} {α β : Type} {d : Kd α} {k : Kd β} {Q : α → Prop} {S : β → Prop} (o : Nat) (h : Opens P t d Q) (hs : OpensF P L (o + d.sz) k S) :
    OpensF P ((o, t) :: L) o (Kd.pair d k) (fun x => Q x.1 ∧ S x.2) := by
  intro H enc w n cs hl hp
  have hl : cs.length = o + (d.sz + k.sz) := hl
  obtain ⟨x, hx⟩ := hp _ (List.mem_cons_self ..)
  simp only at hx
  rw [h.1] at hx
  obtain ⟨a, ha, hq⟩ := h.2 H enc w n _ x hx
  obtain ⟨b, hb, hs⟩ := hs H enc w n cs (by omega) (fun p hp' => hp p (List.mem_cons_of_mem _ hp'))
  refine ⟨(a, b), ⟨_, _, ?_, ha, hb⟩, hq, hs⟩
  rw [← List.drop_drop]
  exact (List.take_append_drop _ _).symm
theorem opens_struct {P : Program} {t : TypeId} {fs : Array Field} {α β : Type} {d : Kd α} {Q : α → Prop} (L : List (Nat × TypeId)) (ht : P.underlying t = some (.struct fs)) (hc : P.cellsOf t = d.sz)
    (hL : fs.toList.map (fun f => (f.offset, f.type)) = L) (f : β → α) (g : α → β) (hfg : ∀ a, f (g a) = a) (h : OpensF P L 0 d Q) : Opens P t (Kd.iso d f) (fun b => Q (f b)) := by
  refine ⟨hc, fun H enc w fuel cs x hx => ?_⟩
  obtain ⟨xs, n, _, _, hlen, hxs, hf⟩ := DataW.trod_struct ht hx
  obtain ⟨a, ha, hq⟩ := h H enc w n cs (by rw [hlen, hc, Nat.zero_add]) (fun p hp => by
    rw [← hL] at hp
    obtain ⟨fd, hfd, rfl⟩ := List.mem_map.1 hp
    obtain ⟨i, hi, rfl⟩ := List.getElem_of_mem hfd
    have hi' : i < fs.size := by simpa using hi
    have := hf i fs[i] (Array.getElem?_eq_getElem hi')
    rw [List.getElem?_eq_getElem (by omega)] at this
    exact ⟨_, by simpa using this⟩)
  exact ⟨g a, by show d.K w (f (g a)) cs; rw [hfg]; exact ha, by show Q (f (g a)); rw [hfg]; exact hq⟩
theorem Opens.mono {P : Program} {t : TypeId} {α : Type} {d : Kd α} {Q S : α → Prop} (h : Opens P t d Q) (hs : ∀ a, Q a → S a) : Opens P t d S :=
  ⟨h.1, fun H enc w fuel cs x hx => by obtain ⟨a, ha, hq⟩ := h.2 H enc w fuel cs x hx
                                       exact ⟨a, ha, hs a hq⟩⟩
/-- An argument of the law. -/
theorem Opens.arg {P : Program} {t : TypeId} {α : Type} {d : Kd α} {Q : α → Prop} (h : Opens P t d Q) {H : Type} {enc : TypeId × Value → H} {w : World} {v : Value} {dd : DataW H} {ps : List MemPlace}
    (hv : DataW.Trod enc P w 0 (fun _ => true) true t v dd ps) : ∃ a, d.K w a v.cells.toList ∧ Q a := by
  obtain ⟨fuel, hf⟩ := hv
  exact h.2 H enc w fuel _ _ hf

end Go.Proofs.Ythofobcbbddeeaa.XO
