/- States that live behind pointers, side by side: what each is, and that what is done to one leaves the others. Conditions: none beyond those that each lemma states. -/
import Derived.Test.YtphdjpfdelpecaaGreatDoorXW
import Derived.Test.YtphdjpfdelpecaaGreatDoorProg
import Derived.Below
import Derived.Deep.Draws
import Derived.Deep.AppendLies
import Derived.Maps.AppendAt
import Derived.OwnWalk
import Derived.Laws.BytesArg
import Derived.Laws.MakeOwn
import Derived.Laws.OwnMore
import Derived.Deep.OwnRows
import Derived.Tactics
import Derived.Lib.ConvBytes
import Derived.Laws.Slices
import Derived.WalkKit
import Derived.KernelRfl
import Derived.RowKit3
import Derived.Deep.LoopGhost
import Derived.Deep.QuietTactic
import Derived.BigQuiet
import Derived.WideLaws
import Derived.Deep.DeepCutAuto
import Derived.Deep.CutBlock
import Derived.Deep.RegionHeld3
import Derived.Laws.Rows
import Derived.Lib.AppendStr
import Derived.ArgAppend
import Derived.Laws.IdiomCopy
import Derived.OrdersHeld
import Derived.Laws.BitsLemmas
import Derived.RowKit
import Derived.Test.YtphdjpfdelpecaaGreatDoorWWords
import Derived.Test.YtphdjpfdelpecaaGreatDoorWLast
import Derived.Test.YtphdjpfdelpecaaGreatDoorWTab
import Derived.Test.YtphdjpfdelpecaaGreatDoorWFour
import Derived.Test.YtphdjpfdelpecaaGreatDoorWQPut
import Derived.Test.YtphdjpfdelpecaaGreatDoorWApart
import Derived.Test.YtphdjpfdelpecaaGreatDoorWArr
import Derived.Test.YtphdjpfdelpecaaGreatDoorWZeros
import Derived.Test.YtphdjpfdelpecaaGreatDoorWFoot
import Derived.Test.YtphdjpfdelpecaaGreatDoorWKept
import Derived.Test.YtphdjpfdelpecaaGreatDoorWShare
import Derived.Test.YtphdjpfdelpecaaGreatDoorWN
import Derived.Test.YtphdjpfdelpecaaGreatDoorWFootNe
import Derived.Test.YtphdjpfdelpecaaGreatDoorWAt
import Derived.Test.YtphdjpfdelpecaaGreatDoorWEqStruct
import Derived.Test.YtphdjpfdelpecaaGreatDoorWRepsOne
import Derived.Test.YtphdjpfdelpecaaGreatDoorWInv
import Derived.Test.YtphdjpfdelpecaaGreatDoorWInvWords
import Derived.Test.YtphdjpfdelpecaaGreatDoorWGuard
import Derived.Test.YtphdjpfdelpecaaGreatDoorWNEv
import Derived.Test.YtphdjpfdelpecaaGreatDoorWMore
namespace Go.Proofs.YtphdjpfdelpecaaGreatDoor.XS
open Go.RowKit Go.Proofs.YtphdjpfdelpecaaGreatDoorW.PrintWords
set_option linter.unusedVariables false
set_option linter.unusedSimpArgs false
structure Assn where
  S : World → (Nat → Prop) → Prop
  mono : ∀ {w : World} {f g : Nat → Prop}, (∀ k, f k → g k) → S w f → S w g
  bound : ∀ {w : World} {f : Nat → Prop}, S w f → S w (fun k => f k ∧ k < w.heap.size)
  move : ∀ {w w1 : World} {f : Nat → Prop}, (∀ k, f k → w1.heap[k]? = w.heap[k]?) → S w f → S w1 f
def Star (A B : Assn) : Assn where
  S := fun w f => ∃ g h : Nat → Prop, (∀ k, g k → h k → False) ∧ (∀ k, g k → f k) ∧ (∀ k, h k → f k) ∧ A.S w g ∧ B.S w h
  mono := by
    rintro w f f' hf ⟨g, h, hd, hg, hh, ha, hb⟩
    exact ⟨g, h, hd, fun k hk => hf k (hg k hk), fun k hk => hf k (hh k hk), ha, hb⟩
  bound := by
    rintro w f ⟨g, h, hd, hg, hh, ha, hb⟩
    exact ⟨_, _, fun k h1 h2 => hd k h1.1 h2.1, fun k hk => ⟨hg k hk.1, hk.2⟩, fun k hk => ⟨hh k hk.1, hk.2⟩, A.bound ha, B.bound hb⟩
  move := by
    rintro w w1 f hm ⟨g, h, hd, hg, hh, ha, hb⟩
    exact ⟨g, h, hd, hg, hh, A.move (fun k hk => hm k (hg k hk)) ha, B.move (fun k hk => hm k (hh k hk)) hb⟩
def Emp : Assn := ⟨fun _ _ => True, fun _ h => h, fun h => h, fun _ h => h⟩
def Ex {α : Type} (A : α → Assn) : Assn where
  S := fun w f => ∃ x, (A x).S w f
  mono := fun hf ⟨x, h⟩ => ⟨x, (A x).mono hf h⟩
  bound := fun ⟨x, h⟩ => ⟨x, (A x).bound h⟩
  move := fun hm ⟨x, h⟩ => ⟨x, (A x).move hm h⟩
def Only (p : Prop) (A : Assn) : Assn where
  S := fun w f => p ∧ A.S w f
  mono := fun hf ⟨x, h⟩ => ⟨x, A.mono hf h⟩
  bound := fun ⟨x, h⟩ => ⟨x, A.bound h⟩
  move := fun hm ⟨x, h⟩ => ⟨x, A.move hm h⟩
def Blk (g : Nat) (cs : Array Value) (t : TypeId) : Assn where
  S := fun w f => f g ∧ w.heap[g]? = some (.cells cs t (0, 0))
  mono := fun hf h => ⟨hf _ h.1, h.2⟩
  bound := fun h => ⟨⟨h.1, blk_lt h.2⟩, h.2⟩
  move := fun hm h => ⟨h.1, (hm _ h.1).trans h.2⟩
def Row {α : Type} (d : Kd α) (e : Nat) (v : Value) (xs : List α) : Assn where
  S := fun w f => d.R e w 0 f v xs
  mono := fun hf h => Kd.R_mono h hf
  bound := fun h => Kd.R_mono (Kd.R_bound h) (fun _ hk => ⟨hk.1, hk.2.2.1⟩)
  move := fun hm h => Kd.R_move h hm
def Stars : List Assn → Assn
  | [] => Emp
  | A :: l => Star A (Stars l)
def Sep (base : Nat) (A : Assn) (w : World) : Prop := ∃ f : Nat → Prop, A.S w f ∧ ∀ k, f k → base ≤ k
section
variable {base : Nat} {A B C F : Assn} {w w1 : World}
theorem Assn.step {f : Nat → Prop} (A : Assn) (h : A.S w f) (hm : ∀ k, f k → k < w.heap.size → w1.heap[k]? = w.heap[k]?) : A.S w1 f := A.mono (fun _ hk => hk.1) (A.move (fun k hk => hm k hk.1 hk.2) (A.bound h))
theorem Sep.below (h : Sep base A w) (hb : Below w.heap.size w w1) : Sep base A w1 := by
  obtain ⟨f, h, hf⟩ := h
  exact ⟨f, A.step h (fun k _ hk => hb.block k hk), hf⟩
theorem Sep.drewN (h : Sep base A w) (n : Nat) : Sep base A (w.drewN n) := h.below (pw_below_drewN (Below.refl _ _) n)
theorem Sep.emp (base : Nat) (w : World) : Sep base Emp w := ⟨fun _ => False, trivial, fun _ h => h.elim⟩
theorem Sep.comm (h : Sep base (Star A B) w) : Sep base (Star B A) w := by
  obtain ⟨f, ⟨g, k, hd, hg, hk, ha, hb⟩, hf⟩ := h
  exact ⟨f, ⟨k, g, fun x h1 h2 => hd x h2 h1, hk, hg, hb, ha⟩, hf⟩
theorem star_assoc {f : Nat → Prop} (h : (Star (Star A B) C).S w f) : (Star A (Star B C)).S w f := by
  obtain ⟨g, k, hd, hg, hk, ⟨g1, g2, hd2, hg1, hg2, ha, hb⟩, hc⟩ := h
  exact ⟨g1, fun x => g2 x ∨ k x, fun x h1 h2 => h2.elim (hd2 x h1) (hd x (hg1 x h1)), fun x h => hg x (hg1 x h), fun x h => h.elim (fun h => hg x (hg2 x h)) (hk x), ha, g2, k, fun x h1 h2 => hd x (hg2 x h1) h2, fun _ h => .inl h, fun _ h => .inr h, hb, hc⟩
theorem star_assoc' {f : Nat → Prop} (h : (Star A (Star B C)).S w f) : (Star (Star A B) C).S w f := by
  obtain ⟨g, k, hd, hg, hk, ha, g1, g2, hd2, hg1, hg2, hb, hc⟩ := h
  exact ⟨fun x => g x ∨ g1 x, g2, fun x h1 h2 => h1.elim (fun h => hd x h (hg2 x h2)) (fun h => hd2 x h h2), fun x h => h.elim (hg x) (fun h => hk x (hg1 x h)), fun x h => hk x (hg2 x h), ⟨g, g1, fun x h1 h2 => hd x h1 (hg1 x h2), fun _ h => .inl h, fun _ h => .inr h, ha, hb⟩, hc⟩
theorem star_comm {f : Nat → Prop} (h : (Star A B).S w f) : (Star B A).S w f := by
  obtain ⟨g, k, hd, hg, hk, ha, hb⟩ := h
  exact ⟨k, g, fun x h1 h2 => hd x h2 h1, hk, hg, hb, ha⟩
theorem star_imp {f : Nat → Prop} (h : (Star A B).S w f) (hb : ∀ f, B.S w f → C.S w f) : (Star A C).S w f := by
  obtain ⟨g, k, hd, hg, hk, ha, hx⟩ := h
  exact ⟨g, k, hd, hg, hk, ha, hb _ hx⟩
theorem star_imp1 {f : Nat → Prop} (h : (Star A B).S w f) (ha : ∀ f, A.S w f → C.S w f) : (Star C B).S w f := by
  obtain ⟨g, k, hd, hg, hk, hx, hb⟩ := h
  exact ⟨g, k, hd, hg, hk, ha _ hx, hb⟩
theorem stars_front {A : Assn} : ∀ (l1 : List Assn) {l2 : List Assn} {f : Nat → Prop}, (Stars (l1 ++ A :: l2)).S w f → (Star A (Stars (l1 ++ l2))).S w f
  | [], _, _, h => h
  | B :: l1, l2, f, h => by
    have h1 : (Star B (Star A (Stars (l1 ++ l2)))).S w f := star_imp h (fun f hf => stars_front l1 hf)
    exact star_imp (star_assoc (star_imp1 (star_assoc' h1) (fun _ h => star_comm h))) (fun _ h => h)
theorem stars_back {A : Assn} : ∀ (l1 : List Assn) {l2 : List Assn} {f : Nat → Prop}, (Star A (Stars (l1 ++ l2))).S w f → (Stars (l1 ++ A :: l2)).S w f
  | [], _, _, h => h
  | B :: l1, l2, f, h => by
    have h1 : (Star B (Star A (Stars (l1 ++ l2)))).S w f := star_assoc (star_imp1 (star_assoc' h) (fun _ h => star_comm h))
    exact star_imp h1 (fun f hf => stars_back l1 hf)
theorem star_emp {f : Nat → Prop} (h : A.S w f) : (Star A Emp).S w f := ⟨f, fun _ => False, fun _ _ h => h, fun _ h => h, fun _ h => h.elim, h, trivial⟩
theorem Sep.one (h : Sep base A w) : Sep base (Stars [A]) w := by
  obtain ⟨f, h, hf⟩ := h
  exact ⟨f, star_emp h, hf⟩
theorem Sep.more {l : List Assn} (h : Sep base (Stars l) w) (hA : Sep w.heap.size A w1) (hb : Below w.heap.size w w1) (hbase : base ≤ w.heap.size) : Sep base (Stars (A :: l)) w1 := by
  obtain ⟨f, h, hf⟩ := h
  obtain ⟨g, hA, hg⟩ := hA
  exact ⟨fun k => g k ∨ f k, ⟨g, fun k => f k ∧ k < w.heap.size, fun k h1 h2 => by have := hg k h1; omega, fun _ h => .inl h, fun _ h => .inr h.1, hA, (Stars l).step ((Stars l).bound h) (fun k hk _ => hb.block k hk.2)⟩, fun k hk => hk.elim (fun h => Nat.le_trans hbase (hg k h)) (hf k)⟩
theorem Sep.front (l1 l2 : List Assn) (h : Sep base (Stars (l1 ++ A :: l2)) w) : Sep base (Star A (Stars (l1 ++ l2))) w := by obtain ⟨f, h, hf⟩ := h; exact ⟨f, stars_front l1 h, hf⟩
theorem Sep.back (l1 l2 : List Assn) (h : Sep base (Star A (Stars (l1 ++ l2))) w) : Sep base (Stars (l1 ++ A :: l2)) w := by obtain ⟨f, h, hf⟩ := h; exact ⟨f, stars_back l1 h, hf⟩
theorem Sep.left (h : Sep base (Star A B) w) : Sep base A w := by
  obtain ⟨f, ⟨g, k, hd, hg, hk, ha, hb⟩, hf⟩ := h
  exact ⟨g, ha, fun x h => hf x (hg x h)⟩
theorem Sep.right (h : Sep base (Star A B) w) : Sep base B w := h.comm.left
theorem Sep.imp (h : Sep base (Star A F) w) (ha : ∀ f, A.S w f → B.S w f) : Sep base (Star B F) w := by
  obtain ⟨f, h, hf⟩ := h
  exact ⟨f, star_imp1 h ha, hf⟩
theorem Sep.ex {α : Type} {A : α → Assn} (h : Sep base (Star (Ex A) F) w) : ∃ x, Sep base (Star (A x) F) w := by
  obtain ⟨f, ⟨g, k, hd, hg, hk, ⟨x, ha⟩, hb⟩, hf⟩ := h
  exact ⟨x, f, ⟨g, k, hd, hg, hk, ha, hb⟩, hf⟩
theorem Sep.only {p : Prop} (h : Sep base (Star (Only p A) F) w) : p ∧ Sep base (Star A F) w := by
  obtain ⟨f, ⟨g, k, hd, hg, hk, ⟨hp, ha⟩, hb⟩, hf⟩ := h
  exact ⟨hp, f, ⟨g, k, hd, hg, hk, ha, hb⟩, hf⟩
theorem Sep.new (h : Sep base F w) (hA : Sep w.heap.size A w1) (hb : Below w.heap.size w w1) (hbase : base ≤ w.heap.size) : Sep base (Star A F) w1 := by
  obtain ⟨f, h, hf⟩ := h
  obtain ⟨g, hA, hg⟩ := hA
  exact ⟨fun k => g k ∨ f k, ⟨g, fun k => f k ∧ k < w.heap.size, fun k h1 h2 => by have := hg k h1; omega, fun _ h => .inl h, fun _ h => .inr h.1, hA, F.step (F.bound h) (fun k hk _ => hb.block k hk.2)⟩, fun k hk => hk.elim (fun h => Nat.le_trans hbase (hg k h)) (hf k)⟩
theorem Sep.change {B : Assn} (h : Sep base (Star A F) w) (hbase : base ≤ w.heap.size)
    (hc : ∀ f, A.S w f → (∀ k, f k → k < w.heap.size) → (∀ k, f k → base ≤ k) → ∃ f', B.S w1 f' ∧ (∀ k, f' k → f k ∨ w.heap.size ≤ k) ∧ ∀ k, k < w.heap.size → ¬ f k → w1.heap[k]? = w.heap[k]?) : Sep base (Star B F) w1 := by
  obtain ⟨f, ⟨g, k, hd, hg, hk, ha, hb⟩, hf⟩ := h
  obtain ⟨f', h1, h2, h3⟩ := hc _ (A.bound ha) (fun _ h => h.2) (fun x h => hf x (hg x h.1))
  refine ⟨fun x => f' x ∨ k x, ⟨f', fun x => k x ∧ x < w.heap.size, fun x hx hy => ?_, fun _ h => .inl h, fun _ h => .inr h.1, h1, F.step (F.bound hb) (fun x hx _ => h3 x hx.2 (fun hz => hd x hz.1 hx.1))⟩, fun x hx => ?_⟩
  · rcases h2 x hx with hz | hz
    · exact hd x hz.1 hy.1
    · have := hy.2; omega
  · rcases hx with hx | hx
    · rcases h2 x hx with hz | hz
      · exact hf x (hg x hz.1)
      · omega
    · exact hf x (hk x hx)
theorem Sep.blk {g : Nat} {cs : Array Value} {t : TypeId} (h : Sep base (Star (Blk g cs t) F) w) : w.heap[g]? = some (.cells cs t (0, 0)) := by
  obtain ⟨f, ⟨_, _, _, _, _, ha, _⟩, _⟩ := h
  exact ha.2
theorem Sep.blk_le {g : Nat} {cs : Array Value} {t : TypeId} (h : Sep base (Star (Blk g cs t) F) w) : base ≤ g := by
  obtain ⟨f, ⟨x, _, _, hg, _, ha, _⟩, hf⟩ := h
  exact hf g (hg g ha.1)
theorem Sep.row {α : Type} {d : Kd α} {e : Nat} {v : Value} {xs : List α} (h : Sep base (Star (Row d e v xs) F) w) : ∃ A c, v = .slice A xs.length c ∧ xs.length ≤ c ∧ d.C w A xs.length xs := by
  obtain ⟨f, ⟨_, _, _, _, _, ha, _⟩, _⟩ := h
  exact Kd.R_reads ha
theorem Sep.row1 {α : Type} {d : Kd α} {e : Nat} {v : Value} {xs : List α} (h : Sep base (Row d e v xs) w) : ∃ A c, v = .slice A xs.length c ∧ xs.length ≤ c ∧ d.C w A xs.length xs := by
  obtain ⟨f, ha, _⟩ := h
  exact Kd.R_reads ha
theorem Sep.row_cut {α : Type} {d : Kd α} {e : Nat} {A' : Option Addr} {n c : Nat} {xs : List α} (h : Sep base (Star (Row d e (.slice A' n c) xs) F) w) : n = xs.length ∧ xs.length ≤ c ∧ d.C w A' xs.length xs := by
  obtain ⟨A, c', h1, h2, h3⟩ := h.row
  cases h1
  exact ⟨rfl, h2, h3⟩
theorem Sep.new_blk {g : Nat} {cs : Array Value} {t : TypeId} (h : Sep base F w) (hbase : base ≤ w.heap.size) (hg : g = w.heap.size) (hb : Below w.heap.size w w1) (hh : w1.heap[g]? = some (.cells cs t (0, 0))) : Sep base (Star (Blk g cs t) F) w1 :=
  h.new ⟨fun k => k = g, ⟨rfl, hh⟩, fun k hk => by rw [hk, hg]; exact Nat.le_refl _⟩ hb hbase
theorem Sep.store {g : Nat} {cs : Array Value} {t : TypeId} (h : Sep base (Star (Blk g cs t) F) w) (hbase : base ≤ w.heap.size) (j : Nat) (u : Value) {cs' : Array Value} (hcs : cs.setIfInBounds j u = cs') : Sep base (Star (Blk g cs' t) F) (w.setCell ⟨g, j, none⟩ u) :=
  h.change hbase (fun f ha hl hf => ⟨f, ⟨ha.1, by subst hcs; exact blk_put ha.2 j u rfl⟩, fun _ h => .inl h, fun k hk hn => Below.heap_setCell w ⟨g, j, none⟩ u k (fun e => hn (by rw [e]; exact ha.1))⟩)
theorem Sep.size_store {g j : Nat} {u : Value} (h : base ≤ w.heap.size) : base ≤ (w.setCell ⟨g, j, none⟩ u).heap.size := by
  have : (w.setCell ⟨g, j, none⟩ u).heap.size = w.heap.size := by simp [World.setCell]
  omega
theorem Sep.new_row {α : Type} {d : Kd α} {e : Nat} {ok : Nat → Prop} {v : Value} {xs : List α} (h : Sep base F w) (hbase : base ≤ w.heap.size) (hb : Below w.heap.size w w1) (hr : d.R e w1 w.heap.size ok v xs) : Sep base (Star (Row d e v xs) F) w1 :=
  h.new ⟨_, Kd.R_lower (Kd.R_bound hr) (Nat.zero_le _), fun k hk => hk.2.1⟩ hb hbase
theorem Sep.nil_row {α : Type} (d : Kd α) (e : Nat) (h : Sep base F w) : Sep base (Star (Row d e (.slice none 0 0) []) F) w := by
  obtain ⟨f, h, hf⟩ := h
  exact ⟨f, ⟨fun _ => False, f, fun _ h _ => h, fun _ h => h.elim, fun _ h => h, Kd.R_nil _ _ _ _ _, h⟩, hf⟩
end
section
variable {P : Program} {ops : Array Oper} {rest : List Oper} {o : Oper} {a : Act} {Q : Exit → Act → World → Prop} {α : Type}
theorem sep_append {enc : α → Value} {h1 : ∀ x, (enc x).oneCell' = true} {W : World} {F : Assn} (base : Nat) (hgd : o.guard = none) (s x : Operand) (t e : TypeId) (z : Value) (bytes : Nat)
    (ho : o.op = .call { callee := .builtin .append, args := #[s, x], argTypes := #[t, t] })
    (ht : P.underlying t = some (.slice e)) (hinfo : (P.info? e).map (fun i => (i.zero, i.size, i.bytes)) = some (some z, 1, bytes)) (hz : z.cells.size = 1) (hb0 : 0 < bytes)
    (v : Value) (xs : List α) (p : α) (hs : a.eval s = v) (hx : a.eval x = .slice (some ⟨W.heap.size, 0, none⟩) 1 1)
    (HS : Sep base (Star (Row (Kd.scalar enc h1) e v xs) F) W) (hbase : base ≤ W.heap.size) (hl : (xs.length + 1) * bytes ≤ 140737488355328)
    (h : ∀ v1 w1, Sep base (Star (Row (Kd.scalar enc h1) e v1 (xs ++ [p])) F) w1 → Below base W w1 → wpList P ops Q rest (a.put o.dst v1) w1) :
    wpList P ops Q (o :: rest) a (W.alloc (.cells #[enc p] e)) := by
  obtain ⟨f, ⟨g, k, hd, hg, hk, ha, hb⟩, hf⟩ := HS
  have hbd := Kd.R_bound ha
  refine Kd.R_append (Kd.scalar enc h1) (w0 := W) 0 hgd s x t e z bytes ho ht hinfo hz (by simp [Kd.scalar]) hb0 v xs p [enc p] (fun k => (g k ∧ k < W.heap.size) ∨ W.heap.size ≤ k) (fun _ => False) hs hx rfl (fun _ h => h.elim) (fun _ h => .inr h) (Kd.R_mono hbd (fun k hk => .inl ⟨hk.1, hk.2.2.1⟩)) (Below.refl _ _) (Nat.zero_le _) hl ?_
  intro v1 w1 hr hB hgr hat
  have hblk : ∀ k, k < W.heap.size → ¬ g k → w1.heap[k]? = W.heap[k]? := fun k hlt hn => hgr.block k hlt (fun e => hn (hbd.1 k e.symm).1)
  refine h v1 w1 ?_ ⟨hB.os, hB.tape, hB.output, hgr.size, fun i hi => hblk i (Nat.lt_of_lt_of_le hi hbase) (fun hgi => by have := hf i (hg i hgi); omega)⟩
  refine ⟨fun i => ((g i ∧ i < W.heap.size) ∨ W.heap.size ≤ i) ∨ k i, ⟨_, fun i => k i ∧ i < W.heap.size, fun i h1 h2 => ?_, fun _ h => .inl h, fun _ h => .inr h.1, hr, F.step (F.bound hb) (fun i hi _ => hblk i hi.2 (fun hgi => hd i hgi hi.1))⟩, fun i hi => ?_⟩
  · rcases h1 with h1 | h1
    · exact hd i h1.1 h2.1
    · have := h2.2; omega
  · rcases hi with (hi | hi) | hi
    · exact hf i (hg i hi.1)
    · omega
    · exact hf i (hk i hi)
end
end Go.Proofs.YtphdjpfdelpecaaGreatDoor.XS
