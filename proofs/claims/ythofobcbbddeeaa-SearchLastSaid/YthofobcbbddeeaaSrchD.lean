/- Searches: first: the first line of a way that fits. Conditions: none beyond those that each theorem states. -/
import Derived.Test.YthofobcbbddeeaaSrchC
namespace Go.Proofs.Ythofobcbbddeeaa.SrchA
open Go.RowKit Go.Shelf Go.Proofs.YthofobcbbddeeaaW.PrintWords Go.Proofs.YthofobcbbddeeaaW.PrintLast Go.Proofs.YthofobcbbddeeaaW.PrintMore Go.Proofs.Ythofobcbbddeeaa.XS Go.Proofs.Ythofobcbbddeeaa.PSrch
set_option linter.unusedVariables false
set_option linter.unusedSimpArgs false
attribute [local go_sem] Oper.semAt_some
/-- The way on: the lines behind place p. -/
theorem on_stops {g c0 c1 : Nat} {A0 A1 : Option Addr} {L : List ByteArray} {Q : List Int} {p : Nat} (n : Nat) (hn : 1 ≤ n) (w0 w1 : World) (h : Sf .i32 g A0 c0 A1 c1 L Q (p : Int) w0) (hS : Short L) (hL : L.length ≤ 1000) (hp : p < L.length) (B : Nat) (hB : w1.cell? ⟨B, 0, none⟩ = some (.pointer (some ⟨g, 0, none⟩))) (h01 : Below w0.heap.size w0 w1) :
    SeqStopsK Fence.wide n Try.prog 73 #[.pointer (some ⟨B, 0, none⟩)] encL (Below w1.heap.size) (fun ys => ys = ups L (p + 1) (L.length - (p + 1))) (fun pre => ∃ rest, pre ++ rest = ups L (p + 1) (L.length - (p + 1))) (L.length - (p + 1)) w1 := fun l J Jx W hW _ _ hY hJ0 => by
  have h1 := h.below h01
  refine on1_in Fence.wide n trivial rfl hn l B g c0 L.length p A0 L w1 hp hL hB h1.x0 h1.x2 (fun j hj => ?_) J Jx hY W hW hJ0
  obtain ⟨ad, e, hx⟩ := Kd.at_string h1.C0 (j : Int) (by omega) (by omega)
  rw [Int.toNat_natCast] at hx
  exact ⟨ad, e, by rw [cl_short (hS j hj)]; exact hx⟩
theorem enters91 : Enters Try.prog 91 := enters_of Try.func91 (by kernel_rfl) rfl
theorem enters73 : Enters Try.prog 73 := enters_of Try.func73 (by kernel_rfl) rfl
set_option maxRecDepth 100000 in
set_option maxHeartbeats 4000000 in
/-- first: of whatever way. -/
theorem first_is {g c0 c1 : Nat} {A0 A1 : Option Addr} {L : List ByteArray} {Q : List Int} {p : Int} (w : World) (h : Sf .i32 g A0 c0 A1 c1 L Q p w) (m : Int) (hm : w.cell? ⟨0, 0, none⟩ = some (.int .i64 m)) (gf : Nat) (lb : Array Value) (hgf : Enters Try.prog gf) (xs : List Ln)
    (hseq : ∀ n, 1 ≤ n → SeqStopsK Fence.wide n Try.prog gf lb encL (Below w.heap.size) (fun ys => ys = xs) (fun pre => ∃ rest, pre ++ rest = xs) xs.length w) (r : Int) (hr : firstF (qs Q) xs = r) :
    Calls Try.prog 69 #[.pointer (some ⟨g, 0, none⟩), .func (.func gf) #[] lb] w fun e w' => e = .returned (.int .i64 r) ∧ Below w.heap.size w w' := by
  obtain ⟨q, hq⟩ : ∃ q, qs Q = q := ⟨_, rfl⟩
  rw [hq] at hr
  refine (callsIn_wide (n := 3)).1 ?_
  refine callsIn_of_wp_marks Try.func69 rfl trivial ?_ rfl
  simp only [Try.ntmps69, List.size_toArray, List.length_cons, List.length_nil, Nat.reduceAdd, Nat.reduceSub, Array.replicate_succ, Array.replicate_zero, List.push_toArray, List.append_toArray, List.nil_append, List.cons_append]
  gi_wp2_with (refine ⟨trivial, ?_⟩; gi_at_call 39; refine (callsIn_wide.2 (query_is _ (h.below ((Below.refl _ w).alloc (Nat.le_refl _) _)) q hq)).mono ?_; rintro e w' ⟨rfl, rfl⟩)
  have bR := Boxed.new w 3 (.int .i64 0)
  have bQ := Boxed.new (w.alloc (.cells #[.int .i64 0] 3)) 9 (.string q)
  rw [World.size_alloc] at bQ
  have hB0 : Below w.heap.size w ((w.alloc (.cells #[.int .i64 0] 3)).alloc (.cells #[.string q] 9)) := ((Below.refl _ w).alloc (Nat.le_refl _) _).alloc (by simp) _
  refine wpIn_rangeFunc_ownG rfl (by omega) (gf := gf) (lb := lb) rfl trivial hgf (hseq 2 (by omega)) belowK_t (belowK_b (by simp; omega)) hB0 (fun _ => rfl)
    (fun pre W => ((∀ y ∈ pre, fit y.1.2 q = false) ∧ W.cell? ⟨w.heap.size, 0, none⟩ = some (.int .i64 0) ∧ W.frozen? ⟨w.heap.size, 0, none⟩ = false ∧ W.cell? ⟨w.heap.size + 1, 0, none⟩ = some (.string q)) ∧ Below w.heap.size w W)
    (fun c pre W => (c = .ret ∧ ∃ ini last, pre = ini ++ [last] ∧ (∀ y ∈ ini, fit y.1.2 q = false) ∧ fit last.1.2 q = true ∧ W.cell? ⟨w.heap.size, 0, none⟩ = some (.int .i64 last.1.1)) ∧ Below w.heap.size w W)
    (OwnFrom.and (Own.from (fun s A B row hs hg hr => ⟨hs.1, cell_kept hs.2.1 hg hr, (frozen_kept hs.2.1 hg hr).trans hs.2.2.1, cell_kept hs.2.2.2 hg hr⟩) _) (ownFrom_below (Nat.le_refl _) (by simp; omega)))
    (fun c => OwnFrom.and (Own.from (fun s A B row hs hg hr => by obtain ⟨hc, ini, last, e1, e2, e3, e4⟩ := hs; exact ⟨hc, ini, last, e1, e2, e3, cell_kept e4 hg hr⟩) _) (ownFrom_below (Nat.le_refl _) (by simp; omega)))
    ⟨⟨by simp, (bR.alloc _).cell, (bR.alloc _).frozen, bQ.cell⟩, hB0⟩
    (fun x => { tmps := #[.pointer (some ⟨g, 0, none⟩), .func (.func gf) #[] lb, undef, undef, .pointer (some ⟨w.heap.size, 0, none⟩), .pointer (some ⟨w.heap.size + 1, 0, none⟩), .int .i64 x.1.1, .string x.1.2, .pointer (some ⟨g, 0, none⟩), .string q, .func (.func gf) #[] lb, .int .i64 x.1.1, .string x.1.2, undef, undef, undef, undef], defers := [] }) ?assign ?body ?done ?stop
  case assign =>
    intro l x W K hK
    gi_wp2
    exact hK
  case body =>
    rintro l pre x W ⟨⟨hp, hcr, hfr, hcq⟩, hB⟩ _
    obtain ⟨⟨i, t⟩, ht⟩ := x
    have hmW := pw_cell_below hB hm
    have ht2 : t.size < 4294967281 := Nat.lt_of_le_of_lt ht (by decide)
    dsimp only
    gi_wp2_with (refine ⟨trivial, ?_⟩; gi_at_call 86; refine (CallsIn.inRound l (callsIn_wide.2 (SrchS.strings_Contains t q m _ ht2 hmW))).mono ?_; rintro e w' ⟨rfl, rfl⟩)
    · rename_i hx
      exact ⟨(KeepsOthers.setCell _ _ _).from _, ⟨rfl, pre, _, rfl, hp, hx, World.cell?_setCell_same' _ _ _ (by rw [hcr]; rfl)⟩, hB.setCell (p := ⟨w.heap.size, 0, none⟩) (Nat.le_refl _) _⟩
    · rename_i hx
      exact ⟨KeepsFrom.refl _ _, Below.refl _ _, ⟨fun y hy => (List.mem_append.1 hy).elim (hp y) (fun e => by simp at e; subst e; simpa [fit] using hx), hcr, hfr, hcq⟩, hB⟩
  case done =>
    rintro D ys W hD rfl ⟨⟨hne, hcr, hfr, hcq⟩, hB⟩ hK
    gi_wp2
    have hK' := (KeepsOthers.setCell W ⟨w.heap.size, 0, none⟩ (.int .i64 (-1))).same D _ hK rfl
    refine ⟨by simp, .inl ⟨_, _, rfl, run_takeDeferred hK', ?_⟩⟩
    have hc5 := cell_kept (World.cell?_setCell_same' W ⟨w.heap.size, 0, none⟩ (.int .i64 (-1)) (by rw [hcr]; rfl)) (grownBy_putObj' _ D (.deferred none)) (fun r e => by cases e; exact ⟨_, hK', rfl⟩)
    refine ⟨.int .i64 (-1), ?_, by rw [← hr, firstF_none hne], (hB.setCell (p := ⟨w.heap.size, 0, none⟩) (Nat.le_refl _) _).trans (belowK_b (w := w) (Nat.le_refl _) _ D _ _ (by simp at hD; omega) hK' rfl rfl)⟩
    simp [results, Try.f69, go_sem, hc5]
  case stop =>
    rintro D c pre W hD ⟨rest, hrest⟩ ⟨⟨rfl, ini, last, e1, e2, e3, hcr⟩, hB⟩ hK
    gi_wp2
    refine ⟨by simp, .inl ⟨_, _, rfl, run_takeDeferred hK, ?_⟩⟩
    have hc5 := cell_kept hcr (grownBy_putObj' _ D (.deferred none)) (fun r e => by cases e; exact ⟨_, hK, rfl⟩)
    refine ⟨.int .i64 last.1.1, ?_, by rw [← hr, ← hrest, e1, List.append_assoc, List.singleton_append, firstF_at e3 e2], hB.trans (belowK_b (w := w) (Nat.le_refl _) W D _ _ (by simp at hD; omega) hK rfl rfl)⟩
    simp [results, Try.f69, go_sem, hc5]
end Go.Proofs.Ythofobcbbddeeaa.SrchA
