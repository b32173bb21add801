/- Searches and browses, asked where they stand beside others; the laws' own answers (live) as plain facts. Conditions: none beyond those that each theorem states. -/
import Derived.Test.YthofobcbbddeeaaSrchH
import Derived.Test.YthofobcbbddeeaaSrchJ
namespace Go.Proofs.Ythofobcbbddeeaa.SrchA
open Go.RowKit Go.Proofs.YthofobcbbddeeaaW.PrintWords Go.Proofs.YthofobcbbddeeaaW.PrintLast Go.Proofs.YthofobcbbddeeaaW.PrintMore Go.Proofs.Ythofobcbbddeeaa.XS Go.Proofs.Ythofobcbbddeeaa.PSrch
set_option linter.unusedVariables false
set_option linter.unusedSimpArgs false
theorem size_pos {w : World} {v : Value} (h : w.cell? ⟨0, 0, none⟩ = some v) : 0 < w.heap.size := by
  rcases Nat.eq_zero_or_pos w.heap.size with e | e
  · unfold World.cell? at h
    rw [Array.getElem?_eq_none (by omega)] at h
    simp at h
  · exact e
theorem new_at (w : World) (A : Option Addr) (c n : Nat) (L : List ByteArray) (hC : Kd.string.C w A n L) (hc : n ≤ c) (hn : L.length = n) (hL : n ≤ 1000) : Calls Try.prog 35 #[.slice A n c] w fun e w' => ∃ g, e = .returned (.pointer (some ⟨g, 0, none⟩)) ∧ Sep w.heap.size (SS 97 .i32 21 g L [] (-1)) w' ∧ Below w.heap.size w w' := by
  subst hn; exact new_is w A c L hC hc hL
theorem start_at (w : World) (A : Option Addr) (c n : Nat) (L : List ByteArray) (t : ByteArray) (L2 : List ByteArray) (hC : Kd.string.C w A n L) (hc : n ≤ c) (hn : L.length = n) (hL : n ≤ 1000) (hL2 : L ++ [t] = L2) (a : Int) (ha : (n : Int) = a) : Calls Try.prog 27 #[.slice A n c, .string t] w fun e w' => ∃ g, e = .returned (.pointer (some ⟨g, 0, none⟩)) ∧ Sep w.heap.size (BA 93 g L2 a) w' ∧ Below w.heap.size w w' := by
  subst hn; subst hL2; subst ha; exact start_is w A c L t hC hc hL
theorem found_sep {base g : Nat} {L : List ByteArray} {Q : List Int} {p : Int} {l : List Assn} (w : World) (h : Sep base (Star (SS 97 .i32 21 g L Q p) (Stars l)) w) (hp0 : 0 ≤ p) (hp1 : p < (L.length : Int)) (t : ByteArray) (ht : rdOf ByteArray.empty L p = t) : Calls Try.prog 38 #[.pointer (some ⟨g, 0, none⟩)] w fun e w' => e = .returned (.tuple #[.int .i64 p, .string t, .bool true]) ∧ Below w.heap.size w w' := by
  obtain ⟨A0, c0, A1, c1, hf⟩ := SS.fr h
  exact found_yes w hf hp0 hp1 t ht
theorem found_none {base g : Nat} {L : List ByteArray} {Q : List Int} {p : Int} {l : List Assn} (w : World) (h : Sep base (Star (SS 97 .i32 21 g L Q p) (Stars l)) w) (hp : p = -1) : Calls Try.prog 38 #[.pointer (some ⟨g, 0, none⟩)] w fun e w' => e = .returned (.tuple #[.int .i64 0, .string ⟨#[]⟩, .bool false]) ∧ w = w' := by
  obtain ⟨A0, c0, A1, c1, hf⟩ := SS.fr h
  subst hp
  exact found_no w hf
theorem query_sep {base g : Nat} {L : List ByteArray} {Q : List Int} {p : Int} {l : List Assn} (w : World) (h : Sep base (Star (SS 97 .i32 21 g L Q p) (Stars l)) w) (q : ByteArray) (hq : qs Q = q) : Calls Try.prog 39 #[.pointer (some ⟨g, 0, none⟩)] w fun e w' => e = .returned (.string q) ∧ w = w' := by
  obtain ⟨A0, c0, A1, c1, hf⟩ := SS.fr h
  exact query_is w hf q hq
theorem refquery_sep {base g : Nat} {L : List ByteArray} {Q : List Int} {p : Int} {l : List Assn} (w : World) (h : Sep base (Star (SS 68 .i64 3 g L Q p) (Stars l)) w) (hQ : Q.length ≤ 1000) (q : ByteArray) (hq : qs Q = q) : Calls Try.prog 48 #[.pointer (some ⟨g, 0, none⟩)] w fun e w' => e = .returned (.string q) ∧ Below w.heap.size w w' := by
  obtain ⟨A0, c0, A1, c1, hf⟩ := SS.fr h
  exact refquery_is w hf hQ q hq
theorem line_sep {base g : Nat} {L : List ByteArray} {a : Int} {l : List Assn} (w : World) (h : Sep base (Star (BA 93 g L a) (Stars l)) w) (ha0 : 0 ≤ a) (ha1 : a < (L.length : Int)) (t : ByteArray) (ht : rdOf ByteArray.empty L a = t) : Calls Try.prog 29 #[.pointer (some ⟨g, 0, none⟩)] w fun e w' => e = .returned (.string t) ∧ Below w.heap.size w w' := by
  obtain ⟨A, c, hf⟩ := BA.fr h
  exact line_is w hf ha0 ha1 t ht
theorem edit_at {base g : Nat} {L : List ByteArray} {a : Int} {l : List Assn} (w : World) (h : Sep base (Star (BA 93 g L a) (Stars l)) w) (hbase : base ≤ w.heap.size) (ha0 : 0 ≤ a) (ha1 : a < (L.length : Int)) (hL : L.length ≤ 1000) (t : ByteArray) (L2 : List ByteArray) (hL2 : L.set a.toNat t = L2) : Calls Try.prog 34 #[.pointer (some ⟨g, 0, none⟩), .string t] w fun e w' => e = .returned (.tuple #[]) ∧ Sep base (Star (BA 93 g L2 a) (Stars l)) w' ∧ Below base w w' := by
  subst hL2; exact edit_is w h hbase ha0 ha1 hL t
/-! ### what live finds -/
def L3 : List ByteArray := [⟨#[108, 115]⟩, ⟨#[99, 100]⟩, ⟨#[108, 115, 32, 120]⟩]
def L2 : List ByteArray := [⟨#[108, 115]⟩, ⟨#[99, 100]⟩]
def B3 : List ByteArray := [⟨#[108, 115]⟩, ⟨#[99, 100]⟩, ⟨#[111, 119, 110]⟩]
def B4 : List ByteArray := [⟨#[108, 115]⟩, ⟨#[99, 100]⟩, ⟨#[109, 105, 110, 101]⟩]
theorem q1 : qs [108] = ⟨#[108]⟩ := by
  have h := runes_snoc [] 108
  rw [show ((108 : Int)) = ((108 : Nat) : Int) from rfl, enc1 108 (by decide) (by decide)] at h
  exact h.trans rfl
theorem q2 : qs [108, 122] = ⟨#[108, 122]⟩ := by
  have h := runes_snoc [108] 122
  have h1 : runesBytes [108] = ⟨#[108]⟩ := q1
  rw [show ((122 : Int)) = ((122 : Nat) : Int) from rfl, enc1 122 (by decide) (by decide), h1] at h
  exact h.trans rfl
theorem short_of {L : List ByteArray} (h : ∀ t ∈ L, t.size ≤ 1000) : Short L := fun i hi => by
  apply h
  simp only [rdOf, Int.toNat_natCast, List.getD_eq_getElem?_getD, List.getElem?_eq_getElem hi, Option.getD_some]
  exact List.getElem_mem hi
theorem s3 : Short L3 := short_of (by decide)
theorem lf3 : lastF L3 ⟨#[108]⟩ 3 = 2 := by decide
theorem lf2 : lastF L3 ⟨#[108]⟩ 2 = 0 := by decide
theorem lf0 : lastF L3 ⟨#[108]⟩ 0 = -1 := by decide
theorem lfz : lastF L3 ⟨#[108, 122]⟩ 1 = -1 := by decide
theorem ok1 : Ok L3 [] (-1) := ⟨s3, by decide, by decide, by decide, by decide⟩
theorem t1B : typeB L3 [] (-1) 108 = true := by
  unfold typeB
  rw [if_pos (by decide), show qs (([] : List Int) ++ [108]) = ⟨#[108]⟩ from q1, show from_ L3 (-1) = 3 by decide, lf3]; decide
theorem t1P : typeP L3 [] (-1) 108 = 2 := by
  unfold typeP
  rw [if_pos (by decide), show qs (([] : List Int) ++ [108]) = ⟨#[108]⟩ from q1, show from_ L3 (-1) = 3 by decide, lf3]
theorem t1Q : typeQ [] 108 = [108] := by decide
theorem ok2 : Ok L3 [108] 2 := ⟨s3, by decide, by decide, by decide, by decide⟩
theorem b1R : backR L3 [108] 2 = 0 := by unfold backR; rw [if_neg (by decide), q1]; exact lf2
theorem ok3 : Ok L3 [108] 0 := ⟨s3, by decide, by decide, by decide, by decide⟩
theorem b2R : backR L3 [108] 0 = -1 := by unfold backR; rw [if_neg (by decide), q1]; exact lf0
theorem t2B : typeB L3 [108] 0 122 = false := by
  unfold typeB
  rw [if_pos (by decide), show qs ([(108 : Int)] ++ [122]) = ⟨#[108, 122]⟩ from q2, show from_ L3 0 = 1 by decide, lfz]; decide
theorem t2P : typeP L3 [108] 0 122 = -1 := by
  unfold typeP
  rw [if_pos (by decide), show qs ([(108 : Int)] ++ [122]) = ⟨#[108, 122]⟩ from q2, show from_ L3 0 = 1 by decide, lfz]
theorem t2Q : typeQ [108] 122 = [108, 122] := by decide
theorem ok4 : Ok L3 [108, 122] (-1) := ⟨s3, by decide, by decide, by decide, by decide⟩
theorem r1Q : rubQ [108, 122] = [108] := by decide
theorem r1P : rubP L3 [108, 122] (-1) = 2 := by
  unfold rubP
  rw [if_neg (by decide), if_neg (by decide), r1Q, q1]; exact lf3
theorem r1B : rubB L3 [108, 122] (-1) = true := by
  unfold rubB
  rw [if_neg (by decide), r1P]; decide
end Go.Proofs.Ythofobcbbddeeaa.SrchA
