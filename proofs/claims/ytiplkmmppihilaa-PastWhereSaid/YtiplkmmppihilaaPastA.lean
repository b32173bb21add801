/- Logs of lines: each of their functions, walked. Conditions: none beyond those that each theorem states. -/
import Derived.Test.YtiplkmmppihilaaXS
namespace Go.Proofs.Ytiplkmmppihilaa.PastA
open Go.RowKit Go.Proofs.YtiplkmmppihilaaW.PrintWords Go.Proofs.YtiplkmmppihilaaW.PrintLast Go.Proofs.YtiplkmmppihilaaW.PrintMore Go.Proofs.Ytiplkmmppihilaa.XS
set_option linter.unusedVariables false
set_option linter.unusedSimpArgs false

def addE (ls : List ByteArray) (e : Int) (t : ByteArray) : Int :=
  if e < 0 then 1 else if (20000 : Int) < t.size then 1 else if (ls.length : Int) < e then 6
  else if e < (ls.length : Int) then (if (rdOf ByteArray.empty ls e).toList = t.toList then 7 else 8)
  else if e = 10000 then 5 else 0
def addL (ls : List ByteArray) (e : Int) (t : ByteArray) : List ByteArray := if addE ls e t = 0 then ls ++ [t] else ls
/-- A log at g with the lines ls (T: the log's type). -/
def LogA (T g : Nat) (ls : List ByteArray) : Assn := Ex fun v => Only (ls.length ≤ 10000) (Star (Blk g #[v] T) (Row Kd.string 9 v ls))
theorem LogA.open {T base g : Nat} {ls : List ByteArray} {F : Assn} {w : World} (h : Sep base (Star (LogA T g ls) F) w) :
    ∃ A c, ls.length ≤ 10000 ∧ ls.length ≤ c ∧ w.heap[g]? = some (.cells #[.slice A ls.length c] T (0, 0)) ∧ Kd.string.C w A ls.length ls ∧ Sep base (Star (Blk g #[.slice A ls.length c] T) (Star (Row Kd.string 9 (.slice A ls.length c) ls) F)) w := by
  obtain ⟨v, h⟩ := h.ex
  obtain ⟨hl, h⟩ := h.only
  have h := h.assoc
  obtain ⟨A, c, rfl, hc, hC⟩ := h.comm.assoc.row
  exact ⟨A, c, hl, hc, h.blk, hC, h⟩
theorem LogA.close {T base g : Nat} {ls : List ByteArray} {F : Assn} {w : World} {v : Value} (hl : ls.length ≤ 10000) (h : Sep base (Star (Blk g #[v] T) (Star (Row Kd.string 9 v ls) F)) w) : Sep base (Star (LogA T g ls) F) w :=
  Sep.ex_mk v (h.assoc'.imp (fun _ h => ⟨hl, h⟩))
/-- The row to the front; and back. -/
theorem row_first {base : Nat} {A B F : Assn} {w : World} (h : Sep base (Star A (Star B F)) w) : Sep base (Star B (Star F A)) w := h.comm.assoc
theorem row_back {base : Nat} {A B F : Assn} {w : World} (h : Sep base (Star B (Star F A)) w) : Sep base (Star A (Star B F)) w := h.comm.assoc.comm.assoc
theorem info9 : (Try.prog.info? 9).map (fun i => (i.zero, i.size, i.bytes)) = some (some (.string ⟨#[]⟩), 1, 16) := by kernel_rfl

set_option maxHeartbeats 1000000 in
theorem log_get {base g : Nat} {ls : List ByteArray} {F : Assn} (w : World) (e : Int) (h : Sep base (Star (LogA 87 g ls) F) w) :
    Calls Try.prog 19 #[.pointer (some ⟨g, 0, none⟩), .int .i64 e] w fun en w' => en = .returned (.tuple #[.string (if 0 ≤ e ∧ e < (ls.length : Int) then rdOf ByteArray.empty ls e else ⟨#[]⟩), .bool (decide (0 ≤ e ∧ e < (ls.length : Int)))]) ∧ w = w' := by
  obtain ⟨A, c, hl, hc, hb, hC, -⟩ := LogA.open h
  clear h
  have c0 := XW.cells1 hb
  clear hb
  by_cases h0 : 0 ≤ e
  · by_cases h1 : e < (ls.length : Int)
    · obtain ⟨ad, rfl, hcell⟩ := Kd.at_string hC e h0 h1
      rw [if_pos ⟨h0, h1⟩, decide_eq_true (⟨h0, h1⟩ : 0 ≤ e ∧ e < (ls.length : Int))]
      clear hC
      go_enter Try.func19, Try.ntmps19
      go_wp2
      go_ret2
      exact ⟨rfl, rfl⟩
    · rw [if_neg (fun h => h1 h.2), decide_eq_false (fun h : 0 ≤ e ∧ e < (ls.length : Int) => h1 h.2)]
      clear hC
      go_enter Try.func19, Try.ntmps19
      go_wp2
      go_ret2
      exact ⟨rfl, rfl⟩
  · rw [if_neg (fun h => h0 h.1), decide_eq_false (fun h : 0 ≤ e ∧ e < (ls.length : Int) => h0 h.1)]
    clear hC
    go_enter Try.func19, Try.ntmps19
    go_wp2
    go_ret2
    exact ⟨rfl, rfl⟩
end Go.Proofs.Ytiplkmmppihilaa.PastA
