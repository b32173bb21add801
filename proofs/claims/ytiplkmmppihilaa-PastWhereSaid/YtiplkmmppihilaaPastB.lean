/- Logs of lines: Add, walked. Conditions: none beyond those that each theorem states. -/
import Derived.Test.YtiplkmmppihilaaPastA
namespace Go.Proofs.Ytiplkmmppihilaa.PastA
open Go.RowKit Go.Proofs.YtiplkmmppihilaaW.PrintWords Go.Proofs.YtiplkmmppihilaaW.PrintLast Go.Proofs.YtiplkmmppihilaaW.PrintMore Go.Proofs.Ytiplkmmppihilaa.XS
set_option linter.unusedVariables false
set_option linter.unusedSimpArgs false

set_option maxHeartbeats 2000000 in
set_option maxRecDepth 100000 in
theorem log_add {base g : Nat} {ls : List ByteArray} {F : Assn} (w : World) (e : Int) (t : ByteArray) (h : Sep base (Star (LogA 87 g ls) F) w) (hbase : base ≤ w.heap.size) (r : Int) (l2 : List ByteArray) (hr : addE ls e t = r) (hl2 : addL ls e t = l2) :
    Calls Try.prog 17 #[.pointer (some ⟨g, 0, none⟩), .int .i64 e, .string t] w fun en w' => en = .returned (.int .i64 r) ∧ Sep base (Star (LogA 87 g l2) F) w' ∧ Below base w w' := by
  have H := Aside0.mk h
  obtain ⟨A, c, hl, hc, hb, hC, hs⟩ := LogA.open h
  clear h
  have c0 := XW.cells1 hb
  have z0 := XW.froz1 hb
  clear hb
  have HL := Aside0.mk hl2
  have HB := Aside0.mk hbase
  have HS := Aside0.mk hs
  clear hl2 hs hbase
  unfold addE at hr
  by_cases h0 : e < 0
  · have HE : Aside0 (addE ls e t = 1) := ⟨by unfold addE; rw [if_pos h0]⟩
    rw [if_pos h0] at hr
    subst hr
    clear hC
    go_enter Try.func17, Try.ntmps17
    go_wp2
    go_ret
    exact ⟨rfl, by have := HL.out; unfold addL at this; rw [if_neg (by rw [HE.out]; decide)] at this; rw [← this]; exact H.out, Below.refl _ _⟩
  by_cases h1 : (20000 : Int) < t.size
  · have HE : Aside0 (addE ls e t = 1) := ⟨by unfold addE; rw [if_neg h0, if_pos h1]⟩
    rw [if_neg h0, if_pos h1] at hr
    subst hr
    clear hC
    go_enter Try.func17, Try.ntmps17
    go_wp2
    go_ret
    exact ⟨rfl, by have := HL.out; unfold addL at this; rw [if_neg (by rw [HE.out]; decide)] at this; rw [← this]; exact H.out, Below.refl _ _⟩
  by_cases h2 : (ls.length : Int) < e
  · have HE : Aside0 (addE ls e t = 6) := ⟨by unfold addE; rw [if_neg h0, if_neg h1, if_pos h2]⟩
    rw [if_neg h0, if_neg h1, if_pos h2] at hr
    subst hr
    clear hC
    go_enter Try.func17, Try.ntmps17
    go_wp2
    go_ret
    exact ⟨rfl, by have := HL.out; unfold addL at this; rw [if_neg (by rw [HE.out]; decide)] at this; rw [← this]; exact H.out, Below.refl _ _⟩
  by_cases h3 : e < (ls.length : Int)
  · obtain ⟨ad, rfl, hcell⟩ := Kd.at_string hC e (by omega) h3
    clear hC HS
    by_cases h4 : (rdOf ByteArray.empty ls e).toList = t.toList
    · have HE : Aside0 (addE ls e t = 7) := ⟨by unfold addE; rw [if_neg h0, if_neg h1, if_neg h2, if_pos h3, if_pos h4]⟩
      rw [if_neg h0, if_neg h1, if_neg h2, if_pos h3, if_pos h4] at hr
      subst hr
      have h5 : ((rdOf ByteArray.empty ls e).toList == t.toList) = true := beq_iff_eq.mpr h4
      clear h4
      go_enter Try.func17, Try.ntmps17
      go_wp2
      go_ret
      exact ⟨rfl, by have := HL.out; unfold addL at this; rw [if_neg (by rw [HE.out]; decide)] at this; rw [← this]; exact H.out, Below.refl _ _⟩
    · have HE : Aside0 (addE ls e t = 8) := ⟨by unfold addE; rw [if_neg h0, if_neg h1, if_neg h2, if_pos h3, if_neg h4]⟩
      rw [if_neg h0, if_neg h1, if_neg h2, if_pos h3, if_neg h4] at hr
      subst hr
      have h5 : ((rdOf ByteArray.empty ls e).toList == t.toList) = false := beq_eq_false_iff_ne.mpr h4
      clear h4
      go_enter Try.func17, Try.ntmps17
      go_wp2
      go_ret
      exact ⟨rfl, by have := HL.out; unfold addL at this; rw [if_neg (by rw [HE.out]; decide)] at this; rw [← this]; exact H.out, Below.refl _ _⟩
  obtain rfl : (ls.length : Int) = e := by omega
  by_cases h4 : (ls.length : Int) = 10000
  · have HE : Aside0 (addE ls (ls.length : Int) t = 5) := ⟨by unfold addE; rw [if_neg h0, if_neg h1, if_neg h2, if_neg h3, if_pos h4]⟩
    rw [if_neg h0, if_neg h1, if_neg h2, if_neg h3, if_pos h4] at hr
    subst hr
    clear hC HS
    have h5 : ((ls.length : Int) == 10000) = true := beq_iff_eq.mpr h4
    have h6 : 10000 ≤ ls.length := by omega
    clear h4
    go_enter Try.func17, Try.ntmps17
    go_wp2
    go_ret
    exact ⟨rfl, by have := HL.out; unfold addL at this; rw [if_neg (by rw [HE.out]; decide)] at this; rw [← this]; exact H.out, Below.refl _ _⟩
  have HE : Aside0 (addE ls (ls.length : Int) t = 0) := ⟨by unfold addE; rw [if_neg h0, if_neg h1, if_neg h2, if_neg h3, if_neg h4]⟩
  rw [if_neg h0, if_neg h1, if_neg h2, if_neg h3, if_neg h4] at hr
  subst hr
  have h5 : ((ls.length : Int) == 10000) = false := beq_eq_false_iff_ne.mpr h4
  have h6 : ls.length < 10000 := by omega
  clear h4 hC
  go_enter Try.func17, Try.ntmps17
  go_wp2_with (first | ((with_reducible refine gate_builtin (b := .append) (xs := #[.tmp 61, .tmp 63]) rfl ?_); at_builtin; go_must (refine sep_append (enc := Value.string) (h1 := fun _ => rfl) base rfl (.tmp 61) (.tmp 63) 26 9 (.string ⟨#[]⟩) 16 rfl Try.underlying26 info9 rfl (by decide) _ ls t rfl rfl (row_first HS.out) HB.out ?al ?_); (case al => omega); intro v1 w1 hS1 hB1; obtain ⟨A1, k1, hv1, -, -⟩ := hS1.row; subst hv1; simp only [List.length_append, List.length_singleton] at hS1; have c1 := XW.cells1 (row_back hS1).blk; have z1 := XW.froz1 (row_back hS1).blk; have HS1 := Aside0.mk (row_back hS1); have HB1 := Aside0.mk hB1; clear hS1 hB1))
  go_ret
  exact ⟨rfl, by have := HL.out; unfold addL at this; rw [if_pos HE.out] at this; rw [← this]; exact LogA.close (by rw [List.length_append]; simp; omega) (HS1.out.store (Nat.le_trans HB.out HB1.out.size) 0 _ rfl), HB1.out.setCell (HS1.out.blk_le) _⟩
set_option maxHeartbeats 2000000 in
set_option maxRecDepth 100000 in
theorem ref_add {base g : Nat} {ls : List ByteArray} {F : Assn} (w : World) (e : Int) (t : ByteArray) (h : Sep base (Star (LogA 28 g ls) F) w) (hbase : base ≤ w.heap.size) (r : Int) (l2 : List ByteArray) (hr : addE ls e t = r) (hl2 : addL ls e t = l2) :
    Calls Try.prog 18 #[.pointer (some ⟨g, 0, none⟩), .int .i64 e, .string t] w fun en w' => en = .returned (.int .i64 r) ∧ Sep base (Star (LogA 28 g l2) F) w' ∧ Below base w w' := by
  have H := Aside0.mk h
  obtain ⟨A, c, hl, hc, hb, hC, hs⟩ := LogA.open h
  clear h
  have c0 := XW.cells1 hb
  have z0 := XW.froz1 hb
  clear hb
  have HL := Aside0.mk hl2
  have HB := Aside0.mk hbase
  have HS := Aside0.mk hs
  clear hl2 hs hbase
  unfold addE at hr
  by_cases h0 : e < 0
  · have HE : Aside0 (addE ls e t = 1) := ⟨by unfold addE; rw [if_pos h0]⟩
    rw [if_pos h0] at hr
    subst hr
    clear hC
    go_enter Try.func18, Try.ntmps18
    go_wp2
    go_ret
    exact ⟨rfl, by have := HL.out; unfold addL at this; rw [if_neg (by rw [HE.out]; decide)] at this; rw [← this]; exact H.out, Below.refl _ _⟩
  by_cases h1 : (20000 : Int) < t.size
  · have HE : Aside0 (addE ls e t = 1) := ⟨by unfold addE; rw [if_neg h0, if_pos h1]⟩
    rw [if_neg h0, if_pos h1] at hr
    subst hr
    clear hC
    go_enter Try.func18, Try.ntmps18
    go_wp2
    go_ret
    exact ⟨rfl, by have := HL.out; unfold addL at this; rw [if_neg (by rw [HE.out]; decide)] at this; rw [← this]; exact H.out, Below.refl _ _⟩
  by_cases h2 : (ls.length : Int) < e
  · have HE : Aside0 (addE ls e t = 6) := ⟨by unfold addE; rw [if_neg h0, if_neg h1, if_pos h2]⟩
    rw [if_neg h0, if_neg h1, if_pos h2] at hr
    subst hr
    clear hC
    go_enter Try.func18, Try.ntmps18
    go_wp2
    go_ret
    exact ⟨rfl, by have := HL.out; unfold addL at this; rw [if_neg (by rw [HE.out]; decide)] at this; rw [← this]; exact H.out, Below.refl _ _⟩
  by_cases h3 : e < (ls.length : Int)
  · obtain ⟨ad, rfl, hcell⟩ := Kd.at_string hC e (by omega) h3
    clear hC HS
    by_cases h4 : (rdOf ByteArray.empty ls e).toList = t.toList
    · have HE : Aside0 (addE ls e t = 7) := ⟨by unfold addE; rw [if_neg h0, if_neg h1, if_neg h2, if_pos h3, if_pos h4]⟩
      rw [if_neg h0, if_neg h1, if_neg h2, if_pos h3, if_pos h4] at hr
      subst hr
      have h5 : ((rdOf ByteArray.empty ls e).toList == t.toList) = true := beq_iff_eq.mpr h4
      clear h4
      go_enter Try.func18, Try.ntmps18
      go_wp2
      go_ret
      exact ⟨rfl, by have := HL.out; unfold addL at this; rw [if_neg (by rw [HE.out]; decide)] at this; rw [← this]; exact H.out, Below.refl _ _⟩
    · have HE : Aside0 (addE ls e t = 8) := ⟨by unfold addE; rw [if_neg h0, if_neg h1, if_neg h2, if_pos h3, if_neg h4]⟩
      rw [if_neg h0, if_neg h1, if_neg h2, if_pos h3, if_neg h4] at hr
      subst hr
      have h5 : ((rdOf ByteArray.empty ls e).toList == t.toList) = false := beq_eq_false_iff_ne.mpr h4
      clear h4
      go_enter Try.func18, Try.ntmps18
      go_wp2
      go_ret
      exact ⟨rfl, by have := HL.out; unfold addL at this; rw [if_neg (by rw [HE.out]; decide)] at this; rw [← this]; exact H.out, Below.refl _ _⟩
  obtain rfl : (ls.length : Int) = e := by omega
  by_cases h4 : (ls.length : Int) = 10000
  · have HE : Aside0 (addE ls (ls.length : Int) t = 5) := ⟨by unfold addE; rw [if_neg h0, if_neg h1, if_neg h2, if_neg h3, if_pos h4]⟩
    rw [if_neg h0, if_neg h1, if_neg h2, if_neg h3, if_pos h4] at hr
    subst hr
    clear hC HS
    have h5 : ((ls.length : Int) == 10000) = true := beq_iff_eq.mpr h4
    have h6 : 10000 ≤ ls.length := by omega
    clear h4
    go_enter Try.func18, Try.ntmps18
    go_wp2
    go_ret
    exact ⟨rfl, by have := HL.out; unfold addL at this; rw [if_neg (by rw [HE.out]; decide)] at this; rw [← this]; exact H.out, Below.refl _ _⟩
  have HE : Aside0 (addE ls (ls.length : Int) t = 0) := ⟨by unfold addE; rw [if_neg h0, if_neg h1, if_neg h2, if_neg h3, if_neg h4]⟩
  rw [if_neg h0, if_neg h1, if_neg h2, if_neg h3, if_neg h4] at hr
  subst hr
  have h5 : ((ls.length : Int) == 10000) = false := beq_eq_false_iff_ne.mpr h4
  have h6 : ls.length < 10000 := by omega
  clear h4 hC
  go_enter Try.func18, Try.ntmps18
  go_wp2_with (first | ((with_reducible refine gate_builtin (b := .append) (xs := #[.tmp 47, .tmp 49]) rfl ?_); at_builtin; go_must (refine sep_append (enc := Value.string) (h1 := fun _ => rfl) base rfl (.tmp 47) (.tmp 49) 26 9 (.string ⟨#[]⟩) 16 rfl Try.underlying26 info9 rfl (by decide) _ ls t rfl rfl (row_first HS.out) HB.out ?al ?_); (case al => omega); intro v1 w1 hS1 hB1; obtain ⟨A1, k1, hv1, -, -⟩ := hS1.row; subst hv1; simp only [List.length_append, List.length_singleton] at hS1; have c1 := XW.cells1 (row_back hS1).blk; have z1 := XW.froz1 (row_back hS1).blk; have HS1 := Aside0.mk (row_back hS1); have HB1 := Aside0.mk hB1; clear hS1 hB1))
  go_ret
  exact ⟨rfl, by have := HL.out; unfold addL at this; rw [if_pos HE.out] at this; rw [← this]; exact LogA.close (by rw [List.length_append]; simp; omega) (HS1.out.store (Nat.le_trans HB.out HB1.out.size) 0 _ rfl), HB1.out.setCell (HS1.out.blk_le) _⟩
end Go.Proofs.Ytiplkmmppihilaa.PastA
