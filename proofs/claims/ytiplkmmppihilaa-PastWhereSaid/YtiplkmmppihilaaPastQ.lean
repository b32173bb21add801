/- The document's check of a message, walked. Conditions: none beyond those that each theorem states. -/
import Derived.Test.YtiplkmmppihilaaPastQ1
import Derived.Test.YtiplkmmppihilaaPastQ2
import Derived.Test.YtiplkmmppihilaaPastQ3
import Derived.Test.YtiplkmmppihilaaPastQ4
namespace Go.Proofs.Ytiplkmmppihilaa.PastA
open Go.RowKit Go.Proofs.YtiplkmmppihilaaW.PrintWords Go.Proofs.YtiplkmmppihilaaW.PrintLast Go.Proofs.YtiplkmmppihilaaW.PrintMore Go.Proofs.Ytiplkmmppihilaa.XS Go.Proofs.Ytiplkmmppihilaa.PPast
set_option linter.unusedVariables false
set_option linter.unusedSimpArgs false
theorem b1_no {s q : Int} {l : List Int} {kd ep it is rt rs ru : Int} (h0 : ¬ (l.length : Int) < 1) (h1 : ¬ 16 < (l.length : Int)) (h2 : ¬ s < 0) (h3 : ¬ (l.length : Int) ≤ s) : mesg_Check.b1 s q l kd ep it is rt rs ru = false := by
  unfold mesg_Check.b1
  rw [decide_eq_false h0, decide_eq_false h1, decide_eq_false h2, decide_eq_false h3]; rfl
theorem b2_yes {s q : Int} {l : List Int} {kd ep it is rt rs ru : Int} (h4 : ¬ q < 1) (h5 : mesg_Check.clk q = true) (h6 : ¬ rd l s = q - 1) : mesg_Check.b2 s q l kd ep it is rt rs ru = true := by
  have hq := clk_bd h5
  have e : wrap64 (q - 1) = q - 1 := by unfold wrap64; omega
  unfold mesg_Check.b2
  rw [e, h5, bne_iff_ne.mpr h6]; simp
theorem b2_no {s q : Int} {l : List Int} {kd ep it is rt rs ru : Int} (h4 : ¬ q < 1) (h5 : mesg_Check.clk q = true) (h6 : rd l s = q - 1) : mesg_Check.b2 s q l kd ep it is rt rs ru = false := by
  have hq := clk_bd h5
  have e : wrap64 (q - 1) = q - 1 := by unfold wrap64; omega
  unfold mesg_Check.b2
  rw [e, h5, bne_eq_false_iff_eq.mpr h6, decide_eq_false h4]; rfl
theorem ref_check (s q : Int) (A : Option Addr) (c : Nat) (l : List Int) (kd ep it is rt rs ru : Int) (w : World) (hC : (Kd.int .i64).C w A l.length l) (hc : l.length ≤ c) (r : Int) (hr : mesg_Check.f s q l kd ep it is rt rs ru = some r) :
    Calls Try.prog 54 #[.agg #[.int .i64 s, .int .i64 q, .slice A l.length c, .int .i64 kd, .int .i64 ep, .int .i64 it, .int .i64 is, .int .i64 rt, .int .i64 rs, .int .i64 ru]] w fun en w' => en = .returned (.int .i64 r) ∧ Below w.heap.size w w' := by
  by_cases h0 : (l.length : Int) < 1
  · obtain rfl : r = 1 := Option.some.inj (hr.symm.trans (check_one (.inl (by simp [mesg_Check.b1]; omega))))
    exact ref_check_0 s q A c l kd ep it is rt rs ru w hC hc h0
  by_cases h1 : 16 < (l.length : Int)
  · obtain rfl : r = 1 := Option.some.inj (hr.symm.trans (check_one (.inl (by simp [mesg_Check.b1]; omega))))
    exact ref_check_1 s q A c l kd ep it is rt rs ru w hC hc h0 h1
  by_cases h2 : s < 0
  · obtain rfl : r = 1 := Option.some.inj (hr.symm.trans (check_one (.inl (by simp [mesg_Check.b1]; omega))))
    exact ref_check_2 s q A c l kd ep it is rt rs ru w hC hc h0 h1 h2
  by_cases h3 : (l.length : Int) ≤ s
  · obtain rfl : r = 1 := Option.some.inj (hr.symm.trans (check_one (.inl (by simp [mesg_Check.b1]; omega))))
    exact ref_check_3 s q A c l kd ep it is rt rs ru w hC hc h0 h1 h2 h3
  by_cases h4 : q < 1
  · obtain rfl : r = 1 := Option.some.inj (hr.symm.trans (check_one (.inr (.inl (by simp [mesg_Check.b2]; omega)))))
    exact ref_check_4 s q A c l kd ep it is rt rs ru w hC hc h0 h1 h2 h3 h4
  by_cases h5 : mesg_Check.clk q = false
  · obtain rfl : r = 1 := Option.some.inj (hr.symm.trans (check_one (.inr (.inl (by simp [mesg_Check.b2, h5])))))
    exact ref_check_5 s q A c l kd ep it is rt rs ru w hC hc h0 h1 h2 h3 h4 h5
  by_cases h6 : ¬ rd l s = q - 1
  · obtain rfl : r = 1 := Option.some.inj (hr.symm.trans (check_one (.inr (.inl (b2_yes h4 (by simpa using h5) h6)))))
    exact ref_check_6 s q A c l kd ep it is rt rs ru w hC hc h0 h1 h2 h3 h4 h5 h6
  by_cases h7 : duetref04_op.opb kd ep it is rt rs ru s (l.length : Int) = false
  · obtain rfl : r = 1 := Option.some.inj (hr.symm.trans (check_one (.inr (.inr (.inr h7)))))
    exact ref_check_7 s q A c l kd ep it is rt rs ru w hC hc h0 h1 h2 h3 h4 h5 h6 h7
  have hall := ref_check_all s q A c l kd ep it is rt rs ru w hC hc h0 h1 h2 h3 h4 h5 h6 h7 _ rfl
  cases ha : mesg_Check.anyb l with
  | true =>
    obtain rfl : r = 1 := Option.some.inj (hr.symm.trans (check_one (.inr (.inr (.inl ha)))))
    rw [ha] at hall
    exact hall
  | false =>
    obtain rfl : r = 0 := Option.some.inj (hr.symm.trans (check_none (b1_no h0 h1 h2 h3) (b2_no h4 (by simpa using h5) (by simpa using h6)) ha (by simpa using h7)))
    rw [ha] at hall
    exact hall
end Go.Proofs.Ytiplkmmppihilaa.PastA
