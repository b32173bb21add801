/- The law PastPrefix, walked. Conditions: none beyond those that each theorem states. -/
import Derived.Test.YtiplkmmppihilaaPastL3
namespace Go.Proofs.Ytiplkmmppihilaa.PastA
open Go.RowKit Go.Proofs.YtiplkmmppihilaaW.PrintWords Go.Proofs.YtiplkmmppihilaaW.PrintLast Go.Proofs.YtiplkmmppihilaaW.PrintMore Go.Proofs.Ytiplkmmppihilaa.XS Go.Proofs.Ytiplkmmppihilaa.PPast
set_option linter.unusedVariables false
set_option linter.unusedSimpArgs false
set_option maxHeartbeats 8000000 in
set_option maxRecDepth 100000 in
theorem pastPrefix (A0 : Option Addr) (c0 : Nat) (l0 : List ByteArray) (A1 : Option Addr) (c1 : Nat) (l1 : List ByteArray) (w : World) (hr0 : Kd.string.C w A0 l0.length l0) (hc0 : l0.length ≤ c0) (hr1 : Kd.string.C w A1 l1.length l1) (hc1 : l1.length ≤ c1) :
    Calls Try.prog 4 #[.slice A0 l0.length c0, .slice A1 l1.length c1] w fun en w' => en = .returned (.bool true) ∧ Below w.heap.size w w' := by
  have HR := Aside0.mk hr0
  have HR1 := Aside0.mk hr1
  clear hr0 hr1
  have B_w := Aside0.mk (Below.refl w.heap.size w)
  have S_w : Aside0 (Sep w.heap.size (Stars []) w) := ⟨Sep.emp _ _⟩
  by_cases hl0 : 60 < l0.length
  · have kl0 : (60 : Int) < (l0.length : Int) := by omega
    go_enter Try.func4, Try.ntmps4
    go_wp2_with (go_at_call 16; (with_reducible refine (live _).mono ?_); rintro e2 w_l ⟨rfl, hb⟩; have HBl := Aside0.mk hb; clear hb)
    go_ret
    exact ⟨rfl, below_then B_w.out B_w.out.size HBl.out⟩
  have kl0 : ¬ (60 : Int) < (l0.length : Int) := by omega
  by_cases hl1 : 60 < l1.length
  · have kl1 : (60 : Int) < (l1.length : Int) := by omega
    go_enter Try.func4, Try.ntmps4
    go_wp2_with (go_at_call 16; (with_reducible refine (live _).mono ?_); rintro e2 w_l ⟨rfl, hb⟩; have HBl := Aside0.mk hb; clear hb)
    go_ret
    exact ⟨rfl, below_then B_w.out B_w.out.size HBl.out⟩
  have kl1 : ¬ (60 : Int) < (l1.length : Int) := by omega
  go_enter Try.func4, Try.ntmps4
  go_wp2
  go_loop [5] (fun i => ∃ k : Nat, k ≤ l0.length ∧ i = .int .i64 k) (fun i => l0.length - (intOf i).toNat)
  case atStart => exact ⟨0, by omega, rfl⟩
  case round =>
    obtain ⟨k, hk, rfl⟩ := hrel
    by_cases hlt : k < l0.length
    · have hlt2 : (k : Int) < (l0.length : Int) := by omega
      obtain ⟨ad, rfl, x0⟩ := at_text HR.out k hlt
      generalize rdOf ByteArray.empty l0 (k : Int) = t at *
      by_cases ht : 300 < t.size
      · have ht2 : (300 : Int) < t.size := by omega
        go_wp2_with (go_at_call 16; (with_reducible refine (live _).mono ?_); rintro e2 w_l ⟨rfl, hb⟩; have HBl := Aside0.mk hb; clear hb)
        go_ret
        exact ⟨rfl, below_then B_w.out B_w.out.size HBl.out⟩
      have ht2 : t.size ≤ 300 := by omega
      clear ht
      go_wp2
      go_round
      case rel => exact ⟨k + 1, by omega, by go_num⟩
      case measure => simp [intOf]; omega
    · have hlt2 : ¬ (k : Int) < (l0.length : Int) := by omega
      have S_v : Aside0 (Sep w.heap.size (Stars [Row Kd.string 9 (.slice none 0 0) []]) w) := ⟨Sep.nil_row _ _ S_w.out⟩
      clear S_w
      have S_w := S_v
      clear S_v
      obtain ⟨ab, hab⟩ : ∃ r, Pre l0 l1 = r := ⟨_, rfl⟩
      have Hab := Aside0.mk hab
      clear hab
      obtain ⟨ba, hba⟩ : ∃ r, Pre l1 l0 = r := ⟨_, rfl⟩
      have Hba := Aside0.mk hba
      clear hba
      have HRF : Aside0 (duetref16_Prefix.f (l0.length + 1) l0 l1 = some ab) := ⟨by rw [pref_is _ _ _ (by omega) (by omega), Hab.out]⟩
      have HTX : Aside0 (duetref03_Texts.f (l0.length + 1) l0 l1 = some (ab && ba)) := ⟨by rw [texts_is _ _ _ (by omega) (by omega), ← Hab.out, ← Hba.out, Pre_both]⟩
      have HPA : Aside0 (Pre l0 (l0 ++ l1) = true) := ⟨Pre_append _ _⟩
      have HPR : Aside0 (Pre l0 l0 = true) := ⟨Pre_refl _⟩
      have HL0 : Aside0 (l0.length ≤ 60) := ⟨by omega⟩
      have HL1 : Aside0 (l1.length ≤ 60) := ⟨by omega⟩
      have b1 : (ab == ab) = true := beq_self_eq_true _
      have b2 : ((ab && ba) == (ab && ba)) = true := beq_self_eq_true _
      go_wp2_with (first | ((with_reducible refine gate_builtin (b := .append) (xs := #[.tmp 31, .tmp 32]) rfl ?_); at_builtin; go_must (refine sep_append_rows Kd.string (Rr := Kd.K Kd.string w) (w.heap.size) rfl (.tmp 31) (.tmp 32) 26 9 (.string ⟨#[]⟩) 16 rfl Try.underlying26 info9 rfl (by decide) (by decide) _ (([] : List ByteArray)) (l0) (A0) (l0.length) (c0) rfl rfl (Sep.front [] [] S_w.out) HR.out (fun _ _ h => h) B_w.out.size ?al ?_); (case al => have := HL0.out; simp; omega); intro v1 w_1 hS hb; have B_w_1 : Aside0 (Below (w.heap.size) w w_1) := ⟨(Below.trans B_w.out hb)⟩; have S_w_1 : Aside0 (Sep (w.heap.size) (Stars [Row Kd.string 9 (v1) (([] : List ByteArray) ++ l0)]) w_1) := ⟨Sep.back [] [] hS⟩; clear S_w; clear hS hb; have tk1 := Aside0.mk True.intro) | ((with_reducible refine gate_builtin (b := .append) (xs := #[.tmp 34, .tmp 35]) rfl ?_); at_builtin; go_must (refine sep_append_rows Kd.string (Rr := Kd.K Kd.string w_1) (w.heap.size) rfl (.tmp 34) (.tmp 35) 26 9 (.string ⟨#[]⟩) 16 rfl Try.underlying26 info9 rfl (by decide) (by decide) _ (([] : List ByteArray) ++ l0) (l1) (A1) (l1.length) (c1) rfl rfl (Sep.front [] [] S_w_1.out) (Kd.C_below HR1.out B_w_1.out) (fun _ _ h => h) B_w_1.out.size ?al ?_); (case al => have := HL0.out; have := HL1.out; simp; omega); intro v2 w_2 hS hb; have B_w_2 : Aside0 (Below (w.heap.size) w w_2) := ⟨(Below.trans B_w_1.out hb)⟩; have S_w_2 : Aside0 (Sep (w.heap.size) (Stars [Row Kd.string 9 (v2) (([] : List ByteArray) ++ l0 ++ l1)]) w_2) := ⟨Sep.back [] [] hS⟩; clear S_w_1; obtain ⟨Am, cm, hv, -, -⟩ := Sep.row S_w_2.out; have hv2 := hv.trans (congrArg (fun n => Value.slice Am n cm) (show (([] : List ByteArray) ++ l0 ++ l1).length = l0.length + l1.length by simp)); clear hv; subst hv2; clear hS hb; have tk2 := Aside0.mk True.intro) | (have tk_ := tk2; clear tk_; go_at_call 23; (with_reducible refine (prefix_at A0 c0 l0.length l0 A1 c1 l1.length l1 _ (Kd.C_below HR.out B_w_2.out) hc0 (Kd.C_below HR1.out B_w_2.out) hc1 (by have := HL0.out; omega) (by have := HL1.out; omega) ab Hab.out).mono ?_); rintro e w_3 ⟨rfl, hb0⟩; have hb := Aside0.mk hb0; clear hb0; have B_w_3 : Aside0 (Below (w.heap.size) w w_3) := ⟨below_then B_w_2.out B_w_2.out.size hb.out.below⟩; have S_w_3 : Aside0 (Sep (w.heap.size) (Stars [Row Kd.string 9 (.slice Am (l0.length + l1.length) cm) (([] : List ByteArray) ++ l0 ++ l1)]) w_3) := ⟨Sep.below S_w_2.out hb.out.below⟩; clear S_w_2; clear hb; clear tk2; have tk3 := Aside0.mk True.intro) | (have tk_ := tk3; clear tk_; go_at_call 23; (with_reducible refine (prefix_at A1 c1 l1.length l1 A0 c0 l0.length l0 _ (Kd.C_below HR1.out B_w_3.out) hc1 (Kd.C_below HR.out B_w_3.out) hc0 (by have := HL1.out; omega) (by have := HL0.out; omega) ba Hba.out).mono ?_); rintro e w_4 ⟨rfl, hb0⟩; have hb := Aside0.mk hb0; clear hb0; have B_w_4 : Aside0 (Below (w.heap.size) w w_4) := ⟨below_then B_w_3.out B_w_3.out.size hb.out.below⟩; have S_w_4 : Aside0 (Sep (w.heap.size) (Stars [Row Kd.string 9 (.slice Am (l0.length + l1.length) cm) (([] : List ByteArray) ++ l0 ++ l1)]) w_4) := ⟨Sep.below S_w_3.out hb.out.below⟩; clear S_w_3; clear hb; clear tk3; have tk4 := Aside0.mk True.intro) | (have tk_ := tk4; clear tk_; go_at_call 24; (with_reducible refine (duetref16_Prefix.calls (l0.length + 1) A0 c0 l0 A1 c1 l1 ab _ (Kd.C_below HR.out B_w_4.out) hc0 (Kd.C_below HR1.out B_w_4.out) hc1 HRF.out).mono ?_); rintro e w_5 ⟨rfl, hb0⟩; have hb := Aside0.mk hb0; clear hb0; have B_w_5 : Aside0 (Below (w.heap.size) w w_5) := ⟨below_then B_w_4.out B_w_4.out.size hb.out.below⟩; have S_w_5 : Aside0 (Sep (w.heap.size) (Stars [Row Kd.string 9 (.slice Am (l0.length + l1.length) cm) (([] : List ByteArray) ++ l0 ++ l1)]) w_5) := ⟨Sep.below S_w_4.out hb.out.below⟩; clear S_w_4; clear hb; clear tk4; have tk5 := Aside0.mk True.intro) | (have tk_ := tk5; clear tk_; go_at_call 23; (with_reducible refine (prefix_at A0 c0 l0.length l0 Am cm _ (([] : List ByteArray) ++ l0 ++ l1) _ (Kd.C_below HR.out B_w_5.out) hc0 (Sep.row_at (Sep.front [] [] S_w_5.out)).1 (Sep.row_at (Sep.front [] [] S_w_5.out)).2 (by have := HL0.out; omega) (by have := HL0.out; have := HL1.out; simp; omega) true (by rw [List.nil_append]; exact HPA.out)).mono ?_); rintro e w_6 ⟨rfl, hb0⟩; have hb := Aside0.mk hb0; clear hb0; have B_w_6 : Aside0 (Below (w.heap.size) w w_6) := ⟨below_then B_w_5.out B_w_5.out.size hb.out.below⟩; have S_w_6 : Aside0 (Sep (w.heap.size) (Stars [Row Kd.string 9 (.slice Am (l0.length + l1.length) cm) (([] : List ByteArray) ++ l0 ++ l1)]) w_6) := ⟨Sep.below S_w_5.out hb.out.below⟩; clear S_w_5; clear hb; clear tk5; have tk6 := Aside0.mk True.intro) | (have tk_ := tk6; clear tk_; go_at_call 23; (with_reducible refine (prefix_at A0 c0 l0.length l0 A0 c0 l0.length l0 _ (Kd.C_below HR.out B_w_6.out) hc0 (Kd.C_below HR.out B_w_6.out) hc0 (by have := HL0.out; omega) (by have := HL0.out; omega) true HPR.out).mono ?_); rintro e w_7 ⟨rfl, hb0⟩; have hb := Aside0.mk hb0; clear hb0; have B_w_7 : Aside0 (Below (w.heap.size) w w_7) := ⟨below_then B_w_6.out B_w_6.out.size hb.out.below⟩; have S_w_7 : Aside0 (Sep (w.heap.size) (Stars [Row Kd.string 9 (.slice Am (l0.length + l1.length) cm) (([] : List ByteArray) ++ l0 ++ l1)]) w_7) := ⟨Sep.below S_w_6.out hb.out.below⟩; clear S_w_6; clear hb; clear tk6; have tk7 := Aside0.mk True.intro) | (have tk_ := tk7; clear tk_; go_at_call 21; (with_reducible refine (duetref03_Texts.calls (l0.length + 1) A0 c0 l0 A1 c1 l1 (ab && ba) _ (Kd.C_below HR.out B_w_7.out) hc0 (Kd.C_below HR1.out B_w_7.out) hc1 HTX.out).mono ?_); rintro e w_8 ⟨rfl, hb0⟩; have hb := Aside0.mk hb0; clear hb0; have B_w_8 : Aside0 (Below (w.heap.size) w w_8) := ⟨below_then B_w_7.out B_w_7.out.size hb.out.below⟩; have S_w_8 : Aside0 (Sep (w.heap.size) (Stars [Row Kd.string 9 (.slice Am (l0.length + l1.length) cm) (([] : List ByteArray) ++ l0 ++ l1)]) w_8) := ⟨Sep.below S_w_7.out hb.out.below⟩; clear S_w_7; clear hb; clear tk7; have tk8 := Aside0.mk True.intro) | (go_at_call 16; (with_reducible refine (live _).mono ?_); rintro e2 w_l ⟨rfl, hb⟩; have HBl := Aside0.mk hb; clear hb))
      all_goals
        go_ret
        exact ⟨rfl, below_then B_w_8.out B_w_8.out.size HBl.out⟩
end Go.Proofs.Ytiplkmmppihilaa.PastA
