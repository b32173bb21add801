/- The law FrontAll, walked. Conditions: none beyond those that each theorem states. -/
import Derived.Test.YtiplkmmppihilaaFrontG
import Derived.Test.YtiplkmmppihilaaFrontM
namespace Go.Proofs.Ytiplkmmppihilaa.FrontA
open Go.RowKit Go.Proofs.YtiplkmmppihilaaW.PrintWords Go.Proofs.YtiplkmmppihilaaW.PrintLast Go.Proofs.YtiplkmmppihilaaW.PrintMore Go.Proofs.Ytiplkmmppihilaa.XS Go.Proofs.Ytiplkmmppihilaa.PFront
set_option linter.unusedVariables false
set_option linter.unusedSimpArgs false
set_option maxHeartbeats 8000000 in
set_option maxRecDepth 100000 in
theorem frontAll (A : Option Addr) (c : Nat) (v : List Int) (w : World) (hr0 : (Kd.int .i64).C w A v.length v) (hc0 : v.length ≤ c) (hn : v.length ≤ 9223372036854775807) : Calls Try.prog 14 #[.slice A v.length c] w fun e w' => e = .returned (.bool true) ∧ Below w.heap.size w w' := by
  have HC := Aside0.mk hr0
  have Hc := Aside0.mk hc0
  clear hr0
  have B_w := Aside0.mk (Below.refl w.heap.size w)
  have S_w : Aside0 (Sep w.heap.size (Stars []) w) := ⟨Sep.emp _ _⟩
  by_cases hv : Vok v
  case neg =>
    have HK : Aside0 (duetref06_May.f (v.length + 1) v = some false) := ⟨by rw [may_is v _ (by omega) (by omega), decide_eq_false hv]⟩
    clear hv
    go_enter Try.func14, Try.ntmps14
    go_wp2_with (first | (go_at_call 50; (with_reducible refine (duetref06_May.at (v.length + 1) _ _ _ _ false _ HC.out Hc.out HK.out).mono ?_); rintro e w_1 ⟨rfl, hb0⟩; have hb := Aside0.mk hb0; clear hb0; have B_w_1 : Aside0 (Below (w.heap.size) w w_1) := ⟨below_then B_w.out B_w.out.size hb.out.below⟩; have S_w_1 : Aside0 (Sep (w.heap.size) (Stars []) w_1) := ⟨Sep.below S_w.out hb.out.below⟩; have Q_w_1 : Aside0 (Below w.heap.size w w_1) := ⟨hb.out.below⟩; clear S_w; clear hb) | (go_at_call 37; (with_reducible refine (live9 _).mono ?_); rintro e2 w_l ⟨rfl, hb⟩; have HBl := Aside0.mk hb; clear hb))
    go_ret
    exact ⟨rfl, below_then B_w_1.out B_w_1.out.size HBl.out⟩
  have HK : Aside0 (duetref06_May.f (v.length + 1) v = some true) := ⟨by rw [may_is v _ (by omega) (by omega), decide_eq_true hv]⟩
  have HV := Aside0.mk hv
  have hv1 := hv.1
  have hv2 := hv.2.1
  clear hv
  go_enter Try.func14, Try.ntmps14
  go_wp2_with (first | (go_at_call 50; (with_reducible refine (duetref06_May.at (v.length + 1) _ _ _ _ true _ HC.out Hc.out HK.out).mono ?_); rintro e w_1 ⟨rfl, hb0⟩; have hb := Aside0.mk hb0; clear hb0; have B_w_1 : Aside0 (Below (w.heap.size) w w_1) := ⟨below_then B_w.out B_w.out.size hb.out.below⟩; have S_w_1 : Aside0 (Sep (w.heap.size) (Stars []) w_1) := ⟨Sep.below S_w.out hb.out.below⟩; have Q_w_1 : Aside0 (Below w.heap.size w w_1) := ⟨hb.out.below⟩; clear S_w; clear hb) | (go_at_call 35; (with_reducible refine (new_at _ ((v.length : Int)) v.length (told v 0) hv1 hv2 rfl (told_zero v).symm).mono ?_); rintro e w_2 ⟨gf, rfl, hN, hb⟩; have B_w_2 : Aside0 (Below (w.heap.size) w w_2) := ⟨below_then B_w_1.out B_w_1.out.size hb⟩; have S_w_2 : Aside0 (Sep (w.heap.size) (Stars [FA 103 76 gf (told v 0)]) w_2) := ⟨Sep.more S_w_1.out hN hb B_w_1.out.size⟩; have Q_w_2 : Aside0 (Below w.heap.size w w_2) := ⟨below_step Q_w_1.out hb⟩; clear S_w_1; clear hb))
  go_loopw [5] (fun i wr => ∃ k : Nat, k ≤ v.length ∧ i = .int .i64 k ∧ Aside0 (Sep w.heap.size (Stars [FA 103 76 gf (told v k)]) wr) ∧ Aside0 (Below w.heap.size w wr)) (fun i _ => v.length - (intOf i).toNat)
  case atStart => exact ⟨0, by omega, rfl, S_w_2, B_w_2⟩
  case round =>
    clear S_w_2
    obtain ⟨k, hk, rfl, S_wr, B_wr⟩ := hrel
    by_cases hlt : k < v.length
    · have hlt2 : (k : Int) < (v.length : Int) := by omega
      go_wp2_with (first | (go_at_call 38; (with_reducible refine (hear_at _ (Sep.front [] [] S_wr.out) B_wr.out.size (told_good HV.out k hk) (k : Int) A c v.length v (Kd.C_below HC.out B_wr.out) Hc.out (by omega) 0 (told v (k + 1)) (told_E HV.out k hlt) (told_R HV.out k hlt)).mono ?_); rintro e wr_1 ⟨rfl, hS, hb⟩; have B_wr_1 : Aside0 (Below (w.heap.size) w wr_1) := ⟨(Below.trans B_wr.out hb)⟩; have S_wr_1 : Aside0 (Sep (w.heap.size) (Stars [FA 103 76 gf (told v (k + 1))]) wr_1) := ⟨Sep.back [] [] hS⟩; clear S_wr; clear hS hb))
      go_roundw
      case rel => exact ⟨k + 1, by omega, by go_num, S_wr_1, B_wr_1⟩
      case measure => simp [intOf]; omega
    · obtain rfl : k = v.length := by omega
      have hlt2 : ¬ (v.length : Int) < (v.length : Int) := by omega
      have HS : Aside0 (duetref01_Same.f (v.length + 1) v v = some true) := ⟨by rw [same_is _ _ _ (by omega) (by omega), decide_eq_true rfl]⟩
      go_wp2_with (first | (go_at_call 40; (with_reducible refine (stable_sep _ (Sep.front [] [] S_wr.out) (told_good HV.out v.length (Nat.le_refl _)) v (told_stable HV.out)).mono ?_); rintro e wr_1 ⟨vf, rfl, hr, hb⟩; obtain ⟨Af, cf, hv, -, -⟩ := Kd.R_reads hr; replace hv : vf = .slice Af v.length cf := hv; subst hv; have B_wr_1 : Aside0 (Below (w.heap.size) w wr_1) := ⟨below_then B_wr.out B_wr.out.size hb⟩; have S_wr_1 : Aside0 (Sep (w.heap.size) (Stars [Row (Kd.int .i64) 3 (.slice Af v.length cf) (v), FA 103 76 gf (told v v.length)]) wr_1) := ⟨Sep.new_row S_wr.out B_wr.out.size hb hr⟩; clear S_wr; clear hb; clear hr) | (go_at_call 32; (with_reducible refine (duetref01_Same.at (v.length + 1) Af cf (v.length) (v) A c (v.length) (v) true _ (Sep.row_at (Sep.front [] [FA 103 76 gf (told v v.length)] S_wr_1.out)).1 (Sep.row_at (Sep.front [] [FA 103 76 gf (told v v.length)] S_wr_1.out)).2 (Kd.C_below HC.out B_wr_1.out) Hc.out HS.out).mono ?_); rintro e wr_2 ⟨rfl, hb0⟩; have hb := Aside0.mk hb0; clear hb0; have B_wr_2 : Aside0 (Below (w.heap.size) w wr_2) := ⟨below_then B_wr_1.out B_wr_1.out.size hb.out.below⟩; have S_wr_2 : Aside0 (Sep (w.heap.size) (Stars [Row (Kd.int .i64) 3 (.slice Af v.length cf) (v), FA 103 76 gf (told v v.length)]) wr_2) := ⟨Sep.below S_wr_1.out hb.out.below⟩; clear S_wr_1; clear hb) | (go_at_call 42; (with_reducible refine (most_sep _ (Sep.front [Row (Kd.int .i64) 3 (.slice Af v.length cf) (v)] [] S_wr_2.out) (told_good HV.out v.length (Nat.le_refl _)) v (told_most HV.out)).mono ?_); rintro e wr_3 ⟨vh, rfl, hr, hb⟩; obtain ⟨Ah, ch, hv, -, -⟩ := Kd.R_reads hr; replace hv : vh = .slice Ah v.length ch := hv; subst hv; have B_wr_3 : Aside0 (Below (w.heap.size) w wr_3) := ⟨below_then B_wr_2.out B_wr_2.out.size hb⟩; have S_wr_3 : Aside0 (Sep (w.heap.size) (Stars [Row (Kd.int .i64) 3 (.slice Ah v.length ch) (v), Row (Kd.int .i64) 3 (.slice Af v.length cf) (v), FA 103 76 gf (told v v.length)]) wr_3) := ⟨Sep.new_row S_wr_2.out B_wr_2.out.size hb hr⟩; clear S_wr_2; clear hb; clear hr) | (go_at_call 32; (with_reducible refine (duetref01_Same.at (v.length + 1) Ah ch (v.length) (v) A c (v.length) (v) true _ (Sep.row_at (Sep.front [] [Row (Kd.int .i64) 3 (.slice Af v.length cf) (v), FA 103 76 gf (told v v.length)] S_wr_3.out)).1 (Sep.row_at (Sep.front [] [Row (Kd.int .i64) 3 (.slice Af v.length cf) (v), FA 103 76 gf (told v v.length)] S_wr_3.out)).2 (Kd.C_below HC.out B_wr_3.out) Hc.out HS.out).mono ?_); rintro e wr_4 ⟨rfl, hb0⟩; have hb := Aside0.mk hb0; clear hb0; have B_wr_4 : Aside0 (Below (w.heap.size) w wr_4) := ⟨below_then B_wr_3.out B_wr_3.out.size hb.out.below⟩; have S_wr_4 : Aside0 (Sep (w.heap.size) (Stars [Row (Kd.int .i64) 3 (.slice Ah v.length ch) (v), Row (Kd.int .i64) 3 (.slice Af v.length cf) (v), FA 103 76 gf (told v v.length)]) wr_4) := ⟨Sep.below S_wr_3.out hb.out.below⟩; clear S_wr_3; clear hb) | (go_at_call 44; (with_reducible refine (late_sep_n _ (Sep.front [Row (Kd.int .i64) 3 (.slice Ah v.length ch) (v), Row (Kd.int .i64) 3 (.slice Af v.length cf) (v)] [] S_wr_4.out) (told_good HV.out v.length (Nat.le_refl _)) [] 0 (told_late HV.out) rfl).mono ?_); rintro e wr_5 ⟨Al, cl, rfl, hck, hCk, hb⟩; have Hl := Aside0.mk hck; have HCl := Aside0.mk hCk; clear hck hCk; have B_wr_5 : Aside0 (Below (w.heap.size) w wr_5) := ⟨below_then B_wr_4.out B_wr_4.out.size hb⟩; have S_wr_5 : Aside0 (Sep (w.heap.size) (Stars [Row (Kd.int .i64) 3 (.slice Ah v.length ch) (v), Row (Kd.int .i64) 3 (.slice Af v.length cf) (v), FA 103 76 gf (told v v.length)]) wr_5) := ⟨Sep.below S_wr_4.out hb⟩; clear S_wr_4; clear hb; have R_l_wr_5 : Aside0 (Kd.C (Kd.int .i64) wr_5 Al (0) ([])) := ⟨HCl.out⟩; clear HCl) | (go_at_call 37; (with_reducible refine (live9 _).mono ?_); rintro e2 w_l ⟨rfl, hb⟩; have HBl := Aside0.mk hb; clear hb))
      go_ret
      exact ⟨rfl, below_then B_wr_5.out B_wr_5.out.size HBl.out⟩
end Go.Proofs.Ytiplkmmppihilaa.FrontA
