/- The law SearchScripts, walked. Conditions: none beyond those that each theorem states. -/
import Derived.Test.YthofobcbbddeeaaSrchN
namespace Go.Proofs.Ythofobcbbddeeaa.SrchA
open Go.RowKit Go.Proofs.YthofobcbbddeeaaW.PrintWords Go.Proofs.YthofobcbbddeeaaW.PrintLast Go.Proofs.YthofobcbbddeeaaW.PrintMore Go.Proofs.Ythofobcbbddeeaa.XS Go.Proofs.Ythofobcbbddeeaa.PSrch
set_option linter.unusedVariables false
set_option linter.unusedSimpArgs false
attribute [local go_sem] max2_int min2_int max_two min_two
theorem mx_p (p : Int) (h : 0 ≤ p) : mx p 0 = p := by unfold mx; rw [if_neg (by omega)]
set_option maxHeartbeats 8000000 in
set_option maxRecDepth 100000 in
theorem searchScripts (A0 : Option Addr) (c0 : Nat) (L : List ByteArray) (A1 : Option Addr) (c1 : Nat) (sc : List (Int × Int)) (w : World) (m : Int) (hm : w.cell? ⟨0, 0, none⟩ = some (.int .i64 m)) (hr0 : Kd.string.C w A0 L.length L) (hc0 : L.length ≤ c0) (hr1 : Kd.C KOp w A1 sc.length sc) (hc1 : sc.length ≤ c1) (hn : sc.length ≤ 9223372036854775807) : Calls Try.prog 11 #[.slice A0 L.length c0, .slice A1 sc.length c1] w fun e w' => e = .returned (.bool true) ∧ Below w.heap.size w w' := by
  have HM := Aside0.mk hm
  have hpos := size_pos hm
  clear hm
  have HC := Aside0.mk hr0
  have HR := Aside0.mk hr1
  clear hr0 hr1
  obtain ⟨fb, hfw, hfi⟩ := few_is L
  have HF := Aside0.mk hfw
  clear hfw
  have B_w := Aside0.mk (Below.refl w.heap.size w)
  have S_w : Aside0 (Sep w.heap.size (Stars []) w) := ⟨Sep.emp _ _⟩
  cases fb with
  | false =>
    clear hfi
    go_enter Try.func11, Try.ntmps11
    go_wp2_with (first | (go_at_call 25; (with_reducible refine (duetlaw19_few.calls 50 A0 c0 L false _ HC.out hc0 HF.out).mono ?_); rintro e w_1 ⟨rfl, hb0⟩; have hb := Aside0.mk hb0; clear hb0; have B_w_1 : Aside0 (Below (w.heap.size) w w_1) := ⟨below_then B_w.out B_w.out.size hb.out.below⟩; have S_w_1 : Aside0 (Sep (w.heap.size) (Stars []) w_1) := ⟨Sep.below S_w.out hb.out.below⟩; have Q_w_1 : Aside0 (Below w.heap.size w w_1) := ⟨hb.out.below⟩; clear S_w; clear hb) | (go_at_call 26; (with_reducible refine (live19 _ m (pw_cell_below B_w_1.out HM.out)).mono ?_); rintro e2 w_l ⟨rfl, hb⟩; have HBl := Aside0.mk hb; clear hb))
    go_ret
    exact ⟨rfl, below_then B_w_1.out B_w_1.out.size HBl.out⟩
  | true =>
    have hfew := hfi.mp rfl
    have HSH := Aside0.mk hfew.short
    have hL1 : L.length ≤ 1000 := Nat.le_trans hfew.1 (by omega)
    clear hfi hfew
    go_enter Try.func11, Try.ntmps11
    go_wp2_with (first | (go_at_call 25; (with_reducible refine (duetlaw19_few.calls 50 A0 c0 L true _ HC.out hc0 HF.out).mono ?_); rintro e w_1 ⟨rfl, hb0⟩; have hb := Aside0.mk hb0; clear hb0; have B_w_1 : Aside0 (Below (w.heap.size) w w_1) := ⟨below_then B_w.out B_w.out.size hb.out.below⟩; have S_w_1 : Aside0 (Sep (w.heap.size) (Stars []) w_1) := ⟨Sep.below S_w.out hb.out.below⟩; have Q_w_1 : Aside0 (Below w.heap.size w w_1) := ⟨hb.out.below⟩; clear S_w; clear hb) | (go_at_call 35; (with_reducible refine (new_at _ A0 c0 L.length L (Kd.C_below HC.out B_w_1.out) hc0 rfl hL1).mono ?_); rintro e w_2 ⟨gs, rfl, hN, hb⟩; have B_w_2 : Aside0 (Below (w.heap.size) w w_2) := ⟨below_then B_w_1.out B_w_1.out.size hb⟩; have S_w_2 : Aside0 (Sep (w.heap.size) (Stars [SS 97 .i32 21 gs (L) ([]) (-1)]) w_2) := ⟨Sep.more S_w_1.out hN hb B_w_1.out.size⟩; have Q_w_2 : Aside0 (Below w.heap.size w w_2) := ⟨below_step Q_w_1.out hb⟩; clear S_w_1; clear hb) | (go_at_call 40; (with_reducible refine (refnew_is _ A0 c0 L (Kd.C_below HC.out B_w_2.out) hc0 hL1).mono ?_); rintro e w_3 ⟨gk, rfl, hN, hb⟩; have B_w_3 : Aside0 (Below (w.heap.size) w w_3) := ⟨below_then B_w_2.out B_w_2.out.size hb⟩; have S_w_3 : Aside0 (Sep (w.heap.size) (Stars [SS 68 .i64 3 gk (L) ([]) (-1), SS 97 .i32 21 gs (L) ([]) (-1)]) w_3) := ⟨Sep.more S_w_2.out hN hb B_w_2.out.size⟩; have Q_w_3 : Aside0 (Below w.heap.size w w_3) := ⟨below_step Q_w_2.out hb⟩; clear S_w_2; clear hb))
    go_loopw [7] (fun i wr => ∃ (k : Nat) (Q : List Int) (p : Int), k ≤ sc.length ∧ i = .int .i64 k ∧ Aside0 (Ok L Q p) ∧ Aside0 (Sep w.heap.size (Stars [SS 68 .i64 3 gk (L) (Q) (p), SS 97 .i32 21 gs (L) (Q) (p)]) wr) ∧ Aside0 (Below w.heap.size w wr)) (fun i _ => sc.length - (intOf i).toNat)
    case atStart => exact ⟨0, [], -1, by omega, rfl, ⟨HSH.out, hL1, by simp, by omega, by omega⟩, S_w_3, B_w_3⟩
    case round =>
      clear S_w_3 B_w_3
      obtain ⟨k, Q, p, hk, rfl, HO, S_wr, B_wr⟩ := hrel
      by_cases hlt : k < sc.length
      · have hlt2 : (k : Int) < (sc.length : Int) := by omega
        by_cases h60 : k < 250
        · have h60b : (k : Int) < 250 := by omega
          have hk0 : (0 : Int) ≤ (k : Int) := by omega
          obtain ⟨ad, d, n, rfl, x0, x1⟩ := at_op HR.out k hlt
          have x0_wr := pw_cell_below B_wr.out x0
          have x1_wr := pw_cell_below B_wr.out x1
          by_cases d0 : d = 0
          · skip
            have e0 : (d == 0) = true := beq_iff_eq.mpr d0
            clear d0
            obtain ⟨b, hb⟩ : ∃ b, typeB L Q p n = b := ⟨_, rfl⟩
            obtain ⟨Q2, hQ2⟩ : ∃ Q2, typeQ Q n = Q2 := ⟨_, rfl⟩
            obtain ⟨p2, hp2⟩ : ∃ p2, typeP L Q p n = p2 := ⟨_, rfl⟩
            have HO2 : Aside0 (Ok L Q2 p2) := ⟨by rw [← hQ2, ← hp2]; exact type_ok HO.out n⟩
            have HB := Aside0.mk hb
            have HQ := Aside0.mk hQ2
            have HP := Aside0.mk hp2
            clear hb hQ2 hp2
            have bb : (b != b) = false := by simp
            obtain ⟨q, hq⟩ : ∃ q, qs Q2 = q := ⟨_, rfl⟩
            have Hq := Aside0.mk hq
            have bq : (q.toList != q.toList) = false := by simp
            have hql : Q2.length ≤ 1000 := Nat.le_trans HO2.out.q (by omega)
            clear hq
            by_cases hpn : p2 = -1
            · subst hpn
              go_wp2_with (first | (go_at_call 36; (with_reducible refine (type_is _ (Sep.front [SS 68 .i64 3 gk (L) (Q) (p)] [] S_wr.out) B_wr.out.size hpos HO.out m (pw_cell_below B_wr.out HM.out) n b HB.out Q2 HQ.out (-1) HP.out).mono ?_); rintro e wr_1 ⟨rfl, hS, hb⟩; have B_wr_1 : Aside0 (Below (w.heap.size) w wr_1) := ⟨(Below.trans B_wr.out hb)⟩; have S_wr_1 : Aside0 (Sep (w.heap.size) (Stars [SS 68 .i64 3 gk (L) (Q) (p), SS 97 .i32 21 gs (L) (Q2) (-1)]) wr_1) := ⟨Sep.back [SS 68 .i64 3 gk (L) (Q) (p)] [] hS⟩; have x0_wr_1 := pw_cell_below B_wr_1.out x0; have x1_wr_1 := pw_cell_below B_wr_1.out x1; clear S_wr x0_wr x1_wr; clear hS hb) | (go_at_call 41; (with_reducible refine (reftype_is _ (Sep.front [] [SS 97 .i32 21 gs (L) (Q2) (-1)] S_wr_1.out) B_wr_1.out.size HO.out n b HB.out Q2 HQ.out (-1) HP.out).mono ?_); rintro e wr_2 ⟨rfl, hS, hb⟩; have B_wr_2 : Aside0 (Below (w.heap.size) w wr_2) := ⟨(Below.trans B_wr_1.out hb)⟩; have S_wr_2 : Aside0 (Sep (w.heap.size) (Stars [SS 68 .i64 3 gk (L) (Q2) (-1), SS 97 .i32 21 gs (L) (Q2) (-1)]) wr_2) := ⟨Sep.back [] [SS 97 .i32 21 gs (L) (Q2) (-1)] hS⟩; have x0_wr_2 := pw_cell_below B_wr_2.out x0; have x1_wr_2 := pw_cell_below B_wr_2.out x1; clear S_wr_1 x0_wr_1 x1_wr_1; clear hS hb) | (go_at_call 38; (with_reducible refine (found_none _ (Sep.front [SS 68 .i64 3 gk (L) (Q2) (-1)] [] S_wr_2.out) rfl).mono ?_); rintro e w' ⟨rfl, rfl⟩) | (go_at_call 39; (with_reducible refine (query_sep _ (Sep.front [SS 68 .i64 3 gk (L) (Q2) (-1)] [] S_wr_2.out) q Hq.out).mono ?_); rintro e w' ⟨rfl, rfl⟩) | (go_at_call 48; (with_reducible refine (refquery_sep _ (Sep.front [] [SS 97 .i32 21 gs (L) (Q2) (-1)] S_wr_2.out) hql q Hq.out).mono ?_); rintro e wr_3 ⟨rfl, hb⟩; have B_wr_3 : Aside0 (Below (w.heap.size) w wr_3) := ⟨below_then B_wr_2.out B_wr_2.out.size hb⟩; have S_wr_3 : Aside0 (Sep (w.heap.size) (Stars [SS 68 .i64 3 gk (L) (Q2) (-1), SS 97 .i32 21 gs (L) (Q2) (-1)]) wr_3) := ⟨Sep.below S_wr_2.out hb⟩; have x0_wr_3 := pw_cell_below B_wr_3.out x0; have x1_wr_3 := pw_cell_below B_wr_3.out x1; clear S_wr_2 x0_wr_2 x1_wr_2; clear hb; have pl := place_cell (Sep.front [] [SS 97 .i32 21 gs (L) (Q2) (-1)] S_wr_3.out)))
              go_roundw
              case rel => first | exact ⟨k + 1, Q2, -1, by omega, by go_num, HO2, S_wr_3, B_wr_3⟩ | ((repeat apply Exists.intro); exact ⟨⟨k + 1, Q2, -1, by omega, by go_num, HO2, S_wr_3, B_wr_3⟩, rfl⟩)
              case measure => simp [intOf]; omega
            · have hp0 : 0 ≤ p2 := by have := HO2.out.p0; omega
              have hp1 := HO2.out.p1
              have hpd : decide (0 ≤ p2) = true := decide_eq_true hp0
              have hmx := mx_p p2 hp0
              obtain ⟨al, hA, xe⟩ := Kd.at_string HC.out p2 hp0 hp1
              subst hA
              obtain ⟨t, ht⟩ : ∃ t, rdOf ByteArray.empty L p2 = t := ⟨_, rfl⟩
              rw [ht] at xe
              have Ht := Aside0.mk ht
              have bt : (t.toList != t.toList) = false := by simp
              have hnm : ¬ p2 = -1 := hpn
              clear hpn ht
              go_wp2_with (first | (go_at_call 36; (with_reducible refine (type_is _ (Sep.front [SS 68 .i64 3 gk (L) (Q) (p)] [] S_wr.out) B_wr.out.size hpos HO.out m (pw_cell_below B_wr.out HM.out) n b HB.out Q2 HQ.out p2 HP.out).mono ?_); rintro e wr_1 ⟨rfl, hS, hb⟩; have B_wr_1 : Aside0 (Below (w.heap.size) w wr_1) := ⟨(Below.trans B_wr.out hb)⟩; have S_wr_1 : Aside0 (Sep (w.heap.size) (Stars [SS 68 .i64 3 gk (L) (Q) (p), SS 97 .i32 21 gs (L) (Q2) (p2)]) wr_1) := ⟨Sep.back [SS 68 .i64 3 gk (L) (Q) (p)] [] hS⟩; have x0_wr_1 := pw_cell_below B_wr_1.out x0; have x1_wr_1 := pw_cell_below B_wr_1.out x1; clear S_wr x0_wr x1_wr; clear hS hb) | (go_at_call 41; (with_reducible refine (reftype_is _ (Sep.front [] [SS 97 .i32 21 gs (L) (Q2) (p2)] S_wr_1.out) B_wr_1.out.size HO.out n b HB.out Q2 HQ.out p2 HP.out).mono ?_); rintro e wr_2 ⟨rfl, hS, hb⟩; have B_wr_2 : Aside0 (Below (w.heap.size) w wr_2) := ⟨(Below.trans B_wr_1.out hb)⟩; have S_wr_2 : Aside0 (Sep (w.heap.size) (Stars [SS 68 .i64 3 gk (L) (Q2) (p2), SS 97 .i32 21 gs (L) (Q2) (p2)]) wr_2) := ⟨Sep.back [] [SS 97 .i32 21 gs (L) (Q2) (p2)] hS⟩; have x0_wr_2 := pw_cell_below B_wr_2.out x0; have x1_wr_2 := pw_cell_below B_wr_2.out x1; clear S_wr_1 x0_wr_1 x1_wr_1; clear hS hb) | (go_at_call 38; (with_reducible refine (found_sep _ (Sep.front [SS 68 .i64 3 gk (L) (Q2) (p2)] [] S_wr_2.out) hp0 hp1 t Ht.out).mono ?_); rintro e wr_3 ⟨rfl, hb⟩; have B_wr_3 : Aside0 (Below (w.heap.size) w wr_3) := ⟨below_then B_wr_2.out B_wr_2.out.size hb⟩; have S_wr_3 : Aside0 (Sep (w.heap.size) (Stars [SS 68 .i64 3 gk (L) (Q2) (p2), SS 97 .i32 21 gs (L) (Q2) (p2)]) wr_3) := ⟨Sep.below S_wr_2.out hb⟩; have x0_wr_3 := pw_cell_below B_wr_3.out x0; have x1_wr_3 := pw_cell_below B_wr_3.out x1; clear S_wr_2 x0_wr_2 x1_wr_2; clear hb) | (go_at_call 39; (with_reducible refine (query_sep _ (Sep.front [SS 68 .i64 3 gk (L) (Q2) (p2)] [] S_wr_3.out) q Hq.out).mono ?_); rintro e w' ⟨rfl, rfl⟩) | (go_at_call 48; (with_reducible refine (refquery_sep _ (Sep.front [] [SS 97 .i32 21 gs (L) (Q2) (p2)] S_wr_3.out) hql q Hq.out).mono ?_); rintro e wr_4 ⟨rfl, hb⟩; have B_wr_4 : Aside0 (Below (w.heap.size) w wr_4) := ⟨below_then B_wr_3.out B_wr_3.out.size hb⟩; have S_wr_4 : Aside0 (Sep (w.heap.size) (Stars [SS 68 .i64 3 gk (L) (Q2) (p2), SS 97 .i32 21 gs (L) (Q2) (p2)]) wr_4) := ⟨Sep.below S_wr_3.out hb⟩; have x0_wr_4 := pw_cell_below B_wr_4.out x0; have x1_wr_4 := pw_cell_below B_wr_4.out x1; clear S_wr_3 x0_wr_3 x1_wr_3; clear hb; have pl := place_cell (Sep.front [] [SS 97 .i32 21 gs (L) (Q2) (p2)] S_wr_4.out); have xe2 := pw_cell_below B_wr_4.out xe))
              go_roundw
              case rel => first | exact ⟨k + 1, Q2, p2, by omega, by go_num, HO2, S_wr_4, B_wr_4⟩ | ((repeat apply Exists.intro); exact ⟨⟨k + 1, Q2, p2, by omega, by go_num, HO2, S_wr_4, B_wr_4⟩, rfl⟩)
              case measure => simp [intOf]; omega
          have e0 : (d == 0) = false := beq_eq_false_iff_ne.mpr d0
          clear d0
          by_cases d1 : d = 1
          · skip
            have e1 : (d == 1) = true := beq_iff_eq.mpr d1
            clear d1
            obtain ⟨b, hb⟩ : ∃ b, rubB L Q p = b := ⟨_, rfl⟩
            obtain ⟨Q2, hQ2⟩ : ∃ Q2, rubQ Q = Q2 := ⟨_, rfl⟩
            obtain ⟨p2, hp2⟩ : ∃ p2, rubP L Q p = p2 := ⟨_, rfl⟩
            have HO2 : Aside0 (Ok L Q2 p2) := ⟨by rw [← hQ2, ← hp2]; exact rub_ok HO.out⟩
            have HB := Aside0.mk hb
            have HQ := Aside0.mk hQ2
            have HP := Aside0.mk hp2
            clear hb hQ2 hp2
            have bb : (b != b) = false := by simp
            obtain ⟨q, hq⟩ : ∃ q, qs Q2 = q := ⟨_, rfl⟩
            have Hq := Aside0.mk hq
            have bq : (q.toList != q.toList) = false := by simp
            have hql : Q2.length ≤ 1000 := Nat.le_trans HO2.out.q (by omega)
            clear hq
            by_cases hpn : p2 = -1
            · subst hpn
              go_wp2_with (first | (go_at_call 42; (with_reducible refine (rub_is _ (Sep.front [SS 68 .i64 3 gk (L) (Q) (p)] [] S_wr.out) B_wr.out.size hpos HO.out m (pw_cell_below B_wr.out HM.out) b HB.out Q2 HQ.out (-1) HP.out).mono ?_); rintro e wr_1 ⟨rfl, hS, hb⟩; have B_wr_1 : Aside0 (Below (w.heap.size) w wr_1) := ⟨(Below.trans B_wr.out hb)⟩; have S_wr_1 : Aside0 (Sep (w.heap.size) (Stars [SS 68 .i64 3 gk (L) (Q) (p), SS 97 .i32 21 gs (L) (Q2) (-1)]) wr_1) := ⟨Sep.back [SS 68 .i64 3 gk (L) (Q) (p)] [] hS⟩; have x0_wr_1 := pw_cell_below B_wr_1.out x0; have x1_wr_1 := pw_cell_below B_wr_1.out x1; clear S_wr x0_wr x1_wr; clear hS hb) | (go_at_call 43; (with_reducible refine (refrub_is _ (Sep.front [] [SS 97 .i32 21 gs (L) (Q2) (-1)] S_wr_1.out) B_wr_1.out.size HO.out b HB.out Q2 HQ.out (-1) HP.out).mono ?_); rintro e wr_2 ⟨rfl, hS, hb⟩; have B_wr_2 : Aside0 (Below (w.heap.size) w wr_2) := ⟨(Below.trans B_wr_1.out hb)⟩; have S_wr_2 : Aside0 (Sep (w.heap.size) (Stars [SS 68 .i64 3 gk (L) (Q2) (-1), SS 97 .i32 21 gs (L) (Q2) (-1)]) wr_2) := ⟨Sep.back [] [SS 97 .i32 21 gs (L) (Q2) (-1)] hS⟩; have x0_wr_2 := pw_cell_below B_wr_2.out x0; have x1_wr_2 := pw_cell_below B_wr_2.out x1; clear S_wr_1 x0_wr_1 x1_wr_1; clear hS hb) | (go_at_call 38; (with_reducible refine (found_none _ (Sep.front [SS 68 .i64 3 gk (L) (Q2) (-1)] [] S_wr_2.out) rfl).mono ?_); rintro e w' ⟨rfl, rfl⟩) | (go_at_call 39; (with_reducible refine (query_sep _ (Sep.front [SS 68 .i64 3 gk (L) (Q2) (-1)] [] S_wr_2.out) q Hq.out).mono ?_); rintro e w' ⟨rfl, rfl⟩) | (go_at_call 48; (with_reducible refine (refquery_sep _ (Sep.front [] [SS 97 .i32 21 gs (L) (Q2) (-1)] S_wr_2.out) hql q Hq.out).mono ?_); rintro e wr_3 ⟨rfl, hb⟩; have B_wr_3 : Aside0 (Below (w.heap.size) w wr_3) := ⟨below_then B_wr_2.out B_wr_2.out.size hb⟩; have S_wr_3 : Aside0 (Sep (w.heap.size) (Stars [SS 68 .i64 3 gk (L) (Q2) (-1), SS 97 .i32 21 gs (L) (Q2) (-1)]) wr_3) := ⟨Sep.below S_wr_2.out hb⟩; have x0_wr_3 := pw_cell_below B_wr_3.out x0; have x1_wr_3 := pw_cell_below B_wr_3.out x1; clear S_wr_2 x0_wr_2 x1_wr_2; clear hb; have pl := place_cell (Sep.front [] [SS 97 .i32 21 gs (L) (Q2) (-1)] S_wr_3.out)))
              go_roundw
              case rel => first | exact ⟨k + 1, Q2, -1, by omega, by go_num, HO2, S_wr_3, B_wr_3⟩ | ((repeat apply Exists.intro); exact ⟨⟨k + 1, Q2, -1, by omega, by go_num, HO2, S_wr_3, B_wr_3⟩, rfl⟩)
              case measure => simp [intOf]; omega
            · have hp0 : 0 ≤ p2 := by have := HO2.out.p0; omega
              have hp1 := HO2.out.p1
              have hpd : decide (0 ≤ p2) = true := decide_eq_true hp0
              have hmx := mx_p p2 hp0
              obtain ⟨al, hA, xe⟩ := Kd.at_string HC.out p2 hp0 hp1
              subst hA
              obtain ⟨t, ht⟩ : ∃ t, rdOf ByteArray.empty L p2 = t := ⟨_, rfl⟩
              rw [ht] at xe
              have Ht := Aside0.mk ht
              have bt : (t.toList != t.toList) = false := by simp
              have hnm : ¬ p2 = -1 := hpn
              clear hpn ht
              go_wp2_with (first | (go_at_call 42; (with_reducible refine (rub_is _ (Sep.front [SS 68 .i64 3 gk (L) (Q) (p)] [] S_wr.out) B_wr.out.size hpos HO.out m (pw_cell_below B_wr.out HM.out) b HB.out Q2 HQ.out p2 HP.out).mono ?_); rintro e wr_1 ⟨rfl, hS, hb⟩; have B_wr_1 : Aside0 (Below (w.heap.size) w wr_1) := ⟨(Below.trans B_wr.out hb)⟩; have S_wr_1 : Aside0 (Sep (w.heap.size) (Stars [SS 68 .i64 3 gk (L) (Q) (p), SS 97 .i32 21 gs (L) (Q2) (p2)]) wr_1) := ⟨Sep.back [SS 68 .i64 3 gk (L) (Q) (p)] [] hS⟩; have x0_wr_1 := pw_cell_below B_wr_1.out x0; have x1_wr_1 := pw_cell_below B_wr_1.out x1; clear S_wr x0_wr x1_wr; clear hS hb) | (go_at_call 43; (with_reducible refine (refrub_is _ (Sep.front [] [SS 97 .i32 21 gs (L) (Q2) (p2)] S_wr_1.out) B_wr_1.out.size HO.out b HB.out Q2 HQ.out p2 HP.out).mono ?_); rintro e wr_2 ⟨rfl, hS, hb⟩; have B_wr_2 : Aside0 (Below (w.heap.size) w wr_2) := ⟨(Below.trans B_wr_1.out hb)⟩; have S_wr_2 : Aside0 (Sep (w.heap.size) (Stars [SS 68 .i64 3 gk (L) (Q2) (p2), SS 97 .i32 21 gs (L) (Q2) (p2)]) wr_2) := ⟨Sep.back [] [SS 97 .i32 21 gs (L) (Q2) (p2)] hS⟩; have x0_wr_2 := pw_cell_below B_wr_2.out x0; have x1_wr_2 := pw_cell_below B_wr_2.out x1; clear S_wr_1 x0_wr_1 x1_wr_1; clear hS hb) | (go_at_call 38; (with_reducible refine (found_sep _ (Sep.front [SS 68 .i64 3 gk (L) (Q2) (p2)] [] S_wr_2.out) hp0 hp1 t Ht.out).mono ?_); rintro e wr_3 ⟨rfl, hb⟩; have B_wr_3 : Aside0 (Below (w.heap.size) w wr_3) := ⟨below_then B_wr_2.out B_wr_2.out.size hb⟩; have S_wr_3 : Aside0 (Sep (w.heap.size) (Stars [SS 68 .i64 3 gk (L) (Q2) (p2), SS 97 .i32 21 gs (L) (Q2) (p2)]) wr_3) := ⟨Sep.below S_wr_2.out hb⟩; have x0_wr_3 := pw_cell_below B_wr_3.out x0; have x1_wr_3 := pw_cell_below B_wr_3.out x1; clear S_wr_2 x0_wr_2 x1_wr_2; clear hb) | (go_at_call 39; (with_reducible refine (query_sep _ (Sep.front [SS 68 .i64 3 gk (L) (Q2) (p2)] [] S_wr_3.out) q Hq.out).mono ?_); rintro e w' ⟨rfl, rfl⟩) | (go_at_call 48; (with_reducible refine (refquery_sep _ (Sep.front [] [SS 97 .i32 21 gs (L) (Q2) (p2)] S_wr_3.out) hql q Hq.out).mono ?_); rintro e wr_4 ⟨rfl, hb⟩; have B_wr_4 : Aside0 (Below (w.heap.size) w wr_4) := ⟨below_then B_wr_3.out B_wr_3.out.size hb⟩; have S_wr_4 : Aside0 (Sep (w.heap.size) (Stars [SS 68 .i64 3 gk (L) (Q2) (p2), SS 97 .i32 21 gs (L) (Q2) (p2)]) wr_4) := ⟨Sep.below S_wr_3.out hb⟩; have x0_wr_4 := pw_cell_below B_wr_4.out x0; have x1_wr_4 := pw_cell_below B_wr_4.out x1; clear S_wr_3 x0_wr_3 x1_wr_3; clear hb; have pl := place_cell (Sep.front [] [SS 97 .i32 21 gs (L) (Q2) (p2)] S_wr_4.out); have xe2 := pw_cell_below B_wr_4.out xe))
              go_roundw
              case rel => first | exact ⟨k + 1, Q2, p2, by omega, by go_num, HO2, S_wr_4, B_wr_4⟩ | ((repeat apply Exists.intro); exact ⟨⟨k + 1, Q2, p2, by omega, by go_num, HO2, S_wr_4, B_wr_4⟩, rfl⟩)
              case measure => simp [intOf]; omega
          have e1 : (d == 1) = false := beq_eq_false_iff_ne.mpr d1
          clear d1
          by_cases d2 : d = 2
          · skip
            have e2 : (d == 2) = true := beq_iff_eq.mpr d2
            clear d2
            obtain ⟨r, hr⟩ : ∃ r, backR L Q p = r := ⟨_, rfl⟩
            have HRr := Aside0.mk hr
            obtain ⟨b, hb⟩ : ∃ b, decide (r ≠ -1) = b := ⟨_, rfl⟩
            obtain ⟨p2, hp2⟩ : ∃ p2, goP r p = p2 := ⟨_, rfl⟩
            have HO2 : Aside0 (Ok L Q p2) := ⟨by rw [← hp2]; exact (by rw [← hr]; exact back_ok HO.out)⟩
            have HB := Aside0.mk hb
            have HP := Aside0.mk hp2
            clear hb hp2
            have bb : (b != b) = false := by simp
            obtain ⟨q, hq⟩ : ∃ q, qs Q = q := ⟨_, rfl⟩
            have Hq := Aside0.mk hq
            have bq : (q.toList != q.toList) = false := by simp
            have hql : Q.length ≤ 1000 := Nat.le_trans HO2.out.q (by omega)
            clear hq
            by_cases hpn : p2 = -1
            · subst hpn
              go_wp2_with (first | (go_at_call 44; (with_reducible refine (back2_is _ (Sep.front [SS 68 .i64 3 gk (L) (Q) (p)] [] S_wr.out) B_wr.out.size hpos HO.out m (pw_cell_below B_wr.out HM.out) r HRr.out b HB.out (-1) HP.out).mono ?_); rintro e wr_1 ⟨rfl, hS, hb⟩; have B_wr_1 : Aside0 (Below (w.heap.size) w wr_1) := ⟨(Below.trans B_wr.out hb)⟩; have S_wr_1 : Aside0 (Sep (w.heap.size) (Stars [SS 68 .i64 3 gk (L) (Q) (p), SS 97 .i32 21 gs (L) (Q) (-1)]) wr_1) := ⟨Sep.back [SS 68 .i64 3 gk (L) (Q) (p)] [] hS⟩; have x0_wr_1 := pw_cell_below B_wr_1.out x0; have x1_wr_1 := pw_cell_below B_wr_1.out x1; clear S_wr x0_wr x1_wr; clear hS hb) | (go_at_call 45; (with_reducible refine (refback_is _ (Sep.front [] [SS 97 .i32 21 gs (L) (Q) (-1)] S_wr_1.out) B_wr_1.out.size HO.out r HRr.out b HB.out (-1) HP.out).mono ?_); rintro e wr_2 ⟨rfl, hS, hb⟩; have B_wr_2 : Aside0 (Below (w.heap.size) w wr_2) := ⟨(Below.trans B_wr_1.out hb)⟩; have S_wr_2 : Aside0 (Sep (w.heap.size) (Stars [SS 68 .i64 3 gk (L) (Q) (-1), SS 97 .i32 21 gs (L) (Q) (-1)]) wr_2) := ⟨Sep.back [] [SS 97 .i32 21 gs (L) (Q) (-1)] hS⟩; have x0_wr_2 := pw_cell_below B_wr_2.out x0; have x1_wr_2 := pw_cell_below B_wr_2.out x1; clear S_wr_1 x0_wr_1 x1_wr_1; clear hS hb) | (go_at_call 38; (with_reducible refine (found_none _ (Sep.front [SS 68 .i64 3 gk (L) (Q) (-1)] [] S_wr_2.out) rfl).mono ?_); rintro e w' ⟨rfl, rfl⟩) | (go_at_call 39; (with_reducible refine (query_sep _ (Sep.front [SS 68 .i64 3 gk (L) (Q) (-1)] [] S_wr_2.out) q Hq.out).mono ?_); rintro e w' ⟨rfl, rfl⟩) | (go_at_call 48; (with_reducible refine (refquery_sep _ (Sep.front [] [SS 97 .i32 21 gs (L) (Q) (-1)] S_wr_2.out) hql q Hq.out).mono ?_); rintro e wr_3 ⟨rfl, hb⟩; have B_wr_3 : Aside0 (Below (w.heap.size) w wr_3) := ⟨below_then B_wr_2.out B_wr_2.out.size hb⟩; have S_wr_3 : Aside0 (Sep (w.heap.size) (Stars [SS 68 .i64 3 gk (L) (Q) (-1), SS 97 .i32 21 gs (L) (Q) (-1)]) wr_3) := ⟨Sep.below S_wr_2.out hb⟩; have x0_wr_3 := pw_cell_below B_wr_3.out x0; have x1_wr_3 := pw_cell_below B_wr_3.out x1; clear S_wr_2 x0_wr_2 x1_wr_2; clear hb; have pl := place_cell (Sep.front [] [SS 97 .i32 21 gs (L) (Q) (-1)] S_wr_3.out)))
              go_roundw
              case rel => first | exact ⟨k + 1, Q, -1, by omega, by go_num, HO2, S_wr_3, B_wr_3⟩ | ((repeat apply Exists.intro); exact ⟨⟨k + 1, Q, -1, by omega, by go_num, HO2, S_wr_3, B_wr_3⟩, rfl⟩)
              case measure => simp [intOf]; omega
            · have hp0 : 0 ≤ p2 := by have := HO2.out.p0; omega
              have hp1 := HO2.out.p1
              have hpd : decide (0 ≤ p2) = true := decide_eq_true hp0
              have hmx := mx_p p2 hp0
              obtain ⟨al, hA, xe⟩ := Kd.at_string HC.out p2 hp0 hp1
              subst hA
              obtain ⟨t, ht⟩ : ∃ t, rdOf ByteArray.empty L p2 = t := ⟨_, rfl⟩
              rw [ht] at xe
              have Ht := Aside0.mk ht
              have bt : (t.toList != t.toList) = false := by simp
              have hnm : ¬ p2 = -1 := hpn
              clear hpn ht
              go_wp2_with (first | (go_at_call 44; (with_reducible refine (back2_is _ (Sep.front [SS 68 .i64 3 gk (L) (Q) (p)] [] S_wr.out) B_wr.out.size hpos HO.out m (pw_cell_below B_wr.out HM.out) r HRr.out b HB.out p2 HP.out).mono ?_); rintro e wr_1 ⟨rfl, hS, hb⟩; have B_wr_1 : Aside0 (Below (w.heap.size) w wr_1) := ⟨(Below.trans B_wr.out hb)⟩; have S_wr_1 : Aside0 (Sep (w.heap.size) (Stars [SS 68 .i64 3 gk (L) (Q) (p), SS 97 .i32 21 gs (L) (Q) (p2)]) wr_1) := ⟨Sep.back [SS 68 .i64 3 gk (L) (Q) (p)] [] hS⟩; have x0_wr_1 := pw_cell_below B_wr_1.out x0; have x1_wr_1 := pw_cell_below B_wr_1.out x1; clear S_wr x0_wr x1_wr; clear hS hb) | (go_at_call 45; (with_reducible refine (refback_is _ (Sep.front [] [SS 97 .i32 21 gs (L) (Q) (p2)] S_wr_1.out) B_wr_1.out.size HO.out r HRr.out b HB.out p2 HP.out).mono ?_); rintro e wr_2 ⟨rfl, hS, hb⟩; have B_wr_2 : Aside0 (Below (w.heap.size) w wr_2) := ⟨(Below.trans B_wr_1.out hb)⟩; have S_wr_2 : Aside0 (Sep (w.heap.size) (Stars [SS 68 .i64 3 gk (L) (Q) (p2), SS 97 .i32 21 gs (L) (Q) (p2)]) wr_2) := ⟨Sep.back [] [SS 97 .i32 21 gs (L) (Q) (p2)] hS⟩; have x0_wr_2 := pw_cell_below B_wr_2.out x0; have x1_wr_2 := pw_cell_below B_wr_2.out x1; clear S_wr_1 x0_wr_1 x1_wr_1; clear hS hb) | (go_at_call 38; (with_reducible refine (found_sep _ (Sep.front [SS 68 .i64 3 gk (L) (Q) (p2)] [] S_wr_2.out) hp0 hp1 t Ht.out).mono ?_); rintro e wr_3 ⟨rfl, hb⟩; have B_wr_3 : Aside0 (Below (w.heap.size) w wr_3) := ⟨below_then B_wr_2.out B_wr_2.out.size hb⟩; have S_wr_3 : Aside0 (Sep (w.heap.size) (Stars [SS 68 .i64 3 gk (L) (Q) (p2), SS 97 .i32 21 gs (L) (Q) (p2)]) wr_3) := ⟨Sep.below S_wr_2.out hb⟩; have x0_wr_3 := pw_cell_below B_wr_3.out x0; have x1_wr_3 := pw_cell_below B_wr_3.out x1; clear S_wr_2 x0_wr_2 x1_wr_2; clear hb) | (go_at_call 39; (with_reducible refine (query_sep _ (Sep.front [SS 68 .i64 3 gk (L) (Q) (p2)] [] S_wr_3.out) q Hq.out).mono ?_); rintro e w' ⟨rfl, rfl⟩) | (go_at_call 48; (with_reducible refine (refquery_sep _ (Sep.front [] [SS 97 .i32 21 gs (L) (Q) (p2)] S_wr_3.out) hql q Hq.out).mono ?_); rintro e wr_4 ⟨rfl, hb⟩; have B_wr_4 : Aside0 (Below (w.heap.size) w wr_4) := ⟨below_then B_wr_3.out B_wr_3.out.size hb⟩; have S_wr_4 : Aside0 (Sep (w.heap.size) (Stars [SS 68 .i64 3 gk (L) (Q) (p2), SS 97 .i32 21 gs (L) (Q) (p2)]) wr_4) := ⟨Sep.below S_wr_3.out hb⟩; have x0_wr_4 := pw_cell_below B_wr_4.out x0; have x1_wr_4 := pw_cell_below B_wr_4.out x1; clear S_wr_3 x0_wr_3 x1_wr_3; clear hb; have pl := place_cell (Sep.front [] [SS 97 .i32 21 gs (L) (Q) (p2)] S_wr_4.out); have xe2 := pw_cell_below B_wr_4.out xe))
              go_roundw
              case rel => first | exact ⟨k + 1, Q, p2, by omega, by go_num, HO2, S_wr_4, B_wr_4⟩ | ((repeat apply Exists.intro); exact ⟨⟨k + 1, Q, p2, by omega, by go_num, HO2, S_wr_4, B_wr_4⟩, rfl⟩)
              case measure => simp [intOf]; omega
          have e2 : (d == 2) = false := beq_eq_false_iff_ne.mpr d2
          clear d2
          · skip
            obtain ⟨r, hr⟩ : ∃ r, onR L Q p = r := ⟨_, rfl⟩
            have HRr := Aside0.mk hr
            obtain ⟨b, hb⟩ : ∃ b, decide (r ≠ -1) = b := ⟨_, rfl⟩
            obtain ⟨p2, hp2⟩ : ∃ p2, goP r p = p2 := ⟨_, rfl⟩
            have HO2 : Aside0 (Ok L Q p2) := ⟨by rw [← hp2]; exact (by rw [← hr]; exact on_ok HO.out)⟩
            have HB := Aside0.mk hb
            have HP := Aside0.mk hp2
            clear hb hp2
            have bb : (b != b) = false := by simp
            obtain ⟨q, hq⟩ : ∃ q, qs Q = q := ⟨_, rfl⟩
            have Hq := Aside0.mk hq
            have bq : (q.toList != q.toList) = false := by simp
            have hql : Q.length ≤ 1000 := Nat.le_trans HO2.out.q (by omega)
            clear hq
            by_cases hpn : p2 = -1
            · subst hpn
              go_wp2_with (first | (go_at_call 46; (with_reducible refine (on2_is _ (Sep.front [SS 68 .i64 3 gk (L) (Q) (p)] [] S_wr.out) B_wr.out.size hpos HO.out m (pw_cell_below B_wr.out HM.out) r HRr.out b HB.out (-1) HP.out).mono ?_); rintro e wr_1 ⟨rfl, hS, hb⟩; have B_wr_1 : Aside0 (Below (w.heap.size) w wr_1) := ⟨(Below.trans B_wr.out hb)⟩; have S_wr_1 : Aside0 (Sep (w.heap.size) (Stars [SS 68 .i64 3 gk (L) (Q) (p), SS 97 .i32 21 gs (L) (Q) (-1)]) wr_1) := ⟨Sep.back [SS 68 .i64 3 gk (L) (Q) (p)] [] hS⟩; have x0_wr_1 := pw_cell_below B_wr_1.out x0; have x1_wr_1 := pw_cell_below B_wr_1.out x1; clear S_wr x0_wr x1_wr; clear hS hb) | (go_at_call 47; (with_reducible refine (refon_is _ (Sep.front [] [SS 97 .i32 21 gs (L) (Q) (-1)] S_wr_1.out) B_wr_1.out.size HO.out r HRr.out b HB.out (-1) HP.out).mono ?_); rintro e wr_2 ⟨rfl, hS, hb⟩; have B_wr_2 : Aside0 (Below (w.heap.size) w wr_2) := ⟨(Below.trans B_wr_1.out hb)⟩; have S_wr_2 : Aside0 (Sep (w.heap.size) (Stars [SS 68 .i64 3 gk (L) (Q) (-1), SS 97 .i32 21 gs (L) (Q) (-1)]) wr_2) := ⟨Sep.back [] [SS 97 .i32 21 gs (L) (Q) (-1)] hS⟩; have x0_wr_2 := pw_cell_below B_wr_2.out x0; have x1_wr_2 := pw_cell_below B_wr_2.out x1; clear S_wr_1 x0_wr_1 x1_wr_1; clear hS hb) | (go_at_call 38; (with_reducible refine (found_none _ (Sep.front [SS 68 .i64 3 gk (L) (Q) (-1)] [] S_wr_2.out) rfl).mono ?_); rintro e w' ⟨rfl, rfl⟩) | (go_at_call 39; (with_reducible refine (query_sep _ (Sep.front [SS 68 .i64 3 gk (L) (Q) (-1)] [] S_wr_2.out) q Hq.out).mono ?_); rintro e w' ⟨rfl, rfl⟩) | (go_at_call 48; (with_reducible refine (refquery_sep _ (Sep.front [] [SS 97 .i32 21 gs (L) (Q) (-1)] S_wr_2.out) hql q Hq.out).mono ?_); rintro e wr_3 ⟨rfl, hb⟩; have B_wr_3 : Aside0 (Below (w.heap.size) w wr_3) := ⟨below_then B_wr_2.out B_wr_2.out.size hb⟩; have S_wr_3 : Aside0 (Sep (w.heap.size) (Stars [SS 68 .i64 3 gk (L) (Q) (-1), SS 97 .i32 21 gs (L) (Q) (-1)]) wr_3) := ⟨Sep.below S_wr_2.out hb⟩; have x0_wr_3 := pw_cell_below B_wr_3.out x0; have x1_wr_3 := pw_cell_below B_wr_3.out x1; clear S_wr_2 x0_wr_2 x1_wr_2; clear hb; have pl := place_cell (Sep.front [] [SS 97 .i32 21 gs (L) (Q) (-1)] S_wr_3.out)))
              go_roundw
              case rel => first | exact ⟨k + 1, Q, -1, by omega, by go_num, HO2, S_wr_3, B_wr_3⟩ | ((repeat apply Exists.intro); exact ⟨⟨k + 1, Q, -1, by omega, by go_num, HO2, S_wr_3, B_wr_3⟩, rfl⟩)
              case measure => simp [intOf]; omega
            · have hp0 : 0 ≤ p2 := by have := HO2.out.p0; omega
              have hp1 := HO2.out.p1
              have hpd : decide (0 ≤ p2) = true := decide_eq_true hp0
              have hmx := mx_p p2 hp0
              obtain ⟨al, hA, xe⟩ := Kd.at_string HC.out p2 hp0 hp1
              subst hA
              obtain ⟨t, ht⟩ : ∃ t, rdOf ByteArray.empty L p2 = t := ⟨_, rfl⟩
              rw [ht] at xe
              have Ht := Aside0.mk ht
              have bt : (t.toList != t.toList) = false := by simp
              have hnm : ¬ p2 = -1 := hpn
              clear hpn ht
              go_wp2_with (first | (go_at_call 46; (with_reducible refine (on2_is _ (Sep.front [SS 68 .i64 3 gk (L) (Q) (p)] [] S_wr.out) B_wr.out.size hpos HO.out m (pw_cell_below B_wr.out HM.out) r HRr.out b HB.out p2 HP.out).mono ?_); rintro e wr_1 ⟨rfl, hS, hb⟩; have B_wr_1 : Aside0 (Below (w.heap.size) w wr_1) := ⟨(Below.trans B_wr.out hb)⟩; have S_wr_1 : Aside0 (Sep (w.heap.size) (Stars [SS 68 .i64 3 gk (L) (Q) (p), SS 97 .i32 21 gs (L) (Q) (p2)]) wr_1) := ⟨Sep.back [SS 68 .i64 3 gk (L) (Q) (p)] [] hS⟩; have x0_wr_1 := pw_cell_below B_wr_1.out x0; have x1_wr_1 := pw_cell_below B_wr_1.out x1; clear S_wr x0_wr x1_wr; clear hS hb) | (go_at_call 47; (with_reducible refine (refon_is _ (Sep.front [] [SS 97 .i32 21 gs (L) (Q) (p2)] S_wr_1.out) B_wr_1.out.size HO.out r HRr.out b HB.out p2 HP.out).mono ?_); rintro e wr_2 ⟨rfl, hS, hb⟩; have B_wr_2 : Aside0 (Below (w.heap.size) w wr_2) := ⟨(Below.trans B_wr_1.out hb)⟩; have S_wr_2 : Aside0 (Sep (w.heap.size) (Stars [SS 68 .i64 3 gk (L) (Q) (p2), SS 97 .i32 21 gs (L) (Q) (p2)]) wr_2) := ⟨Sep.back [] [SS 97 .i32 21 gs (L) (Q) (p2)] hS⟩; have x0_wr_2 := pw_cell_below B_wr_2.out x0; have x1_wr_2 := pw_cell_below B_wr_2.out x1; clear S_wr_1 x0_wr_1 x1_wr_1; clear hS hb) | (go_at_call 38; (with_reducible refine (found_sep _ (Sep.front [SS 68 .i64 3 gk (L) (Q) (p2)] [] S_wr_2.out) hp0 hp1 t Ht.out).mono ?_); rintro e wr_3 ⟨rfl, hb⟩; have B_wr_3 : Aside0 (Below (w.heap.size) w wr_3) := ⟨below_then B_wr_2.out B_wr_2.out.size hb⟩; have S_wr_3 : Aside0 (Sep (w.heap.size) (Stars [SS 68 .i64 3 gk (L) (Q) (p2), SS 97 .i32 21 gs (L) (Q) (p2)]) wr_3) := ⟨Sep.below S_wr_2.out hb⟩; have x0_wr_3 := pw_cell_below B_wr_3.out x0; have x1_wr_3 := pw_cell_below B_wr_3.out x1; clear S_wr_2 x0_wr_2 x1_wr_2; clear hb) | (go_at_call 39; (with_reducible refine (query_sep _ (Sep.front [SS 68 .i64 3 gk (L) (Q) (p2)] [] S_wr_3.out) q Hq.out).mono ?_); rintro e w' ⟨rfl, rfl⟩) | (go_at_call 48; (with_reducible refine (refquery_sep _ (Sep.front [] [SS 97 .i32 21 gs (L) (Q) (p2)] S_wr_3.out) hql q Hq.out).mono ?_); rintro e wr_4 ⟨rfl, hb⟩; have B_wr_4 : Aside0 (Below (w.heap.size) w wr_4) := ⟨below_then B_wr_3.out B_wr_3.out.size hb⟩; have S_wr_4 : Aside0 (Sep (w.heap.size) (Stars [SS 68 .i64 3 gk (L) (Q) (p2), SS 97 .i32 21 gs (L) (Q) (p2)]) wr_4) := ⟨Sep.below S_wr_3.out hb⟩; have x0_wr_4 := pw_cell_below B_wr_4.out x0; have x1_wr_4 := pw_cell_below B_wr_4.out x1; clear S_wr_3 x0_wr_3 x1_wr_3; clear hb; have pl := place_cell (Sep.front [] [SS 97 .i32 21 gs (L) (Q) (p2)] S_wr_4.out); have xe2 := pw_cell_below B_wr_4.out xe))
              go_roundw
              case rel => first | exact ⟨k + 1, Q, p2, by omega, by go_num, HO2, S_wr_4, B_wr_4⟩ | ((repeat apply Exists.intro); exact ⟨⟨k + 1, Q, p2, by omega, by go_num, HO2, S_wr_4, B_wr_4⟩, rfl⟩)
              case measure => simp [intOf]; omega
        · have h60b : ¬ (k : Int) < 250 := by omega
          go_wp2_with (first | (go_at_call 26; (with_reducible refine (live19 _ m (pw_cell_below B_wr.out HM.out)).mono ?_); rintro e2 w_l ⟨rfl, hb⟩; have HBl := Aside0.mk hb; clear hb))
          go_ret
          exact ⟨rfl, below_then B_wr.out B_wr.out.size HBl.out⟩
      · have hlt2 : ¬ (k : Int) < (sc.length : Int) := by omega
        go_wp2_with (first | (go_at_call 26; (with_reducible refine (live19 _ m (pw_cell_below B_wr.out HM.out)).mono ?_); rintro e2 w_l ⟨rfl, hb⟩; have HBl := Aside0.mk hb; clear hb))
        go_ret
        exact ⟨rfl, below_then B_wr.out B_wr.out.size HBl.out⟩
end Go.Proofs.Ythofobcbbddeeaa.SrchA
