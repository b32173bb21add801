/- The law SearchLast, walked. Conditions: none beyond those that each theorem states. -/
import Derived.Test.YthofobcbbddeeaaSrchP
namespace Go.Proofs.Ythofobcbbddeeaa.SrchA
open Go.RowKit Go.Proofs.YthofobcbbddeeaaW.PrintWords Go.Proofs.YthofobcbbddeeaaW.PrintLast Go.Proofs.YthofobcbbddeeaaW.PrintMore Go.Proofs.Ythofobcbbddeeaa.XS Go.Proofs.Ythofobcbbddeeaa.PSrch
set_option linter.unusedVariables false
set_option linter.unusedSimpArgs false
set_option maxHeartbeats 8000000 in
set_option maxRecDepth 100000 in
theorem searchLast (A0 : Option Addr) (c0 : Nat) (L : List ByteArray) (wh : Int) (w : World) (m : Int) (hm : w.cell? ⟨0, 0, none⟩ = some (.int .i64 m)) (hr0 : Kd.string.C w A0 L.length L) (hc0 : L.length ≤ c0) (hn : L.length ≤ 9223372036854775807) : Calls Try.prog 10 #[.slice A0 L.length c0, .int .i64 wh] w fun e w' => e = .returned (.bool true) ∧ Below w.heap.size w w' := by
  have HM := Aside0.mk hm
  have hpos := size_pos hm
  clear hm
  have HC := Aside0.mk hr0
  clear hr0
  obtain ⟨fb, hfw, hfi⟩ := few_is L
  have HF := Aside0.mk hfw
  clear hfw
  have B_w := Aside0.mk (Below.refl w.heap.size w)
  have S_w : Aside0 (Sep w.heap.size (Stars []) w) := ⟨Sep.emp _ _⟩
  cases fb with
  | false =>
    clear hfi
    go_enter Try.func10, Try.ntmps10
    go_wp2_with (first | (go_at_call 25; (with_reducible refine (duetlaw19_few.calls 50 A0 c0 L false _ HC.out hc0 HF.out).mono ?_); rintro e w_1 ⟨rfl, hb0⟩; have hb := Aside0.mk hb0; clear hb0; have B_w_1 : Aside0 (Below (w.heap.size) w w_1) := ⟨below_then B_w.out B_w.out.size hb.out.below⟩; have S_w_1 : Aside0 (Sep (w.heap.size) (Stars []) w_1) := ⟨Sep.below S_w.out hb.out.below⟩; have Q_w_1 : Aside0 (Below w.heap.size w w_1) := ⟨hb.out.below⟩; clear S_w; clear hb) | (go_at_call 26; (with_reducible refine (live19 _ m (pw_cell_below B_w_1.out HM.out)).mono ?_); rintro e2 w_l ⟨rfl, hb⟩; have HBl := Aside0.mk hb; clear hb))
    go_ret
    exact ⟨rfl, below_then B_w_1.out B_w_1.out.size HBl.out⟩
  | true =>
    have hfew := hfi.mp rfl
    have HSH := Aside0.mk hfew.short
    have hL1 : L.length ≤ 1000 := Nat.le_trans hfew.1 (by omega)
    clear hfi hfew
    by_cases c1 : wh < 0
    · have d1 : decide (wh < 0) = true := decide_eq_true c1
      clear c1
      go_enter Try.func10, Try.ntmps10
      go_wp2_with (first | (go_at_call 25; (with_reducible refine (duetlaw19_few.calls 50 A0 c0 L true _ HC.out hc0 HF.out).mono ?_); rintro e w_1 ⟨rfl, hb0⟩; have hb := Aside0.mk hb0; clear hb0; have B_w_1 : Aside0 (Below (w.heap.size) w w_1) := ⟨below_then B_w.out B_w.out.size hb.out.below⟩; have S_w_1 : Aside0 (Sep (w.heap.size) (Stars []) w_1) := ⟨Sep.below S_w.out hb.out.below⟩; have Q_w_1 : Aside0 (Below w.heap.size w w_1) := ⟨hb.out.below⟩; clear S_w; clear hb) | (go_at_call 26; (with_reducible refine (live19 _ m (pw_cell_below B_w_1.out HM.out)).mono ?_); rintro e2 w_l ⟨rfl, hb⟩; have HBl := Aside0.mk hb; clear hb))
      go_ret
      exact ⟨rfl, below_then B_w_1.out B_w_1.out.size HBl.out⟩
    have d1 : decide (wh < 0) = false := decide_eq_false c1
    by_cases c2 : (L.length : Int) ≤ wh
    · have d2 : decide ((L.length : Int) ≤ wh) = true := decide_eq_true c2
      clear c1 c2
      go_enter Try.func10, Try.ntmps10
      go_wp2_with (first | (go_at_call 25; (with_reducible refine (duetlaw19_few.calls 50 A0 c0 L true _ HC.out hc0 HF.out).mono ?_); rintro e w_1 ⟨rfl, hb0⟩; have hb := Aside0.mk hb0; clear hb0; have B_w_1 : Aside0 (Below (w.heap.size) w w_1) := ⟨below_then B_w.out B_w.out.size hb.out.below⟩; have S_w_1 : Aside0 (Sep (w.heap.size) (Stars []) w_1) := ⟨Sep.below S_w.out hb.out.below⟩; have Q_w_1 : Aside0 (Below w.heap.size w w_1) := ⟨hb.out.below⟩; clear S_w; clear hb) | (go_at_call 26; (with_reducible refine (live19 _ m (pw_cell_below B_w_1.out HM.out)).mono ?_); rintro e2 w_l ⟨rfl, hb⟩; have HBl := Aside0.mk hb; clear hb))
      go_ret
      exact ⟨rfl, below_then B_w_1.out B_w_1.out.size HBl.out⟩
    have d2 : decide ((L.length : Int) ≤ wh) = false := decide_eq_false c2
    obtain ⟨wn, rfl⟩ : ∃ wn : Nat, wh = (wn : Int) := ⟨wh.toNat, by omega⟩
    have hw0 : (0 : Int) ≤ (wn : Int) := by omega
    have hw1 : (wn : Int) < (L.length : Int) := by omega
    have hwl : wn < L.length := by omega
    obtain ⟨ad, hA, xq⟩ := Kd.at_string HC.out (wn : Int) hw0 hw1
    subst hA
    rw [Int.toNat_natCast] at xq
    obtain ⟨q, hq⟩ : ∃ q, rdOf ByteArray.empty L (wn : Int) = q := ⟨_, rfl⟩
    rw [hq] at xq
    have Hq := Aside0.mk hq
    clear hq c1 c2
    by_cases c3 : q.size = 0
    · have d3 : ((q.size : Int) == 0) = true := beq_iff_eq.mpr (by omega)
      have d3b : (q.size == 0) = true := beq_iff_eq.mpr c3
      have d3c : decide (q.size = 0) = true := decide_eq_true c3
      go_enter Try.func10, Try.ntmps10
      go_wp2_with (first | (go_at_call 25; (with_reducible refine (duetlaw19_few.calls 50 (some ad) c0 L true _ HC.out hc0 HF.out).mono ?_); rintro e w_1 ⟨rfl, hb0⟩; have hb := Aside0.mk hb0; clear hb0; have B_w_1 : Aside0 (Below (w.heap.size) w w_1) := ⟨below_then B_w.out B_w.out.size hb.out.below⟩; have S_w_1 : Aside0 (Sep (w.heap.size) (Stars []) w_1) := ⟨Sep.below S_w.out hb.out.below⟩; have Q_w_1 : Aside0 (Below w.heap.size w w_1) := ⟨hb.out.below⟩; have xq_w_1 := pw_cell_below Q_w_1.out xq; clear S_w; clear hb) | (go_at_call 26; (with_reducible refine (live19 _ m (pw_cell_below B_w_1.out HM.out)).mono ?_); rintro e2 w_l ⟨rfl, hb⟩; have HBl := Aside0.mk hb; clear hb))
      go_ret
      exact ⟨rfl, below_then B_w_1.out B_w_1.out.size HBl.out⟩
    have d3 : ((q.size : Int) == 0) = false := beq_eq_false_iff_ne.mpr (by omega)
    have d3b : (q.size == 0) = false := beq_eq_false_iff_ne.mpr c3
    by_cases c4 : 100 < q.size
    · have d4 : (100 : Int) < (q.size : Int) := by omega
      go_enter Try.func10, Try.ntmps10
      go_wp2_with (first | (go_at_call 25; (with_reducible refine (duetlaw19_few.calls 50 (some ad) c0 L true _ HC.out hc0 HF.out).mono ?_); rintro e w_1 ⟨rfl, hb0⟩; have hb := Aside0.mk hb0; clear hb0; have B_w_1 : Aside0 (Below (w.heap.size) w w_1) := ⟨below_then B_w.out B_w.out.size hb.out.below⟩; have S_w_1 : Aside0 (Sep (w.heap.size) (Stars []) w_1) := ⟨Sep.below S_w.out hb.out.below⟩; have Q_w_1 : Aside0 (Below w.heap.size w w_1) := ⟨hb.out.below⟩; have xq_w_1 := pw_cell_below Q_w_1.out xq; clear S_w; clear hb) | (go_at_call 26; (with_reducible refine (live19 _ m (pw_cell_below B_w_1.out HM.out)).mono ?_); rintro e2 w_l ⟨rfl, hb⟩; have HBl := Aside0.mk hb; clear hb))
      go_ret
      exact ⟨rfl, below_then B_w_1.out B_w_1.out.size HBl.out⟩
    have d4 : ¬ (100 : Int) < (q.size : Int) := by omega
    have hqs : q.size ≤ 100 := by omega
    have hqp : 0 < q.size := by omega
    clear c3 c4
    go_enter Try.func10, Try.ntmps10
    go_wp2_with (first | (go_at_call 25; (with_reducible refine (duetlaw19_few.calls 50 (some ad) c0 L true _ HC.out hc0 HF.out).mono ?_); rintro e w_1 ⟨rfl, hb0⟩; have hb := Aside0.mk hb0; clear hb0; have B_w_1 : Aside0 (Below (w.heap.size) w w_1) := ⟨below_then B_w.out B_w.out.size hb.out.below⟩; have S_w_1 : Aside0 (Sep (w.heap.size) (Stars []) w_1) := ⟨Sep.below S_w.out hb.out.below⟩; have Q_w_1 : Aside0 (Below w.heap.size w w_1) := ⟨hb.out.below⟩; have xq_w_1 := pw_cell_below Q_w_1.out xq; clear S_w; clear hb))
    go_loopw [6] (fun i wr => ∃ j : Nat, j ≤ q.size ∧ i = .int .i64 j ∧ Aside0 (∀ n : Nat, n < j → 32 ≤ bt q (n : Int) ∧ bt q (n : Int) ≤ 126) ∧ Aside0 (Below w.heap.size w wr)) (fun i _ => q.size - (intOf i).toNat)
    case atStart => exact ⟨0, by omega, rfl, ⟨fun n h => by omega⟩, B_w_1⟩
    case round =>
      clear S_w_1 xq_w_1
      clear B_w_1
      obtain ⟨j, hj, rfl, HA, B_wr⟩ := hrel
      have S_wr : Aside0 (Sep w.heap.size (Stars []) wr) := ⟨Sep.emp _ _⟩
      by_cases hlt : j < q.size
      · have hlt2 : (j : Int) < (q.size : Int) := by omega
        have hj0 : (0 : Int) ≤ (j : Int) := by omega
        have hx : ∀ h : j < q.size, ((q[j]'h).toNat : Int) = bt q (j : Int) := fun h => by have := bt_at q (j : Int) (by rw [Int.toNat_natCast]; exact h); simpa using this
        obtain ⟨v, hv⟩ : ∃ v, bt q (j : Int) = v := ⟨_, rfl⟩
        have Hv := Aside0.mk hv
        rw [hv] at hx
        clear hv
        by_cases c5 : v < 32
        · have d5 : decide (v < 32) = true := decide_eq_true c5
          clear c5
          go_wp2_with (first | (go_at_call 26; (with_reducible refine (live19 _ m (pw_cell_below B_wr.out HM.out)).mono ?_); rintro e2 w_l ⟨rfl, hb⟩; have HBl := Aside0.mk hb; clear hb))
          go_ret
          exact ⟨rfl, below_then B_wr.out B_wr.out.size HBl.out⟩
        have d5 : decide (v < 32) = false := decide_eq_false c5
        by_cases c6 : 126 < v
        · have d6 : decide (126 < v) = true := decide_eq_true c6
          clear c5 c6
          go_wp2_with (first | (go_at_call 26; (with_reducible refine (live19 _ m (pw_cell_below B_wr.out HM.out)).mono ?_); rintro e2 w_l ⟨rfl, hb⟩; have HBl := Aside0.mk hb; clear hb))
          go_ret
          exact ⟨rfl, below_then B_wr.out B_wr.out.size HBl.out⟩
        have d6 : decide (126 < v) = false := decide_eq_false c6
        have HA2 : Aside0 (∀ n : Nat, n < j + 1 → 32 ≤ bt q (n : Int) ∧ bt q (n : Int) ≤ 126) := ⟨fun n h => by
          by_cases e : n = j
          · subst e; rw [Hv.out]; omega
          · exact HA.out n (by omega)⟩
        clear c5 c6
        go_wp2
        go_roundw
        case rel => first | exact ⟨j + 1, by omega, by go_num, HA2, B_wr⟩ | ((repeat apply Exists.intro); exact ⟨⟨j + 1, by omega, by go_num, HA2, B_wr⟩, rfl⟩)
        case measure => simp [intOf]; omega
      · obtain rfl : j = q.size := by omega
        have hlt2 : ¬ (q.size : Int) < (q.size : Int) := by omega
        have HAsc : Aside0 (Asc q) := ⟨HA.out⟩
        clear HA
        go_wp2_with (first | (go_at_call 35; (with_reducible refine (new_at _ (some ad) c0 L.length L (Kd.C_below HC.out B_wr.out) hc0 rfl hL1).mono ?_); rintro e wr_1 ⟨gs, rfl, hN, hb⟩; have B_wr_1 : Aside0 (Below (w.heap.size) w wr_1) := ⟨below_then B_wr.out B_wr.out.size hb⟩; have S_wr_1 : Aside0 (Sep (w.heap.size) (Stars [SS 97 .i32 21 gs (L) ([]) (-1)]) wr_1) := ⟨Sep.more S_wr.out hN hb B_wr.out.size⟩; clear S_wr; clear hb))
        go_loopw [8, 9] (fun v8 i wr => ∃ (j : Nat) (p : Int), j ≤ q.size ∧ i = .int .i64 j ∧ v8 = .bool (decide (0 < j)) ∧ Aside0 (Typed L q wn j p) ∧ Aside0 (Sep w.heap.size (Stars [SS 97 .i32 21 gs (L) (pre q j) (p)]) wr) ∧ Aside0 (Below w.heap.size w wr)) (fun _ i _ => q.size - (intOf i).toNat)
        case atStart => exact ⟨0, -1, by omega, rfl, rfl, ⟨typed_zero HSH.out hL1⟩, S_wr_1, B_wr_1⟩
        case round =>
          clear S_wr_1
          clear B_wr_1 B_wr
          obtain ⟨j, p, hj, rfl, rfl, HT, S_wr, B_wr⟩ := hrel
          by_cases hlt : j < q.size
          · have hlt2 : (j : Int) < (q.size : Int) := by omega
            have hj0 : (0 : Int) ≤ (j : Int) := by omega
            have hx : ∀ h : j < q.size, ((q[j]'h).toNat : Int) = bt q (j : Int) := fun h => by have := bt_at q (j : Int) (by rw [Int.toNat_natCast]; exact h); simpa using this
            obtain ⟨h1, h2, h3⟩ := typed_next HT.out HAsc.out Hq.out hwl hlt hqs
            have hw : wrap64 (bt q (j : Int)) = bt q (j : Int) := by have := bt_range q (j : Int); unfold wrap64; omega
            generalize bt q (j : Int) = v at hx h1 h2 h3 hw
            obtain ⟨p2, hp2⟩ : ∃ p2, typeP L (pre q j) p v = p2 := ⟨_, rfl⟩
            rw [hp2] at h3
            have H1 := Aside0.mk h1
            have H2 := Aside0.mk h2
            have H3 := Aside0.mk h3
            have HP := Aside0.mk hp2
            have HO := Aside0.mk HT.out.ok
            clear h1 h2 h3 hp2
            go_wp2_with (first | (go_at_call 36; (with_reducible refine (type_is _ (Sep.front [] [] S_wr.out) B_wr.out.size hpos HO.out m (pw_cell_below B_wr.out HM.out) v true H1.out (pre q (j + 1)) H2.out p2 HP.out).mono ?_); rintro e wr_1 ⟨rfl, hS, hb⟩; have B_wr_1 : Aside0 (Below (w.heap.size) w wr_1) := ⟨(Below.trans B_wr.out hb)⟩; have S_wr_1 : Aside0 (Sep (w.heap.size) (Stars [SS 97 .i32 21 gs (L) (pre q (j + 1)) (p2)]) wr_1) := ⟨Sep.back [] [] hS⟩; clear S_wr; clear hS hb))
            go_roundw
            case rel => first | exact ⟨j + 1, p2, by omega, by go_num, by first | rfl | simp, H3, S_wr_1, B_wr_1⟩ | ((repeat apply Exists.intro); exact ⟨⟨j + 1, p2, by omega, by go_num, by first | rfl | simp, H3, S_wr_1, B_wr_1⟩, rfl⟩)
            case measure => simp [intOf]; omega
          · obtain rfl : j = q.size := by omega
            have hlt2 : ¬ (q.size : Int) < (q.size : Int) := by omega
            have hdt : decide (0 < q.size) = true := decide_eq_true hqp
            rw [hdt]
            clear hdt
            go_wp2
            go_loopw [10, 11] (fun v10 i wr => ∃ j : Nat, j ≤ L.length ∧ i = .int .i64 j ∧ v10 = .int .i64 (lst L q wn j) ∧ Aside0 (Sep w.heap.size (Stars [SS 97 .i32 21 gs (L) (pre q q.size) (p)]) wr) ∧ Aside0 (Below w.heap.size w wr)) (fun _ i _ => L.length - (intOf i).toNat)
            case atStart => exact ⟨0, by omega, rfl, rfl, S_wr, B_wr⟩
            case round =>
              clear S_wr B_wr
              obtain ⟨j, hj, rfl, rfl, S_wr, B_wr⟩ := hrel
              by_cases hlt : j < L.length
              · have hlt2 : (j : Int) < (L.length : Int) := by omega
                have hj0 : (0 : Int) ≤ (j : Int) := by omega
                obtain ⟨ad2, hA, xe⟩ := Kd.at_string HC.out (j : Int) hj0 hlt2
                obtain rfl : ad = ad2 := by injection hA
                rw [Int.toNat_natCast] at xe
                have hts := HSH.out.at j hlt
                obtain ⟨f, hf⟩ : ∃ f, fit (rdOf ByteArray.empty L (j : Int)) q = f := ⟨_, rfl⟩
                have HFit := Aside0.mk hf
                generalize ht : rdOf ByteArray.empty L (j : Int) = t at xe hts hf
                have HH : Aside0 (duetlaw19_has.f 3000 t q = some f) := ⟨by rw [has_is t q 3000 (by omega) (by omega) (by omega), hf]⟩
                clear hA hf hts ht
                have xe_wr := pw_cell_below B_wr.out xe
                cases f with
                | true =>
                  go_wp2_with (first | (go_at_call 37; (with_reducible refine (duetlaw19_has.calls 3000 t q true _ HH.out).mono ?_); rintro e wr_1 ⟨rfl, hb0⟩; have hb := Aside0.mk hb0; clear hb0; have B_wr_1 : Aside0 (Below (w.heap.size) w wr_1) := ⟨below_then B_wr.out B_wr.out.size hb.out.below⟩; have S_wr_1 : Aside0 (Sep (w.heap.size) (Stars [SS 97 .i32 21 gs (L) (pre q q.size) (p)]) wr_1) := ⟨Sep.below S_wr.out hb.out.below⟩; have xe_wr_1 := pw_cell_below B_wr_1.out xe; clear S_wr xe_wr; clear hb))
                  go_roundw
                  case rel => first | exact ⟨j + 1, by omega, by go_num, by rw [lst_yes wn HFit.out], S_wr_1, B_wr_1⟩ | ((repeat apply Exists.intro); exact ⟨⟨j + 1, by omega, by go_num, by rw [lst_yes wn HFit.out], S_wr_1, B_wr_1⟩, rfl⟩)
                  case measure => simp [intOf]; omega
                | false =>
                  go_wp2_with (first | (go_at_call 37; (with_reducible refine (duetlaw19_has.calls 3000 t q false _ HH.out).mono ?_); rintro e wr_1 ⟨rfl, hb0⟩; have hb := Aside0.mk hb0; clear hb0; have B_wr_1 : Aside0 (Below (w.heap.size) w wr_1) := ⟨below_then B_wr.out B_wr.out.size hb.out.below⟩; have S_wr_1 : Aside0 (Sep (w.heap.size) (Stars [SS 97 .i32 21 gs (L) (pre q q.size) (p)]) wr_1) := ⟨Sep.below S_wr.out hb.out.below⟩; have xe_wr_1 := pw_cell_below B_wr_1.out xe; clear S_wr xe_wr; clear hb))
                  go_roundw
                  case rel => first | exact ⟨j + 1, by omega, by go_num, by rw [lst_no wn HFit.out], S_wr_1, B_wr_1⟩ | ((repeat apply Exists.intro); exact ⟨⟨j + 1, by omega, by go_num, by rw [lst_no wn HFit.out], S_wr_1, B_wr_1⟩, rfl⟩)
                  case measure => simp [intOf]; omega
              · obtain rfl : j = L.length := by omega
                have hlt2 : ¬ (L.length : Int) < (L.length : Int) := by omega
                have hlst := lst_all HT.out hqp
                rw [hlst]
                have hp0 : 0 ≤ p := by have := (HT.out.last hqp).2; omega
                have hp1 := HT.out.ok.p1
                have bpp : (p == p) = true := by simp
                have Hqs : Aside0 (qs (pre q q.size) = q) := ⟨by rw [qs_pre HAsc.out _ (Nat.le_refl _), ext_all]⟩
                have bqq : (q.toList == q.toList) = true := by simp
                obtain ⟨ad2, hA, xe⟩ := Kd.at_string HC.out p hp0 hp1
                obtain rfl : ad = ad2 := by injection hA
                obtain ⟨t, ht⟩ : ∃ t, rdOf ByteArray.empty L p = t := ⟨_, rfl⟩
                rw [ht] at xe
                have Ht := Aside0.mk ht
                have btt : (t.toList == t.toList) = true := by simp
                clear hlst hA ht
                go_wp2_with (first | (go_at_call 38; (with_reducible refine (found_sep _ (Sep.front [] [] S_wr.out) hp0 hp1 t Ht.out).mono ?_); rintro e wr_1 ⟨rfl, hb⟩; have B_wr_1 : Aside0 (Below (w.heap.size) w wr_1) := ⟨below_then B_wr.out B_wr.out.size hb⟩; have S_wr_1 : Aside0 (Sep (w.heap.size) (Stars [SS 97 .i32 21 gs (L) (pre q q.size) (p)]) wr_1) := ⟨Sep.below S_wr.out hb⟩; clear S_wr; clear hb; have xe2 := pw_cell_below B_wr_1.out xe) | (go_at_call 39; (with_reducible refine (query_sep _ (Sep.front [] [] S_wr_1.out) q Hqs.out).mono ?_); rintro e w' ⟨rfl, rfl⟩) | (go_at_call 26; (with_reducible refine (live19 _ m (pw_cell_below B_wr_1.out HM.out)).mono ?_); rintro e2 w_l ⟨rfl, hb⟩; have HBl := Aside0.mk hb; clear hb))
                go_ret
                exact ⟨rfl, below_then B_wr_1.out B_wr_1.out.size HBl.out⟩
end Go.Proofs.Ythofobcbbddeeaa.SrchA
