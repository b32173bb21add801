/- The law SearchFits, walked. Conditions: none beyond those that each theorem states. -/
import Derived.Test.YthofobcbbddeeaaSrchN
namespace Go.Proofs.Ythofobcbbddeeaa.SrchA
open Go.RowKit Go.Proofs.YthofobcbbddeeaaW.PrintWords Go.Proofs.YthofobcbbddeeaaW.PrintLast Go.Proofs.YthofobcbbddeeaaW.PrintMore Go.Proofs.Ythofobcbbddeeaa.XS Go.Proofs.Ythofobcbbddeeaa.PSrch
set_option linter.unusedVariables false
set_option linter.unusedSimpArgs false
theorem lastF_spec (L : List ByteArray) (q : ByteArray) : ∀ k : Nat, (0 ≤ lastF L q k → fit (rdOf ByteArray.empty L (lastF L q k)) q = true) ∧ ∀ j : Nat, lastF L q k < (j : Int) → j < k → fit (rdOf ByteArray.empty L (j : Int)) q = false
  | 0 => ⟨fun h => by unfold lastF at h; omega, fun j _ h => by omega⟩
  | k + 1 => by
    obtain ⟨h1, h2⟩ := lastF_spec L q k
    unfold lastF
    by_cases c : fit (rdOf ByteArray.empty L (k : Int)) q = true
    · rw [if_pos c]
      exact ⟨fun _ => c, fun j a b => by omega⟩
    · rw [if_neg c]
      refine ⟨h1, fun j a b => ?_⟩
      by_cases e : j = k
      · subst e; simpa using c
      · exact h2 j a (by omega)
theorem nextF_at (L : List ByteArray) (q : ByteArray) (m : Nat) (hm : fit (rdOf ByteArray.empty L (m : Int)) q = true) : ∀ d i : Nat, i ≤ m → m < i + d → (∀ j : Nat, i ≤ j → j < m → fit (rdOf ByteArray.empty L (j : Int)) q = false) → nextF L q i d = (m : Int)
  | 0, i, h1, h2, _ => by omega
  | d + 1, i, h1, h2, h3 => by
    unfold nextF
    by_cases e : i = m
    · subst e; rw [if_pos hm]
    · rw [if_neg (by rw [h3 i (Nat.le_refl _) (by omega)]; decide)]
      exact nextF_at L q m hm d (i + 1) (by omega) (by omega) (fun j a b => h3 j (by omega) b)
/-- Where it stands, the query stands. -/
def Fits (L : List ByteArray) (Q : List Int) (p : Int) : Prop := 0 ≤ p → fit (rdOf ByteArray.empty L p) (qs Q) = true
theorem fits_last (L : List ByteArray) (Q : List Int) (k : Nat) : Fits L Q (lastF L (qs Q) k) := (lastF_spec L (qs Q) k).1
theorem type_fits {L : List ByteArray} {Q : List Int} {p : Int} (h : Fits L Q p) (n : Int) : Fits L (typeQ Q n) (typeP L Q p n) := by
  unfold typeQ typeP
  split
  · exact fits_last _ _ _
  · exact h
theorem rub_fits {L : List ByteArray} {Q : List Int} {p : Int} (h : Fits L Q p) : Fits L (rubQ Q) (rubP L Q p) := by
  unfold rubP
  by_cases c : Q.length = 0
  · rw [if_pos c]
    obtain rfl : Q = [] := List.eq_nil_of_length_eq_zero c
    exact h
  · rw [if_neg c]
    by_cases c1 : Q.length = 1
    · rw [if_pos c1]; intro h; omega
    · rw [if_neg c1]; exact fits_last _ _ _
/-- On again it is where it was. -/
theorem on_again {L : List ByteArray} {Q : List Int} {p : Int} (ho : Ok L Q p) (h : Fits L Q p) (hp : 0 ≤ p) (r : Int) (hr : backR L Q p = r) (hr1 : r ≠ -1) : 0 ≤ r ∧ r < p ∧ onR L Q r = p := by
  obtain ⟨m, rfl⟩ : ∃ m : Nat, p = (m : Int) := ⟨p.toNat, by omega⟩
  have hp1 := ho.p1
  have hb : lastF L (qs Q) m = r := by rw [← hr]; unfold backR; rw [if_neg (by omega), Int.toNat_natCast]
  have hlt := lastF_lt L (qs Q) m
  have hs := (lastF_spec L (qs Q) m).2
  rw [hb] at hlt hs
  obtain ⟨i, rfl⟩ : ∃ i : Nat, r = (i : Int) := ⟨r.toNat, by omega⟩
  refine ⟨by omega, by omega, ?_⟩
  unfold onR
  rw [if_neg (by omega), Int.toNat_natCast]
  exact nextF_at L (qs Q) m (h hp) _ _ (by omega) (by omega) (fun j a b => hs j (by omega) b)
set_option maxHeartbeats 8000000 in
set_option maxRecDepth 100000 in
theorem searchFits (A0 : Option Addr) (c0 : Nat) (L : List ByteArray) (A1 : Option Addr) (c1 : Nat) (sc : List (Int × Int)) (w : World) (m : Int) (hm : w.cell? ⟨0, 0, none⟩ = some (.int .i64 m)) (hr0 : Kd.string.C w A0 L.length L) (hc0 : L.length ≤ c0) (hr1 : Kd.C KOp w A1 sc.length sc) (hc1 : sc.length ≤ c1) (hn : sc.length ≤ 9223372036854775807) : Calls Try.prog 13 #[.slice A0 L.length c0, .slice A1 sc.length c1] w fun e w' => e = .returned (.bool true) ∧ Below w.heap.size w w' := by
  have HM := Aside0.mk hm
  have hpos := size_pos hm
  clear hm
  have HC := Aside0.mk hr0
  have HR := Aside0.mk hr1
  clear hr0 hr1
  obtain ⟨fb, hfw, hfi⟩ := few_is L
  have HF := Aside0.mk hfw
  clear hfw
  have B_w := Aside0.mk (Below.refl w.heap.size w)
  have S_w : Aside0 (Sep w.heap.size (Stars []) w) := ⟨Sep.emp _ _⟩
  cases fb with
  | false =>
    clear hfi
    go_enter Try.func13, Try.ntmps13
    go_wp2_with (first | (go_at_call 25; (with_reducible refine (duetlaw19_few.calls 50 A0 c0 L false _ HC.out hc0 HF.out).mono ?_); rintro e w_1 ⟨rfl, hb0⟩; have hb := Aside0.mk hb0; clear hb0; have B_w_1 : Aside0 (Below (w.heap.size) w w_1) := ⟨below_then B_w.out B_w.out.size hb.out.below⟩; have S_w_1 : Aside0 (Sep (w.heap.size) (Stars []) w_1) := ⟨Sep.below S_w.out hb.out.below⟩; have Q_w_1 : Aside0 (Below w.heap.size w w_1) := ⟨hb.out.below⟩; clear S_w; clear hb) | (go_at_call 26; (with_reducible refine (live19 _ m (pw_cell_below B_w_1.out HM.out)).mono ?_); rintro e2 w_l ⟨rfl, hb⟩; have HBl := Aside0.mk hb; clear hb))
    go_ret
    exact ⟨rfl, below_then B_w_1.out B_w_1.out.size HBl.out⟩
  | true =>
    have hfew := hfi.mp rfl
    have HSH := Aside0.mk hfew.short
    have hL1 : L.length ≤ 1000 := Nat.le_trans hfew.1 (by omega)
    clear hfi hfew
    go_enter Try.func13, Try.ntmps13
    go_wp2_with (first | (go_at_call 25; (with_reducible refine (duetlaw19_few.calls 50 A0 c0 L true _ HC.out hc0 HF.out).mono ?_); rintro e w_1 ⟨rfl, hb0⟩; have hb := Aside0.mk hb0; clear hb0; have B_w_1 : Aside0 (Below (w.heap.size) w w_1) := ⟨below_then B_w.out B_w.out.size hb.out.below⟩; have S_w_1 : Aside0 (Sep (w.heap.size) (Stars []) w_1) := ⟨Sep.below S_w.out hb.out.below⟩; have Q_w_1 : Aside0 (Below w.heap.size w w_1) := ⟨hb.out.below⟩; clear S_w; clear hb) | (go_at_call 35; (with_reducible refine (new_at _ A0 c0 L.length L (Kd.C_below HC.out B_w_1.out) hc0 rfl hL1).mono ?_); rintro e w_2 ⟨gs, rfl, hN, hb⟩; have B_w_2 : Aside0 (Below (w.heap.size) w w_2) := ⟨below_then B_w_1.out B_w_1.out.size hb⟩; have S_w_2 : Aside0 (Sep (w.heap.size) (Stars [SS 97 .i32 21 gs (L) ([]) (-1)]) w_2) := ⟨Sep.more S_w_1.out hN hb B_w_1.out.size⟩; have Q_w_2 : Aside0 (Below w.heap.size w w_2) := ⟨below_step Q_w_1.out hb⟩; clear S_w_1; clear hb))
    go_loopw [6] (fun i wr => ∃ (k : Nat) (Q : List Int) (p : Int), k ≤ sc.length ∧ i = .int .i64 k ∧ Aside0 (Ok L Q p ∧ Fits L Q p) ∧ Aside0 (Sep w.heap.size (Stars [SS 97 .i32 21 gs (L) (Q) (p)]) wr) ∧ Aside0 (Below w.heap.size w wr)) (fun i _ => sc.length - (intOf i).toNat)
    case atStart => exact ⟨0, [], -1, by omega, rfl, ⟨⟨HSH.out, hL1, by simp, by omega, by omega⟩, fun h => by omega⟩, S_w_2, B_w_2⟩
    case round =>
      clear S_w_2 B_w_2
      obtain ⟨k, Q, p, hk, rfl, HJ, S_wr, B_wr⟩ := hrel
      have HO := Aside0.mk HJ.out.1
      by_cases hlt : k < sc.length
      · have hlt2 : (k : Int) < (sc.length : Int) := by omega
        by_cases h60 : k < 250
        · have h60b : (k : Int) < 250 := by omega
          have hk0 : (0 : Int) ≤ (k : Int) := by omega
          obtain ⟨ad, d, n, rfl, x0, x1⟩ := at_op HR.out k hlt
          have x0_wr := pw_cell_below B_wr.out x0
          have x1_wr := pw_cell_below B_wr.out x1
          by_cases d0 : d = 0
          · skip
            have e0 : (d == 0) = true := beq_iff_eq.mpr d0
            clear d0
            obtain ⟨b, hb⟩ : ∃ b, typeB L Q p n = b := ⟨_, rfl⟩
            obtain ⟨Q2, hQ2⟩ : ∃ Q2, typeQ Q n = Q2 := ⟨_, rfl⟩
            obtain ⟨p2, hp2⟩ : ∃ p2, typeP L Q p n = p2 := ⟨_, rfl⟩
            have HJ2 : Aside0 (Ok L Q2 p2 ∧ Fits L Q2 p2) := ⟨by rw [← hQ2, ← hp2]; exact ⟨type_ok HO.out n, type_fits HJ.out.2 n⟩⟩
            have HB := Aside0.mk hb
            have HQ := Aside0.mk hQ2
            have HP := Aside0.mk hp2
            clear hb hQ2 hp2
            have HO2 := Aside0.mk HJ2.out.1
            by_cases hpn : p2 = -1
            · skip
              have Hpn := Aside0.mk hpn
              clear hpn
              go_wp2_with (first | (go_at_call 36; (with_reducible refine (type_is _ (Sep.front [] [] S_wr.out) B_wr.out.size hpos HO.out m (pw_cell_below B_wr.out HM.out) n b HB.out Q2 HQ.out p2 HP.out).mono ?_); rintro e wr_1 ⟨rfl, hS, hb⟩; have B_wr_1 : Aside0 (Below (w.heap.size) w wr_1) := ⟨(Below.trans B_wr.out hb)⟩; have S_wr_1 : Aside0 (Sep (w.heap.size) (Stars [SS 97 .i32 21 gs (L) (Q2) (p2)]) wr_1) := ⟨Sep.back [] [] hS⟩; have x0_wr_1 := pw_cell_below B_wr_1.out x0; have x1_wr_1 := pw_cell_below B_wr_1.out x1; clear S_wr x0_wr x1_wr; clear hS hb) | (go_at_call 38; (with_reducible refine (found_none _ (Sep.front [] [] S_wr_1.out) Hpn.out).mono ?_); rintro e w' ⟨rfl, rfl⟩))
              go_roundw
              case rel => first | exact ⟨k + 1, Q2, p2, by omega, by go_num, HJ2, S_wr_1, B_wr_1⟩ | ((repeat apply Exists.intro); exact ⟨⟨k + 1, Q2, p2, by omega, by go_num, HJ2, S_wr_1, B_wr_1⟩, rfl⟩)
              case measure => simp [intOf]; omega
            · have hp0 : 0 ≤ p2 := by have := HO2.out.p0; omega
              have hp1 := HO2.out.p1
              have hd1 : decide (p2 < 0) = false := decide_eq_false (by omega)
              have hd2 : decide ((L.length : Int) ≤ p2) = false := decide_eq_false (by omega)
              have hpp : (p2 != p2) = false := by simp
              obtain ⟨al, hA, xe⟩ := Kd.at_string HC.out p2 hp0 hp1
              subst hA
              obtain ⟨t, ht⟩ : ∃ t, rdOf ByteArray.empty L p2 = t := ⟨_, rfl⟩
              rw [ht] at xe
              have hts : t.size ≤ 1000 := by have h := HSH.out.at p2.toNat (by omega); rw [Int.toNat_of_nonneg hp0, ht] at h; exact h
              obtain ⟨q, hq⟩ : ∃ q, qs Q2 = q := ⟨_, rfl⟩
              have hqs : q.size ≤ 1000 := by have h := qs_le Q2; have h2 := HO2.out.q; rw [hq] at h; omega
              have HH : Aside0 (duetlaw19_has.f 3000 t q = some true) := ⟨by rw [has_is t q 3000 (by omega) (by omega) (by omega), ← ht, ← hq, HJ2.out.2 hp0]⟩
              have Ht := Aside0.mk ht
              have Hq := Aside0.mk hq
              have bt : (t.toList != t.toList) = false := by simp
              clear hpn ht hq hts hqs
              obtain ⟨r, hr⟩ : ∃ r, backR L Q2 p2 = r := ⟨_, rfl⟩
              have HRr := Aside0.mk hr
              clear hr
              by_cases hr1 : r = -1
              · subst hr1
                go_wp2_with (first | (go_at_call 36; (with_reducible refine (type_is _ (Sep.front [] [] S_wr.out) B_wr.out.size hpos HO.out m (pw_cell_below B_wr.out HM.out) n b HB.out Q2 HQ.out p2 HP.out).mono ?_); rintro e wr_1 ⟨rfl, hS, hb⟩; have B_wr_1 : Aside0 (Below (w.heap.size) w wr_1) := ⟨(Below.trans B_wr.out hb)⟩; have S_wr_1 : Aside0 (Sep (w.heap.size) (Stars [SS 97 .i32 21 gs (L) (Q2) (p2)]) wr_1) := ⟨Sep.back [] [] hS⟩; have x0_wr_1 := pw_cell_below B_wr_1.out x0; have x1_wr_1 := pw_cell_below B_wr_1.out x1; clear S_wr x0_wr x1_wr; clear hS hb) | (go_at_call 38; (with_reducible refine (found_sep _ (Sep.front [] [] S_wr_1.out) hp0 hp1 t Ht.out).mono ?_); rintro e wr_2 ⟨rfl, hb⟩; have B_wr_2 : Aside0 (Below (w.heap.size) w wr_2) := ⟨below_then B_wr_1.out B_wr_1.out.size hb⟩; have S_wr_2 : Aside0 (Sep (w.heap.size) (Stars [SS 97 .i32 21 gs (L) (Q2) (p2)]) wr_2) := ⟨Sep.below S_wr_1.out hb⟩; have x0_wr_2 := pw_cell_below B_wr_2.out x0; have x1_wr_2 := pw_cell_below B_wr_2.out x1; clear S_wr_1 x0_wr_1 x1_wr_1; clear hb; have xe2 := pw_cell_below B_wr_2.out xe) | (go_at_call 39; (with_reducible refine (query_sep _ (Sep.front [] [] S_wr_2.out) q Hq.out).mono ?_); rintro e w' ⟨rfl, rfl⟩) | (go_at_call 37; (with_reducible refine (duetlaw19_has.calls 3000 t q true _ HH.out).mono ?_); rintro e wr_3 ⟨rfl, hb0⟩; have hb := Aside0.mk hb0; clear hb0; have B_wr_3 : Aside0 (Below (w.heap.size) w wr_3) := ⟨below_then B_wr_2.out B_wr_2.out.size hb.out.below⟩; have S_wr_3 : Aside0 (Sep (w.heap.size) (Stars [SS 97 .i32 21 gs (L) (Q2) (p2)]) wr_3) := ⟨Sep.below S_wr_2.out hb.out.below⟩; have x0_wr_3 := pw_cell_below B_wr_3.out x0; have x1_wr_3 := pw_cell_below B_wr_3.out x1; clear S_wr_2 x0_wr_2 x1_wr_2; clear hb) | (go_at_call 44; (with_reducible refine (back2_is _ (Sep.front [] [] S_wr_3.out) B_wr_3.out.size hpos HO2.out m (pw_cell_below B_wr_3.out HM.out) (-1) HRr.out false rfl p2 rfl).mono ?_); rintro e wr_4 ⟨rfl, hS, hb⟩; have B_wr_4 : Aside0 (Below (w.heap.size) w wr_4) := ⟨(Below.trans B_wr_3.out hb)⟩; have S_wr_4 : Aside0 (Sep (w.heap.size) (Stars [SS 97 .i32 21 gs (L) (Q2) (p2)]) wr_4) := ⟨Sep.back [] [] hS⟩; have x0_wr_4 := pw_cell_below B_wr_4.out x0; have x1_wr_4 := pw_cell_below B_wr_4.out x1; clear S_wr_3 x0_wr_3 x1_wr_3; clear hS hb))
                go_roundw
                case rel => first | exact ⟨k + 1, Q2, p2, by omega, by go_num, HJ2, S_wr_4, B_wr_4⟩ | ((repeat apply Exists.intro); exact ⟨⟨k + 1, Q2, p2, by omega, by go_num, HJ2, S_wr_4, B_wr_4⟩, rfl⟩)
                case measure => simp [intOf]; omega
              · obtain ⟨hr0, hrp, hon⟩ := on_again HO2.out HJ2.out.2 hp0 r HRr.out hr1
                have Hon := Aside0.mk hon
                have hg : goP r p2 = r := by unfold goP; rw [if_neg hr1]
                have hg2 : goP p2 r = p2 := by unfold goP; rw [if_neg (by omega)]
                have Hg := Aside0.mk hg
                have Hg2 := Aside0.mk hg2
                have Hr1 : Aside0 (decide (r ≠ -1) = true) := ⟨decide_eq_true hr1⟩
                have Hp1 : Aside0 (decide (p2 ≠ -1) = true) := ⟨decide_eq_true (by omega)⟩
                have hrl : r < (L.length : Int) := by omega
                have HO3 : Aside0 (Ok L Q2 r) := ⟨HO2.out.short, HO2.out.len, HO2.out.q, by omega, hrl⟩
                have hd3 : decide (p2 ≤ r) = false := decide_eq_false (by omega)
                obtain ⟨t2, ht2⟩ : ∃ t2, rdOf ByteArray.empty L r = t2 := ⟨_, rfl⟩
                have Ht2 := Aside0.mk ht2
                clear hr1 hon hg hg2 ht2
                go_wp2_with (first | (go_at_call 36; (with_reducible refine (type_is _ (Sep.front [] [] S_wr.out) B_wr.out.size hpos HO.out m (pw_cell_below B_wr.out HM.out) n b HB.out Q2 HQ.out p2 HP.out).mono ?_); rintro e wr_1 ⟨rfl, hS, hb⟩; have B_wr_1 : Aside0 (Below (w.heap.size) w wr_1) := ⟨(Below.trans B_wr.out hb)⟩; have S_wr_1 : Aside0 (Sep (w.heap.size) (Stars [SS 97 .i32 21 gs (L) (Q2) (p2)]) wr_1) := ⟨Sep.back [] [] hS⟩; have x0_wr_1 := pw_cell_below B_wr_1.out x0; have x1_wr_1 := pw_cell_below B_wr_1.out x1; clear S_wr x0_wr x1_wr; clear hS hb) | (go_at_call 38; (with_reducible refine (found_sep _ (Sep.front [] [] S_wr_1.out) hp0 hp1 t Ht.out).mono ?_); rintro e wr_2 ⟨rfl, hb⟩; have B_wr_2 : Aside0 (Below (w.heap.size) w wr_2) := ⟨below_then B_wr_1.out B_wr_1.out.size hb⟩; have S_wr_2 : Aside0 (Sep (w.heap.size) (Stars [SS 97 .i32 21 gs (L) (Q2) (p2)]) wr_2) := ⟨Sep.below S_wr_1.out hb⟩; have x0_wr_2 := pw_cell_below B_wr_2.out x0; have x1_wr_2 := pw_cell_below B_wr_2.out x1; clear S_wr_1 x0_wr_1 x1_wr_1; clear hb; have xe2 := pw_cell_below B_wr_2.out xe) | (go_at_call 39; (with_reducible refine (query_sep _ (Sep.front [] [] S_wr_2.out) q Hq.out).mono ?_); rintro e w' ⟨rfl, rfl⟩) | (go_at_call 37; (with_reducible refine (duetlaw19_has.calls 3000 t q true _ HH.out).mono ?_); rintro e wr_3 ⟨rfl, hb0⟩; have hb := Aside0.mk hb0; clear hb0; have B_wr_3 : Aside0 (Below (w.heap.size) w wr_3) := ⟨below_then B_wr_2.out B_wr_2.out.size hb.out.below⟩; have S_wr_3 : Aside0 (Sep (w.heap.size) (Stars [SS 97 .i32 21 gs (L) (Q2) (p2)]) wr_3) := ⟨Sep.below S_wr_2.out hb.out.below⟩; have x0_wr_3 := pw_cell_below B_wr_3.out x0; have x1_wr_3 := pw_cell_below B_wr_3.out x1; clear S_wr_2 x0_wr_2 x1_wr_2; clear hb) | (go_at_call 44; (with_reducible refine (back2_is _ (Sep.front [] [] S_wr_3.out) B_wr_3.out.size hpos HO2.out m (pw_cell_below B_wr_3.out HM.out) r HRr.out true Hr1.out r Hg.out).mono ?_); rintro e wr_4 ⟨rfl, hS, hb⟩; have B_wr_4 : Aside0 (Below (w.heap.size) w wr_4) := ⟨(Below.trans B_wr_3.out hb)⟩; have S_wr_4 : Aside0 (Sep (w.heap.size) (Stars [SS 97 .i32 21 gs (L) (Q2) (r)]) wr_4) := ⟨Sep.back [] [] hS⟩; have x0_wr_4 := pw_cell_below B_wr_4.out x0; have x1_wr_4 := pw_cell_below B_wr_4.out x1; clear S_wr_3 x0_wr_3 x1_wr_3; clear hS hb) | (go_at_call 38; (with_reducible refine (found_sep _ (Sep.front [] [] S_wr_4.out) hr0 hrl t2 Ht2.out).mono ?_); rintro e wr_5 ⟨rfl, hb⟩; have B_wr_5 : Aside0 (Below (w.heap.size) w wr_5) := ⟨below_then B_wr_4.out B_wr_4.out.size hb⟩; have S_wr_5 : Aside0 (Sep (w.heap.size) (Stars [SS 97 .i32 21 gs (L) (Q2) (r)]) wr_5) := ⟨Sep.below S_wr_4.out hb⟩; have x0_wr_5 := pw_cell_below B_wr_5.out x0; have x1_wr_5 := pw_cell_below B_wr_5.out x1; clear S_wr_4 x0_wr_4 x1_wr_4; clear hb) | (go_at_call 46; (with_reducible refine (on2_is _ (Sep.front [] [] S_wr_5.out) B_wr_5.out.size hpos HO3.out m (pw_cell_below B_wr_5.out HM.out) p2 Hon.out true Hp1.out p2 Hg2.out).mono ?_); rintro e wr_6 ⟨rfl, hS, hb⟩; have B_wr_6 : Aside0 (Below (w.heap.size) w wr_6) := ⟨(Below.trans B_wr_5.out hb)⟩; have S_wr_6 : Aside0 (Sep (w.heap.size) (Stars [SS 97 .i32 21 gs (L) (Q2) (p2)]) wr_6) := ⟨Sep.back [] [] hS⟩; have x0_wr_6 := pw_cell_below B_wr_6.out x0; have x1_wr_6 := pw_cell_below B_wr_6.out x1; clear S_wr_5 x0_wr_5 x1_wr_5; clear hS hb) | (go_at_call 38; (with_reducible refine (found_sep _ (Sep.front [] [] S_wr_6.out) hp0 hp1 t Ht.out).mono ?_); rintro e wr_7 ⟨rfl, hb⟩; have B_wr_7 : Aside0 (Below (w.heap.size) w wr_7) := ⟨below_then B_wr_6.out B_wr_6.out.size hb⟩; have S_wr_7 : Aside0 (Sep (w.heap.size) (Stars [SS 97 .i32 21 gs (L) (Q2) (p2)]) wr_7) := ⟨Sep.below S_wr_6.out hb⟩; have x0_wr_7 := pw_cell_below B_wr_7.out x0; have x1_wr_7 := pw_cell_below B_wr_7.out x1; clear S_wr_6 x0_wr_6 x1_wr_6; clear hb))
                go_roundw
                case rel => first | exact ⟨k + 1, Q2, p2, by omega, by go_num, HJ2, S_wr_7, B_wr_7⟩ | ((repeat apply Exists.intro); exact ⟨⟨k + 1, Q2, p2, by omega, by go_num, HJ2, S_wr_7, B_wr_7⟩, rfl⟩)
                case measure => simp [intOf]; omega
          have e0 : (d == 0) = false := beq_eq_false_iff_ne.mpr d0
          clear d0
          by_cases d1 : d = 1
          · skip
            have e1 : (d == 1) = true := beq_iff_eq.mpr d1
            clear d1
            obtain ⟨b, hb⟩ : ∃ b, rubB L Q p = b := ⟨_, rfl⟩
            obtain ⟨Q2, hQ2⟩ : ∃ Q2, rubQ Q = Q2 := ⟨_, rfl⟩
            obtain ⟨p2, hp2⟩ : ∃ p2, rubP L Q p = p2 := ⟨_, rfl⟩
            have HJ2 : Aside0 (Ok L Q2 p2 ∧ Fits L Q2 p2) := ⟨by rw [← hQ2, ← hp2]; exact ⟨rub_ok HO.out, rub_fits HJ.out.2⟩⟩
            have HB := Aside0.mk hb
            have HQ := Aside0.mk hQ2
            have HP := Aside0.mk hp2
            clear hb hQ2 hp2
            have HO2 := Aside0.mk HJ2.out.1
            by_cases hpn : p2 = -1
            · skip
              have Hpn := Aside0.mk hpn
              clear hpn
              go_wp2_with (first | (go_at_call 42; (with_reducible refine (rub_is _ (Sep.front [] [] S_wr.out) B_wr.out.size hpos HO.out m (pw_cell_below B_wr.out HM.out) b HB.out Q2 HQ.out p2 HP.out).mono ?_); rintro e wr_1 ⟨rfl, hS, hb⟩; have B_wr_1 : Aside0 (Below (w.heap.size) w wr_1) := ⟨(Below.trans B_wr.out hb)⟩; have S_wr_1 : Aside0 (Sep (w.heap.size) (Stars [SS 97 .i32 21 gs (L) (Q2) (p2)]) wr_1) := ⟨Sep.back [] [] hS⟩; have x0_wr_1 := pw_cell_below B_wr_1.out x0; have x1_wr_1 := pw_cell_below B_wr_1.out x1; clear S_wr x0_wr x1_wr; clear hS hb) | (go_at_call 38; (with_reducible refine (found_none _ (Sep.front [] [] S_wr_1.out) Hpn.out).mono ?_); rintro e w' ⟨rfl, rfl⟩))
              go_roundw
              case rel => first | exact ⟨k + 1, Q2, p2, by omega, by go_num, HJ2, S_wr_1, B_wr_1⟩ | ((repeat apply Exists.intro); exact ⟨⟨k + 1, Q2, p2, by omega, by go_num, HJ2, S_wr_1, B_wr_1⟩, rfl⟩)
              case measure => simp [intOf]; omega
            · have hp0 : 0 ≤ p2 := by have := HO2.out.p0; omega
              have hp1 := HO2.out.p1
              have hd1 : decide (p2 < 0) = false := decide_eq_false (by omega)
              have hd2 : decide ((L.length : Int) ≤ p2) = false := decide_eq_false (by omega)
              have hpp : (p2 != p2) = false := by simp
              obtain ⟨al, hA, xe⟩ := Kd.at_string HC.out p2 hp0 hp1
              subst hA
              obtain ⟨t, ht⟩ : ∃ t, rdOf ByteArray.empty L p2 = t := ⟨_, rfl⟩
              rw [ht] at xe
              have hts : t.size ≤ 1000 := by have h := HSH.out.at p2.toNat (by omega); rw [Int.toNat_of_nonneg hp0, ht] at h; exact h
              obtain ⟨q, hq⟩ : ∃ q, qs Q2 = q := ⟨_, rfl⟩
              have hqs : q.size ≤ 1000 := by have h := qs_le Q2; have h2 := HO2.out.q; rw [hq] at h; omega
              have HH : Aside0 (duetlaw19_has.f 3000 t q = some true) := ⟨by rw [has_is t q 3000 (by omega) (by omega) (by omega), ← ht, ← hq, HJ2.out.2 hp0]⟩
              have Ht := Aside0.mk ht
              have Hq := Aside0.mk hq
              have bt : (t.toList != t.toList) = false := by simp
              clear hpn ht hq hts hqs
              obtain ⟨r, hr⟩ : ∃ r, backR L Q2 p2 = r := ⟨_, rfl⟩
              have HRr := Aside0.mk hr
              clear hr
              by_cases hr1 : r = -1
              · subst hr1
                go_wp2_with (first | (go_at_call 42; (with_reducible refine (rub_is _ (Sep.front [] [] S_wr.out) B_wr.out.size hpos HO.out m (pw_cell_below B_wr.out HM.out) b HB.out Q2 HQ.out p2 HP.out).mono ?_); rintro e wr_1 ⟨rfl, hS, hb⟩; have B_wr_1 : Aside0 (Below (w.heap.size) w wr_1) := ⟨(Below.trans B_wr.out hb)⟩; have S_wr_1 : Aside0 (Sep (w.heap.size) (Stars [SS 97 .i32 21 gs (L) (Q2) (p2)]) wr_1) := ⟨Sep.back [] [] hS⟩; have x0_wr_1 := pw_cell_below B_wr_1.out x0; have x1_wr_1 := pw_cell_below B_wr_1.out x1; clear S_wr x0_wr x1_wr; clear hS hb) | (go_at_call 38; (with_reducible refine (found_sep _ (Sep.front [] [] S_wr_1.out) hp0 hp1 t Ht.out).mono ?_); rintro e wr_2 ⟨rfl, hb⟩; have B_wr_2 : Aside0 (Below (w.heap.size) w wr_2) := ⟨below_then B_wr_1.out B_wr_1.out.size hb⟩; have S_wr_2 : Aside0 (Sep (w.heap.size) (Stars [SS 97 .i32 21 gs (L) (Q2) (p2)]) wr_2) := ⟨Sep.below S_wr_1.out hb⟩; have x0_wr_2 := pw_cell_below B_wr_2.out x0; have x1_wr_2 := pw_cell_below B_wr_2.out x1; clear S_wr_1 x0_wr_1 x1_wr_1; clear hb; have xe2 := pw_cell_below B_wr_2.out xe) | (go_at_call 39; (with_reducible refine (query_sep _ (Sep.front [] [] S_wr_2.out) q Hq.out).mono ?_); rintro e w' ⟨rfl, rfl⟩) | (go_at_call 37; (with_reducible refine (duetlaw19_has.calls 3000 t q true _ HH.out).mono ?_); rintro e wr_3 ⟨rfl, hb0⟩; have hb := Aside0.mk hb0; clear hb0; have B_wr_3 : Aside0 (Below (w.heap.size) w wr_3) := ⟨below_then B_wr_2.out B_wr_2.out.size hb.out.below⟩; have S_wr_3 : Aside0 (Sep (w.heap.size) (Stars [SS 97 .i32 21 gs (L) (Q2) (p2)]) wr_3) := ⟨Sep.below S_wr_2.out hb.out.below⟩; have x0_wr_3 := pw_cell_below B_wr_3.out x0; have x1_wr_3 := pw_cell_below B_wr_3.out x1; clear S_wr_2 x0_wr_2 x1_wr_2; clear hb) | (go_at_call 44; (with_reducible refine (back2_is _ (Sep.front [] [] S_wr_3.out) B_wr_3.out.size hpos HO2.out m (pw_cell_below B_wr_3.out HM.out) (-1) HRr.out false rfl p2 rfl).mono ?_); rintro e wr_4 ⟨rfl, hS, hb⟩; have B_wr_4 : Aside0 (Below (w.heap.size) w wr_4) := ⟨(Below.trans B_wr_3.out hb)⟩; have S_wr_4 : Aside0 (Sep (w.heap.size) (Stars [SS 97 .i32 21 gs (L) (Q2) (p2)]) wr_4) := ⟨Sep.back [] [] hS⟩; have x0_wr_4 := pw_cell_below B_wr_4.out x0; have x1_wr_4 := pw_cell_below B_wr_4.out x1; clear S_wr_3 x0_wr_3 x1_wr_3; clear hS hb))
                go_roundw
                case rel => first | exact ⟨k + 1, Q2, p2, by omega, by go_num, HJ2, S_wr_4, B_wr_4⟩ | ((repeat apply Exists.intro); exact ⟨⟨k + 1, Q2, p2, by omega, by go_num, HJ2, S_wr_4, B_wr_4⟩, rfl⟩)
                case measure => simp [intOf]; omega
              · obtain ⟨hr0, hrp, hon⟩ := on_again HO2.out HJ2.out.2 hp0 r HRr.out hr1
                have Hon := Aside0.mk hon
                have hg : goP r p2 = r := by unfold goP; rw [if_neg hr1]
                have hg2 : goP p2 r = p2 := by unfold goP; rw [if_neg (by omega)]
                have Hg := Aside0.mk hg
                have Hg2 := Aside0.mk hg2
                have Hr1 : Aside0 (decide (r ≠ -1) = true) := ⟨decide_eq_true hr1⟩
                have Hp1 : Aside0 (decide (p2 ≠ -1) = true) := ⟨decide_eq_true (by omega)⟩
                have hrl : r < (L.length : Int) := by omega
                have HO3 : Aside0 (Ok L Q2 r) := ⟨HO2.out.short, HO2.out.len, HO2.out.q, by omega, hrl⟩
                have hd3 : decide (p2 ≤ r) = false := decide_eq_false (by omega)
                obtain ⟨t2, ht2⟩ : ∃ t2, rdOf ByteArray.empty L r = t2 := ⟨_, rfl⟩
                have Ht2 := Aside0.mk ht2
                clear hr1 hon hg hg2 ht2
                go_wp2_with (first | (go_at_call 42; (with_reducible refine (rub_is _ (Sep.front [] [] S_wr.out) B_wr.out.size hpos HO.out m (pw_cell_below B_wr.out HM.out) b HB.out Q2 HQ.out p2 HP.out).mono ?_); rintro e wr_1 ⟨rfl, hS, hb⟩; have B_wr_1 : Aside0 (Below (w.heap.size) w wr_1) := ⟨(Below.trans B_wr.out hb)⟩; have S_wr_1 : Aside0 (Sep (w.heap.size) (Stars [SS 97 .i32 21 gs (L) (Q2) (p2)]) wr_1) := ⟨Sep.back [] [] hS⟩; have x0_wr_1 := pw_cell_below B_wr_1.out x0; have x1_wr_1 := pw_cell_below B_wr_1.out x1; clear S_wr x0_wr x1_wr; clear hS hb) | (go_at_call 38; (with_reducible refine (found_sep _ (Sep.front [] [] S_wr_1.out) hp0 hp1 t Ht.out).mono ?_); rintro e wr_2 ⟨rfl, hb⟩; have B_wr_2 : Aside0 (Below (w.heap.size) w wr_2) := ⟨below_then B_wr_1.out B_wr_1.out.size hb⟩; have S_wr_2 : Aside0 (Sep (w.heap.size) (Stars [SS 97 .i32 21 gs (L) (Q2) (p2)]) wr_2) := ⟨Sep.below S_wr_1.out hb⟩; have x0_wr_2 := pw_cell_below B_wr_2.out x0; have x1_wr_2 := pw_cell_below B_wr_2.out x1; clear S_wr_1 x0_wr_1 x1_wr_1; clear hb; have xe2 := pw_cell_below B_wr_2.out xe) | (go_at_call 39; (with_reducible refine (query_sep _ (Sep.front [] [] S_wr_2.out) q Hq.out).mono ?_); rintro e w' ⟨rfl, rfl⟩) | (go_at_call 37; (with_reducible refine (duetlaw19_has.calls 3000 t q true _ HH.out).mono ?_); rintro e wr_3 ⟨rfl, hb0⟩; have hb := Aside0.mk hb0; clear hb0; have B_wr_3 : Aside0 (Below (w.heap.size) w wr_3) := ⟨below_then B_wr_2.out B_wr_2.out.size hb.out.below⟩; have S_wr_3 : Aside0 (Sep (w.heap.size) (Stars [SS 97 .i32 21 gs (L) (Q2) (p2)]) wr_3) := ⟨Sep.below S_wr_2.out hb.out.below⟩; have x0_wr_3 := pw_cell_below B_wr_3.out x0; have x1_wr_3 := pw_cell_below B_wr_3.out x1; clear S_wr_2 x0_wr_2 x1_wr_2; clear hb) | (go_at_call 44; (with_reducible refine (back2_is _ (Sep.front [] [] S_wr_3.out) B_wr_3.out.size hpos HO2.out m (pw_cell_below B_wr_3.out HM.out) r HRr.out true Hr1.out r Hg.out).mono ?_); rintro e wr_4 ⟨rfl, hS, hb⟩; have B_wr_4 : Aside0 (Below (w.heap.size) w wr_4) := ⟨(Below.trans B_wr_3.out hb)⟩; have S_wr_4 : Aside0 (Sep (w.heap.size) (Stars [SS 97 .i32 21 gs (L) (Q2) (r)]) wr_4) := ⟨Sep.back [] [] hS⟩; have x0_wr_4 := pw_cell_below B_wr_4.out x0; have x1_wr_4 := pw_cell_below B_wr_4.out x1; clear S_wr_3 x0_wr_3 x1_wr_3; clear hS hb) | (go_at_call 38; (with_reducible refine (found_sep _ (Sep.front [] [] S_wr_4.out) hr0 hrl t2 Ht2.out).mono ?_); rintro e wr_5 ⟨rfl, hb⟩; have B_wr_5 : Aside0 (Below (w.heap.size) w wr_5) := ⟨below_then B_wr_4.out B_wr_4.out.size hb⟩; have S_wr_5 : Aside0 (Sep (w.heap.size) (Stars [SS 97 .i32 21 gs (L) (Q2) (r)]) wr_5) := ⟨Sep.below S_wr_4.out hb⟩; have x0_wr_5 := pw_cell_below B_wr_5.out x0; have x1_wr_5 := pw_cell_below B_wr_5.out x1; clear S_wr_4 x0_wr_4 x1_wr_4; clear hb) | (go_at_call 46; (with_reducible refine (on2_is _ (Sep.front [] [] S_wr_5.out) B_wr_5.out.size hpos HO3.out m (pw_cell_below B_wr_5.out HM.out) p2 Hon.out true Hp1.out p2 Hg2.out).mono ?_); rintro e wr_6 ⟨rfl, hS, hb⟩; have B_wr_6 : Aside0 (Below (w.heap.size) w wr_6) := ⟨(Below.trans B_wr_5.out hb)⟩; have S_wr_6 : Aside0 (Sep (w.heap.size) (Stars [SS 97 .i32 21 gs (L) (Q2) (p2)]) wr_6) := ⟨Sep.back [] [] hS⟩; have x0_wr_6 := pw_cell_below B_wr_6.out x0; have x1_wr_6 := pw_cell_below B_wr_6.out x1; clear S_wr_5 x0_wr_5 x1_wr_5; clear hS hb) | (go_at_call 38; (with_reducible refine (found_sep _ (Sep.front [] [] S_wr_6.out) hp0 hp1 t Ht.out).mono ?_); rintro e wr_7 ⟨rfl, hb⟩; have B_wr_7 : Aside0 (Below (w.heap.size) w wr_7) := ⟨below_then B_wr_6.out B_wr_6.out.size hb⟩; have S_wr_7 : Aside0 (Sep (w.heap.size) (Stars [SS 97 .i32 21 gs (L) (Q2) (p2)]) wr_7) := ⟨Sep.below S_wr_6.out hb⟩; have x0_wr_7 := pw_cell_below B_wr_7.out x0; have x1_wr_7 := pw_cell_below B_wr_7.out x1; clear S_wr_6 x0_wr_6 x1_wr_6; clear hb))
                go_roundw
                case rel => first | exact ⟨k + 1, Q2, p2, by omega, by go_num, HJ2, S_wr_7, B_wr_7⟩ | ((repeat apply Exists.intro); exact ⟨⟨k + 1, Q2, p2, by omega, by go_num, HJ2, S_wr_7, B_wr_7⟩, rfl⟩)
                case measure => simp [intOf]; omega
          have e1 : (d == 1) = false := beq_eq_false_iff_ne.mpr d1
          clear d1
          · skip
            have HJ2 := HJ
            have HO2 := Aside0.mk HJ2.out.1
            by_cases hpn : p = -1
            · skip
              have Hpn := Aside0.mk hpn
              clear hpn
              go_wp2_with (first | (go_at_call 38; (with_reducible refine (found_none _ (Sep.front [] [] S_wr.out) Hpn.out).mono ?_); rintro e w' ⟨rfl, rfl⟩))
              go_roundw
              case rel => first | exact ⟨k + 1, Q, p, by omega, by go_num, HJ2, S_wr, B_wr⟩ | ((repeat apply Exists.intro); exact ⟨⟨k + 1, Q, p, by omega, by go_num, HJ2, S_wr, B_wr⟩, rfl⟩)
              case measure => simp [intOf]; omega
            · have hp0 : 0 ≤ p := by have := HO2.out.p0; omega
              have hp1 := HO2.out.p1
              have hd1 : decide (p < 0) = false := decide_eq_false (by omega)
              have hd2 : decide ((L.length : Int) ≤ p) = false := decide_eq_false (by omega)
              have hpp : (p != p) = false := by simp
              obtain ⟨al, hA, xe⟩ := Kd.at_string HC.out p hp0 hp1
              subst hA
              obtain ⟨t, ht⟩ : ∃ t, rdOf ByteArray.empty L p = t := ⟨_, rfl⟩
              rw [ht] at xe
              have hts : t.size ≤ 1000 := by have h := HSH.out.at p.toNat (by omega); rw [Int.toNat_of_nonneg hp0, ht] at h; exact h
              obtain ⟨q, hq⟩ : ∃ q, qs Q = q := ⟨_, rfl⟩
              have hqs : q.size ≤ 1000 := by have h := qs_le Q; have h2 := HO2.out.q; rw [hq] at h; omega
              have HH : Aside0 (duetlaw19_has.f 3000 t q = some true) := ⟨by rw [has_is t q 3000 (by omega) (by omega) (by omega), ← ht, ← hq, HJ2.out.2 hp0]⟩
              have Ht := Aside0.mk ht
              have Hq := Aside0.mk hq
              have bt : (t.toList != t.toList) = false := by simp
              clear hpn ht hq hts hqs
              obtain ⟨r, hr⟩ : ∃ r, backR L Q p = r := ⟨_, rfl⟩
              have HRr := Aside0.mk hr
              clear hr
              by_cases hr1 : r = -1
              · subst hr1
                go_wp2_with (first | (go_at_call 38; (with_reducible refine (found_sep _ (Sep.front [] [] S_wr.out) hp0 hp1 t Ht.out).mono ?_); rintro e wr_1 ⟨rfl, hb⟩; have B_wr_1 : Aside0 (Below (w.heap.size) w wr_1) := ⟨below_then B_wr.out B_wr.out.size hb⟩; have S_wr_1 : Aside0 (Sep (w.heap.size) (Stars [SS 97 .i32 21 gs (L) (Q) (p)]) wr_1) := ⟨Sep.below S_wr.out hb⟩; have x0_wr_1 := pw_cell_below B_wr_1.out x0; have x1_wr_1 := pw_cell_below B_wr_1.out x1; clear S_wr x0_wr x1_wr; clear hb; have xe2 := pw_cell_below B_wr_1.out xe) | (go_at_call 39; (with_reducible refine (query_sep _ (Sep.front [] [] S_wr_1.out) q Hq.out).mono ?_); rintro e w' ⟨rfl, rfl⟩) | (go_at_call 37; (with_reducible refine (duetlaw19_has.calls 3000 t q true _ HH.out).mono ?_); rintro e wr_2 ⟨rfl, hb0⟩; have hb := Aside0.mk hb0; clear hb0; have B_wr_2 : Aside0 (Below (w.heap.size) w wr_2) := ⟨below_then B_wr_1.out B_wr_1.out.size hb.out.below⟩; have S_wr_2 : Aside0 (Sep (w.heap.size) (Stars [SS 97 .i32 21 gs (L) (Q) (p)]) wr_2) := ⟨Sep.below S_wr_1.out hb.out.below⟩; have x0_wr_2 := pw_cell_below B_wr_2.out x0; have x1_wr_2 := pw_cell_below B_wr_2.out x1; clear S_wr_1 x0_wr_1 x1_wr_1; clear hb) | (go_at_call 44; (with_reducible refine (back2_is _ (Sep.front [] [] S_wr_2.out) B_wr_2.out.size hpos HO2.out m (pw_cell_below B_wr_2.out HM.out) (-1) HRr.out false rfl p rfl).mono ?_); rintro e wr_3 ⟨rfl, hS, hb⟩; have B_wr_3 : Aside0 (Below (w.heap.size) w wr_3) := ⟨(Below.trans B_wr_2.out hb)⟩; have S_wr_3 : Aside0 (Sep (w.heap.size) (Stars [SS 97 .i32 21 gs (L) (Q) (p)]) wr_3) := ⟨Sep.back [] [] hS⟩; have x0_wr_3 := pw_cell_below B_wr_3.out x0; have x1_wr_3 := pw_cell_below B_wr_3.out x1; clear S_wr_2 x0_wr_2 x1_wr_2; clear hS hb))
                go_roundw
                case rel => first | exact ⟨k + 1, Q, p, by omega, by go_num, HJ2, S_wr_3, B_wr_3⟩ | ((repeat apply Exists.intro); exact ⟨⟨k + 1, Q, p, by omega, by go_num, HJ2, S_wr_3, B_wr_3⟩, rfl⟩)
                case measure => simp [intOf]; omega
              · obtain ⟨hr0, hrp, hon⟩ := on_again HO2.out HJ2.out.2 hp0 r HRr.out hr1
                have Hon := Aside0.mk hon
                have hg : goP r p = r := by unfold goP; rw [if_neg hr1]
                have hg2 : goP p r = p := by unfold goP; rw [if_neg (by omega)]
                have Hg := Aside0.mk hg
                have Hg2 := Aside0.mk hg2
                have Hr1 : Aside0 (decide (r ≠ -1) = true) := ⟨decide_eq_true hr1⟩
                have Hp1 : Aside0 (decide (p ≠ -1) = true) := ⟨decide_eq_true (by omega)⟩
                have hrl : r < (L.length : Int) := by omega
                have HO3 : Aside0 (Ok L Q r) := ⟨HO2.out.short, HO2.out.len, HO2.out.q, by omega, hrl⟩
                have hd3 : decide (p ≤ r) = false := decide_eq_false (by omega)
                obtain ⟨t2, ht2⟩ : ∃ t2, rdOf ByteArray.empty L r = t2 := ⟨_, rfl⟩
                have Ht2 := Aside0.mk ht2
                clear hr1 hon hg hg2 ht2
                go_wp2_with (first | (go_at_call 38; (with_reducible refine (found_sep _ (Sep.front [] [] S_wr.out) hp0 hp1 t Ht.out).mono ?_); rintro e wr_1 ⟨rfl, hb⟩; have B_wr_1 : Aside0 (Below (w.heap.size) w wr_1) := ⟨below_then B_wr.out B_wr.out.size hb⟩; have S_wr_1 : Aside0 (Sep (w.heap.size) (Stars [SS 97 .i32 21 gs (L) (Q) (p)]) wr_1) := ⟨Sep.below S_wr.out hb⟩; have x0_wr_1 := pw_cell_below B_wr_1.out x0; have x1_wr_1 := pw_cell_below B_wr_1.out x1; clear S_wr x0_wr x1_wr; clear hb; have xe2 := pw_cell_below B_wr_1.out xe) | (go_at_call 39; (with_reducible refine (query_sep _ (Sep.front [] [] S_wr_1.out) q Hq.out).mono ?_); rintro e w' ⟨rfl, rfl⟩) | (go_at_call 37; (with_reducible refine (duetlaw19_has.calls 3000 t q true _ HH.out).mono ?_); rintro e wr_2 ⟨rfl, hb0⟩; have hb := Aside0.mk hb0; clear hb0; have B_wr_2 : Aside0 (Below (w.heap.size) w wr_2) := ⟨below_then B_wr_1.out B_wr_1.out.size hb.out.below⟩; have S_wr_2 : Aside0 (Sep (w.heap.size) (Stars [SS 97 .i32 21 gs (L) (Q) (p)]) wr_2) := ⟨Sep.below S_wr_1.out hb.out.below⟩; have x0_wr_2 := pw_cell_below B_wr_2.out x0; have x1_wr_2 := pw_cell_below B_wr_2.out x1; clear S_wr_1 x0_wr_1 x1_wr_1; clear hb) | (go_at_call 44; (with_reducible refine (back2_is _ (Sep.front [] [] S_wr_2.out) B_wr_2.out.size hpos HO2.out m (pw_cell_below B_wr_2.out HM.out) r HRr.out true Hr1.out r Hg.out).mono ?_); rintro e wr_3 ⟨rfl, hS, hb⟩; have B_wr_3 : Aside0 (Below (w.heap.size) w wr_3) := ⟨(Below.trans B_wr_2.out hb)⟩; have S_wr_3 : Aside0 (Sep (w.heap.size) (Stars [SS 97 .i32 21 gs (L) (Q) (r)]) wr_3) := ⟨Sep.back [] [] hS⟩; have x0_wr_3 := pw_cell_below B_wr_3.out x0; have x1_wr_3 := pw_cell_below B_wr_3.out x1; clear S_wr_2 x0_wr_2 x1_wr_2; clear hS hb) | (go_at_call 38; (with_reducible refine (found_sep _ (Sep.front [] [] S_wr_3.out) hr0 hrl t2 Ht2.out).mono ?_); rintro e wr_4 ⟨rfl, hb⟩; have B_wr_4 : Aside0 (Below (w.heap.size) w wr_4) := ⟨below_then B_wr_3.out B_wr_3.out.size hb⟩; have S_wr_4 : Aside0 (Sep (w.heap.size) (Stars [SS 97 .i32 21 gs (L) (Q) (r)]) wr_4) := ⟨Sep.below S_wr_3.out hb⟩; have x0_wr_4 := pw_cell_below B_wr_4.out x0; have x1_wr_4 := pw_cell_below B_wr_4.out x1; clear S_wr_3 x0_wr_3 x1_wr_3; clear hb) | (go_at_call 46; (with_reducible refine (on2_is _ (Sep.front [] [] S_wr_4.out) B_wr_4.out.size hpos HO3.out m (pw_cell_below B_wr_4.out HM.out) p Hon.out true Hp1.out p Hg2.out).mono ?_); rintro e wr_5 ⟨rfl, hS, hb⟩; have B_wr_5 : Aside0 (Below (w.heap.size) w wr_5) := ⟨(Below.trans B_wr_4.out hb)⟩; have S_wr_5 : Aside0 (Sep (w.heap.size) (Stars [SS 97 .i32 21 gs (L) (Q) (p)]) wr_5) := ⟨Sep.back [] [] hS⟩; have x0_wr_5 := pw_cell_below B_wr_5.out x0; have x1_wr_5 := pw_cell_below B_wr_5.out x1; clear S_wr_4 x0_wr_4 x1_wr_4; clear hS hb) | (go_at_call 38; (with_reducible refine (found_sep _ (Sep.front [] [] S_wr_5.out) hp0 hp1 t Ht.out).mono ?_); rintro e wr_6 ⟨rfl, hb⟩; have B_wr_6 : Aside0 (Below (w.heap.size) w wr_6) := ⟨below_then B_wr_5.out B_wr_5.out.size hb⟩; have S_wr_6 : Aside0 (Sep (w.heap.size) (Stars [SS 97 .i32 21 gs (L) (Q) (p)]) wr_6) := ⟨Sep.below S_wr_5.out hb⟩; have x0_wr_6 := pw_cell_below B_wr_6.out x0; have x1_wr_6 := pw_cell_below B_wr_6.out x1; clear S_wr_5 x0_wr_5 x1_wr_5; clear hb))
                go_roundw
                case rel => first | exact ⟨k + 1, Q, p, by omega, by go_num, HJ2, S_wr_6, B_wr_6⟩ | ((repeat apply Exists.intro); exact ⟨⟨k + 1, Q, p, by omega, by go_num, HJ2, S_wr_6, B_wr_6⟩, rfl⟩)
                case measure => simp [intOf]; omega
        · have h60b : ¬ (k : Int) < 250 := by omega
          go_wp2_with (first | (go_at_call 26; (with_reducible refine (live19 _ m (pw_cell_below B_wr.out HM.out)).mono ?_); rintro e2 w_l ⟨rfl, hb⟩; have HBl := Aside0.mk hb; clear hb))
          go_ret
          exact ⟨rfl, below_then B_wr.out B_wr.out.size HBl.out⟩
      · have hlt2 : ¬ (k : Int) < (sc.length : Int) := by omega
        go_wp2_with (first | (go_at_call 26; (with_reducible refine (live19 _ m (pw_cell_below B_wr.out HM.out)).mono ?_); rintro e2 w_l ⟨rfl, hb⟩; have HBl := Aside0.mk hb; clear hb))
        go_ret
        exact ⟨rfl, below_then B_wr.out B_wr.out.size HBl.out⟩
end Go.Proofs.Ythofobcbbddeeaa.SrchA
