/- Fronts: Hear. Conditions: none beyond those that each theorem states. -/
import Derived.Test.YtiplkmmppihilaaFrontD
namespace Go.Proofs.Ytiplkmmppihilaa.FrontA
open Go.RowKit Go.Proofs.YtiplkmmppihilaaW.PrintWords Go.Proofs.YtiplkmmppihilaaW.PrintLast Go.Proofs.YtiplkmmppihilaaW.PrintMore Go.Proofs.Ytiplkmmppihilaa.XS Go.Proofs.Ytiplkmmppihilaa.PFront
set_option linter.unusedVariables false
set_option linter.unusedSimpArgs false
theorem at_num {w : World} {A : Option Addr} {n : Nat} {xs : List Int} (h : KI.C w A n xs) (k : Nat) (h1 : k < n) : ∃ ad, A = some ad ∧ w.cell? (ad.add k) = some (.int .i64 (rd xs (k : Int))) := by
  obtain ⟨ad, e, hc⟩ := Kd.at_int h (k : Int) (by omega) (by omega)
  rw [Int.toNat_natCast] at hc
  exact ⟨ad, e, hc⟩
/-- Does site s tell (by v) of more of one of the first k than can be? -/
def any (R : List (List Int)) (s : Int) (v : List Int) : Nat → Bool
  | 0 => false
  | k + 1 => any R s v k || more R s (k : Int) (rd v (k : Int))
theorem any_up {R : List (List Int)} {s : Int} {v : List Int} {k : Nat} (h : any R s v k = true) : ∀ d : Nat, any R s v (k + d) = true
  | 0 => h
  | d + 1 => by rw [show k + (d + 1) = (k + d) + 1 by omega, any, any_up h d]; rfl
theorem any_le {R : List (List Int)} {s : Int} {v : List Int} {k n : Nat} (h : any R s v k = true) (hn : k ≤ n) : any R s v n = true := by
  have := any_up h (n - k)
  rwa [show k + (n - k) = n by omega] at this
/-- What Hear answers, and the rows behind it. -/
def hearE (R : List (List Int)) (s : Int) (v : List Int) : Int :=
  if ¬ (0 ≤ s ∧ s < (R.length : Int)) then 1 else if v.length ≠ R.length then 1 else if ¬ Vok v then 1 else if any R s v R.length = true then 8 else 0
def hearR (R : List (List Int)) (s : Int) (v : List Int) : List (List Int) := if hearE R s v = 0 then R.set s.toNat (List.zipWith mx (rd_L1 R s) v) else R
theorem hearR_same {R : List (List Int)} {s : Int} {v : List Int} (h : hearE R s v ≠ 0) : hearR R s v = R := by unfold hearR; rw [if_neg h]
theorem hear_good {R : List (List Int)} (hG : Good R) (s : Int) (v : List Int) : Good (hearR R s v) := by
  unfold hearR
  by_cases h : hearE R s v = 0
  · rw [if_pos h]
    unfold hearE at h
    by_cases h1 : 0 ≤ s ∧ s < (R.length : Int)
    · rw [if_neg (fun c => c h1)] at h
      by_cases h2 : v.length = R.length
      · rw [if_neg (fun c => c h2)] at h
        by_cases h3 : Vok v
        · have hr := hG.row s.toNat (by omega)
          rw [show ((s.toNat : Nat) : Int) = s by omega] at hr
          obtain ⟨g1, g2⟩ := good_zip mx mx_or (l := rd_L1 R s) (m := v) ⟨by omega, hr.2, h3⟩
          refine ⟨by rw [List.length_set]; exact hG.1, by rw [List.length_set]; exact hG.2.1, fun l hl => ?_⟩
          rw [List.length_set]
          rcases List.mem_or_eq_of_mem_set hl with hl | rfl
          · exact hG.2.2 l hl
          · exact ⟨by omega, g1⟩
        · rw [if_pos h3] at h; exact absurd h (by decide)
      · rw [if_pos h2] at h; exact absurd h (by decide)
    · rw [if_pos h1] at h; exact absurd h (by decide)
  · rw [if_neg h]; exact hG
theorem hear_len (R : List (List Int)) (s : Int) (v : List Int) : (hearR R s v).length = R.length := by
  unfold hearR; split
  · rw [List.length_set]
  · rfl
abbrev Fe0 : Array Bool := #[false, false, false, false, false, false, false, false, false, false, false, false, false, false, false, false, false, false, false]
abbrev Fe1 : Array Bool := #[true, false, false, false, false, false, false, false, false, false, false, false, false, false, false, false, false, false, false]
abbrev Fe2 : Array Bool := #[true, true, false, false, false, false, false, false, false, false, false, false, false, false, false, false, false, false, false]
abbrev Fe3 : Array Bool := #[true, true, true, false, false, false, false, false, false, false, false, false, false, false, false, false, false, false, false]
abbrev Fe4 : Array Bool := #[true, true, true, false, true, false, false, false, false, false, false, false, false, false, false, false, false, false, false]
abbrev Fe5 : Array Bool := #[true, true, true, false, true, true, false, false, false, false, false, false, false, false, false, false, false, false, false]
abbrev Fe6 : Array Bool := #[true, true, true, false, true, true, true, false, false, false, false, false, false, false, false, false, false, false, false]
abbrev Fe7 : Array Bool := #[true, true, true, false, true, true, true, true, false, false, false, false, false, false, false, false, false, false, false]
abbrev Fe8 : Array Bool := #[true, true, true, false, true, true, true, true, false, true, false, false, false, false, false, false, false, false, false]
abbrev Fe9 : Array Bool := #[true, true, true, false, true, true, true, true, false, true, false, false, true, false, false, false, false, false, false]
abbrev Fe10 : Array Bool := #[true, true, true, true, true, true, true, true, false, true, false, false, true, false, false, false, false, false, false]
abbrev Fe11 : Array Bool := #[true, true, true, true, true, true, true, true, true, true, false, false, true, false, false, false, false, false, false]
abbrev Fe12 : Array Bool := #[true, true, true, true, true, true, true, true, true, true, true, false, true, false, false, false, false, false, false]
abbrev Fe13 : Array Bool := #[true, true, true, true, true, true, true, true, true, true, true, true, true, false, false, false, false, false, false]
abbrev Fe14 : Array Bool := #[true, true, true, true, true, true, true, true, true, true, true, true, true, true, false, false, false, false, false]
abbrev Fe15 : Array Bool := #[true, true, true, true, true, true, true, true, true, true, true, true, true, true, true, false, false, false, false]
abbrev Fe16 : Array Bool := #[true, true, true, true, true, true, true, true, true, true, true, true, true, true, true, true, false, false, false]
abbrev Fe17 : Array Bool := #[true, true, true, true, true, true, true, true, true, true, true, true, true, true, true, true, true, false, false]
abbrev Fe18 : Array Bool := #[true, true, true, true, true, true, true, true, true, true, true, true, true, true, true, true, true, true, false]
abbrev Fe19 : Array Bool := #[true, true, true, true, true, true, true, true, true, true, true, true, true, true, true, true, true, true, true]
theorem has_at {g c : Nat} {A : Option Addr} {R : List (List Int)} (w : World) (s : Int) (b : Bool) (h : Fr 103 g A c R w) (hb : decide (0 ≤ s ∧ s < (R.length : Int)) = b) : Calls Try.prog 56 #[.pointer (some ⟨g, 0, none⟩), .int .i64 s] w fun e w' => e = .returned (.bool b) ∧ w = w' := by
  rw [← hb]; exact has_is w s h
theorem more_at {g c : Nat} {A : Option Addr} {R : List (List Int)} (w : World) (s ot n : Int) (b : Bool) (h : Fr 103 g A c R w) (hG : Good R) (hs0 : 0 ≤ s) (hs1 : s < (R.length : Int)) (ho0 : 0 ≤ ot) (ho1 : ot < (R.length : Int)) (hb : more R s ot n = b) : Calls Try.prog 58 #[.pointer (some ⟨g, 0, none⟩), .int .i64 s, .int .i64 ot, .int .i64 n] w fun e w' => e = .returned (.bool b) ∧ Below w.heap.size w w' := by
  rw [← hb]; exact more_is w s ot n h hG hs0 hs1 ho0 ho1
set_option maxHeartbeats 4000000 in
set_option maxRecDepth 100000 in
theorem front_hear {base g : Nat} {R : List (List Int)} {L : List Assn} (w : World) (h : Sep base (Star (FA 103 76 g R) (Stars L)) w) (hbase : base ≤ w.heap.size) (hG : Good R) (s : Int) (A : Option Addr) (c nl : Nat) (v : List Int) (hC : KI.C w A nl v) (hc : nl ≤ c) (hl : v.length ≤ 1000) :
    Calls Try.prog 38 #[.pointer (some ⟨g, 0, none⟩), .int .i64 s, .slice A nl c] w fun e w' => e = .returned (.int .i64 (hearE R s v)) ∧ Sep base (Star (FA 103 76 g (hearR R s v)) (Stars L)) w' ∧ Below base w w' := by
  obtain rfl : v.length = nl := Kd.C_len hC
  obtain ⟨Ar, cr, HF⟩ := FA.fr h
  have H := Aside0.mk HF
  have x0 := HF.2.1
  clear HF
  have HS := Aside0.mk h
  have HB := Aside0.mk hbase
  have HG := Aside0.mk hG
  have HC := Aside0.mk hC
  have Hc := Aside0.mk hc
  have hp16 : R.length ≤ 16 := hG.2.1
  have B_w := Aside0.mk (Below.refl w.heap.size w)
  have S_w : Aside0 (Sep w.heap.size (Stars []) w) := ⟨Sep.emp _ _⟩
  clear h hbase hG hC hc
  by_cases c1 : 0 ≤ s ∧ s < (R.length : Int)
  case neg =>
    have HE : Aside0 (hearE R s v = 1) := ⟨by unfold hearE; rw [if_pos c1]⟩
    have HD : Aside0 (decide (0 ≤ s ∧ s < (R.length : Int)) = false) := ⟨decide_eq_false c1⟩
    clear c1
    go_enter Try.func38, Try.ntmps38
    go_wp2_with (first | (go_at_call 56; (with_reducible refine (has_at _ s false H.out HD.out).mono ?_); rintro e w' ⟨rfl, rfl⟩))
    go_ret
    exact ⟨by rw [HE.out]; rfl, by rw [hearR_same (by rw [HE.out]; decide)]; exact HS.out.below B_w.out, below_then (Below.refl base w) HB.out B_w.out⟩
  have HD : Aside0 (decide (0 ≤ s ∧ s < (R.length : Int)) = true) := ⟨decide_eq_true c1⟩
  by_cases c2 : v.length = R.length
  case neg =>
    have HE : Aside0 (hearE R s v = 1) := ⟨by unfold hearE; rw [if_neg (fun c => c c1), if_pos c2]⟩
    have bl : ((v.length : Int) != (R.length : Int)) = true := bne_iff_ne.mpr (by omega)
    have bl2 : (v.length != R.length) = true := bne_iff_ne.mpr c2
    clear c1 c2
    go_enter Try.func38, Try.ntmps38
    go_wp2_with (first | (go_at_call 56; (with_reducible refine (has_at _ s true H.out HD.out).mono ?_); rintro e w' ⟨rfl, rfl⟩))
    go_ret
    exact ⟨by rw [HE.out]; rfl, by rw [hearR_same (by rw [HE.out]; decide)]; exact HS.out.below B_w.out, below_then (Below.refl base w) HB.out B_w.out⟩
  have bl : ((v.length : Int) != (R.length : Int)) = false := bne_eq_false_iff_eq.mpr (by omega)
  have bl2 : (v.length != R.length) = false := bne_eq_false_iff_eq.mpr c2
  by_cases c3 : Vok v
  case neg =>
    have HE : Aside0 (hearE R s v = 1) := ⟨by unfold hearE; rw [if_neg (fun c => c c1), if_neg (fun c => c c2), if_pos c3]⟩
    have HK : Aside0 (vec_Vec_Check.f v = some 1) := ⟨by rw [check_is, if_neg c3]⟩
    clear c1 c2 c3
    go_enter Try.func38, Try.ntmps38
    go_wp2_with (first | (go_at_call 56; (with_reducible refine (has_at _ s true H.out HD.out).mono ?_); rintro e w' ⟨rfl, rfl⟩) | (go_at_call 57; (with_reducible refine (vec_Vec_Check.at _ _ _ _ 1 _ HC.out Hc.out HK.out).mono ?_); rintro e w_1 ⟨rfl, hb0⟩; have hb := Aside0.mk hb0; clear hb0; have B_w_1 : Aside0 (Below (w.heap.size) w w_1) := ⟨below_then B_w.out B_w.out.size hb.out.below⟩; have S_w_1 : Aside0 (Sep (w.heap.size) (Stars []) w_1) := ⟨Sep.below S_w.out hb.out.below⟩; have Q_w_1 : Aside0 (Below w.heap.size w w_1) := ⟨hb.out.below⟩; have x0_w_1 := pw_cell_below Q_w_1.out x0; clear S_w; clear hb))
    go_ret
    exact ⟨by rw [HE.out]; rfl, by rw [hearR_same (by rw [HE.out]; decide)]; exact HS.out.below B_w_1.out, below_then (Below.refl base w) HB.out B_w_1.out⟩
  have HK : Aside0 (vec_Vec_Check.f v = some 0) := ⟨by rw [check_is, if_pos c3]⟩
  have HX := Aside0.mk (show ¬ ¬ (0 ≤ s ∧ s < (R.length : Int)) ∧ ¬ v.length ≠ R.length ∧ ¬ ¬ Vok v from ⟨fun c => c c1, fun c => c c2, fun c => c c3⟩)
  have C1 := Aside0.mk c1
  have C2 := Aside0.mk c2
  have C3 := Aside0.mk c3
  clear c1 c2 c3
  go_enter Try.func38, Try.ntmps38
  go_wp2_with (first | (go_at_call 56; (with_reducible refine (has_at _ s true H.out HD.out).mono ?_); rintro e w' ⟨rfl, rfl⟩) | (go_at_call 57; (with_reducible refine (vec_Vec_Check.at _ _ _ _ 0 _ HC.out Hc.out HK.out).mono ?_); rintro e w_1 ⟨rfl, hb0⟩; have hb := Aside0.mk hb0; clear hb0; have B_w_1 : Aside0 (Below (w.heap.size) w w_1) := ⟨below_then B_w.out B_w.out.size hb.out.below⟩; have S_w_1 : Aside0 (Sep (w.heap.size) (Stars []) w_1) := ⟨Sep.below S_w.out hb.out.below⟩; have Q_w_1 : Aside0 (Below w.heap.size w w_1) := ⟨hb.out.below⟩; have x0_w_1 := pw_cell_below Q_w_1.out x0; clear S_w; clear hb))
  go_loopw [30] (fun i wr => ∃ k : Nat, k ≤ v.length ∧ i = .int .i64 k ∧ Aside0 (any R s v k = false) ∧ Aside0 (Below w.heap.size w wr)) (fun i _ => v.length - (intOf i).toNat)
  case atStart => exact ⟨0, by omega, rfl, ⟨rfl⟩, B_w_1⟩
  case round =>
    clear S_w_1 B_w_1 x0_w_1
    obtain ⟨k, hk, rfl, HA, B_wr⟩ := hrel
    have S_wr : Aside0 (Sep w.heap.size (Stars []) wr) := ⟨Sep.emp _ _⟩
    by_cases hlt : k < v.length
    · have hlt2 : (k : Int) < (v.length : Int) := by omega
      have hk0 : (0 : Int) ≤ (k : Int) := by omega
      obtain ⟨av, hav, xv⟩ := at_num HC.out k hlt
      subst hav
      have x0_wr := pw_cell_below B_wr.out x0
      have xv_wr := pw_cell_below B_wr.out xv
      by_cases hm : more R s (k : Int) (rd v (k : Int)) = true
      · have HM := Aside0.mk hm
        have HE : Aside0 (hearE R s v = 8) := ⟨by
          unfold hearE
          rw [if_neg HX.out.1, if_neg HX.out.2.1, if_neg HX.out.2.2, if_pos]
          have h1 : any R s v (k + 1) = true := by rw [any, hm, Bool.or_true]
          exact any_le h1 (by have := C2.out; omega)⟩
        clear hm
        go_wp2_with (first | (go_at_call 58; (with_reducible refine (more_at _ s (k : Int) (rd v (k : Int)) true (H.out.below B_wr.out) HG.out C1.out.1 C1.out.2 (by omega) (by have := C2.out; omega) HM.out).mono ?_); rintro e wr_1 ⟨rfl, hb⟩; have B_wr_1 : Aside0 (Below (w.heap.size) w wr_1) := ⟨below_then B_wr.out B_wr.out.size hb⟩; have S_wr_1 : Aside0 (Sep (w.heap.size) (Stars []) wr_1) := ⟨Sep.below S_wr.out hb⟩; have x0_wr_1 := pw_cell_below B_wr_1.out x0; have xv_wr_1 := pw_cell_below B_wr_1.out xv; clear S_wr x0_wr xv_wr; clear hb))
        go_ret
        exact ⟨by rw [HE.out]; rfl, by rw [hearR_same (by rw [HE.out]; decide)]; exact HS.out.below B_wr_1.out, below_then (Below.refl base w) HB.out B_wr_1.out⟩
      · have HM : Aside0 (more R s (k : Int) (rd v (k : Int)) = false) := ⟨by simpa using hm⟩
        have HA2 : Aside0 (any R s v (k + 1) = false) := ⟨by rw [any, HA.out, HM.out]; rfl⟩
        clear hm
        go_wp2_with (first | (go_at_call 58; (with_reducible refine (more_at _ s (k : Int) (rd v (k : Int)) false (H.out.below B_wr.out) HG.out C1.out.1 C1.out.2 (by omega) (by have := C2.out; omega) HM.out).mono ?_); rintro e wr_1 ⟨rfl, hb⟩; have B_wr_1 : Aside0 (Below (w.heap.size) w wr_1) := ⟨below_then B_wr.out B_wr.out.size hb⟩; have S_wr_1 : Aside0 (Sep (w.heap.size) (Stars []) wr_1) := ⟨Sep.below S_wr.out hb⟩; have x0_wr_1 := pw_cell_below B_wr_1.out x0; have xv_wr_1 := pw_cell_below B_wr_1.out xv; clear S_wr x0_wr xv_wr; clear hb))
        go_roundw
        case rel => first | exact ⟨k + 1, by omega, by go_num, HA2, B_wr_1⟩ | ((repeat apply Exists.intro); exact ⟨⟨k + 1, by omega, by go_num, HA2, B_wr_1⟩, rfl⟩)
        case measure => simp [intOf]; omega
    · obtain rfl : k = v.length := by omega
      have hlt2 : ¬ (v.length : Int) < (v.length : Int) := by omega
      go_wp2
      have HE : Aside0 (hearE R s v = 0) := ⟨by
        unfold hearE
        rw [if_neg HX.out.1, if_neg HX.out.2.1, if_neg HX.out.2.2, if_neg]
        rw [← C2.out, HA.out]; decide⟩
      obtain ⟨zz, hzz⟩ : ∃ zz : List Int, zz = List.zipWith mx (rd_L1 R s) v := ⟨_, rfl⟩
      have HR2 : Aside0 (hearR R s v = R.set s.toNat zz) := ⟨by unfold hearR; rw [if_pos HE.out, hzz]⟩
      have HS2 := (HS.out.below B_wr.out)
      obtain ⟨A9, c9, hc9, hb9, hC9, S9⟩ := FA.open HS2
      clear HS2
      have hx := XW.cells1 hb9
      obtain ⟨i, rfl⟩ := Int.eq_ofNat_of_zero_le C1.out.1
      have hi : i < R.length := by have := C1.out.2; omega
      have hi2 : (i : Int) < (R.length : Int) := by omega
      have hi0 : (0 : Int) ≤ (i : Int) := by omega
      obtain ⟨gr, hgr, hle⟩ := row_block (g := 0) S9.swap (by omega)
      subst hgr
      obtain ⟨ad, Ai, ci, hA, xi, hci, hCi⟩ := at_row hC9 i hi
      injection hA with hA
      subst hA
      rw [add_plain] at xi
      have HCi := Aside0.mk hCi
      have Hci := Aside0.mk hci
      have Hle := Aside0.mk hle
      have hgood := HG.out.row i hi
      have HN : Aside0 (vec_Vec_Join.f (rd_L1 R (i : Int)) v = some (zz, 0)) := ⟨by rw [join_is, if_pos ⟨by have := C2.out; omega, hgood.2, C3.out⟩, hzz]⟩
      have BV : Aside0 (Below w.heap.size w wr) := B_wr
      have BW : Aside0 (Below base w wr) := ⟨below_then (Below.refl base w) HB.out B_wr.out⟩
      have HBr : Aside0 (base ≤ wr.heap.size) := ⟨Nat.le_trans HB.out BW.out.size⟩
      clear S_wr B_wr hzz hC9 hCi hci hle hgood hb9 hx hc9
      have S_wr : Aside0 (Sep base (Stars (Blk g #[.slice (some ⟨gr, 0, none⟩) R.length c9] 103 :: Row KR 76 (.slice (some ⟨gr, 0, none⟩) R.length c9) R :: L)) wr) := ⟨S9⟩
      have B_wr : Aside0 (Below base wr wr) := ⟨Below.refl _ _⟩
      clear S9
      have c_g_0_wr := XW.cells1 (Sep.front [] (Row KR 76 (.slice (some ⟨gr, 0, none⟩) R.length c9) (R) :: L) S_wr.out).blk
      have z_g_0_wr := XW.froz1 (Sep.front [] (Row KR 76 (.slice (some ⟨gr, 0, none⟩) R.length c9) (R) :: L) S_wr.out).blk
      go_upto_region 9 with (fail)
      refine start_ (n := 19) (S := fun w' => w'.cell? ⟨g, 0, none⟩ = some (.slice (some ⟨gr, 0, none⟩) R.length c9) ∧ w'.cell? ⟨gr, i, none⟩ = some (.slice Ai (rd_L1 R (i : Int)).length ci)) (ds := [18]) Fe0 (by kernel_rfl) rfl rfl ⟨c_g_0_wr, xi⟩ (fun hHeld => ?_)
      generalize hdw : wr.drew = wr_1 at hHeld ⊢
      have HB_wr_1 : Aside0 (Below wr.heap.size wr wr_1) := ⟨by rw [← hdw]; exact below_drew1 (Below.refl _ _)⟩
      clear hdw
      have B_wr_1 : Aside0 (Below (base) wr wr_1) := ⟨below_then B_wr.out (Nat.le_trans (HBr.out) B_wr.out.size) HB_wr_1.out⟩
      have S_wr_1 : Aside0 (Sep (base) (Stars (Blk g #[.slice (some ⟨gr, 0, none⟩) R.length c9] 103 :: Row KR 76 (.slice (some ⟨gr, 0, none⟩) R.length c9) (R) :: L)) wr_1) := ⟨Sep.below S_wr.out HB_wr_1.out⟩
      have Q_wr_1 : Aside0 (Below wr.heap.size wr wr_1) := ⟨HB_wr_1.out⟩
      have xi_wr_1 := pw_cell_below Q_wr_1.out xi
      have c_g_0_wr_1 := XW.cells1 (Sep.front [] (Row KR 76 (.slice (some ⟨gr, 0, none⟩) R.length c9) (R) :: L) S_wr_1.out).blk
      have z_g_0_wr_1 := XW.froz1 (Sep.front [] (Row KR 76 (.slice (some ⟨gr, 0, none⟩) R.length c9) (R) :: L) S_wr_1.out).blk
      clear S_wr c_g_0_wr z_g_0_wr
      refine pure_ (i := 0) (N := some 42) (v := ?_) (a' := ?_) Fe1 rfl rfl (by kernel_rfl) (fun _ _ _ h => h) (Or.inl ⟨by rfl, ?_⟩) ?_ ?_
      rotate_left
      · intro w'
        go_simp
        with_reducible rfl
      rotate_left
      · simp only [Act.put, List.setIfInBounds_toArray, List.set_cons_zero, List.set_cons_succ, i64_w, i32_w]
        rfl
      refine pure_ (i := 1) (N := some 43) (v := ?_) (a' := ?_) Fe2 rfl rfl (by kernel_rfl) (fun _ _ _ h => h) (Or.inl ⟨by rfl, ?_⟩) ?_ ?_
      rotate_left
      · intro w'
        go_simp
        with_reducible rfl
      rotate_left
      · simp only [Act.put, List.setIfInBounds_toArray, List.set_cons_zero, List.set_cons_succ, i64_w, i32_w]
        rfl
      refine pure_ (i := 2) (N := some 44) (v := ?_) (a' := ?_) Fe3 rfl rfl (by kernel_rfl) (fun _ _ _ h => h) (Or.inl ⟨by rfl, ?_⟩) ?_ ?_
      rotate_left
      · intro w'
        go_simp
        with_reducible rfl
      rotate_left
      · simp only [Act.put, List.setIfInBounds_toArray, List.set_cons_zero, List.set_cons_succ, i64_w, i32_w]
        rfl
      refine pure_ (i := 4) (N := some 46) (v := ?_) (a' := ?_) Fe4 rfl rfl (by kernel_rfl) (fun _ _ _ h => h) (Or.inl ⟨by rfl, ?_⟩) ?_ ?_
      rotate_left
      · intro w'
        go_simp
        with_reducible rfl
      rotate_left
      · simp only [Act.put, List.setIfInBounds_toArray, List.set_cons_zero, List.set_cons_succ, i64_w, i32_w]
        rfl
      refine pure_ (i := 5) (N := some 47) (v := ?_) (a' := ?_) Fe5 rfl rfl (by kernel_rfl) (fun _ _ _ h => h) (Or.inl ⟨by rfl, ?_⟩) ?_ ?_
      rotate_left
      · intro w'
        go_simp
        with_reducible rfl
      rotate_left
      · simp only [Act.put, List.setIfInBounds_toArray, List.set_cons_zero, List.set_cons_succ, i64_w, i32_w]
        rfl
      refine pure_ (i := 6) (N := some 48) (v := ?_) (a' := ?_) Fe6 rfl rfl (by kernel_rfl) (fun _ _ _ h => h) (Or.inl ⟨by rfl, ?_⟩) ?_ ?_
      rotate_left
      · intro w'
        go_simp
        with_reducible rfl
      rotate_left
      · simp only [Act.put, List.setIfInBounds_toArray, List.set_cons_zero, List.set_cons_succ, i64_w, i32_w]
        rfl
      refine pure_ (i := 7) (N := some 49) (v := ?_) (a' := ?_) Fe7 rfl rfl (by kernel_rfl) (fun _ _ _ h => h) (Or.inl ⟨by rfl, ?_⟩) ?_ ?_
      rotate_left
      · intro w'
        go_simp
        with_reducible rfl
      rotate_left
      · simp only [Act.put, List.setIfInBounds_toArray, List.set_cons_zero, List.set_cons_succ, i64_w, i32_w]
        rfl
      refine pure_ (i := 9) (N := some 51) (v := ?_) (a' := ?_) Fe8 rfl rfl (by kernel_rfl) (fun _ _ _ h => h) (Or.inl ⟨by rfl, ?_⟩) ?_ ?_
      rotate_left
      · intro w'
        go_simp
        with_reducible rfl
      rotate_left
      · simp only [Act.put, List.setIfInBounds_toArray, List.set_cons_zero, List.set_cons_succ, i64_w, i32_w]
        rfl
      refine pure_ (i := 12) (N := some 54) (v := ?_) (a' := ?_) Fe9 rfl rfl (by kernel_rfl) (fun _ _ _ h => h) (Or.inl ⟨by rfl, ?_⟩) ?_ ?_
      rotate_left
      · intro w'
        go_simp
        with_reducible rfl
      rotate_left
      · simp only [Act.put, List.setIfInBounds_toArray, List.set_cons_zero, List.set_cons_succ, i64_w, i32_w]
        rfl
      refine take_ (i := 3) (N := some 45) (v := ?_) (a' := ?_) Fe10 rfl rfl (by kernel_rfl) (fun _ _ _ h => h) (Or.inl ⟨by rfl, ?_⟩) hHeld ?_ ?_
      rotate_left
      · rintro w' ⟨s0, s1⟩
        go_simp
        with_reducible rfl
      rotate_left
      · simp only [Act.put, List.setIfInBounds_toArray, List.set_cons_zero, List.set_cons_succ, i64_w, i32_w]
        rfl
      refine take_ (i := 8) (N := some 50) (v := ?_) (a' := ?_) Fe11 rfl rfl (by kernel_rfl) (fun _ _ _ h => h) (Or.inl ⟨by rfl, ?_⟩) hHeld ?_ ?_
      rotate_left
      · rintro w' ⟨s0, s1⟩
        go_simp
        with_reducible rfl
      rotate_left
      · simp only [Act.put, List.setIfInBounds_toArray, List.set_cons_zero, List.set_cons_succ, i64_w, i32_w]
        rfl
      refine pure_ (i := 10) (N := some 52) (v := ?_) (a' := ?_) Fe12 rfl rfl (by kernel_rfl) (fun _ _ _ h => h) (Or.inl ⟨by rfl, ?_⟩) ?_ ?_
      rotate_left
      · intro w'
        go_simp
        with_reducible rfl
      rotate_left
      · simp only [Act.put, List.setIfInBounds_toArray, List.set_cons_zero, List.set_cons_succ, i64_w, i32_w]
        rfl
      refine take_ (i := 11) (N := some 53) (v := ?_) (a' := ?_) Fe13 rfl rfl (by kernel_rfl) (fun _ _ _ h => h) (Or.inl ⟨by rfl, ?_⟩) hHeld ?_ ?_
      rotate_left
      · rintro w' ⟨s0, s1⟩
        go_simp
        with_reducible rfl
      rotate_left
      · simp only [Act.put, List.setIfInBounds_toArray, List.set_cons_zero, List.set_cons_succ, i64_w, i32_w]
        rfl
      refine one_ (i := 13) (N := some 55) Fe14 rfl rfl (by kernel_rfl) (by decide) (fun K hK => ?_)
      refine goes_ Try.func59 (by kernel_rfl) rfl #[.slice Ai (rd_L1 R (i : Int)).length ci, .slice A v.length c] (by rfl) rfl rfl (by simp only [List.map_toArray, List.map_cons, List.map_nil]; rfl) ?_
      with_reducible refine (vec_Vec_Join.at _ _ _ _ _ _ _ _ zz 0 _ (Kd.C_below HCi.out Q_wr_1.out) Hci.out (Kd.C_below (Kd.C_below HC.out BV.out) Q_wr_1.out) Hc.out HN.out).mono ?_
      rintro e wr_2 ⟨v2, rfl, hr, hb⟩
      refine ⟨_, rfl, ?_⟩
      obtain ⟨AJ, cJ, hv, -, -⟩ := Kd.R_reads hr; subst hv
      have B_wr_2 : Aside0 (Below (base) wr wr_2) := ⟨below_then B_wr_1.out (Nat.le_trans (HBr.out) B_wr_1.out.size) hb⟩
      have S_wr_2 : Aside0 (Sep (base) (Stars (Row (Kd.int .i64) 3 (.slice AJ zz.length cJ) (zz) :: Blk g #[.slice (some ⟨gr, 0, none⟩) R.length c9] 103 :: Row KR 76 (.slice (some ⟨gr, 0, none⟩) R.length c9) (R) :: L)) wr_2) := ⟨Sep.new_row S_wr_1.out (Nat.le_trans (HBr.out) B_wr_1.out.size) hb hr⟩
      have Q_wr_2 : Aside0 (Below wr.heap.size wr wr_2) := ⟨below_step Q_wr_1.out hb⟩
      have xi_wr_2 := pw_cell_below Q_wr_2.out xi
      have c_g_0_wr_2 := XW.cells1 (Sep.front [Row (Kd.int .i64) 3 (.slice AJ zz.length cJ) (zz)] (Row KR 76 (.slice (some ⟨gr, 0, none⟩) R.length c9) (R) :: L) S_wr_2.out).blk
      have z_g_0_wr_2 := XW.froz1 (Sep.front [Row (Kd.int .i64) 3 (.slice AJ zz.length cJ) (zz)] (Row KR 76 (.slice (some ⟨gr, 0, none⟩) R.length c9) (R) :: L) S_wr_2.out).blk
      clear S_wr_1 xi_wr_1 c_g_0_wr_1 z_g_0_wr_1
      clear hb
      clear hr
      have zr := row_frozen (Sep.front [Row (Kd.int .i64) 3 (.slice AJ zz.length cJ) (zz), Blk g #[.slice (some ⟨gr, 0, none⟩) R.length c9] 103] (L) S_wr_2.out) i
      refine hK.out _ _ ⟨c_g_0_wr_2, xi_wr_2⟩ (fun hHeld => ?_)
      clear hK K
      refine norm_ (a' := ?_) ?_ ?_
      rotate_left
      · show Act.put _ (some 55) _ = _
        simp only [Act.put, List.setIfInBounds_toArray, List.set_cons_zero, List.set_cons_succ, i64_w, i32_w]
        rfl
      refine pure_ (i := 14) (N := some 41) (v := ?_) (a' := ?_) Fe15 rfl rfl (by kernel_rfl) (fun _ _ _ h => h) (Or.inl ⟨by rfl, ?_⟩) ?_ ?_
      rotate_left
      · intro w'
        go_simp
        with_reducible rfl
      rotate_left
      · simp only [Act.put, List.setIfInBounds_toArray, List.set_cons_zero, List.set_cons_succ, i64_w, i32_w]
        rfl
      refine pure_ (i := 15) (N := some 56) (v := ?_) (a' := ?_) Fe16 rfl rfl (by kernel_rfl) (fun _ _ _ h => h) (Or.inl ⟨by rfl, ?_⟩) ?_ ?_
      rotate_left
      · intro w'
        go_simp
        with_reducible rfl
      rotate_left
      · simp only [Act.put, List.setIfInBounds_toArray, List.set_cons_zero, List.set_cons_succ, i64_w, i32_w]
        rfl
      refine pure_ (i := 16) (N := some 57) (v := ?_) (a' := ?_) Fe17 rfl rfl (by kernel_rfl) (fun _ _ _ h => h) (Or.inl ⟨by rfl, ?_⟩) ?_ ?_
      rotate_left
      · intro w'
        go_simp
        with_reducible rfl
      rotate_left
      · simp only [Act.put, List.setIfInBounds_toArray, List.set_cons_zero, List.set_cons_succ, i64_w, i32_w]
        rfl
      refine pure_ (i := 17) (N := some 58) (v := ?_) (a' := ?_) Fe18 rfl rfl (by kernel_rfl) (fun _ _ _ h => h) (Or.inl ⟨by rfl, ?_⟩) ?_ ?_
      rotate_left
      · intro w'
        go_simp
        with_reducible rfl
      rotate_left
      · simp only [Act.put, List.setIfInBounds_toArray, List.set_cons_zero, List.set_cons_succ, i64_w, i32_w]
        rfl
      refine last_ (i := 18) (N := none) Fe19 rfl rfl (by kernel_rfl) (by decide) (fun K hK => ?_)
      refine skip_ (w1 := ?_) (by rfl) rfl ?_ ?_
      rotate_left
      · go_simp
        rfl
      refine hK.out _ _ ?_
      clear hK K
      refine done_ (by kernel_rfl) ?_
      have S_9 := (sep_store_elem KR rfl (E := Row KI 3 (.slice AJ zz.length cJ) zz) (x' := zz) (fun _ h => row_elem h) (Sep.front [Row (Kd.int .i64) 3 (.slice AJ zz.length cJ) (zz), Blk g #[.slice (some ⟨gr, 0, none⟩) R.length c9] 103] (L) S_wr_2.out) (Nat.le_trans (HBr.out) B_wr_2.out.size) i hi).swap
      have B_9 : Below base wr (wr_2.setCell ⟨gr, i, none⟩ (.slice AJ zz.length cJ)) := Below.setCell B_wr_2.out Hle.out _
      have HS9 := Aside0.mk S_9
      have HB9 := Aside0.mk B_9
      clear S_9 B_9
      go_wp2
      go_ret
      exact ⟨by rw [HE.out]; rfl, by rw [HR2.out, Int.toNat_natCast]; exact FA.close HS9.out, Below.trans BW.out HB9.out⟩
end Go.Proofs.Ytiplkmmppihilaa.FrontA
