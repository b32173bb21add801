/- Fronts: Stable, Most. Conditions: none beyond those that each theorem states. -/
import Derived.Test.YtiplkmmppihilaaFrontA
namespace Go.Proofs.Ytiplkmmppihilaa.FrontA
open Go.RowKit Go.Proofs.YtiplkmmppihilaaW.PrintWords Go.Proofs.YtiplkmmppihilaaW.PrintLast Go.Proofs.YtiplkmmppihilaaW.PrintMore Go.Proofs.Ytiplkmmppihilaa.XS Go.Proofs.Ytiplkmmppihilaa.PFront
set_option linter.unusedVariables false
set_option linter.unusedSimpArgs false
/-- The rows, put together up to k. -/
def cum (f : Int → Int → Int) (R : List (List Int)) : Nat → List Int
  | 0 => rd_L1 R ((0 : Nat) : Int)
  | k + 1 => List.zipWith f (cum f R k) (rd_L1 R (k : Int))
theorem cum_good {f : Int → Int → Int} (hf : ∀ a b, f a b = a ∨ f a b = b) {R : List (List Int)} (hG : Good R) : ∀ k : Nat, k ≤ R.length → (cum f R k).length = R.length ∧ Vok (cum f R k)
  | 0, _ => hG.row 0 (by have := hG.1; omega)
  | k + 1, hk => by
    obtain ⟨h1, h2⟩ := cum_good hf hG k (by omega)
    obtain ⟨h3, h4⟩ := hG.row k (by omega)
    obtain ⟨h5, h6⟩ := good_zip f hf (l := cum f R k) (m := rd_L1 R (k : Int)) ⟨by omega, h2, h4⟩
    exact ⟨h6.trans h1, h5⟩
theorem cum_T {f : Int → Int → Int} (hf : ∀ a b, f a b = a ∨ f a b = b) {R : List (List Int)} (hG : Good R) (k : Nat) (hk : k < R.length) : T (cum f R k) (rd_L1 R (k : Int)) := by
  obtain ⟨h1, h2⟩ := cum_good hf hG k (by omega)
  obtain ⟨h3, h4⟩ := hG.row k hk
  exact ⟨by omega, h2, h4⟩
theorem zip_same {f : Int → Int → Int} (hf : ∀ a, f a a = a) : ∀ l : List Int, List.zipWith f l l = l
  | [] => rfl
  | a :: l => by rw [List.zipWith_cons_cons, hf, zip_same hf l]
theorem cum_one {f : Int → Int → Int} (hf : ∀ a b, f a b = a ∨ f a b = b) (R : List (List Int)) : cum f R 1 = rd_L1 R ((0 : Nat) : Int) := zip_same (fun a => by rcases hf a a with h | h <;> exact h) _
theorem at_row {w : World} {A : Option Addr} {n : Nat} {xs : List (List Int)} (h : KR.C w A n xs) (k : Nat) (h1 : k < n) : ∃ ad A0 c0, A = some ad ∧ w.cell? (ad.add k) = some (.slice A0 (rd_L1 xs (k : Int)).length c0) ∧ (rd_L1 xs (k : Int)).length ≤ c0 ∧ KI.C w A0 (rd_L1 xs (k : Int)).length (rd_L1 xs (k : Int)) := by
  obtain ⟨ad, A0, c0, e, hc, hl, hC⟩ := at_L1 h (k : Int) (by omega) (by omega)
  rw [Int.toNat_natCast] at hc
  exact ⟨ad, A0, c0, e, hc, hl, hC⟩
def stable (R : List (List Int)) : List Int := cum mn R R.length
def most (R : List (List Int)) : List Int := cum mx R R.length

set_option maxHeartbeats 2000000 in
set_option maxRecDepth 100000 in
theorem all_meet {g c : Nat} {A : Option Addr} {R : List (List Int)} (w : World) (h : Fr 103 g A c R w) (hG : Good R) : Calls Try.prog 62 #[.pointer (some ⟨g, 0, none⟩), .func (.func 63) #[] #[]] w fun e w' => ∃ v : Value, e = .returned v ∧ Kd.R KI 3 w' w.heap.size (fun _ => True) v (stable R) ∧ Below w.heap.size w w' := by
  have H := Aside0.mk h
  have x0 := h.2.1
  have hp : 0 < R.length := by have := hG.1; omega
  have hp16 : R.length ≤ 16 := hG.2.1
  have HG := Aside0.mk hG
  clear h hG
  go_enter Try.func62, Try.ntmps62
  go_wp2_with (first | (go_at_call 46; (with_reducible refine (row_is _ 0 H.out HG.out).mono ?_); rintro e w1 ⟨v, rfl, hr, hb⟩; have HR := Aside0.mk hr; have B_w1 := Aside0.mk hb; have x1 := pw_cell_below hb x0; clear hr hb x0))
  have HR0 : Aside0 (Kd.R KI 3 w1 w.heap.size (fun _ => True) v (cum mn R 0)) := ⟨by have := HR.out; unfold rowOf at this; rw [if_pos ⟨by omega, by omega⟩] at this; exact this⟩
  clear HR
  go_loopw [5, 17] (fun vv i wr => ∃ k : Nat, k ≤ R.length ∧ i = .int .i64 k ∧ Aside0 (Kd.R KI 3 wr w.heap.size (fun _ => True) vv (cum mn R k)) ∧ Aside0 (Below w.heap.size w wr)) (fun _ i _ => R.length - (intOf i).toNat)
  case atStart => exact ⟨0, by omega, rfl, HR0, B_w1⟩
  case round =>
    clear HR0 B_w1 x1
    obtain ⟨k, hk, rfl, HR, B_wr⟩ := hrel
    have hk2 := H.out.below B_wr.out
    have x0 := hk2.2.1
    by_cases hlt : k < R.length
    · have hlt2 : (k : Int) < (R.length : Int) := by omega
      have hk0 : (0 : Int) ≤ (k : Int) := by omega
      obtain ⟨ad, Ak, ck, rfl, xk, hck, hCk⟩ := at_row hk2.2.2 k hlt
      obtain ⟨Av, cv, hvv, hcv, hCv⟩ := Kd.R_reads HR.out
      subst hvv
      have HCk := Aside0.mk hCk
      have Hck := Aside0.mk hck
      have HCv := Aside0.mk hCv
      have Hcv := Aside0.mk hcv
      have HN : Aside0 (vec_Vec_Meet.f (cum mn R k) (rd_L1 R (k : Int)) = some (cum mn R (k + 1), 0)) := ⟨by rw [meet_is, if_pos (cum_T mn_or HG.out k hlt)]; rfl⟩
      clear hCk hck hCv hcv hk2
      go_wp2_with (first | (go_at_call 63; (with_reducible refine (vec_Vec_Meet.at _ _ _ _ _ _ _ _ _ _ _ HCv.out Hcv.out HCk.out Hck.out HN.out).mono ?_); rintro e w2 ⟨v2, rfl, hr, hb⟩; have HR2 := Aside0.mk hr; have HB2 := Aside0.mk hb; clear hr hb))
      go_roundw
      case rel => exact ⟨k + 1, by omega, by go_num, ⟨Kd.R_lower HR2.out B_wr.out.size⟩, ⟨below_step B_wr.out HB2.out⟩⟩
      case measure => simp [intOf]; omega
    · obtain rfl : k = R.length := by omega
      clear hk2
      go_wp2
      go_ret
      exact ⟨_, rfl, HR.out, B_wr.out⟩
theorem stable_is {g c : Nat} {A : Option Addr} {R : List (List Int)} (w : World) (h : Fr 103 g A c R w) (hG : Good R) : Calls Try.prog 40 #[.pointer (some ⟨g, 0, none⟩)] w fun e w' => ∃ v : Value, e = .returned v ∧ Kd.R KI 3 w' w.heap.size (fun _ => True) v (stable R) ∧ Below w.heap.size w w' := by
  have H := Aside0.mk h
  have HG := Aside0.mk hG
  clear h hG
  go_enter Try.func40, Try.ntmps40
  go_wp2_with (first | (go_at_call 62; (with_reducible refine (all_meet _ H.out HG.out).mono ?_); rintro e w1 ⟨v, rfl, hr, hb⟩; have HR := Aside0.mk hr; have B_w1 := Aside0.mk hb; clear hr hb))
  go_ret
  exact ⟨v, rfl, HR.out, B_w1.out⟩
theorem stable_nil (w : World) : Calls Try.prog 40 #[.pointer none] w fun e w' => e = .returned (.slice none 0 0) ∧ w = w' := by
  have hnil : Calls Try.prog 62 #[.pointer none, .func (.func 63) #[] #[]] w fun e w' => e = .returned (.slice none 0 0) ∧ w = w' := by
    go_enter Try.func62, Try.ntmps62
    go_wp2
    go_ret
    exact ⟨rfl, rfl⟩
  have HN := Aside0.mk hnil
  clear hnil
  go_enter Try.func40, Try.ntmps40
  go_wp2_with (first | (go_at_call 62; (with_reducible refine (HN.out).mono ?_); rintro e w' ⟨rfl, rfl⟩))
  go_ret
  exact ⟨rfl, rfl⟩
set_option maxHeartbeats 2000000 in
set_option maxRecDepth 100000 in
theorem all_join {g c : Nat} {A : Option Addr} {R : List (List Int)} (w : World) (h : Fr 103 g A c R w) (hG : Good R) : Calls Try.prog 62 #[.pointer (some ⟨g, 0, none⟩), .func (.func 59) #[] #[]] w fun e w' => ∃ v : Value, e = .returned v ∧ Kd.R KI 3 w' w.heap.size (fun _ => True) v (most R) ∧ Below w.heap.size w w' := by
  have H := Aside0.mk h
  have x0 := h.2.1
  have hp : 0 < R.length := by have := hG.1; omega
  have hp16 : R.length ≤ 16 := hG.2.1
  have HG := Aside0.mk hG
  clear h hG
  go_enter Try.func62, Try.ntmps62
  go_wp2_with (first | (go_at_call 46; (with_reducible refine (row_is _ 0 H.out HG.out).mono ?_); rintro e w1 ⟨v, rfl, hr, hb⟩; have HR := Aside0.mk hr; have B_w1 := Aside0.mk hb; have x1 := pw_cell_below hb x0; clear hr hb x0))
  have HR0 : Aside0 (Kd.R KI 3 w1 w.heap.size (fun _ => True) v (cum mx R 0)) := ⟨by have := HR.out; unfold rowOf at this; rw [if_pos ⟨by omega, by omega⟩] at this; exact this⟩
  clear HR
  go_loopw [5, 17] (fun vv i wr => ∃ k : Nat, k ≤ R.length ∧ i = .int .i64 k ∧ Aside0 (Kd.R KI 3 wr w.heap.size (fun _ => True) vv (cum mx R k)) ∧ Aside0 (Below w.heap.size w wr)) (fun _ i _ => R.length - (intOf i).toNat)
  case atStart => exact ⟨0, by omega, rfl, HR0, B_w1⟩
  case round =>
    clear HR0 B_w1 x1
    obtain ⟨k, hk, rfl, HR, B_wr⟩ := hrel
    have hk2 := H.out.below B_wr.out
    have x0 := hk2.2.1
    by_cases hlt : k < R.length
    · have hlt2 : (k : Int) < (R.length : Int) := by omega
      have hk0 : (0 : Int) ≤ (k : Int) := by omega
      obtain ⟨ad, Ak, ck, rfl, xk, hck, hCk⟩ := at_row hk2.2.2 k hlt
      obtain ⟨Av, cv, hvv, hcv, hCv⟩ := Kd.R_reads HR.out
      subst hvv
      have HCk := Aside0.mk hCk
      have Hck := Aside0.mk hck
      have HCv := Aside0.mk hCv
      have Hcv := Aside0.mk hcv
      have HN : Aside0 (vec_Vec_Join.f (cum mx R k) (rd_L1 R (k : Int)) = some (cum mx R (k + 1), 0)) := ⟨by rw [join_is, if_pos (cum_T mx_or HG.out k hlt)]; rfl⟩
      clear hCk hck hCv hcv hk2
      go_wp2_with (first | (go_at_call 59; (with_reducible refine (vec_Vec_Join.at _ _ _ _ _ _ _ _ _ _ _ HCv.out Hcv.out HCk.out Hck.out HN.out).mono ?_); rintro e w2 ⟨v2, rfl, hr, hb⟩; have HR2 := Aside0.mk hr; have HB2 := Aside0.mk hb; clear hr hb))
      go_roundw
      case rel => exact ⟨k + 1, by omega, by go_num, ⟨Kd.R_lower HR2.out B_wr.out.size⟩, ⟨below_step B_wr.out HB2.out⟩⟩
      case measure => simp [intOf]; omega
    · obtain rfl : k = R.length := by omega
      clear hk2
      go_wp2
      go_ret
      exact ⟨_, rfl, HR.out, B_wr.out⟩
theorem most_is {g c : Nat} {A : Option Addr} {R : List (List Int)} (w : World) (h : Fr 103 g A c R w) (hG : Good R) : Calls Try.prog 42 #[.pointer (some ⟨g, 0, none⟩)] w fun e w' => ∃ v : Value, e = .returned v ∧ Kd.R KI 3 w' w.heap.size (fun _ => True) v (most R) ∧ Below w.heap.size w w' := by
  have H := Aside0.mk h
  have HG := Aside0.mk hG
  clear h hG
  go_enter Try.func42, Try.ntmps42
  go_wp2_with (first | (go_at_call 62; (with_reducible refine (all_join _ H.out HG.out).mono ?_); rintro e w1 ⟨v, rfl, hr, hb⟩; have HR := Aside0.mk hr; have B_w1 := Aside0.mk hb; clear hr hb))
  go_ret
  exact ⟨v, rfl, HR.out, B_w1.out⟩
theorem most_nil (w : World) : Calls Try.prog 42 #[.pointer none] w fun e w' => e = .returned (.slice none 0 0) ∧ w = w' := by
  have hnil : Calls Try.prog 62 #[.pointer none, .func (.func 59) #[] #[]] w fun e w' => e = .returned (.slice none 0 0) ∧ w = w' := by
    go_enter Try.func62, Try.ntmps62
    go_wp2
    go_ret
    exact ⟨rfl, rfl⟩
  have HN := Aside0.mk hnil
  clear hnil
  go_enter Try.func42, Try.ntmps42
  go_wp2_with (first | (go_at_call 62; (with_reducible refine (HN.out).mono ?_); rintro e w' ⟨rfl, rfl⟩))
  go_ret
  exact ⟨rfl, rfl⟩
set_option maxHeartbeats 2000000 in
set_option maxRecDepth 100000 in
theorem refstable_is {g c : Nat} {A : Option Addr} {R : List (List Int)} (w : World) (h : Fr 105 g A c R w) (hG : Good R) : Calls Try.prog 41 #[.pointer (some ⟨g, 0, none⟩)] w fun e w' => ∃ A1 c1, e = .returned (.slice A1 (stable R).length c1) ∧ (stable R).length ≤ c1 ∧ KI.C w' A1 (stable R).length (stable R) ∧ Below w.heap.size w w' := by
  have H := Aside0.mk h
  have x0 := h.2.1
  have hp : 0 < R.length := by have := hG.1; omega
  have hp16 : R.length ≤ 16 := hG.2.1
  have HG := Aside0.mk hG
  obtain ⟨ad, A0, c0, rfl, xz, hc0, hC0⟩ := at_row h.2.2 0 hp
  rw [← cum_one mn_or R] at xz hc0 hC0
  rw [Addr.add_zero'] at xz
  have HC0 := Aside0.mk hC0
  have Hc0 := Aside0.mk hc0
  have hp2 : (0 : Int) < (R.length : Int) := by omega
  clear h hG hC0 hc0
  go_enter Try.func41, Try.ntmps41
  go_wp2
  go_loopw [3, 4] (fun vv i wr => ∃ k : Nat, 1 ≤ k ∧ k ≤ R.length ∧ i = .int .i64 k ∧ ∃ Av cv, vv = .slice Av (cum mn R k).length cv ∧ Aside0 ((cum mn R k).length ≤ cv) ∧ Aside0 (KI.C wr Av (cum mn R k).length (cum mn R k)) ∧ Aside0 (Below w.heap.size w wr)) (fun _ i _ => R.length - (intOf i).toNat)
  case atStart => exact ⟨1, by omega, by omega, rfl, A0, c0, rfl, Hc0, HC0, ⟨Below.refl _ _⟩⟩
  case round =>
    clear HC0 Hc0 x0 xz
    obtain ⟨k, hk1, hk, rfl, Av, cv, rfl, Hcv, HCv, B_wr⟩ := hrel
    have hk2 := H.out.below B_wr.out
    have x0 := hk2.2.1
    by_cases hlt : k < R.length
    · have hlt2 : (k : Int) < (R.length : Int) := by omega
      have hk0 : (0 : Int) ≤ (k : Int) := by omega
      obtain ⟨ad', Ak, ck, hA, xk, hck, hCk⟩ := at_row hk2.2.2 k hlt
      injection hA with hA
      subst hA
      have HCk := Aside0.mk hCk
      have Hck := Aside0.mk hck
      have hlen := cum_T mn_or HG.out k hlt
      have HN : Aside0 (duetref06_Meet.f 3000 (cum mn R k) (rd_L1 R (k : Int)) = some (cum mn R (k + 1), 0)) := ⟨by rw [refmeet_is _ _ _ (by have := hlen.2.1.2.1; omega) (by have := hlen.2.2.2.1; omega) (Nat.le_refl _), if_pos hlen]; rfl⟩
      clear hCk hck hk2 hlen
      go_wp2_with (first | (go_at_call 64; (with_reducible refine (duetref06_Meet.at 3000 _ _ _ _ _ _ _ _ _ _ _ HCv.out Hcv.out HCk.out Hck.out HN.out).mono ?_); rintro e w2 ⟨v2, rfl, hr, hb⟩; have HR2 := Aside0.mk hr; have HB2 := Aside0.mk hb; clear hr hb))
      obtain ⟨A2, c2, hv2, hc2, hC2⟩ := Kd.R_reads HR2.out
      subst hv2
      have HC2 := Aside0.mk hC2
      have Hc2 := Aside0.mk hc2
      clear hC2 hc2
      go_roundw
      case rel => exact ⟨k + 1, by omega, by omega, by go_num, A2, c2, rfl, Hc2, HC2, ⟨below_step B_wr.out HB2.out⟩⟩
      case measure => simp [intOf]; omega
    · obtain rfl : k = R.length := by omega
      clear hk2
      go_wp2
      go_ret
      exact ⟨Av, cv, rfl, Hcv.out, HCv.out, B_wr.out⟩
set_option maxHeartbeats 2000000 in
set_option maxRecDepth 100000 in
theorem refmost_is {g c : Nat} {A : Option Addr} {R : List (List Int)} (w : World) (h : Fr 105 g A c R w) (hG : Good R) : Calls Try.prog 43 #[.pointer (some ⟨g, 0, none⟩)] w fun e w' => ∃ A1 c1, e = .returned (.slice A1 (most R).length c1) ∧ (most R).length ≤ c1 ∧ KI.C w' A1 (most R).length (most R) ∧ Below w.heap.size w w' := by
  have H := Aside0.mk h
  have x0 := h.2.1
  have hp : 0 < R.length := by have := hG.1; omega
  have hp16 : R.length ≤ 16 := hG.2.1
  have HG := Aside0.mk hG
  obtain ⟨ad, A0, c0, rfl, xz, hc0, hC0⟩ := at_row h.2.2 0 hp
  rw [← cum_one mx_or R] at xz hc0 hC0
  rw [Addr.add_zero'] at xz
  have HC0 := Aside0.mk hC0
  have Hc0 := Aside0.mk hc0
  have hp2 : (0 : Int) < (R.length : Int) := by omega
  clear h hG hC0 hc0
  go_enter Try.func43, Try.ntmps43
  go_wp2
  go_loopw [3, 4] (fun vv i wr => ∃ k : Nat, 1 ≤ k ∧ k ≤ R.length ∧ i = .int .i64 k ∧ ∃ Av cv, vv = .slice Av (cum mx R k).length cv ∧ Aside0 ((cum mx R k).length ≤ cv) ∧ Aside0 (KI.C wr Av (cum mx R k).length (cum mx R k)) ∧ Aside0 (Below w.heap.size w wr)) (fun _ i _ => R.length - (intOf i).toNat)
  case atStart => exact ⟨1, by omega, by omega, rfl, A0, c0, rfl, Hc0, HC0, ⟨Below.refl _ _⟩⟩
  case round =>
    clear HC0 Hc0 x0 xz
    obtain ⟨k, hk1, hk, rfl, Av, cv, rfl, Hcv, HCv, B_wr⟩ := hrel
    have hk2 := H.out.below B_wr.out
    have x0 := hk2.2.1
    by_cases hlt : k < R.length
    · have hlt2 : (k : Int) < (R.length : Int) := by omega
      have hk0 : (0 : Int) ≤ (k : Int) := by omega
      obtain ⟨ad', Ak, ck, hA, xk, hck, hCk⟩ := at_row hk2.2.2 k hlt
      injection hA with hA
      subst hA
      have HCk := Aside0.mk hCk
      have Hck := Aside0.mk hck
      have hlen := cum_T mx_or HG.out k hlt
      have HN : Aside0 (duetref06_Join.f 3000 (cum mx R k) (rd_L1 R (k : Int)) = some (cum mx R (k + 1), 0)) := ⟨by rw [refjoin_is _ _ _ (by have := hlen.2.1.2.1; omega) (by have := hlen.2.2.2.1; omega) (Nat.le_refl _), if_pos hlen]; rfl⟩
      clear hCk hck hk2 hlen
      go_wp2_with (first | (go_at_call 61; (with_reducible refine (duetref06_Join.at 3000 _ _ _ _ _ _ _ _ _ _ _ HCv.out Hcv.out HCk.out Hck.out HN.out).mono ?_); rintro e w2 ⟨v2, rfl, hr, hb⟩; have HR2 := Aside0.mk hr; have HB2 := Aside0.mk hb; clear hr hb))
      obtain ⟨A2, c2, hv2, hc2, hC2⟩ := Kd.R_reads HR2.out
      subst hv2
      have HC2 := Aside0.mk hC2
      have Hc2 := Aside0.mk hc2
      clear hC2 hc2
      go_roundw
      case rel => exact ⟨k + 1, by omega, by omega, by go_num, A2, c2, rfl, Hc2, HC2, ⟨below_step B_wr.out HB2.out⟩⟩
      case measure => simp [intOf]; omega
    · obtain rfl : k = R.length := by omega
      clear hk2
      go_wp2
      go_ret
      exact ⟨Av, cv, rfl, Hcv.out, HCv.out, B_wr.out⟩
end Go.Proofs.Ytiplkmmppihilaa.FrontA
