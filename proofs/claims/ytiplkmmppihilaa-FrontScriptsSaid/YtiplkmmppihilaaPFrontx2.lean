/- Functions that the law reaches, each as a plain Lean function with the proof that the call does what it says. Conditions: none beyond those that each theorem states. Written by a program for this claim. -/
import Derived.Test.YtiplkmmppihilaaPFrontx0
import Derived.Test.YtiplkmmppihilaaPFrontx1
namespace Go.Proofs.Ytiplkmmppihilaa.PFront
open Go.RowKit Go.Proofs.YtiplkmmppihilaaW.PrintWords Go.Proofs.YtiplkmmppihilaaW.PrintLast Go.Proofs.YtiplkmmppihilaaW.PrintMore
attribute [local go_sem] max2_int min2_int max_two min_two max_three min_three max_four min_four   -- for this text's walks alone
set_option linter.unusedVariables false
set_option linter.unusedSimpArgs false

/-! ### vec_Vec_Join: function 59 -/
def vec_Vec_Join.f (l0 l1 : List Int) : Option (List Int × Int) := (vec_Vec_goes.f l0 l1).bind fun b => if b = true then (if l0.length = 0 then none else if l0.length = l1.length then (if l0.length ≤ 1000 then some (List.zipWith mx l0 l1, 0) else none) else none) else some ([], 1)
set_option maxRecDepth 100000 in
theorem vec_Vec_Join.by1 (a b : Int) (w : World) : Calls Try.prog 79 #[.int .i64 a, .int .i64 b] w fun e w' => e = .returned (.int .i64 (mx a b)) ∧ w = w' := by
  by_cases hab : a < b
  · have e : mx a b = b := by unfold mx; rw [if_pos hab]
    rw [e]
    go_enter Try.func79, Try.ntmps79
    go_wp2
    go_ret
    exact ⟨rfl, rfl⟩
  · have e : mx a b = a := by unfold mx; rw [if_neg hab]
    rw [e]
    go_enter Try.func79, Try.ntmps79
    go_wp2
    go_ret
    exact ⟨rfl, rfl⟩
def vec_Vec_Join.zs (l0 l1 : List Int) (j : Int) : List Int := List.zipWith mx (l0.take j.toNat) (l1.take j.toNat) ++ List.replicate (l0.length - j.toNat) 0
theorem vec_Vec_Join.zs_len (l0 l1 : List Int) (j : Int) (h : l0.length = l1.length) (h1 : j ≤ l0.length) : (vec_Vec_Join.zs l0 l1 j).length = l0.length := by
  simp [vec_Vec_Join.zs]; omega
theorem vec_Vec_Join.zs_step (l0 l1 : List Int) (j : Int) (h : l0.length = l1.length) (h0 : 0 ≤ j) (h1 : j < l0.length) : (vec_Vec_Join.zs l0 l1 j).set j.toNat (mx (rd l0 j) (rd l1 j)) = vec_Vec_Join.zs l0 l1 (j + 1) := by
  obtain ⟨k, rfl⟩ := Int.eq_ofNat_of_zero_le h0
  have e1 : ((k : Int) + 1).toNat = k + 1 := by omega
  have hk : k < l0.length := by omega
  have hk1 : k < l1.length := by omega
  simp only [vec_Vec_Join.zs, Int.toNat_natCast, e1, rd]
  apply List.ext_getElem
  · simp; omega
  · intro i h2 h3
    simp only [List.length_set, List.length_append, List.length_zipWith, List.length_take, List.length_replicate] at h2
    rw [List.getElem_set]
    by_cases hi : k = i
    · subst hi
      rw [if_pos rfl, List.getElem_append_left (by simp; omega)]
      simp [List.getD_eq_getElem?_getD, List.getElem?_eq_getElem hk, List.getElem?_eq_getElem hk1]
    · rw [if_neg hi]
      by_cases hlt : i < k
      · rw [List.getElem_append_left (by simp; omega), List.getElem_append_left (by simp; omega)]
        simp
      · rw [List.getElem_append_right (by simp; omega), List.getElem_append_right (by simp; omega)]
        simp
set_option maxHeartbeats 2000000 in
set_option maxRecDepth 100000 in
theorem vec_Vec_Join.zip (A0 : Option Addr) (c0 : Nat) (l0 : List Int) (A1 : Option Addr) (c1 : Nat) (l1 : List Int) (w : World) (hr0 : Kd.C (Kd.int .i64) w A0 l0.length l0) (hc0 : l0.length ≤ c0) (hr1 : Kd.C (Kd.int .i64) w A1 l1.length l1) (hc1 : l1.length ≤ c1)
    (hlen : l0.length = l1.length) (hpos : 0 < l0.length) (hlim : l0.length ≤ 1000) :
    Calls Try.prog 78 #[.slice A0 l0.length c0, .slice A1 l1.length c1, .func (.func 79) #[] #[]] w fun e w' => ∃ v0_ : Value, e = .returned v0_ ∧ Kd.R (Kd.int .i64) 3 w' w.heap.size (fun _ => True) v0_ (List.zipWith mx l0 l1) ∧ Below w.heap.size w w' := by
  have HR0 := Aside0.mk hr0
  have HR1 := Aside0.mk hr1
  have HB := Aside0.mk (Below.refl w.heap.size w)
  have HLEN := Aside0.mk hlen
  have HLIM := Aside0.mk hlim
  clear hr0 hr1 hlen
  have b0 : (0 : Int) ≤ (l0.length : Int) := by omega
  go_enter Try.func78, Try.ntmps78
  go_wp2_with (first | ((with_reducible refine gate_dst (N := 11) rfl ?_); refine Kd.R_make (Kd.int .i64) w.heap.size 3 rfl (N := 11) rfl 50 _ _ rfl (l0.length : Int) rfl rfl Try.underlying50 (.int .i64 0) 8 info3 rfl (by decide) (by omega) 0 (ok := fun _ => True) (okp := fun _ => True) rfl (fun _ hk => hk) trivial (by omega) (by have := HLIM.out; omega) (Below.refl _ _) (Nat.le_refl _) ?_; intro v7 w7 ho7 hb7 hg7 hn7; have HO7 := Aside0.mk ho7; have HB7 := Aside0.mk hb7; clear ho7 hb7 hg7 hn7))
  have hz0 : Kd.R (Kd.int .i64) 3 w7 w.heap.size (fun _ => True) v7 (vec_Vec_Join.zs l0 l1 0) := by
    have := HO7.out
    simpa [vec_Vec_Join.zs] using this
  obtain ⟨g, cap, rfl, hge, hlt, _⟩ := Kd.R_form hz0 (by rw [vec_Vec_Join.zs_len l0 l1 0 HLEN.out (by omega)]; exact hpos)
  rw [vec_Vec_Join.zs_len l0 l1 0 HLEN.out (by omega)] at hz0 ⊢
  have HZ := Aside0.mk hz0
  clear hz0 HO7
  go_loopw [8, 14] (fun _ x wr => ∃ j : Int, 0 ≤ j ∧ j ≤ (l0.length : Int) ∧ x = .int .i64 j ∧ Aside0 (Kd.R (Kd.int .i64) 3 wr w.heap.size (fun _ => True) (.slice (some ⟨g, 0, none⟩) l0.length cap) (vec_Vec_Join.zs l0 l1 j)) ∧ Aside0 (Below w.heap.size w wr)) (fun _ x _ => l0.length - (intOf x).toNat)
  case atStart => exact ⟨0, by omega, by omega, rfl, HZ, HB7⟩
  case round =>
    obtain ⟨j, hj1, hj2, rfl, HZ, HB7⟩ := hrel
    by_cases hlt : j < (l0.length : Int)
    · obtain ⟨ad0, ead0, hx0⟩ := Kd.at_int (Kd.C_below HR0.out HB7.out) j hj1 hlt
      obtain ⟨ad1, ead1, hx1⟩ := Kd.at_int (Kd.C_below HR1.out HB7.out) j hj1 (by have := HLEN.out; omega)
      cases ead0
      cases ead1
      obtain ⟨hc, hf⟩ := Kd.R_celln 0 HZ.out j hj1 hlt
      have HP := Aside0.mk (Kd.R_putg HZ.out j (mx (rd l0 j) (rd l1 j)))
      have t3 : decide (j < (l0.length : Int)) = true := decide_eq_true hlt
      have t4 : (0 ≤ j) = True := eq_true (by omega)
      have t5 : (j < (l0.length : Int)) = True := eq_true hlt
      have t6 : j + 1 ≤ (l0.length : Int) := by omega
      have t7 : (j < (l1.length : Int)) = True := eq_true (by have := HLEN.out; omega)
      clear hlt
      go_wp2
      refine wp_region_still_tail 13 (by kernel_rfl) (by kernel_rfl) ?_
      simp only [List.take_succ_cons, List.take_zero, List.drop_succ_cons, List.drop_zero]
      change wpStill _ _ wr.drew _ _ _
      still_step
      still_step
      still_step
      still_step
      still_step
      still_step
      still_step
      still_step
      still_step
      still_step
      still_step
      refine wpStill_step (fun K hK => ?_)
      go_simp
      refine ⟨_, (vec_Vec_Join.by1 _ _ _).mono fun e w' ⟨he, hw⟩ => ⟨he, hw.symm⟩, hK _ ?_⟩
      clear hK K
      still_step
      refine wpStill_nil ?_
      change wpList _ _ _ _ _ wr.drew
      have HP2 := HP.out
      rw [vec_Vec_Join.zs_step l0 l1 j HLEN.out hj1 (by omega)] at HP2
      have HQ := Aside0.mk HP2
      clear HP2 HP
      go_wp2
      go_roundw
      case rel => exact ⟨j + 1, by omega, t6, rfl, ⟨Kd.R_drew HQ.out.1⟩, ⟨below_drew (below_set HB7.out hge)⟩⟩
      case measure => simp only [intOf]; omega
    · have t3 : decide (j < (l0.length : Int)) = false := decide_eq_false hlt
      have HE := Aside0.mk (show Kd.R (Kd.int .i64) 3 wr w.heap.size (fun _ => True) (.slice (some ⟨g, 0, none⟩) l0.length cap) (List.zipWith mx l0 l1) by
        have h1 := HZ.out
        have hj : j.toNat = l0.length := by omega
        have hl := HLEN.out
        have e : vec_Vec_Join.zs l0 l1 j = List.zipWith mx l0 l1 := by
          unfold vec_Vec_Join.zs
          rw [hj, List.take_of_length_le (Nat.le_refl _), List.take_of_length_le (by omega), Nat.sub_self]
          simp
        rwa [e] at h1)
      clear hlt
      go_wp2
      go_ret
      exact ⟨_, rfl, HE.out, HB7.out⟩
set_option maxHeartbeats 2000000 in
set_option maxRecDepth 100000 in
theorem vec_Vec_Join.calls (A0 : Option Addr) (c0 : Nat) (l0 : List Int) (A1 : Option Addr) (c1 : Nat) (l1 : List Int) (r1 : List Int) (r2 : Int) (w : World) (hr0 : Kd.C (Kd.int .i64) w A0 l0.length l0) (hc0 : l0.length ≤ c0) (hr1 : Kd.C (Kd.int .i64) w A1 l1.length l1) (hc1 : l1.length ≤ c1) (h : vec_Vec_Join.f l0 l1 = some (r1, r2)) :
    Calls Try.prog 59 #[.slice A0 l0.length c0, .slice A1 l1.length c1] w fun e w' => ∃ v0_ : Value, e = .returned (.tuple #[v0_, .int .i64 r2]) ∧ Kd.R (Kd.int .i64) 3 w' w.heap.size (fun _ => True) v0_ r1 ∧ Below w.heap.size w w' := by
  have HR0 := Aside0.mk hr0
  have HR1 := Aside0.mk hr1
  clear hr0 hr1
  unfold vec_Vec_Join.f at h
  obtain ⟨b, hb, h⟩ := Option.bind_eq_some_iff.mp h
  have HG := Aside0.mk hb
  clear hb
  cases b with
  | false =>
    simp only [Bool.false_eq_true, if_false, Option.some.injEq, Prod.mk.injEq] at h
    obtain ⟨rfl, rfl⟩ := h
    go_enter Try.func59, Try.ntmps59
    go_wp2_with (go_at_call 77; (with_reducible refine (vec_Vec_goes.calls _ _ l0 _ _ l1 false _ ?s1 ?s2 ?s3 ?s4 HG.out).mono ?_); (case s1 => exact HR0.out); (case s2 => exact hc0); (case s3 => exact HR1.out); (case s4 => exact hc1); rintro e w' ⟨rfl, ⟨nd, rfl⟩⟩)
    go_ret2
    exact ⟨_, rfl, Kd.R_nil _ _ _ _ _, pw_below_drewN (Below.refl _ _) _⟩
  | true =>
    rw [if_pos rfl] at h
    split at h
    · cases h
    rename_i hp
    split at h
    · rename_i hl
      split at h
      · rename_i hm
        simp only [Option.some.injEq, Prod.mk.injEq] at h
        obtain ⟨rfl, rfl⟩ := h
        have HL := Aside0.mk hl
        have HM := Aside0.mk hm
        have HP := Aside0.mk hp
        clear hl hm hp
        go_enter Try.func59, Try.ntmps59
        go_wp2_with (first | (go_at_call 77; (with_reducible refine (vec_Vec_goes.calls _ _ l0 _ _ l1 true _ ?s1 ?s2 ?s3 ?s4 HG.out).mono ?_); (case s1 => exact HR0.out); (case s2 => exact hc0); (case s3 => exact HR1.out); (case s4 => exact hc1); rintro e w' ⟨rfl, ⟨nd, rfl⟩⟩) | (go_at_call 78; (refine (vec_Vec_Join.zip _ _ l0 _ _ l1 _ ?s1 ?s2 ?s3 ?s4 HL.out ?s5 HM.out).mono ?_); (case s1 => exact Kd.C_drewN HR0.out _); (case s2 => exact hc0); (case s3 => exact Kd.C_drewN HR1.out _); (case s4 => exact hc1); (case s5 => have := HP.out; omega); rintro e w' ⟨v5, rfl, ho5, hb5⟩; have HO5 := Aside0.mk ho5; have HB5 := Aside0.mk hb5; clear ho5 hb5))
        go_ret2
        exact ⟨_, rfl, HO5.out, below_step (pw_below_drewN (Below.refl _ _) nd) HB5.out⟩
      · cases h
    · cases h
theorem vec_Vec_Join.at (A0 : Option Addr) (c0 : Nat) (n0 : Nat) (l0 : List Int) (A1 : Option Addr) (c1 : Nat) (n1 : Nat) (l1 : List Int) (r1 : List Int) (r2 : Int) (w : World) (hr0 : Kd.C (Kd.int .i64) w A0 n0 l0) (hc0 : n0 ≤ c0) (hr1 : Kd.C (Kd.int .i64) w A1 n1 l1) (hc1 : n1 ≤ c1) (h : vec_Vec_Join.f l0 l1 = some (r1, r2)) :
    Calls Try.prog 59 #[.slice A0 n0 c0, .slice A1 n1 c1] w fun e w' => ∃ v0_ : Value, e = .returned (.tuple #[v0_, .int .i64 r2]) ∧ Kd.R (Kd.int .i64) 3 w' w.heap.size (fun _ => True) v0_ r1 ∧ Below w.heap.size w w' := by
  obtain rfl : l0.length = n0 := Kd.C_len hr0
  obtain rfl : l1.length = n1 := Kd.C_len hr1
  exact vec_Vec_Join.calls A0 c0 l0 A1 c1 l1 r1 r2 w hr0 hc0 hr1 hc1 h


-- NOT PRINTED: function 38 (front_Front_Hear)

/-! ### vec_Vec_int_66: function 66 -/
def vec_Vec_int_66.f (l0 : List Int) : Option (List Int) := if l0.length < 17592186044416 then some l0 else none
set_option maxHeartbeats 1000000 in
set_option maxRecDepth 100000 in
theorem vec_Vec_int_66.calls (A0 : Option Addr) (c0 : Nat) (l0 : List Int) (r : List Int) (w : World) (hr0 : Kd.C (Kd.int .i64) w A0 l0.length l0) (hc0 : l0.length ≤ c0) (h : vec_Vec_int_66.f l0 = some r) :
    Calls Try.prog 66 #[.slice A0 l0.length c0] w fun e w' => ∃ v0_ : Value, e = .returned (v0_) ∧ Kd.R (Kd.int .i64) 3 w' w.heap.size (fun _ => True) v0_ r ∧ Below w.heap.size w w' := by
  have HR0 := Aside0.mk hr0
  clear hr0
  have HB := Aside0.mk (Below.refl w.heap.size w)
  have hlim : l0.length < 17592186044416 := by
    unfold vec_Vec_int_66.f at h
    split at h
    · assumption
    · cases h
  unfold vec_Vec_int_66.f at h
  rw [if_pos hlim] at h
  have HL := Aside0.mk hlim
  clear hlim
  obtain rfl := Option.some.inj h
  clear h
  have heq := fun W n c => Lib.run_eql_slice_nil (P := Try.prog) W 76 3 A0 n c 0 0 Try.underlying76
  have hun := Try.underlying76
  cases A0 with
  | none =>
    have h0 : l0 = [] := by
      rcases Nat.eq_zero_or_pos l0.length with h | h
      · exact List.eq_nil_of_length_eq_zero h
      · obtain ⟨ad, e, _⟩ := Kd.at_int HR0.out 0 (by omega) (by omega)
        cases e
    subst h0
    go_enter Try.func66, Try.ntmps66
    go_wp2
    go_ret
    exact ⟨_, rfl, Kd.R_nil _ _ _ _ _, Below.refl _ _⟩
  | some ad0 =>
    go_enter Try.func66, Try.ntmps66
    go_wp2_with (first | ((with_reducible refine gate_dst (N := 5) rfl ?_); refine Kd.R_lit (Kd.int .i64) w.heap.size 3 ?hg (N := 5) ?hd (xs := ([] : List Int)) (inner := []) (ok := fun _ => True) (okp := fun _ => True) ?hr ?hp (fun _ hk => hk) trivial (Below.refl _ _) (Nat.le_refl _) (by simp) ?_; (case hd => rfl); (case hg => rfl); (case hr => first | (go_simp; done) | (go_simp; rfl)); (case hp => exact Reps.none _ _); intro v5 w5 ho5 hb5 _ _; have HO5 := Aside0.mk ho5; have HB5 := Aside0.mk hb5; clear ho5 hb5) | ((with_reducible refine gate_builtin (b := .append) (xs := #[.tmp 5, .tmp 6]) rfl ?_); at_builtin; refine Kd.R_append_rows (Kd.int .i64) (w0 := w) w.heap.size rfl (.tmp 5) (.tmp 6) 76 3 (.int .i64 0) 8 rfl Try.underlying76 info3 rfl (by decide) (by omega) v5 ([] : List Int) l0 _ _ _ (fun _ => True) (fun _ => False) rfl rfl ?aO ?aR (fun _ _ h => h) (fun _ h => h.elim) ?aF ?aB ?aS ?aL ?_; (case aR => exact Kd.C_below HR0.out HB5.out); (case aB => exact HB5.out); (case aF => exact (fun _ _ => trivial)); (case aO => exact HO5.out); (case aS => exact HB5.out.size); (case aL => have := HL.out; simp only [List.length_nil]; omega); intro v7 w7 ho7 hb7 _ _; have HO7 := Aside0.mk ho7; have HB7 := Aside0.mk hb7; clear ho7 hb7))
    go_ret
    exact ⟨v7, rfl, HO7.out, HB7.out⟩
theorem vec_Vec_int_66.at (A0 : Option Addr) (c0 : Nat) (n0 : Nat) (l0 : List Int) (r : List Int) (w : World) (hr0 : Kd.C (Kd.int .i64) w A0 n0 l0) (hc0 : n0 ≤ c0) (h : vec_Vec_int_66.f l0 = some r) :
    Calls Try.prog 66 #[.slice A0 n0 c0] w fun e w' => ∃ v0_ : Value, e = .returned (v0_) ∧ Kd.R (Kd.int .i64) 3 w' w.heap.size (fun _ => True) v0_ r ∧ Below w.heap.size w w' := by
  obtain rfl : l0.length = n0 := Kd.C_len hr0
  exact vec_Vec_int_66.calls A0 c0 l0 r w hr0 hc0 h


-- NOT PRINTED: function 46 (front_Front_Row)

-- NOT PRINTED: function 62 (front_Front_all)

/-! ### vec_Vec_Meet: function 63 -/
def vec_Vec_Meet.f (l0 l1 : List Int) : Option (List Int × Int) := (vec_Vec_goes.f l0 l1).bind fun b => if b = true then (if l0.length = 0 then none else if l0.length = l1.length then (if l0.length ≤ 1000 then some (List.zipWith mn l0 l1, 0) else none) else none) else some ([], 1)
set_option maxRecDepth 100000 in
theorem vec_Vec_Meet.by1 (a b : Int) (w : World) : Calls Try.prog 81 #[.int .i64 a, .int .i64 b] w fun e w' => e = .returned (.int .i64 (mn a b)) ∧ w = w' := by
  by_cases hab : b < a
  · have e : mn a b = b := by unfold mn; rw [if_pos hab]
    rw [e]
    go_enter Try.func81, Try.ntmps81
    go_wp2
    go_ret
    exact ⟨rfl, rfl⟩
  · have e : mn a b = a := by unfold mn; rw [if_neg hab]
    rw [e]
    go_enter Try.func81, Try.ntmps81
    go_wp2
    go_ret
    exact ⟨rfl, rfl⟩
def vec_Vec_Meet.zs (l0 l1 : List Int) (j : Int) : List Int := List.zipWith mn (l0.take j.toNat) (l1.take j.toNat) ++ List.replicate (l0.length - j.toNat) 0
theorem vec_Vec_Meet.zs_len (l0 l1 : List Int) (j : Int) (h : l0.length = l1.length) (h1 : j ≤ l0.length) : (vec_Vec_Meet.zs l0 l1 j).length = l0.length := by
  simp [vec_Vec_Meet.zs]; omega
theorem vec_Vec_Meet.zs_step (l0 l1 : List Int) (j : Int) (h : l0.length = l1.length) (h0 : 0 ≤ j) (h1 : j < l0.length) : (vec_Vec_Meet.zs l0 l1 j).set j.toNat (mn (rd l0 j) (rd l1 j)) = vec_Vec_Meet.zs l0 l1 (j + 1) := by
  obtain ⟨k, rfl⟩ := Int.eq_ofNat_of_zero_le h0
  have e1 : ((k : Int) + 1).toNat = k + 1 := by omega
  have hk : k < l0.length := by omega
  have hk1 : k < l1.length := by omega
  simp only [vec_Vec_Meet.zs, Int.toNat_natCast, e1, rd]
  apply List.ext_getElem
  · simp; omega
  · intro i h2 h3
    simp only [List.length_set, List.length_append, List.length_zipWith, List.length_take, List.length_replicate] at h2
    rw [List.getElem_set]
    by_cases hi : k = i
    · subst hi
      rw [if_pos rfl, List.getElem_append_left (by simp; omega)]
      simp [List.getD_eq_getElem?_getD, List.getElem?_eq_getElem hk, List.getElem?_eq_getElem hk1]
    · rw [if_neg hi]
      by_cases hlt : i < k
      · rw [List.getElem_append_left (by simp; omega), List.getElem_append_left (by simp; omega)]
        simp
      · rw [List.getElem_append_right (by simp; omega), List.getElem_append_right (by simp; omega)]
        simp
set_option maxHeartbeats 2000000 in
set_option maxRecDepth 100000 in
theorem vec_Vec_Meet.zip (A0 : Option Addr) (c0 : Nat) (l0 : List Int) (A1 : Option Addr) (c1 : Nat) (l1 : List Int) (w : World) (hr0 : Kd.C (Kd.int .i64) w A0 l0.length l0) (hc0 : l0.length ≤ c0) (hr1 : Kd.C (Kd.int .i64) w A1 l1.length l1) (hc1 : l1.length ≤ c1)
    (hlen : l0.length = l1.length) (hpos : 0 < l0.length) (hlim : l0.length ≤ 1000) :
    Calls Try.prog 78 #[.slice A0 l0.length c0, .slice A1 l1.length c1, .func (.func 81) #[] #[]] w fun e w' => ∃ v0_ : Value, e = .returned v0_ ∧ Kd.R (Kd.int .i64) 3 w' w.heap.size (fun _ => True) v0_ (List.zipWith mn l0 l1) ∧ Below w.heap.size w w' := by
  have HR0 := Aside0.mk hr0
  have HR1 := Aside0.mk hr1
  have HB := Aside0.mk (Below.refl w.heap.size w)
  have HLEN := Aside0.mk hlen
  have HLIM := Aside0.mk hlim
  clear hr0 hr1 hlen
  have b0 : (0 : Int) ≤ (l0.length : Int) := by omega
  go_enter Try.func78, Try.ntmps78
  go_wp2_with (first | ((with_reducible refine gate_dst (N := 11) rfl ?_); refine Kd.R_make (Kd.int .i64) w.heap.size 3 rfl (N := 11) rfl 50 _ _ rfl (l0.length : Int) rfl rfl Try.underlying50 (.int .i64 0) 8 info3 rfl (by decide) (by omega) 0 (ok := fun _ => True) (okp := fun _ => True) rfl (fun _ hk => hk) trivial (by omega) (by have := HLIM.out; omega) (Below.refl _ _) (Nat.le_refl _) ?_; intro v7 w7 ho7 hb7 hg7 hn7; have HO7 := Aside0.mk ho7; have HB7 := Aside0.mk hb7; clear ho7 hb7 hg7 hn7))
  have hz0 : Kd.R (Kd.int .i64) 3 w7 w.heap.size (fun _ => True) v7 (vec_Vec_Meet.zs l0 l1 0) := by
    have := HO7.out
    simpa [vec_Vec_Meet.zs] using this
  obtain ⟨g, cap, rfl, hge, hlt, _⟩ := Kd.R_form hz0 (by rw [vec_Vec_Meet.zs_len l0 l1 0 HLEN.out (by omega)]; exact hpos)
  rw [vec_Vec_Meet.zs_len l0 l1 0 HLEN.out (by omega)] at hz0 ⊢
  have HZ := Aside0.mk hz0
  clear hz0 HO7
  go_loopw [8, 14] (fun _ x wr => ∃ j : Int, 0 ≤ j ∧ j ≤ (l0.length : Int) ∧ x = .int .i64 j ∧ Aside0 (Kd.R (Kd.int .i64) 3 wr w.heap.size (fun _ => True) (.slice (some ⟨g, 0, none⟩) l0.length cap) (vec_Vec_Meet.zs l0 l1 j)) ∧ Aside0 (Below w.heap.size w wr)) (fun _ x _ => l0.length - (intOf x).toNat)
  case atStart => exact ⟨0, by omega, by omega, rfl, HZ, HB7⟩
  case round =>
    obtain ⟨j, hj1, hj2, rfl, HZ, HB7⟩ := hrel
    by_cases hlt : j < (l0.length : Int)
    · obtain ⟨ad0, ead0, hx0⟩ := Kd.at_int (Kd.C_below HR0.out HB7.out) j hj1 hlt
      obtain ⟨ad1, ead1, hx1⟩ := Kd.at_int (Kd.C_below HR1.out HB7.out) j hj1 (by have := HLEN.out; omega)
      cases ead0
      cases ead1
      obtain ⟨hc, hf⟩ := Kd.R_celln 0 HZ.out j hj1 hlt
      have HP := Aside0.mk (Kd.R_putg HZ.out j (mn (rd l0 j) (rd l1 j)))
      have t3 : decide (j < (l0.length : Int)) = true := decide_eq_true hlt
      have t4 : (0 ≤ j) = True := eq_true (by omega)
      have t5 : (j < (l0.length : Int)) = True := eq_true hlt
      have t6 : j + 1 ≤ (l0.length : Int) := by omega
      have t7 : (j < (l1.length : Int)) = True := eq_true (by have := HLEN.out; omega)
      clear hlt
      go_wp2
      refine wp_region_still_tail 13 (by kernel_rfl) (by kernel_rfl) ?_
      simp only [List.take_succ_cons, List.take_zero, List.drop_succ_cons, List.drop_zero]
      change wpStill _ _ wr.drew _ _ _
      still_step
      still_step
      still_step
      still_step
      still_step
      still_step
      still_step
      still_step
      still_step
      still_step
      still_step
      refine wpStill_step (fun K hK => ?_)
      go_simp
      refine ⟨_, (vec_Vec_Meet.by1 _ _ _).mono fun e w' ⟨he, hw⟩ => ⟨he, hw.symm⟩, hK _ ?_⟩
      clear hK K
      still_step
      refine wpStill_nil ?_
      change wpList _ _ _ _ _ wr.drew
      have HP2 := HP.out
      rw [vec_Vec_Meet.zs_step l0 l1 j HLEN.out hj1 (by omega)] at HP2
      have HQ := Aside0.mk HP2
      clear HP2 HP
      go_wp2
      go_roundw
      case rel => exact ⟨j + 1, by omega, t6, rfl, ⟨Kd.R_drew HQ.out.1⟩, ⟨below_drew (below_set HB7.out hge)⟩⟩
      case measure => simp only [intOf]; omega
    · have t3 : decide (j < (l0.length : Int)) = false := decide_eq_false hlt
      have HE := Aside0.mk (show Kd.R (Kd.int .i64) 3 wr w.heap.size (fun _ => True) (.slice (some ⟨g, 0, none⟩) l0.length cap) (List.zipWith mn l0 l1) by
        have h1 := HZ.out
        have hj : j.toNat = l0.length := by omega
        have hl := HLEN.out
        have e : vec_Vec_Meet.zs l0 l1 j = List.zipWith mn l0 l1 := by
          unfold vec_Vec_Meet.zs
          rw [hj, List.take_of_length_le (Nat.le_refl _), List.take_of_length_le (by omega), Nat.sub_self]
          simp
        rwa [e] at h1)
      clear hlt
      go_wp2
      go_ret
      exact ⟨_, rfl, HE.out, HB7.out⟩
set_option maxHeartbeats 2000000 in
set_option maxRecDepth 100000 in
theorem vec_Vec_Meet.calls (A0 : Option Addr) (c0 : Nat) (l0 : List Int) (A1 : Option Addr) (c1 : Nat) (l1 : List Int) (r1 : List Int) (r2 : Int) (w : World) (hr0 : Kd.C (Kd.int .i64) w A0 l0.length l0) (hc0 : l0.length ≤ c0) (hr1 : Kd.C (Kd.int .i64) w A1 l1.length l1) (hc1 : l1.length ≤ c1) (h : vec_Vec_Meet.f l0 l1 = some (r1, r2)) :
    Calls Try.prog 63 #[.slice A0 l0.length c0, .slice A1 l1.length c1] w fun e w' => ∃ v0_ : Value, e = .returned (.tuple #[v0_, .int .i64 r2]) ∧ Kd.R (Kd.int .i64) 3 w' w.heap.size (fun _ => True) v0_ r1 ∧ Below w.heap.size w w' := by
  have HR0 := Aside0.mk hr0
  have HR1 := Aside0.mk hr1
  clear hr0 hr1
  unfold vec_Vec_Meet.f at h
  obtain ⟨b, hb, h⟩ := Option.bind_eq_some_iff.mp h
  have HG := Aside0.mk hb
  clear hb
  cases b with
  | false =>
    simp only [Bool.false_eq_true, if_false, Option.some.injEq, Prod.mk.injEq] at h
    obtain ⟨rfl, rfl⟩ := h
    go_enter Try.func63, Try.ntmps63
    go_wp2_with (go_at_call 77; (with_reducible refine (vec_Vec_goes.calls _ _ l0 _ _ l1 false _ ?s1 ?s2 ?s3 ?s4 HG.out).mono ?_); (case s1 => exact HR0.out); (case s2 => exact hc0); (case s3 => exact HR1.out); (case s4 => exact hc1); rintro e w' ⟨rfl, ⟨nd, rfl⟩⟩)
    go_ret2
    exact ⟨_, rfl, Kd.R_nil _ _ _ _ _, pw_below_drewN (Below.refl _ _) _⟩
  | true =>
    rw [if_pos rfl] at h
    split at h
    · cases h
    rename_i hp
    split at h
    · rename_i hl
      split at h
      · rename_i hm
        simp only [Option.some.injEq, Prod.mk.injEq] at h
        obtain ⟨rfl, rfl⟩ := h
        have HL := Aside0.mk hl
        have HM := Aside0.mk hm
        have HP := Aside0.mk hp
        clear hl hm hp
        go_enter Try.func63, Try.ntmps63
        go_wp2_with (first | (go_at_call 77; (with_reducible refine (vec_Vec_goes.calls _ _ l0 _ _ l1 true _ ?s1 ?s2 ?s3 ?s4 HG.out).mono ?_); (case s1 => exact HR0.out); (case s2 => exact hc0); (case s3 => exact HR1.out); (case s4 => exact hc1); rintro e w' ⟨rfl, ⟨nd, rfl⟩⟩) | (go_at_call 78; (refine (vec_Vec_Meet.zip _ _ l0 _ _ l1 _ ?s1 ?s2 ?s3 ?s4 HL.out ?s5 HM.out).mono ?_); (case s1 => exact Kd.C_drewN HR0.out _); (case s2 => exact hc0); (case s3 => exact Kd.C_drewN HR1.out _); (case s4 => exact hc1); (case s5 => have := HP.out; omega); rintro e w' ⟨v5, rfl, ho5, hb5⟩; have HO5 := Aside0.mk ho5; have HB5 := Aside0.mk hb5; clear ho5 hb5))
        go_ret2
        exact ⟨_, rfl, HO5.out, below_step (pw_below_drewN (Below.refl _ _) nd) HB5.out⟩
      · cases h
    · cases h
theorem vec_Vec_Meet.at (A0 : Option Addr) (c0 : Nat) (n0 : Nat) (l0 : List Int) (A1 : Option Addr) (c1 : Nat) (n1 : Nat) (l1 : List Int) (r1 : List Int) (r2 : Int) (w : World) (hr0 : Kd.C (Kd.int .i64) w A0 n0 l0) (hc0 : n0 ≤ c0) (hr1 : Kd.C (Kd.int .i64) w A1 n1 l1) (hc1 : n1 ≤ c1) (h : vec_Vec_Meet.f l0 l1 = some (r1, r2)) :
    Calls Try.prog 63 #[.slice A0 n0 c0, .slice A1 n1 c1] w fun e w' => ∃ v0_ : Value, e = .returned (.tuple #[v0_, .int .i64 r2]) ∧ Kd.R (Kd.int .i64) 3 w' w.heap.size (fun _ => True) v0_ r1 ∧ Below w.heap.size w w' := by
  obtain rfl : l0.length = n0 := Kd.C_len hr0
  obtain rfl : l1.length = n1 := Kd.C_len hr1
  exact vec_Vec_Meet.calls A0 c0 l0 A1 c1 l1 r1 r2 w hr0 hc0 hr1 hc1 h


-- NOT PRINTED: function 40 (front_Front_Stable)

-- NOT PRINTED: function 42 (front_Front_Most)

/-! ### vec_Vec_int_65: function 65 -/
def vec_Vec_int_65.l0 : Nat → List Int → List Int → Int → Int → Option (Bool)
  | 0, _, _, _, _ => none
  | k + 1, x0, x1, x12, x13 => if x13 < x12 then (if 0 ≤ x13 then (if x13 < (x0.length : Int) then (if x13 < (x1.length : Int) then (if (rd x0 x13) = (rd x1 x13) then (vec_Vec_int_65.l0 k x0 x1 x12 (wrap64 (x13 + 1))) else (some false)) else (none)) else (none)) else (none)) else (some true)
def vec_Vec_int_65.f (k : Nat) (l0 : List Int) (l1 : List Int) : Option (Bool) := if (l0.length : Int) = (l1.length : Int) then (vec_Vec_int_65.l0 k l0 l1 (l0.length : Int) 0) else (some false)
theorem vec_Vec_int_65.mono_l : ∀ k, (∀ y0 y1 y2 y3, LeO (vec_Vec_int_65.l0 k y0 y1 y2 y3) (vec_Vec_int_65.l0 (k + 1) y0 y1 y2 y3))
  | 0 => fun _ _ _ _ r h => by simp [vec_Vec_int_65.l0] at h
  | k + 1 => by
    have ih0 := vec_Vec_int_65.mono_l k
    · intro y0 y1 y2 y3
      unfold vec_Vec_int_65.l0
      repeat' first
      | (with_reducible exact ih0 _ _ _ _)
      | (with_reducible exact LeO.refl _)
      | (with_reducible exact LeO.none _)
      | (with_reducible refine LeO.ite ?_ ?_)
      | (with_reducible refine LeO.bind ?_ (fun _ => ?_))
      | exact ih0 _ _ _ _
      | exact LeO.none _
      | refine LeO.ite ?_ ?_
      | refine LeO.bind ?_ (fun _ => ?_)
theorem vec_Vec_int_65.mono : ∀ a0 a1 k, LeO (vec_Vec_int_65.f k a0 a1) (vec_Vec_int_65.f (k + 1) a0 a1) := by
  intro a0 a1 k
  have ih0 := vec_Vec_int_65.mono_l k
  unfold vec_Vec_int_65.f
  repeat' first
      | (with_reducible exact ih0 _ _ _ _)
      | (with_reducible exact LeO.refl _)
      | (with_reducible exact LeO.none _)
      | (with_reducible refine LeO.ite ?_ ?_)
      | (with_reducible refine LeO.bind ?_ (fun _ => ?_))
      | exact ih0 _ _ _ _
      | exact LeO.none _
      | refine LeO.ite ?_ ?_
      | refine LeO.bind ?_ (fun _ => ?_)
set_option maxHeartbeats 8000000 in
set_option maxRecDepth 100000 in
theorem vec_Vec_int_65.calls (k : Nat) (A0 : Option Addr) (c0 : Nat) (l0 : List Int) (A1 : Option Addr) (c1 : Nat) (l1 : List Int) (r : Bool) (w : World) (hr0 : Kd.C (Kd.int .i64) w A0 l0.length l0) (hc0 : l0.length ≤ c0) (hr1 : Kd.C (Kd.int .i64) w A1 l1.length l1) (hc1 : l1.length ≤ c1) (h : vec_Vec_int_65.f k l0 l1 = some r) :
    Calls Try.prog 65 #[.slice A0 l0.length c0, .slice A1 l1.length c1] w fun e w' => e = .returned (.bool r) ∧ Drawn0 w w' := by
  have HR0 := Aside0.mk hr0
  have HC0 := Aside0.mk hc0
  clear hr0 hc0
  have HR1 := Aside0.mk hr1
  have HC1 := Aside0.mk hc1
  clear hr1 hc1
  have H : (if (l0.length : Int) = (l1.length : Int) then (vec_Vec_int_65.l0 k l0 l1 (l0.length : Int) 0) else (some false)) = some r := h
  clear h
  by_cases c3 : (l0.length : Int) = (l1.length : Int)
  · rw [if_pos c3] at H
    have c3b0 : ((l0.length : Int) == (l1.length : Int)) = true := beq_iff_eq.mpr c3
    have c3b1 : ((l0.length : Int) != (l1.length : Int)) = false := bne_eq_false_iff_eq.mpr c3
    have c3b2 : (l0.length == l1.length) = true := by first | simpa using c3 | (simp at c3 ⊢; omega)
    clear c3
    have H' := Aside0.mk H
    clear H
    go_enter Try.func65, Try.ntmps65
    go_wp2
    repeat (go_quiet (fail); try go_wp2)
    go_loopg [13] k (fun kq v13 w' => ∃ (x13_1 : Int), v13 = .int .i64 x13_1 ∧ Aside0 (vec_Vec_int_65.l0 kq l0 l1 (l0.length : Int) x13_1 = some r) ∧ Aside0 (kq ≤ k) ∧ Drawn0 w w')
    case atStart => exact ⟨(0), (by first | rfl | (simp; done) | (simp [*]; done)), H', ⟨Nat.le_refl _⟩, by repeat (first | exact Drawn0.refl _ | apply Drawn0.step)⟩
    case round =>
      clear H'
      try clear c1
      try clear p2
      try clear c3
      try clear c3b0
      try clear c3b1
      try clear c3b2
      obtain ⟨x13_1, rfl, HA, HK1, ⟨m1, rfl⟩⟩ := hrel
      cases gk with
      | zero => exact absurd HA.out (by simp [vec_Vec_int_65.l0])
      | succ k1 =>
        have H := HA.out
        clear HA
        simp only [vec_Vec_int_65.l0] at H
        by_cases c4 : x13_1 < (l0.length : Int)
        · rw [if_pos c4] at H
          have c4b0 : decide (x13_1 < (l0.length : Int)) = true := decide_eq_true c4
          clear c4
          by_cases c5 : 0 ≤ x13_1
          · rw [if_pos c5] at H
            have c5b0 : decide (0 ≤ x13_1) = true := decide_eq_true c5
            clear c5
            by_cases c6 : x13_1 < (l0.length : Int)
            · rw [if_pos c6] at H
              have c6b0 : decide (x13_1 < (l0.length : Int)) = true := decide_eq_true c6
              clear c6
              by_cases c7 : x13_1 < (l1.length : Int)
              · rw [if_pos c7] at H
                have c7b0 : decide (x13_1 < (l1.length : Int)) = true := decide_eq_true c7
                clear c7
                by_cases c8 : (rd l0 x13_1) = (rd l1 x13_1)
                · rw [if_pos c8] at H
                  have c8b0 : ((rd l0 x13_1) == (rd l1 x13_1)) = true := beq_iff_eq.mpr c8
                  have c8b1 : ((rd l0 x13_1) != (rd l1 x13_1)) = false := bne_eq_false_iff_eq.mpr c8
                  clear c8
                  have H' := Aside0.mk H
                  clear H
                  have p118 : 0 ≤ (x13_1 : Int) := of_decide_eq_true (by first | (with_reducible assumption) | assumption)
                  have q118 : x13_1 < (l0.length : Int) := of_decide_eq_true (by first | (with_reducible assumption) | assumption)
                  obtain ⟨ad118, e118, hx118_0⟩ := Kd.at_int HR0.out x13_1 p118 q118
                  cases e118
                  replace p118 := eq_true p118
                  replace q118 := eq_true q118
                  have p119 : 0 ≤ (x13_1 : Int) := of_decide_eq_true (by first | (with_reducible assumption) | assumption)
                  have q119 : x13_1 < (l1.length : Int) := of_decide_eq_true (by first | (with_reducible assumption) | assumption)
                  obtain ⟨ad119, e119, hx119_0⟩ := Kd.at_int HR1.out x13_1 p119 q119
                  cases e119
                  replace p119 := eq_true p119
                  replace q119 := eq_true q119
                  go_wp2
                  repeat (go_quiet (fail); try go_wp2)
                  go_roundg k1
                  case measure => have := HK1.out; omega
                  case rel => exact ⟨(wrap64 (x13_1 + 1)), (by first | rfl | (simp; done) | (simp [*]; done)), H', ⟨by have := HK1.out; omega⟩, by repeat (first | exact Drawn0.refl _ | apply Drawn0.step)⟩
                · rw [if_neg c8] at H
                  have c8b0 : ((rd l0 x13_1) == (rd l1 x13_1)) = false := beq_eq_false_iff_ne.mpr c8
                  have c8b1 : ((rd l0 x13_1) != (rd l1 x13_1)) = true := bne_iff_ne.mpr c8
                  obtain rfl := Option.some.inj H
                  have p118 : 0 ≤ (x13_1 : Int) := of_decide_eq_true (by first | (with_reducible assumption) | assumption)
                  have q118 : x13_1 < (l0.length : Int) := of_decide_eq_true (by first | (with_reducible assumption) | assumption)
                  obtain ⟨ad118, e118, hx118_0⟩ := Kd.at_int HR0.out x13_1 p118 q118
                  cases e118
                  replace p118 := eq_true p118
                  replace q118 := eq_true q118
                  have p119 : 0 ≤ (x13_1 : Int) := of_decide_eq_true (by first | (with_reducible assumption) | assumption)
                  have q119 : x13_1 < (l1.length : Int) := of_decide_eq_true (by first | (with_reducible assumption) | assumption)
                  obtain ⟨ad119, e119, hx119_0⟩ := Kd.at_int HR1.out x13_1 p119 q119
                  cases e119
                  replace p119 := eq_true p119
                  replace q119 := eq_true q119
                  go_wp2
                  repeat (go_quiet (fail); try go_wp2)
                  go_ret
                  exact ⟨by first | rfl | (simp; done) | (simp [*]; done), by repeat (first | exact Drawn0.refl _ | apply Drawn0.step)⟩
              · rw [if_neg c7] at H
                exact absurd H (by simp)
            · rw [if_neg c6] at H
              exact absurd H (by simp)
          · rw [if_neg c5] at H
            exact absurd H (by simp)
        · rw [if_neg c4] at H
          have c4b0 : decide (x13_1 < (l0.length : Int)) = false := decide_eq_false c4
          clear c4
          obtain rfl := Option.some.inj H
          go_wp2
          repeat (go_quiet (fail); try go_wp2)
          go_ret
          exact ⟨by first | rfl | (simp; done) | (simp [*]; done), by repeat (first | exact Drawn0.refl _ | apply Drawn0.step)⟩
  · rw [if_neg c3] at H
    have c3b0 : ((l0.length : Int) == (l1.length : Int)) = false := beq_eq_false_iff_ne.mpr c3
    have c3b1 : ((l0.length : Int) != (l1.length : Int)) = true := bne_iff_ne.mpr c3
    have c3b2 : (l0.length == l1.length) = false := by first | simpa using c3 | (simp at c3 ⊢; omega)
    obtain rfl := Option.some.inj H
    go_enter Try.func65, Try.ntmps65
    go_wp2
    repeat (go_quiet (fail); try go_wp2)
    go_ret
    exact ⟨by first | rfl | (simp; done) | (simp [*]; done), by repeat (first | exact Drawn0.refl _ | apply Drawn0.step)⟩
theorem vec_Vec_int_65.at (k : Nat) (A0 : Option Addr) (c0 : Nat) (n0 : Nat) (l0 : List Int) (A1 : Option Addr) (c1 : Nat) (n1 : Nat) (l1 : List Int) (r : Bool) (w : World) (hr0 : Kd.C (Kd.int .i64) w A0 n0 l0) (hc0 : n0 ≤ c0) (hr1 : Kd.C (Kd.int .i64) w A1 n1 l1) (hc1 : n1 ≤ c1) (h : vec_Vec_int_65.f k l0 l1 = some r) :
    Calls Try.prog 65 #[.slice A0 n0 c0, .slice A1 n1 c1] w fun e w' => e = .returned (.bool r) ∧ Drawn0 w w' := by
  obtain rfl : l0.length = n0 := Kd.C_len hr0
  obtain rfl : l1.length = n1 := Kd.C_len hr1
  exact vec_Vec_int_65.calls k A0 c0 l0 A1 c1 l1 r w hr0 hc0 hr1 hc1 h

-- NOT PRINTED: function 44 (front_Front_Late)

-- NOT PRINTED: function 37 (duetlaw09_live)

/-! ### duetref06_May: function 50 -/
def duetref06_May.l0 : Nat → List Int → Int → Option (Bool)
  | 0, _, _ => none
  | k + 1, x0, x3 => if x3 < (x0.length : Int) then (if 0 ≤ x3 then (if (rd x0 x3) < 0 then (some false) else (if (rd x0 x3) > 4294967295 then (some false) else (duetref06_May.l0 k x0 (wrap64 (x3 + 1))))) else (none)) else (if (x0.length : Int) ≥ 1 then (some (decide ((x0.length : Int) ≤ 16))) else (some false))
def duetref06_May.f (k : Nat) (l0 : List Int) : Option (Bool) := duetref06_May.l0 k l0 0
theorem duetref06_May.mono_l : ∀ k, (∀ y0 y1, LeO (duetref06_May.l0 k y0 y1) (duetref06_May.l0 (k + 1) y0 y1))
  | 0 => fun _ _ r h => by simp [duetref06_May.l0] at h
  | k + 1 => by
    have ih0 := duetref06_May.mono_l k
    · intro y0 y1
      unfold duetref06_May.l0
      repeat' first
      | (with_reducible exact ih0 _ _)
      | (with_reducible exact LeO.refl _)
      | (with_reducible exact LeO.none _)
      | (with_reducible refine LeO.ite ?_ ?_)
      | (with_reducible refine LeO.bind ?_ (fun _ => ?_))
      | exact ih0 _ _
      | exact LeO.none _
      | refine LeO.ite ?_ ?_
      | refine LeO.bind ?_ (fun _ => ?_)
theorem duetref06_May.mono : ∀ a0 k, LeO (duetref06_May.f k a0) (duetref06_May.f (k + 1) a0) := by
  intro a0 k
  have ih0 := duetref06_May.mono_l k
  unfold duetref06_May.f
  repeat' first
      | (with_reducible exact ih0 _ _)
      | (with_reducible exact LeO.refl _)
      | (with_reducible exact LeO.none _)
      | (with_reducible refine LeO.ite ?_ ?_)
      | (with_reducible refine LeO.bind ?_ (fun _ => ?_))
      | exact ih0 _ _
      | exact LeO.none _
      | refine LeO.ite ?_ ?_
      | refine LeO.bind ?_ (fun _ => ?_)
set_option maxHeartbeats 8000000 in
set_option maxRecDepth 100000 in
theorem duetref06_May.calls (k : Nat) (A0 : Option Addr) (c0 : Nat) (l0 : List Int) (r : Bool) (w : World) (hr0 : Kd.C (Kd.int .i64) w A0 l0.length l0) (hc0 : l0.length ≤ c0) (h : duetref06_May.f k l0 = some r) :
    Calls Try.prog 50 #[.slice A0 l0.length c0] w fun e w' => e = .returned (.bool r) ∧ Drawn0 w w' := by
  have HR0 := Aside0.mk hr0
  have HC0 := Aside0.mk hc0
  clear hr0 hc0
  have H : (duetref06_May.l0 k l0 0) = some r := h
  clear h
  have H' := Aside0.mk H
  clear H
  go_enter Try.func50, Try.ntmps50
  go_wp2
  go_loopg [3] k (fun kq v3 w' => ∃ (x3_1 : Int), v3 = .int .i64 x3_1 ∧ Aside0 (duetref06_May.l0 kq l0 x3_1 = some r) ∧ Aside0 (kq ≤ k) ∧ Drawn0 w w')
  case atStart => exact ⟨(0), (by first | rfl | (simp; done) | (simp [*]; done)), H', ⟨Nat.le_refl _⟩, by repeat (first | exact Drawn0.refl _ | apply Drawn0.step)⟩
  case round =>
    clear H'
    obtain ⟨x3_1, rfl, HA, HK1, ⟨m1, rfl⟩⟩ := hrel
    cases gk with
    | zero => exact absurd HA.out (by simp [duetref06_May.l0])
    | succ k1 =>
      have H := HA.out
      clear HA
      simp only [duetref06_May.l0] at H
      by_cases c2 : x3_1 < (l0.length : Int)
      · rw [if_pos c2] at H
        have c2b0 : decide (x3_1 < (l0.length : Int)) = true := decide_eq_true c2
        clear c2
        by_cases c3 : 0 ≤ x3_1
        · rw [if_pos c3] at H
          have c3b0 : decide (0 ≤ x3_1) = true := decide_eq_true c3
          clear c3
          by_cases c4 : (rd l0 x3_1) < 0
          · rw [if_pos c4] at H
            have c4b0 : decide ((rd l0 x3_1) < 0) = true := decide_eq_true c4
            clear c4
            obtain rfl := Option.some.inj H
            have p120 : 0 ≤ (x3_1 : Int) := of_decide_eq_true (by first | (with_reducible assumption) | assumption)
            have q120 : x3_1 < (l0.length : Int) := of_decide_eq_true (by first | (with_reducible assumption) | assumption)
            obtain ⟨ad120, e120, hx120_0⟩ := Kd.at_int HR0.out x3_1 p120 q120
            cases e120
            replace p120 := eq_true p120
            replace q120 := eq_true q120
            go_wp2
            go_ret
            exact ⟨by first | rfl | (simp; done) | (simp [*]; done), by repeat (first | exact Drawn0.refl _ | apply Drawn0.step)⟩
          · rw [if_neg c4] at H
            have c4b0 : decide ((rd l0 x3_1) < 0) = false := decide_eq_false c4
            clear c4
            by_cases c5 : (rd l0 x3_1) > 4294967295
            · rw [if_pos c5] at H
              have c5b0 : decide (4294967295 < (rd l0 x3_1)) = true := decide_eq_true c5
              clear c5
              obtain rfl := Option.some.inj H
              have p120 : 0 ≤ (x3_1 : Int) := of_decide_eq_true (by first | (with_reducible assumption) | assumption)
              have q120 : x3_1 < (l0.length : Int) := of_decide_eq_true (by first | (with_reducible assumption) | assumption)
              obtain ⟨ad120, e120, hx120_0⟩ := Kd.at_int HR0.out x3_1 p120 q120
              cases e120
              replace p120 := eq_true p120
              replace q120 := eq_true q120
              have p121 : 0 ≤ (x3_1 : Int) := of_decide_eq_true (by first | (with_reducible assumption) | assumption)
              have q121 : x3_1 < (l0.length : Int) := of_decide_eq_true (by first | (with_reducible assumption) | assumption)
              obtain ⟨ad121, e121, hx121_0⟩ := Kd.at_int HR0.out x3_1 p121 q121
              obtain rfl : ad120 = ad121 := (by injection e121)
              replace p121 := eq_true p121
              replace q121 := eq_true q121
              go_wp2
              go_ret
              exact ⟨by first | rfl | (simp; done) | (simp [*]; done), by repeat (first | exact Drawn0.refl _ | apply Drawn0.step)⟩
            · rw [if_neg c5] at H
              have c5b0 : decide (4294967295 < (rd l0 x3_1)) = false := decide_eq_false c5
              clear c5
              have H' := Aside0.mk H
              clear H
              have p120 : 0 ≤ (x3_1 : Int) := of_decide_eq_true (by first | (with_reducible assumption) | assumption)
              have q120 : x3_1 < (l0.length : Int) := of_decide_eq_true (by first | (with_reducible assumption) | assumption)
              obtain ⟨ad120, e120, hx120_0⟩ := Kd.at_int HR0.out x3_1 p120 q120
              cases e120
              replace p120 := eq_true p120
              replace q120 := eq_true q120
              have p121 : 0 ≤ (x3_1 : Int) := of_decide_eq_true (by first | (with_reducible assumption) | assumption)
              have q121 : x3_1 < (l0.length : Int) := of_decide_eq_true (by first | (with_reducible assumption) | assumption)
              obtain ⟨ad121, e121, hx121_0⟩ := Kd.at_int HR0.out x3_1 p121 q121
              obtain rfl : ad120 = ad121 := (by injection e121)
              replace p121 := eq_true p121
              replace q121 := eq_true q121
              go_wp2
              go_roundg k1
              case measure => have := HK1.out; omega
              case rel => exact ⟨(wrap64 (x3_1 + 1)), (by first | rfl | (simp; done) | (simp [*]; done)), H', ⟨by have := HK1.out; omega⟩, by repeat (first | exact Drawn0.refl _ | apply Drawn0.step)⟩
        · rw [if_neg c3] at H
          exact absurd H (by simp)
      · rw [if_neg c2] at H
        have c2b0 : decide (x3_1 < (l0.length : Int)) = false := decide_eq_false c2
        clear c2
        by_cases c6 : (l0.length : Int) ≥ 1
        · rw [if_pos c6] at H
          have c6b0 : decide (1 ≤ (l0.length : Int)) = true := decide_eq_true c6
          have c6b1 : decide (1 ≤ l0.length) = true := decide_eq_true (by omega)
          clear c6
          obtain rfl := Option.some.inj H
          go_wp2
          go_ret
          exact ⟨by first | rfl | (simp; done) | (simp [*]; done), by repeat (first | exact Drawn0.refl _ | apply Drawn0.step)⟩
        · rw [if_neg c6] at H
          have c6b0 : decide (1 ≤ (l0.length : Int)) = false := decide_eq_false c6
          have c6b1 : decide (1 ≤ l0.length) = false := decide_eq_false (by omega)
          clear c6
          obtain rfl := Option.some.inj H
          go_wp2
          go_ret
          exact ⟨by first | rfl | (simp; done) | (simp [*]; done), by repeat (first | exact Drawn0.refl _ | apply Drawn0.step)⟩
theorem duetref06_May.at (k : Nat) (A0 : Option Addr) (c0 : Nat) (n0 : Nat) (l0 : List Int) (r : Bool) (w : World) (hr0 : Kd.C (Kd.int .i64) w A0 n0 l0) (hc0 : n0 ≤ c0) (h : duetref06_May.f k l0 = some r) :
    Calls Try.prog 50 #[.slice A0 n0 c0] w fun e w' => e = .returned (.bool r) ∧ Drawn0 w w' := by
  obtain rfl : l0.length = n0 := Kd.C_len hr0
  exact duetref06_May.calls k A0 c0 l0 r w hr0 hc0 h

/-! ### duetref09_zeros: function 60 -/
def duetref09_zeros.f (k : Nat) (l0 : List Int) : Option (Bool) := (duetref06_Zero.f k (l0.length : Int)).bind fun t122 => ((duetref01_Same.f k l0 t122).bind fun t125 => (some t125))
theorem duetref09_zeros.mono : ∀ a0 k, LeO (duetref09_zeros.f k a0) (duetref09_zeros.f (k + 1) a0) := by
  intro a0 k
  unfold duetref09_zeros.f
  repeat' first
      | (with_reducible exact duetref01_Same.mono _ _ _)
      | (with_reducible exact duetref06_Zero.mono _ _)
      | (with_reducible exact LeO.refl _)
      | (with_reducible exact LeO.none _)
      | (with_reducible refine LeO.ite ?_ ?_)
      | (with_reducible refine LeO.bind ?_ (fun _ => ?_))
      | exact duetref01_Same.mono _ _ _
      | exact duetref06_Zero.mono _ _
      | exact LeO.none _
      | refine LeO.ite ?_ ?_
      | refine LeO.bind ?_ (fun _ => ?_)
set_option maxHeartbeats 8000000 in
set_option maxRecDepth 100000 in
theorem duetref09_zeros.calls (k : Nat) (A0 : Option Addr) (c0 : Nat) (l0 : List Int) (r : Bool) (w : World) (hr0 : Kd.C (Kd.int .i64) w A0 l0.length l0) (hc0 : l0.length ≤ c0) (h : duetref09_zeros.f k l0 = some r) :
    Calls Try.prog 60 #[.slice A0 l0.length c0] w fun e w' => e = .returned (.bool r) ∧ Below w.heap.size w w' := by
  have HR0 := Aside0.mk hr0
  have HC0 := Aside0.mk hc0
  clear hr0 hc0
  have HB := Aside0.mk (Below.refl w.heap.size w)
  have H : ((duetref06_Zero.f k (l0.length : Int)).bind fun t122 => ((duetref01_Same.f k l0 t122).bind fun t125 => (some t125))) = some r := h
  clear h
  replace H := Option.bind_eq_some_iff.mp H
  obtain ⟨t122, A20, H⟩ := H
  replace H : ((duetref01_Same.f k l0 t122).bind fun t125 => (some t125)) = some r := H
  have A2 := Aside0.mk A20
  clear A20
  replace H := Option.bind_eq_some_iff.mp H
  obtain ⟨t125, A30, H⟩ := H
  replace H : (some t125) = some r := H
  have A3 := Aside0.mk A30
  clear A30
  obtain rfl := Option.some.inj H
  go_enter Try.func60, Try.ntmps60
  go_wp2_with (first | ((with_reducible refine gate_callee (f := 48) rfl ?_); refine goesL_ (some 6) rfl rfl Try.func48 (by kernel_rfl) rfl #[.int .i64 (l0.length : Int)] rfl (by (try simp only [List.map_toArray, List.map_cons, List.map_nil]); first | done | rfl | (simp only [List.length_drop, List.length_take]; rfl)) ?_; (with_reducible refine (duetref06_Zero.calls k (l0.length : Int) t122 _ A2.out).mono ?_); rintro e w4 ⟨v123, rfl, ho0, hb⟩; refine ⟨_, rfl, ?_⟩; have n0_ := Aside0.mk (Kd.R_lower ho0 (below_size (by repeat (first | (with_reducible first | exact HB.out | apply below_alloc | apply pw_below_drewN | apply below_drew1) | exact HB.out)))); have n1_ := Aside0.mk (below_step (by repeat (first | (with_reducible first | exact HB.out | apply below_alloc | apply pw_below_drewN | apply below_drew1) | exact HB.out)) hb); clear HB; have HO124 := n0_; have HB := n1_; clear n0_ n1_; (try clear hb); (try clear hb2); (try clear hk); (try clear hi); (try clear ho0); obtain ⟨Ao5, co5, eo5⟩ := Kd.R_slice HO124.out; subst eo5) | ((with_reducible refine gate_callee (f := 32) rfl ?_); refine goesL_ (some 7) rfl rfl Try.func32 (by kernel_rfl) rfl #[.slice A0 l0.length c0, .slice Ao5 t122.length co5] rfl (by (try simp only [List.map_toArray, List.map_cons, List.map_nil]); first | done | rfl | (simp only [List.length_drop, List.length_take]; rfl)) ?_; (with_reducible refine (duetref01_Same.calls k _ _ l0 _ _ t122 t125 _ ?side1 ?side2 ?side3 ?side4 A3.out).mono ?_); (case side1 => repeat (first | exact (Kd.C_below HR0.out HB.out) | (with_reducible refine Kd.C_alloc ?_ _) | (with_reducible refine Kd.C_drewN ?_ _) | (with_reducible refine Kd.C_drew ?_))); (case side2 => exact HC0.out); (case side3 => repeat (first | exact (Kd.R_reads' HO124.out).2.2 | (with_reducible refine Kd.C_alloc ?_ _) | (with_reducible refine Kd.C_drewN ?_ _) | (with_reducible refine Kd.C_drew ?_))); (case side4 => exact (Kd.R_reads' HO124.out).2.1); rintro e w' ⟨rfl, ⟨nd, rfl⟩⟩; refine ⟨_, rfl, ?_⟩))
  go_ret
  exact ⟨by first | rfl | (simp [errW_none, errW_some] <;> rfl) | (simp [*, errW_none, errW_some] <;> rfl), by repeat (first | (with_reducible first | exact HB.out | apply below_alloc | apply pw_below_drewN | apply below_drew1) | exact HB.out)⟩
theorem duetref09_zeros.at (k : Nat) (A0 : Option Addr) (c0 : Nat) (n0 : Nat) (l0 : List Int) (r : Bool) (w : World) (hr0 : Kd.C (Kd.int .i64) w A0 n0 l0) (hc0 : n0 ≤ c0) (h : duetref09_zeros.f k l0 = some r) :
    Calls Try.prog 60 #[.slice A0 n0 c0] w fun e w' => e = .returned (.bool r) ∧ Below w.heap.size w w' := by
  obtain rfl : l0.length = n0 := Kd.C_len hr0
  exact duetref09_zeros.calls k A0 c0 l0 r w hr0 hc0 h

/-! ### duetref06_together: function 80 -/
def duetref06_together.f (k : Nat) (l0 : List Int) (l1 : List Int) : Option (Bool) := (duetref06_May.f k l0).bind fun t126 => (if t126 = true then ((duetref06_May.f k l1).bind fun t127 => (if t127 = true then (some ((l0.length : Int) == (l1.length : Int))) else (some false))) else (some false))
theorem duetref06_together.mono : ∀ a0 a1 k, LeO (duetref06_together.f k a0 a1) (duetref06_together.f (k + 1) a0 a1) := by
  intro a0 a1 k
  unfold duetref06_together.f
  repeat' first
      | (with_reducible exact duetref06_May.mono _ _)
      | (with_reducible exact LeO.refl _)
      | (with_reducible exact LeO.none _)
      | (with_reducible refine LeO.ite ?_ ?_)
      | (with_reducible refine LeO.bind ?_ (fun _ => ?_))
      | exact duetref06_May.mono _ _
      | exact LeO.none _
      | refine LeO.ite ?_ ?_
      | refine LeO.bind ?_ (fun _ => ?_)
set_option maxHeartbeats 8000000 in
set_option maxRecDepth 100000 in
theorem duetref06_together.calls (k : Nat) (A0 : Option Addr) (c0 : Nat) (l0 : List Int) (A1 : Option Addr) (c1 : Nat) (l1 : List Int) (r : Bool) (w : World) (hr0 : Kd.C (Kd.int .i64) w A0 l0.length l0) (hc0 : l0.length ≤ c0) (hr1 : Kd.C (Kd.int .i64) w A1 l1.length l1) (hc1 : l1.length ≤ c1) (h : duetref06_together.f k l0 l1 = some r) :
    Calls Try.prog 80 #[.slice A0 l0.length c0, .slice A1 l1.length c1] w fun e w' => e = .returned (.bool r) ∧ Drawn0 w w' := by
  have HR0 := Aside0.mk hr0
  have HC0 := Aside0.mk hc0
  clear hr0 hc0
  have HR1 := Aside0.mk hr1
  have HC1 := Aside0.mk hc1
  clear hr1 hc1
  have H : ((duetref06_May.f k l0).bind fun t126 => (if t126 = true then ((duetref06_May.f k l1).bind fun t127 => (if t127 = true then (some ((l0.length : Int) == (l1.length : Int))) else (some false))) else (some false))) = some r := h
  clear h
  replace H := Option.bind_eq_some_iff.mp H
  obtain ⟨t126, A30, H⟩ := H
  replace H : (if t126 = true then ((duetref06_May.f k l1).bind fun t127 => (if t127 = true then (some ((l0.length : Int) == (l1.length : Int))) else (some false))) else (some false)) = some r := H
  have A3 := Aside0.mk A30
  clear A30
  by_cases c4 : t126 = true
  · subst c4
    have H1 : ((duetref06_May.f k l1).bind fun t127 => (if t127 = true then (some ((l0.length : Int) == (l1.length : Int))) else (some false))) = some r := by rw [if_pos rfl] at H; exact H
    clear H
    have H := H1
    clear H1
    replace H := Option.bind_eq_some_iff.mp H
    obtain ⟨t127, A50, H⟩ := H
    replace H : (if t127 = true then (some ((l0.length : Int) == (l1.length : Int))) else (some false)) = some r := H
    have A5 := Aside0.mk A50
    clear A50
    by_cases c6 : t127 = true
    · subst c6
      have H1 : (some ((l0.length : Int) == (l1.length : Int))) = some r := by rw [if_pos rfl] at H; exact H
      clear H
      have H := H1
      clear H1
      obtain rfl := Option.some.inj H
      go_enter Try.func80, Try.ntmps80
      go_wp2_with (first | ((with_reducible refine gate_callee (f := 50) rfl ?_); refine goesL_ (some 6) rfl rfl Try.func50 (by kernel_rfl) rfl #[.slice A0 l0.length c0] rfl (by (try simp only [List.map_toArray, List.map_cons, List.map_nil]); first | done | rfl | (simp only [List.length_drop, List.length_take]; rfl)) ?_; (with_reducible refine (duetref06_May.calls k _ _ l0 true _ ?side1 ?side2 A3.out).mono ?_); (case side1 => repeat (first | exact HR0.out | (with_reducible refine Kd.C_alloc ?_ _) | (with_reducible refine Kd.C_drewN ?_ _) | (with_reducible refine Kd.C_drew ?_))); (case side2 => exact HC0.out); rintro e w' ⟨rfl, ⟨nd, rfl⟩⟩; refine ⟨_, rfl, ?_⟩) | (go_at_call 50; (with_reducible refine (duetref06_May.calls k _ _ l1 true _ ?side1 ?side2 A5.out).mono ?_); (case side1 => repeat (first | exact HR1.out | (with_reducible refine Kd.C_alloc ?_ _) | (with_reducible refine Kd.C_drewN ?_ _) | (with_reducible refine Kd.C_drew ?_))); (case side2 => exact HC1.out); rintro e w' ⟨rfl, ⟨nd, rfl⟩⟩))
      go_ret
      exact ⟨by first | rfl | (simp; done) | (simp [*]; done), by repeat (first | exact Drawn0.refl _ | apply Drawn0.step)⟩
    · replace c6 := Bool.eq_false_iff.mpr c6
      subst c6
      have H1 : (some false) = some r := by rw [if_neg (show ¬ (false = true) by decide)] at H; exact H
      clear H
      have H := H1
      clear H1
      obtain rfl := Option.some.inj H
      go_enter Try.func80, Try.ntmps80
      go_wp2_with (first | ((with_reducible refine gate_callee (f := 50) rfl ?_); refine goesL_ (some 6) rfl rfl Try.func50 (by kernel_rfl) rfl #[.slice A0 l0.length c0] rfl (by (try simp only [List.map_toArray, List.map_cons, List.map_nil]); first | done | rfl | (simp only [List.length_drop, List.length_take]; rfl)) ?_; (with_reducible refine (duetref06_May.calls k _ _ l0 true _ ?side1 ?side2 A3.out).mono ?_); (case side1 => repeat (first | exact HR0.out | (with_reducible refine Kd.C_alloc ?_ _) | (with_reducible refine Kd.C_drewN ?_ _) | (with_reducible refine Kd.C_drew ?_))); (case side2 => exact HC0.out); rintro e w' ⟨rfl, ⟨nd, rfl⟩⟩; refine ⟨_, rfl, ?_⟩) | (go_at_call 50; (with_reducible refine (duetref06_May.calls k _ _ l1 false _ ?side1 ?side2 A5.out).mono ?_); (case side1 => repeat (first | exact HR1.out | (with_reducible refine Kd.C_alloc ?_ _) | (with_reducible refine Kd.C_drewN ?_ _) | (with_reducible refine Kd.C_drew ?_))); (case side2 => exact HC1.out); rintro e w' ⟨rfl, ⟨nd, rfl⟩⟩))
      go_ret
      exact ⟨by first | rfl | (simp; done) | (simp [*]; done), by repeat (first | exact Drawn0.refl _ | apply Drawn0.step)⟩
  · replace c4 := Bool.eq_false_iff.mpr c4
    subst c4
    have H1 : (some false) = some r := by rw [if_neg (show ¬ (false = true) by decide)] at H; exact H
    clear H
    have H := H1
    clear H1
    obtain rfl := Option.some.inj H
    go_enter Try.func80, Try.ntmps80
    go_wp2_with (first | ((with_reducible refine gate_callee (f := 50) rfl ?_); refine goesL_ (some 6) rfl rfl Try.func50 (by kernel_rfl) rfl #[.slice A0 l0.length c0] rfl (by (try simp only [List.map_toArray, List.map_cons, List.map_nil]); first | done | rfl | (simp only [List.length_drop, List.length_take]; rfl)) ?_; (with_reducible refine (duetref06_May.calls k _ _ l0 false _ ?side1 ?side2 A3.out).mono ?_); (case side1 => repeat (first | exact HR0.out | (with_reducible refine Kd.C_alloc ?_ _) | (with_reducible refine Kd.C_drewN ?_ _) | (with_reducible refine Kd.C_drew ?_))); (case side2 => exact HC0.out); rintro e w' ⟨rfl, ⟨nd, rfl⟩⟩; refine ⟨_, rfl, ?_⟩))
    go_ret
    exact ⟨by first | rfl | (simp; done) | (simp [*]; done), by repeat (first | exact Drawn0.refl _ | apply Drawn0.step)⟩
theorem duetref06_together.at (k : Nat) (A0 : Option Addr) (c0 : Nat) (n0 : Nat) (l0 : List Int) (A1 : Option Addr) (c1 : Nat) (n1 : Nat) (l1 : List Int) (r : Bool) (w : World) (hr0 : Kd.C (Kd.int .i64) w A0 n0 l0) (hc0 : n0 ≤ c0) (hr1 : Kd.C (Kd.int .i64) w A1 n1 l1) (hc1 : n1 ≤ c1) (h : duetref06_together.f k l0 l1 = some r) :
    Calls Try.prog 80 #[.slice A0 n0 c0, .slice A1 n1 c1] w fun e w' => e = .returned (.bool r) ∧ Drawn0 w w' := by
  obtain rfl : l0.length = n0 := Kd.C_len hr0
  obtain rfl : l1.length = n1 := Kd.C_len hr1
  exact duetref06_together.calls k A0 c0 l0 A1 c1 l1 r w hr0 hc0 hr1 hc1 h

end Go.Proofs.Ytiplkmmppihilaa.PFront
