/- The law SearchBrowses, walked. Conditions: none beyond those that each theorem states. -/
import Derived.Test.YthofobcbbddeeaaSrchN
namespace Go.Proofs.Ythofobcbbddeeaa.SrchA
open Go.RowKit Go.Proofs.YthofobcbbddeeaaW.PrintWords Go.Proofs.YthofobcbbddeeaaW.PrintLast Go.Proofs.YthofobcbbddeeaaW.PrintMore Go.Proofs.Ythofobcbbddeeaa.XS Go.Proofs.Ythofobcbbddeeaa.PSrch
set_option linter.unusedVariables false
set_option linter.unusedSimpArgs false
abbrev Fu0 : Array Bool := #[false, false, false, false, false, false, false, false, false, false, false, false, false, false, false, false, false]
abbrev Fu1 : Array Bool := #[true, false, false, false, false, false, false, false, false, false, false, false, false, false, false, false, false]
abbrev Fu2 : Array Bool := #[true, true, false, false, false, false, false, false, false, false, false, false, false, false, false, false, false]
abbrev Fu3 : Array Bool := #[true, true, true, false, false, false, false, false, false, false, false, false, false, false, false, false, false]
abbrev Fu4 : Array Bool := #[true, true, true, true, false, false, false, false, false, false, false, false, false, false, false, false, false]
abbrev Fu5 : Array Bool := #[true, true, true, true, false, true, false, false, false, false, false, false, false, false, false, false, false]
abbrev Fu6 : Array Bool := #[true, true, true, true, false, true, true, false, false, false, false, false, false, false, false, false, false]
abbrev Fu7 : Array Bool := #[true, true, true, true, false, true, true, true, false, false, false, false, false, false, false, false, false]
abbrev Fu8 : Array Bool := #[true, true, true, true, false, true, true, true, false, true, false, false, false, false, false, false, false]
abbrev Fu9 : Array Bool := #[true, true, true, true, false, true, true, true, false, true, true, false, false, false, false, false, false]
abbrev Fu10 : Array Bool := #[true, true, true, true, false, true, true, true, false, true, true, true, false, false, false, false, false]
abbrev Fu11 : Array Bool := #[true, true, true, true, false, true, true, true, true, true, true, true, false, false, false, false, false]
abbrev Fu12 : Array Bool := #[true, true, true, true, false, true, true, true, true, true, true, true, true, false, false, false, false]
abbrev Fu13 : Array Bool := #[true, true, true, true, false, true, true, true, true, true, true, true, true, true, false, false, false]
abbrev Fu14 : Array Bool := #[true, true, true, true, false, true, true, true, true, true, true, true, true, true, true, false, false]
abbrev Fu15 : Array Bool := #[true, true, true, true, true, true, true, true, true, true, true, true, true, true, true, false, false]
abbrev Fu16 : Array Bool := #[true, true, true, true, true, true, true, true, true, true, true, true, true, true, true, true, false]
abbrev Fu17 : Array Bool := #[true, true, true, true, true, true, true, true, true, true, true, true, true, true, true, true, true]
abbrev Fu18 : Array Bool := #[false, false, false, false, false, false, false, false, false, false, false, false, false, false, false]
abbrev Fu19 : Array Bool := #[true, false, false, false, false, false, false, false, false, false, false, false, false, false, false]
abbrev Fu20 : Array Bool := #[true, true, false, false, false, false, false, false, false, false, false, false, false, false, false]
abbrev Fu21 : Array Bool := #[true, true, true, false, false, false, false, false, false, false, false, false, false, false, false]
abbrev Fu22 : Array Bool := #[true, true, true, false, true, false, false, false, false, false, false, false, false, false, false]
abbrev Fu23 : Array Bool := #[true, true, true, false, true, true, false, false, false, false, false, false, false, false, false]
abbrev Fu24 : Array Bool := #[true, true, true, false, true, true, true, false, false, false, false, false, false, false, false]
abbrev Fu25 : Array Bool := #[true, true, true, false, true, true, true, false, true, false, false, false, false, false, false]
abbrev Fu26 : Array Bool := #[true, true, true, false, true, true, true, false, true, true, false, false, false, false, false]
abbrev Fu27 : Array Bool := #[true, true, true, false, true, true, true, false, true, true, true, false, false, false, false]
abbrev Fu28 : Array Bool := #[true, true, true, false, true, true, true, false, true, true, true, true, false, false, false]
abbrev Fu29 : Array Bool := #[true, true, true, true, true, true, true, false, true, true, true, true, false, false, false]
abbrev Fu30 : Array Bool := #[true, true, true, true, true, true, true, true, true, true, true, true, false, false, false]
abbrev Fu31 : Array Bool := #[true, true, true, true, true, true, true, true, true, true, true, true, true, false, false]
abbrev Fu32 : Array Bool := #[true, true, true, true, true, true, true, true, true, true, true, true, true, true, false]
abbrev Fu33 : Array Bool := #[true, true, true, true, true, true, true, true, true, true, true, true, true, true, true]
theorem own_at (L : List ByteArray) (t : ByteArray) : rdOf ByteArray.empty (L ++ [t]) (L.length : Int) = t := by
  simp [rdOf]
theorem BA_len {base g : Nat} {M : List ByteArray} {a : Int} {F : Assn} {w : World} (h : Sep base (Star (BA 54 g M a) F) w) : Sep base (Star (BA 54 g M a) F) w := h
set_option maxHeartbeats 8000000 in
set_option maxRecDepth 100000 in
theorem searchBrowses (A0 : Option Addr) (c0 : Nat) (L : List ByteArray) (t0 : ByteArray) (A1 : Option Addr) (c1 : Nat) (sc : List (Int × ByteArray)) (w : World) (m : Int) (hm : w.cell? ⟨0, 0, none⟩ = some (.int .i64 m)) (hr0 : Kd.string.C w A0 L.length L) (hc0 : L.length ≤ c0) (hr1 : Kd.C KSt w A1 sc.length sc) (hc1 : sc.length ≤ c1) (hn : sc.length ≤ 9223372036854775807) : Calls Try.prog 9 #[.slice A0 L.length c0, .string t0, .slice A1 sc.length c1] w fun e w' => e = .returned (.bool true) ∧ Below w.heap.size w w' := by
  have HM := Aside0.mk hm
  have hpos := size_pos hm
  clear hm
  have HC := Aside0.mk hr0
  have HR := Aside0.mk hr1
  clear hr0 hr1
  obtain ⟨fb, hfw, hfi⟩ := few_is L
  have HF := Aside0.mk hfw
  clear hfw
  have B_w := Aside0.mk (Below.refl w.heap.size w)
  have S_w : Aside0 (Sep w.heap.size (Stars []) w) := ⟨Sep.emp _ _⟩
  cases fb with
  | false =>
    clear hfi
    go_enter Try.func9, Try.ntmps9
    go_wp2_with (first | (go_at_call 25; (with_reducible refine (duetlaw19_few.calls 50 A0 c0 L false _ HC.out hc0 HF.out).mono ?_); rintro e w_1 ⟨rfl, hb0⟩; have hb := Aside0.mk hb0; clear hb0; have B_w_1 : Aside0 (Below (w.heap.size) w w_1) := ⟨below_then B_w.out B_w.out.size hb.out.below⟩; have S_w_1 : Aside0 (Sep (w.heap.size) (Stars []) w_1) := ⟨Sep.below S_w.out hb.out.below⟩; have Q_w_1 : Aside0 (Below w.heap.size w w_1) := ⟨hb.out.below⟩; clear S_w; clear hb) | (go_at_call 26; (with_reducible refine (live19 _ m (pw_cell_below B_w_1.out HM.out)).mono ?_); rintro e2 w_l ⟨rfl, hb⟩; have HBl := Aside0.mk hb; clear hb))
    go_ret
    exact ⟨rfl, below_then B_w_1.out B_w_1.out.size HBl.out⟩
  | true =>
    have hfew := hfi.mp rfl
    have hL1 : L.length ≤ 900 := Nat.le_trans hfew.1 (by omega)
    have hL2 : L.length ≤ 1000 := by omega
    clear hfi hfew
    by_cases ht0 : 300 < t0.size
    · have ht1 : (300 : Int) < (t0.size : Int) := by omega
      go_enter Try.func9, Try.ntmps9
      go_wp2_with (first | (go_at_call 25; (with_reducible refine (duetlaw19_few.calls 50 A0 c0 L true _ HC.out hc0 HF.out).mono ?_); rintro e w_1 ⟨rfl, hb0⟩; have hb := Aside0.mk hb0; clear hb0; have B_w_1 : Aside0 (Below (w.heap.size) w w_1) := ⟨below_then B_w.out B_w.out.size hb.out.below⟩; have S_w_1 : Aside0 (Sep (w.heap.size) (Stars []) w_1) := ⟨Sep.below S_w.out hb.out.below⟩; have Q_w_1 : Aside0 (Below w.heap.size w w_1) := ⟨hb.out.below⟩; clear S_w; clear hb) | (go_at_call 26; (with_reducible refine (live19 _ m (pw_cell_below B_w_1.out HM.out)).mono ?_); rintro e2 w_l ⟨rfl, hb⟩; have HBl := Aside0.mk hb; clear hb))
      go_ret
      exact ⟨rfl, below_then B_w_1.out B_w_1.out.size HBl.out⟩
    have ht1 : ¬ (300 : Int) < (t0.size : Int) := by omega
    clear ht0
    have bt0 : (t0.toList != t0.toList) = false := by simp
    go_enter Try.func9, Try.ntmps9
    go_wp2_with (first | (go_at_call 25; (with_reducible refine (duetlaw19_few.calls 50 A0 c0 L true _ HC.out hc0 HF.out).mono ?_); rintro e w_1 ⟨rfl, hb0⟩; have hb := Aside0.mk hb0; clear hb0; have B_w_1 : Aside0 (Below (w.heap.size) w w_1) := ⟨below_then B_w.out B_w.out.size hb.out.below⟩; have S_w_1 : Aside0 (Sep (w.heap.size) (Stars []) w_1) := ⟨Sep.below S_w.out hb.out.below⟩; have Q_w_1 : Aside0 (Below w.heap.size w w_1) := ⟨hb.out.below⟩; clear S_w; clear hb) | (go_at_call 27; (with_reducible refine (start_at _ A0 c0 L.length L t0 (L ++ [t0]) (Kd.C_below HC.out B_w_1.out) hc0 rfl hL2 rfl (L.length : Int) rfl).mono ?_); rintro e w_2 ⟨gb, rfl, hN, hb⟩; have B_w_2 : Aside0 (Below (w.heap.size) w w_2) := ⟨below_then B_w_1.out B_w_1.out.size hb⟩; have S_w_2 : Aside0 (Sep (w.heap.size) (Stars [BA 93 gb (L ++ [t0]) (L.length : Int)]) w_2) := ⟨Sep.more S_w_1.out hN hb B_w_1.out.size⟩; have Q_w_2 : Aside0 (Below w.heap.size w w_2) := ⟨below_step Q_w_1.out hb⟩; clear S_w_1; clear hb) | (go_at_call 28; (with_reducible refine (refstart_is _ A0 c0 L t0 (Kd.C_below HC.out B_w_2.out) hc0 hL2).mono ?_); rintro e w_3 ⟨gk, rfl, hN, hb⟩; have B_w_3 : Aside0 (Below (w.heap.size) w w_3) := ⟨below_then B_w_2.out B_w_2.out.size hb⟩; have S_w_3 : Aside0 (Sep (w.heap.size) (Stars [BA 54 gk (L ++ [t0]) (L.length : Int), BA 93 gb (L ++ [t0]) (L.length : Int)]) w_3) := ⟨Sep.more S_w_2.out hN hb B_w_2.out.size⟩; have Q_w_3 : Aside0 (Below w.heap.size w w_3) := ⟨below_step Q_w_2.out hb⟩; clear S_w_2; clear hb) | (go_at_call 29; (with_reducible refine (line_sep _ (Sep.front [BA 54 gk (L ++ [t0]) (L.length : Int)] [] S_w_3.out) (by omega) (by rw [List.length_append]; simp; omega) t0 (own_at L t0)).mono ?_); rintro e w_4 ⟨rfl, hb⟩; have B_w_4 : Aside0 (Below (w.heap.size) w w_4) := ⟨below_then B_w_3.out B_w_3.out.size hb⟩; have S_w_4 : Aside0 (Sep (w.heap.size) (Stars [BA 54 gk (L ++ [t0]) (L.length : Int), BA 93 gb (L ++ [t0]) (L.length : Int)]) w_4) := ⟨Sep.below S_w_3.out hb⟩; have Q_w_4 : Aside0 (Below w.heap.size w w_4) := ⟨below_step Q_w_3.out hb⟩; clear S_w_3; clear hb))
    go_loopw [9] (fun i wr => ∃ (k : Nat) (M : List ByteArray) (a : Int), k ≤ sc.length ∧ i = .int .i64 k ∧ Aside0 (M.length = L.length + 1 ∧ 0 ≤ a ∧ a < (M.length : Int)) ∧ Aside0 (Sep w.heap.size (Stars [BA 54 gk (M) (a), BA 93 gb (M) (a)]) wr) ∧ Aside0 (Below w.heap.size w wr)) (fun i _ => sc.length - (intOf i).toNat)
    case atStart => exact ⟨0, L ++ [t0], (L.length : Int), by omega, rfl, ⟨by simp, by omega, by simp; omega⟩, S_w_4, B_w_4⟩
    case round =>
      clear S_w_4 B_w_4
      obtain ⟨k, M, a, hk, rfl, HJ, S_wr, B_wr⟩ := hrel
      have ha0 := HJ.out.2.1
      have ha1 := HJ.out.2.2
      have hML : M.length ≤ 1000 := by have := HJ.out.1; omega
      by_cases hlt : k < sc.length
      · have hlt2 : (k : Int) < (sc.length : Int) := by omega
        by_cases h60 : k < 100
        · have h60b : (k : Int) < 100 := by omega
          have hk0 : (0 : Int) ≤ (k : Int) := by omega
          obtain ⟨ad, d, t, rfl, x0, x1⟩ := at_st HR.out k hlt
          have x0_wr := pw_cell_below B_wr.out x0
          have x1_wr := pw_cell_below B_wr.out x1
          by_cases d0 : d = 0
          · skip
            have e0 : (d == 0) = true := beq_iff_eq.mpr d0
            clear d0
            obtain ⟨b, hb⟩ : ∃ b, stepB M a (-1) = b := ⟨_, rfl⟩
            obtain ⟨a2, ha2⟩ : ∃ a2, stepP M a (-1) = a2 := ⟨_, rfl⟩
            have HB := Aside0.mk hb
            have HA2 := Aside0.mk ha2
            have hst := step_ok ha0 ha1 (-1)
            rw [ha2] at hst
            have ha0' := hst.1
            have ha1' := hst.2
            have HLM := Aside0.mk HJ.out.1
            have bb : (b == b) = true := by simp
            clear hb ha2 hst
            go_upto_region 20 with (first | (go_at_call 30; (with_reducible refine (up_is _ (Sep.front [BA 54 gk (M) (a)] [] S_wr.out) B_wr.out.size ha0 ha1 hML b HB.out a2 HA2.out).mono ?_); rintro e wr_1 ⟨rfl, hS, hb⟩; have B_wr_1 : Aside0 (Below (w.heap.size) w wr_1) := ⟨(Below.trans B_wr.out hb)⟩; have S_wr_1 : Aside0 (Sep (w.heap.size) (Stars [BA 54 gk (M) (a), BA 93 gb (M) (a2)]) wr_1) := ⟨Sep.back [BA 54 gk (M) (a)] [] hS⟩; have x0_wr_1 := pw_cell_below B_wr_1.out x0; have x1_wr_1 := pw_cell_below B_wr_1.out x1; clear S_wr x0_wr x1_wr; clear hS hb) | (go_at_call 31; (with_reducible refine (refup_is _ (Sep.front [] [BA 93 gb (M) (a2)] S_wr_1.out) B_wr_1.out.size ha0 ha1 hML b HB.out a2 HA2.out).mono ?_); rintro e wr_2 ⟨rfl, hS, hb⟩; have B_wr_2 : Aside0 (Below (w.heap.size) w wr_2) := ⟨(Below.trans B_wr_1.out hb)⟩; have S_wr_2 : Aside0 (Sep (w.heap.size) (Stars [BA 54 gk (M) (a2), BA 93 gb (M) (a2)]) wr_2) := ⟨Sep.back [] [BA 93 gb (M) (a2)] hS⟩; have x0_wr_2 := pw_cell_below B_wr_2.out x0; have x1_wr_2 := pw_cell_below B_wr_2.out x1; clear S_wr_1 x0_wr_1 x1_wr_1; clear hS hb))
            obtain ⟨Ak, ck, hlk, hCk, hSk⟩ := BA.open (Sep.front [] [BA 93 gb (M) (a2)] S_wr_2.out)
            clear S_wr_2 x0_wr_2 x1_wr_2
            have S_wr_2 := Aside0.mk hSk
            obtain ⟨al, hA, xe⟩ := Kd.at_string hCk (a2) ha0' ha1'
            subst hA
            obtain ⟨te, hte⟩ : ∃ te, rdOf ByteArray.empty (M) (a2) = te := ⟨_, rfl⟩
            rw [hte] at xe
            have Hte := Aside0.mk hte
            have bte : (te.toList != te.toList) = false := by simp
            clear hSk hCk hte
            have BX := B_wr_2
            clear B_wr_2
            have HLX : Aside0 (w.heap.size ≤ wr_2.heap.size) := ⟨BX.out.size⟩
            have B_wr_2 : Aside0 (Below (w.heap.size) wr_2 wr_2) := ⟨Below.refl _ _⟩
            obtain ⟨c_gk_0_wr_2, c_gk_1_wr_2⟩ := XW.cells2 (Sep.front [] [Row Kd.string 9 (.slice (some al) (M).length ck) (M), BA 93 gb (M) (a2)] S_wr_2.out).blk
            obtain ⟨z_gk_0_wr_2, z_gk_1_wr_2⟩ := XW.froz2 (Sep.front [] [Row Kd.string 9 (.slice (some al) (M).length ck) (M), BA 93 gb (M) (a2)] S_wr_2.out).blk
            refine start_ (n := 17) (S := fun w' => w'.cell? ⟨gk, 0, none⟩ = some (.slice (some al) (M).length ck) ∧ w'.cell? ⟨gk, 1, none⟩ = some (.int .i64 (a2)) ∧ w'.cell? (al.add a2.toNat) = some (.string te)) (ds := []) Fu0 (by kernel_rfl) rfl rfl ⟨c_gk_0_wr_2, c_gk_1_wr_2, xe⟩ (fun hHeld => ?_)
            generalize hdw : wr_2.drew = wr_3 at hHeld ⊢
            have HB_wr_3 : Aside0 (Below wr_2.heap.size wr_2 wr_3) := ⟨by rw [← hdw]; exact below_drew1 (Below.refl _ _)⟩
            clear hdw
            have B_wr_3 : Aside0 (Below (w.heap.size) wr_2 wr_3) := ⟨below_then B_wr_2.out (Nat.le_trans (HLX.out) B_wr_2.out.size) HB_wr_3.out⟩
            have S_wr_3 : Aside0 (Sep (w.heap.size) (Stars [Blk gk #[.slice (some al) (M).length ck, .int .i64 (a2)] 54, Row Kd.string 9 (.slice (some al) (M).length ck) (M), BA 93 gb (M) (a2)]) wr_3) := ⟨Sep.below S_wr_2.out HB_wr_3.out⟩
            have Q_wr_3 : Aside0 (Below wr_2.heap.size wr_2 wr_3) := ⟨HB_wr_3.out⟩
            have xe_wr_3 := pw_cell_below Q_wr_3.out xe
            obtain ⟨c_gk_0_wr_3, c_gk_1_wr_3⟩ := XW.cells2 (Sep.front [] [Row Kd.string 9 (.slice (some al) (M).length ck) (M), BA 93 gb (M) (a2)] S_wr_3.out).blk
            obtain ⟨z_gk_0_wr_3, z_gk_1_wr_3⟩ := XW.froz2 (Sep.front [] [Row Kd.string 9 (.slice (some al) (M).length ck) (M), BA 93 gb (M) (a2)] S_wr_3.out).blk
            clear S_wr_2 c_gk_0_wr_2 c_gk_1_wr_2 z_gk_0_wr_2 z_gk_1_wr_2
            refine pure_ (i := 0) (N := some 82) (v := ?_) (a' := ?_) Fu1 rfl rfl (by kernel_rfl) (fun _ _ _ h => h) (Or.inl ⟨by rfl, ?_⟩) ?_ ?_
            rotate_left
            · intro w'
              go_simp
              with_reducible rfl
            rotate_left
            · simp only [Act.put, List.setIfInBounds_toArray, List.set_cons_zero, List.set_cons_succ, i64_w, i32_w]
              rfl
            refine pure_ (i := 1) (N := some 83) (v := ?_) (a' := ?_) Fu2 rfl rfl (by kernel_rfl) (fun _ _ _ h => h) (Or.inl ⟨by rfl, ?_⟩) ?_ ?_
            rotate_left
            · intro w'
              go_simp
              with_reducible rfl
            rotate_left
            · simp only [Act.put, List.setIfInBounds_toArray, List.set_cons_zero, List.set_cons_succ, i64_w, i32_w]
              rfl
            refine pure_ (i := 2) (N := some 84) (v := ?_) (a' := ?_) Fu3 rfl rfl (by kernel_rfl) (fun _ _ _ h => h) (Or.inl ⟨by rfl, ?_⟩) ?_ ?_
            rotate_left
            · intro w'
              go_simp
              with_reducible rfl
            rotate_left
            · simp only [Act.put, List.setIfInBounds_toArray, List.set_cons_zero, List.set_cons_succ, i64_w, i32_w]
              rfl
            refine pure_ (i := 3) (N := some 85) (v := ?_) (a' := ?_) Fu4 rfl rfl (by kernel_rfl) (fun _ _ _ h => h) (Or.inl ⟨by rfl, ?_⟩) ?_ ?_
            rotate_left
            · intro w'
              go_simp
              with_reducible rfl
            rotate_left
            · simp only [Act.put, List.setIfInBounds_toArray, List.set_cons_zero, List.set_cons_succ, i64_w, i32_w]
              rfl
            refine pure_ (i := 5) (N := some 87) (v := ?_) (a' := ?_) Fu5 rfl rfl (by kernel_rfl) (fun _ _ _ h => h) (Or.inl ⟨by rfl, ?_⟩) ?_ ?_
            rotate_left
            · intro w'
              go_simp
              with_reducible rfl
            rotate_left
            · simp only [Act.put, List.setIfInBounds_toArray, List.set_cons_zero, List.set_cons_succ, i64_w, i32_w]
              rfl
            refine pure_ (i := 6) (N := some 88) (v := ?_) (a' := ?_) Fu6 rfl rfl (by kernel_rfl) (fun _ _ _ h => h) (Or.inl ⟨by rfl, ?_⟩) ?_ ?_
            rotate_left
            · intro w'
              go_simp
              with_reducible rfl
            rotate_left
            · simp only [Act.put, List.setIfInBounds_toArray, List.set_cons_zero, List.set_cons_succ, i64_w, i32_w]
              rfl
            refine pure_ (i := 7) (N := some 89) (v := ?_) (a' := ?_) Fu7 rfl rfl (by kernel_rfl) (fun _ _ _ h => h) (Or.inl ⟨by rfl, ?_⟩) ?_ ?_
            rotate_left
            · intro w'
              go_simp
              with_reducible rfl
            rotate_left
            · simp only [Act.put, List.setIfInBounds_toArray, List.set_cons_zero, List.set_cons_succ, i64_w, i32_w]
              rfl
            refine pure_ (i := 9) (N := some 91) (v := ?_) (a' := ?_) Fu8 rfl rfl (by kernel_rfl) (fun _ _ _ h => h) (Or.inl ⟨by rfl, ?_⟩) ?_ ?_
            rotate_left
            · intro w'
              go_simp
              with_reducible rfl
            rotate_left
            · simp only [Act.put, List.setIfInBounds_toArray, List.set_cons_zero, List.set_cons_succ, i64_w, i32_w]
              rfl
            refine pure_ (i := 10) (N := some 92) (v := ?_) (a' := ?_) Fu9 rfl rfl (by kernel_rfl) (fun _ _ _ h => h) (Or.inl ⟨by rfl, ?_⟩) ?_ ?_
            rotate_left
            · intro w'
              go_simp
              with_reducible rfl
            rotate_left
            · simp only [Act.put, List.setIfInBounds_toArray, List.set_cons_zero, List.set_cons_succ, i64_w, i32_w]
              rfl
            refine pure_ (i := 11) (N := some 93) (v := ?_) (a' := ?_) Fu10 rfl rfl (by kernel_rfl) (fun _ _ _ h => h) (Or.inl ⟨by rfl, ?_⟩) ?_ ?_
            rotate_left
            · intro w'
              go_simp
              with_reducible rfl
            rotate_left
            · simp only [Act.put, List.setIfInBounds_toArray, List.set_cons_zero, List.set_cons_succ, i64_w, i32_w]
              rfl
            refine take_ (i := 8) (N := some 90) (v := ?_) (a' := ?_) Fu11 rfl rfl (by kernel_rfl) (fun _ _ _ h => h) (Or.inl ⟨by rfl, ?_⟩) hHeld ?_ ?_
            rotate_left
            · rintro w' ⟨s0, s1, s2⟩
              go_simp
              with_reducible rfl
            rotate_left
            · simp only [Act.put, List.setIfInBounds_toArray, List.set_cons_zero, List.set_cons_succ, i64_w, i32_w]
              rfl
            refine take_ (i := 12) (N := some 94) (v := ?_) (a' := ?_) Fu12 rfl rfl (by kernel_rfl) (fun _ _ _ h => h) (Or.inl ⟨by rfl, ?_⟩) hHeld ?_ ?_
            rotate_left
            · rintro w' ⟨s0, s1, s2⟩
              go_simp
              with_reducible rfl
            rotate_left
            · simp only [Act.put, List.setIfInBounds_toArray, List.set_cons_zero, List.set_cons_succ, i64_w, i32_w]
              rfl
            refine pure_ (i := 13) (N := some 95) (v := ?_) (a' := ?_) Fu13 rfl rfl (by kernel_rfl) (fun _ _ _ h => h) (Or.inl ⟨by rfl, ?_⟩) ?_ ?_
            rotate_left
            · intro w'
              go_simp
              with_reducible rfl
            rotate_left
            · simp only [Act.put, List.setIfInBounds_toArray, List.set_cons_zero, List.set_cons_succ, i64_w, i32_w]
              rfl
            refine take_ (i := 14) (N := some 96) (v := ?_) (a' := ?_) Fu14 rfl rfl (by kernel_rfl) (fun _ _ _ h => h) (Or.inl ⟨by rfl, ?_⟩) hHeld ?_ ?_
            rotate_left
            · rintro w' ⟨s0, s1, s2⟩
              go_simp
              with_reducible rfl
            rotate_left
            · simp only [Act.put, List.setIfInBounds_toArray, List.set_cons_zero, List.set_cons_succ, i64_w, i32_w]
              rfl
            refine one_ (i := 4) (N := some 86) Fu15 rfl rfl (by kernel_rfl) (by decide) (fun K hK => ?_)
            refine goes_ Try.func29 (by kernel_rfl) rfl #[.pointer (some ⟨gb, 0, none⟩)] (by rfl) rfl rfl (by simp only [List.map_toArray, List.map_cons, List.map_nil]; rfl) ?_
            with_reducible refine (line_sep _ (Sep.front [Blk gk #[.slice (some al) (M).length ck, .int .i64 (a2)] 54, Row Kd.string 9 (.slice (some al) (M).length ck) (M)] [] S_wr_3.out) ha0' ha1' te Hte.out).mono ?_
            rintro e wr_4 ⟨rfl, hb⟩
            refine ⟨_, rfl, ?_⟩
            have B_wr_4 : Aside0 (Below (w.heap.size) wr_2 wr_4) := ⟨below_then B_wr_3.out (Nat.le_trans (HLX.out) B_wr_3.out.size) hb⟩
            have S_wr_4 : Aside0 (Sep (w.heap.size) (Stars [Blk gk #[.slice (some al) (M).length ck, .int .i64 (a2)] 54, Row Kd.string 9 (.slice (some al) (M).length ck) (M), BA 93 gb (M) (a2)]) wr_4) := ⟨Sep.below S_wr_3.out hb⟩
            have Q_wr_4 : Aside0 (Below wr_2.heap.size wr_2 wr_4) := ⟨below_step Q_wr_3.out hb⟩
            have xe_wr_4 := pw_cell_below Q_wr_4.out xe
            obtain ⟨c_gk_0_wr_4, c_gk_1_wr_4⟩ := XW.cells2 (Sep.front [] [Row Kd.string 9 (.slice (some al) (M).length ck) (M), BA 93 gb (M) (a2)] S_wr_4.out).blk
            obtain ⟨z_gk_0_wr_4, z_gk_1_wr_4⟩ := XW.froz2 (Sep.front [] [Row Kd.string 9 (.slice (some al) (M).length ck) (M), BA 93 gb (M) (a2)] S_wr_4.out).blk
            clear S_wr_3 xe_wr_3 c_gk_0_wr_3 c_gk_1_wr_3 z_gk_0_wr_3 z_gk_1_wr_3
            clear hb
            refine hK.out _ _ ⟨c_gk_0_wr_4, c_gk_1_wr_4, xe_wr_4⟩ (fun hHeld => ?_)
            clear hK K
            refine norm_ (a' := ?_) ?_ ?_
            rotate_left
            · show Act.put _ (some 86) _ = _
              simp only [Act.put, List.setIfInBounds_toArray, List.set_cons_zero, List.set_cons_succ, i64_w, i32_w]
              rfl
            refine pure_ (i := 15) (N := some 97) (v := ?_) (a' := ?_) Fu16 rfl rfl (by kernel_rfl) (fun _ _ _ h => h) (Or.inl ⟨by rfl, ?_⟩) ?_ ?_
            rotate_left
            · intro w'
              go_simp
              with_reducible rfl
            rotate_left
            · simp only [Act.put, List.setIfInBounds_toArray, List.set_cons_zero, List.set_cons_succ, i64_w, i32_w]
              rfl
            refine pure_ (i := 16) (N := some 98) (v := ?_) (a' := ?_) Fu17 rfl rfl (by kernel_rfl) (fun _ _ _ h => h) (Or.inl ⟨by rfl, ?_⟩) ?_ ?_
            rotate_left
            · intro w'
              go_simp
              with_reducible rfl
            rotate_left
            · simp only [Act.put, List.setIfInBounds_toArray, List.set_cons_zero, List.set_cons_succ, i64_w, i32_w]
              rfl
            refine done_ (by kernel_rfl) ?_
            go_wp2
            go_roundw
            case rel => first | exact ⟨k + 1, M, a2, by omega, by go_num, ⟨HLM.out, ha0', ha1'⟩, ⟨BA.close S_wr_4.out⟩, ⟨Below.trans BX.out B_wr_4.out⟩⟩ | ((repeat apply Exists.intro); exact ⟨⟨k + 1, M, a2, by omega, by go_num, ⟨HLM.out, ha0', ha1'⟩, ⟨BA.close S_wr_4.out⟩, ⟨Below.trans BX.out B_wr_4.out⟩⟩, rfl⟩)
            case measure => simp [intOf]; omega
          have e0 : (d == 0) = false := beq_eq_false_iff_ne.mpr d0
          clear d0
          by_cases d1 : d = 1
          · skip
            have e1 : (d == 1) = true := beq_iff_eq.mpr d1
            clear d1
            obtain ⟨b, hb⟩ : ∃ b, stepB M a 1 = b := ⟨_, rfl⟩
            obtain ⟨a2, ha2⟩ : ∃ a2, stepP M a 1 = a2 := ⟨_, rfl⟩
            have HB := Aside0.mk hb
            have HA2 := Aside0.mk ha2
            have hst := step_ok ha0 ha1 1
            rw [ha2] at hst
            have ha0' := hst.1
            have ha1' := hst.2
            have HLM := Aside0.mk HJ.out.1
            have bb : (b == b) = true := by simp
            clear hb ha2 hst
            go_upto_region 20 with (first | (go_at_call 32; (with_reducible refine (down_is _ (Sep.front [BA 54 gk (M) (a)] [] S_wr.out) B_wr.out.size ha0 ha1 hML b HB.out a2 HA2.out).mono ?_); rintro e wr_1 ⟨rfl, hS, hb⟩; have B_wr_1 : Aside0 (Below (w.heap.size) w wr_1) := ⟨(Below.trans B_wr.out hb)⟩; have S_wr_1 : Aside0 (Sep (w.heap.size) (Stars [BA 54 gk (M) (a), BA 93 gb (M) (a2)]) wr_1) := ⟨Sep.back [BA 54 gk (M) (a)] [] hS⟩; have x0_wr_1 := pw_cell_below B_wr_1.out x0; have x1_wr_1 := pw_cell_below B_wr_1.out x1; clear S_wr x0_wr x1_wr; clear hS hb) | (go_at_call 33; (with_reducible refine (refdown_is _ (Sep.front [] [BA 93 gb (M) (a2)] S_wr_1.out) B_wr_1.out.size ha0 ha1 hML b HB.out a2 HA2.out).mono ?_); rintro e wr_2 ⟨rfl, hS, hb⟩; have B_wr_2 : Aside0 (Below (w.heap.size) w wr_2) := ⟨(Below.trans B_wr_1.out hb)⟩; have S_wr_2 : Aside0 (Sep (w.heap.size) (Stars [BA 54 gk (M) (a2), BA 93 gb (M) (a2)]) wr_2) := ⟨Sep.back [] [BA 93 gb (M) (a2)] hS⟩; have x0_wr_2 := pw_cell_below B_wr_2.out x0; have x1_wr_2 := pw_cell_below B_wr_2.out x1; clear S_wr_1 x0_wr_1 x1_wr_1; clear hS hb))
            obtain ⟨Ak, ck, hlk, hCk, hSk⟩ := BA.open (Sep.front [] [BA 93 gb (M) (a2)] S_wr_2.out)
            clear S_wr_2 x0_wr_2 x1_wr_2
            have S_wr_2 := Aside0.mk hSk
            obtain ⟨al, hA, xe⟩ := Kd.at_string hCk (a2) ha0' ha1'
            subst hA
            obtain ⟨te, hte⟩ : ∃ te, rdOf ByteArray.empty (M) (a2) = te := ⟨_, rfl⟩
            rw [hte] at xe
            have Hte := Aside0.mk hte
            have bte : (te.toList != te.toList) = false := by simp
            clear hSk hCk hte
            have BX := B_wr_2
            clear B_wr_2
            have HLX : Aside0 (w.heap.size ≤ wr_2.heap.size) := ⟨BX.out.size⟩
            have B_wr_2 : Aside0 (Below (w.heap.size) wr_2 wr_2) := ⟨Below.refl _ _⟩
            obtain ⟨c_gk_0_wr_2, c_gk_1_wr_2⟩ := XW.cells2 (Sep.front [] [Row Kd.string 9 (.slice (some al) (M).length ck) (M), BA 93 gb (M) (a2)] S_wr_2.out).blk
            obtain ⟨z_gk_0_wr_2, z_gk_1_wr_2⟩ := XW.froz2 (Sep.front [] [Row Kd.string 9 (.slice (some al) (M).length ck) (M), BA 93 gb (M) (a2)] S_wr_2.out).blk
            refine start_ (n := 17) (S := fun w' => w'.cell? ⟨gk, 0, none⟩ = some (.slice (some al) (M).length ck) ∧ w'.cell? ⟨gk, 1, none⟩ = some (.int .i64 (a2)) ∧ w'.cell? (al.add a2.toNat) = some (.string te)) (ds := []) Fu0 (by kernel_rfl) rfl rfl ⟨c_gk_0_wr_2, c_gk_1_wr_2, xe⟩ (fun hHeld => ?_)
            generalize hdw : wr_2.drew = wr_3 at hHeld ⊢
            have HB_wr_3 : Aside0 (Below wr_2.heap.size wr_2 wr_3) := ⟨by rw [← hdw]; exact below_drew1 (Below.refl _ _)⟩
            clear hdw
            have B_wr_3 : Aside0 (Below (w.heap.size) wr_2 wr_3) := ⟨below_then B_wr_2.out (Nat.le_trans (HLX.out) B_wr_2.out.size) HB_wr_3.out⟩
            have S_wr_3 : Aside0 (Sep (w.heap.size) (Stars [Blk gk #[.slice (some al) (M).length ck, .int .i64 (a2)] 54, Row Kd.string 9 (.slice (some al) (M).length ck) (M), BA 93 gb (M) (a2)]) wr_3) := ⟨Sep.below S_wr_2.out HB_wr_3.out⟩
            have Q_wr_3 : Aside0 (Below wr_2.heap.size wr_2 wr_3) := ⟨HB_wr_3.out⟩
            have xe_wr_3 := pw_cell_below Q_wr_3.out xe
            obtain ⟨c_gk_0_wr_3, c_gk_1_wr_3⟩ := XW.cells2 (Sep.front [] [Row Kd.string 9 (.slice (some al) (M).length ck) (M), BA 93 gb (M) (a2)] S_wr_3.out).blk
            obtain ⟨z_gk_0_wr_3, z_gk_1_wr_3⟩ := XW.froz2 (Sep.front [] [Row Kd.string 9 (.slice (some al) (M).length ck) (M), BA 93 gb (M) (a2)] S_wr_3.out).blk
            clear S_wr_2 c_gk_0_wr_2 c_gk_1_wr_2 z_gk_0_wr_2 z_gk_1_wr_2
            refine pure_ (i := 0) (N := some 82) (v := ?_) (a' := ?_) Fu1 rfl rfl (by kernel_rfl) (fun _ _ _ h => h) (Or.inl ⟨by rfl, ?_⟩) ?_ ?_
            rotate_left
            · intro w'
              go_simp
              with_reducible rfl
            rotate_left
            · simp only [Act.put, List.setIfInBounds_toArray, List.set_cons_zero, List.set_cons_succ, i64_w, i32_w]
              rfl
            refine pure_ (i := 1) (N := some 83) (v := ?_) (a' := ?_) Fu2 rfl rfl (by kernel_rfl) (fun _ _ _ h => h) (Or.inl ⟨by rfl, ?_⟩) ?_ ?_
            rotate_left
            · intro w'
              go_simp
              with_reducible rfl
            rotate_left
            · simp only [Act.put, List.setIfInBounds_toArray, List.set_cons_zero, List.set_cons_succ, i64_w, i32_w]
              rfl
            refine pure_ (i := 2) (N := some 84) (v := ?_) (a' := ?_) Fu3 rfl rfl (by kernel_rfl) (fun _ _ _ h => h) (Or.inl ⟨by rfl, ?_⟩) ?_ ?_
            rotate_left
            · intro w'
              go_simp
              with_reducible rfl
            rotate_left
            · simp only [Act.put, List.setIfInBounds_toArray, List.set_cons_zero, List.set_cons_succ, i64_w, i32_w]
              rfl
            refine pure_ (i := 3) (N := some 85) (v := ?_) (a' := ?_) Fu4 rfl rfl (by kernel_rfl) (fun _ _ _ h => h) (Or.inl ⟨by rfl, ?_⟩) ?_ ?_
            rotate_left
            · intro w'
              go_simp
              with_reducible rfl
            rotate_left
            · simp only [Act.put, List.setIfInBounds_toArray, List.set_cons_zero, List.set_cons_succ, i64_w, i32_w]
              rfl
            refine pure_ (i := 5) (N := some 87) (v := ?_) (a' := ?_) Fu5 rfl rfl (by kernel_rfl) (fun _ _ _ h => h) (Or.inl ⟨by rfl, ?_⟩) ?_ ?_
            rotate_left
            · intro w'
              go_simp
              with_reducible rfl
            rotate_left
            · simp only [Act.put, List.setIfInBounds_toArray, List.set_cons_zero, List.set_cons_succ, i64_w, i32_w]
              rfl
            refine pure_ (i := 6) (N := some 88) (v := ?_) (a' := ?_) Fu6 rfl rfl (by kernel_rfl) (fun _ _ _ h => h) (Or.inl ⟨by rfl, ?_⟩) ?_ ?_
            rotate_left
            · intro w'
              go_simp
              with_reducible rfl
            rotate_left
            · simp only [Act.put, List.setIfInBounds_toArray, List.set_cons_zero, List.set_cons_succ, i64_w, i32_w]
              rfl
            refine pure_ (i := 7) (N := some 89) (v := ?_) (a' := ?_) Fu7 rfl rfl (by kernel_rfl) (fun _ _ _ h => h) (Or.inl ⟨by rfl, ?_⟩) ?_ ?_
            rotate_left
            · intro w'
              go_simp
              with_reducible rfl
            rotate_left
            · simp only [Act.put, List.setIfInBounds_toArray, List.set_cons_zero, List.set_cons_succ, i64_w, i32_w]
              rfl
            refine pure_ (i := 9) (N := some 91) (v := ?_) (a' := ?_) Fu8 rfl rfl (by kernel_rfl) (fun _ _ _ h => h) (Or.inl ⟨by rfl, ?_⟩) ?_ ?_
            rotate_left
            · intro w'
              go_simp
              with_reducible rfl
            rotate_left
            · simp only [Act.put, List.setIfInBounds_toArray, List.set_cons_zero, List.set_cons_succ, i64_w, i32_w]
              rfl
            refine pure_ (i := 10) (N := some 92) (v := ?_) (a' := ?_) Fu9 rfl rfl (by kernel_rfl) (fun _ _ _ h => h) (Or.inl ⟨by rfl, ?_⟩) ?_ ?_
            rotate_left
            · intro w'
              go_simp
              with_reducible rfl
            rotate_left
            · simp only [Act.put, List.setIfInBounds_toArray, List.set_cons_zero, List.set_cons_succ, i64_w, i32_w]
              rfl
            refine pure_ (i := 11) (N := some 93) (v := ?_) (a' := ?_) Fu10 rfl rfl (by kernel_rfl) (fun _ _ _ h => h) (Or.inl ⟨by rfl, ?_⟩) ?_ ?_
            rotate_left
            · intro w'
              go_simp
              with_reducible rfl
            rotate_left
            · simp only [Act.put, List.setIfInBounds_toArray, List.set_cons_zero, List.set_cons_succ, i64_w, i32_w]
              rfl
            refine take_ (i := 8) (N := some 90) (v := ?_) (a' := ?_) Fu11 rfl rfl (by kernel_rfl) (fun _ _ _ h => h) (Or.inl ⟨by rfl, ?_⟩) hHeld ?_ ?_
            rotate_left
            · rintro w' ⟨s0, s1, s2⟩
              go_simp
              with_reducible rfl
            rotate_left
            · simp only [Act.put, List.setIfInBounds_toArray, List.set_cons_zero, List.set_cons_succ, i64_w, i32_w]
              rfl
            refine take_ (i := 12) (N := some 94) (v := ?_) (a' := ?_) Fu12 rfl rfl (by kernel_rfl) (fun _ _ _ h => h) (Or.inl ⟨by rfl, ?_⟩) hHeld ?_ ?_
            rotate_left
            · rintro w' ⟨s0, s1, s2⟩
              go_simp
              with_reducible rfl
            rotate_left
            · simp only [Act.put, List.setIfInBounds_toArray, List.set_cons_zero, List.set_cons_succ, i64_w, i32_w]
              rfl
            refine pure_ (i := 13) (N := some 95) (v := ?_) (a' := ?_) Fu13 rfl rfl (by kernel_rfl) (fun _ _ _ h => h) (Or.inl ⟨by rfl, ?_⟩) ?_ ?_
            rotate_left
            · intro w'
              go_simp
              with_reducible rfl
            rotate_left
            · simp only [Act.put, List.setIfInBounds_toArray, List.set_cons_zero, List.set_cons_succ, i64_w, i32_w]
              rfl
            refine take_ (i := 14) (N := some 96) (v := ?_) (a' := ?_) Fu14 rfl rfl (by kernel_rfl) (fun _ _ _ h => h) (Or.inl ⟨by rfl, ?_⟩) hHeld ?_ ?_
            rotate_left
            · rintro w' ⟨s0, s1, s2⟩
              go_simp
              with_reducible rfl
            rotate_left
            · simp only [Act.put, List.setIfInBounds_toArray, List.set_cons_zero, List.set_cons_succ, i64_w, i32_w]
              rfl
            refine one_ (i := 4) (N := some 86) Fu15 rfl rfl (by kernel_rfl) (by decide) (fun K hK => ?_)
            refine goes_ Try.func29 (by kernel_rfl) rfl #[.pointer (some ⟨gb, 0, none⟩)] (by rfl) rfl rfl (by simp only [List.map_toArray, List.map_cons, List.map_nil]; rfl) ?_
            with_reducible refine (line_sep _ (Sep.front [Blk gk #[.slice (some al) (M).length ck, .int .i64 (a2)] 54, Row Kd.string 9 (.slice (some al) (M).length ck) (M)] [] S_wr_3.out) ha0' ha1' te Hte.out).mono ?_
            rintro e wr_4 ⟨rfl, hb⟩
            refine ⟨_, rfl, ?_⟩
            have B_wr_4 : Aside0 (Below (w.heap.size) wr_2 wr_4) := ⟨below_then B_wr_3.out (Nat.le_trans (HLX.out) B_wr_3.out.size) hb⟩
            have S_wr_4 : Aside0 (Sep (w.heap.size) (Stars [Blk gk #[.slice (some al) (M).length ck, .int .i64 (a2)] 54, Row Kd.string 9 (.slice (some al) (M).length ck) (M), BA 93 gb (M) (a2)]) wr_4) := ⟨Sep.below S_wr_3.out hb⟩
            have Q_wr_4 : Aside0 (Below wr_2.heap.size wr_2 wr_4) := ⟨below_step Q_wr_3.out hb⟩
            have xe_wr_4 := pw_cell_below Q_wr_4.out xe
            obtain ⟨c_gk_0_wr_4, c_gk_1_wr_4⟩ := XW.cells2 (Sep.front [] [Row Kd.string 9 (.slice (some al) (M).length ck) (M), BA 93 gb (M) (a2)] S_wr_4.out).blk
            obtain ⟨z_gk_0_wr_4, z_gk_1_wr_4⟩ := XW.froz2 (Sep.front [] [Row Kd.string 9 (.slice (some al) (M).length ck) (M), BA 93 gb (M) (a2)] S_wr_4.out).blk
            clear S_wr_3 xe_wr_3 c_gk_0_wr_3 c_gk_1_wr_3 z_gk_0_wr_3 z_gk_1_wr_3
            clear hb
            refine hK.out _ _ ⟨c_gk_0_wr_4, c_gk_1_wr_4, xe_wr_4⟩ (fun hHeld => ?_)
            clear hK K
            refine norm_ (a' := ?_) ?_ ?_
            rotate_left
            · show Act.put _ (some 86) _ = _
              simp only [Act.put, List.setIfInBounds_toArray, List.set_cons_zero, List.set_cons_succ, i64_w, i32_w]
              rfl
            refine pure_ (i := 15) (N := some 97) (v := ?_) (a' := ?_) Fu16 rfl rfl (by kernel_rfl) (fun _ _ _ h => h) (Or.inl ⟨by rfl, ?_⟩) ?_ ?_
            rotate_left
            · intro w'
              go_simp
              with_reducible rfl
            rotate_left
            · simp only [Act.put, List.setIfInBounds_toArray, List.set_cons_zero, List.set_cons_succ, i64_w, i32_w]
              rfl
            refine pure_ (i := 16) (N := some 98) (v := ?_) (a' := ?_) Fu17 rfl rfl (by kernel_rfl) (fun _ _ _ h => h) (Or.inl ⟨by rfl, ?_⟩) ?_ ?_
            rotate_left
            · intro w'
              go_simp
              with_reducible rfl
            rotate_left
            · simp only [Act.put, List.setIfInBounds_toArray, List.set_cons_zero, List.set_cons_succ, i64_w, i32_w]
              rfl
            refine done_ (by kernel_rfl) ?_
            go_wp2
            go_roundw
            case rel => first | exact ⟨k + 1, M, a2, by omega, by go_num, ⟨HLM.out, ha0', ha1'⟩, ⟨BA.close S_wr_4.out⟩, ⟨Below.trans BX.out B_wr_4.out⟩⟩ | ((repeat apply Exists.intro); exact ⟨⟨k + 1, M, a2, by omega, by go_num, ⟨HLM.out, ha0', ha1'⟩, ⟨BA.close S_wr_4.out⟩, ⟨Below.trans BX.out B_wr_4.out⟩⟩, rfl⟩)
            case measure => simp [intOf]; omega
          have e1 : (d == 1) = false := beq_eq_false_iff_ne.mpr d1
          clear d1
          · skip
            obtain ⟨j, rfl⟩ : ∃ j : Nat, a = (j : Int) := ⟨a.toNat, by omega⟩
            have hj : j < M.length := by omega
            have hset : M.set (j : Int).toNat t = M.set j t := by rw [Int.toNat_natCast]
            go_upto_region 15 with (first | (go_at_call 34; (with_reducible refine (edit_at _ (Sep.front [BA 54 gk (M) ((j : Int))] [] S_wr.out) B_wr.out.size ha0 ha1 hML t (M.set j t) hset).mono ?_); rintro e wr_1 ⟨rfl, hS, hb⟩; have B_wr_1 : Aside0 (Below (w.heap.size) w wr_1) := ⟨(Below.trans B_wr.out hb)⟩; have S_wr_1 : Aside0 (Sep (w.heap.size) (Stars [BA 54 gk (M) ((j : Int)), BA 93 gb (M.set j t) ((j : Int))]) wr_1) := ⟨Sep.back [BA 54 gk (M) ((j : Int))] [] hS⟩; have x0_wr_1 := pw_cell_below B_wr_1.out x0; have x1_wr_1 := pw_cell_below B_wr_1.out x1; clear S_wr x0_wr x1_wr; clear hS hb))
            obtain ⟨Ak, ck, hlk, hCk, hSk⟩ := BA.open (Sep.front [] [BA 93 gb (M.set j t) ((j : Int))] S_wr_1.out)
            clear S_wr_1
            have S_wr_1 := Aside0.mk hSk
            obtain ⟨gr, hgr, hle⟩ := row_block (g := 0) (Sep.front [Blk gk #[.slice Ak M.length ck, .int .i64 (j : Int)] 54] [BA 93 gb (M.set j t) ((j : Int))] hSk) (by omega)
            subst hgr
            have Hle := Aside0.mk hle
            obtain ⟨al, hA, xe⟩ := Kd.at_string hCk (j : Int) ha0 ha1
            obtain rfl : (⟨gr, 0, none⟩ : Addr) = al := by injection hA
            rw [Int.toNat_natCast, add_plain] at xe
            have x0b := x0_wr_1
            have x1b := x1_wr_1
            clear hA hle hSk hCk x0_wr_1 x1_wr_1
            have BX := B_wr_1
            clear B_wr_1
            have HLX : Aside0 (w.heap.size ≤ wr_1.heap.size) := ⟨BX.out.size⟩
            have B_wr_1 : Aside0 (Below (w.heap.size) wr_1 wr_1) := ⟨Below.refl _ _⟩
            obtain ⟨c_gk_0_wr_1, c_gk_1_wr_1⟩ := XW.cells2 (Sep.front [] [Row Kd.string 9 (.slice (some ⟨gr, 0, none⟩) M.length ck) (M), BA 93 gb (M.set j t) ((j : Int))] S_wr_1.out).blk
            obtain ⟨z_gk_0_wr_1, z_gk_1_wr_1⟩ := XW.froz2 (Sep.front [] [Row Kd.string 9 (.slice (some ⟨gr, 0, none⟩) M.length ck) (M), BA 93 gb (M.set j t) ((j : Int))] S_wr_1.out).blk
            refine start_ (n := 15) (S := fun w' => w'.cell? ⟨gk, 0, none⟩ = some (.slice (some ⟨gr, 0, none⟩) M.length ck) ∧ w'.cell? ⟨gk, 1, none⟩ = some (.int .i64 (j : Int)) ∧ w'.cell? ⟨gr, j, none⟩ = some (.string (rdOf ByteArray.empty M (j : Int))) ∧ w'.cell? (ad.add (k * 2)) = some (.int .i64 d) ∧ w'.cell? ⟨(ad.add (k * 2)).block, (ad.add (k * 2)).off + 1, none⟩ = some (.string t)) (ds := [14]) Fu18 (by kernel_rfl) rfl rfl ⟨c_gk_0_wr_1, c_gk_1_wr_1, xe, x0b, x1b⟩ (fun hHeld => ?_)
            generalize hdw : wr_1.drew = wr_2 at hHeld ⊢
            have HB_wr_2 : Aside0 (Below wr_1.heap.size wr_1 wr_2) := ⟨by rw [← hdw]; exact below_drew1 (Below.refl _ _)⟩
            clear hdw
            have B_wr_2 : Aside0 (Below (w.heap.size) wr_1 wr_2) := ⟨below_then B_wr_1.out (Nat.le_trans (HLX.out) B_wr_1.out.size) HB_wr_2.out⟩
            have S_wr_2 : Aside0 (Sep (w.heap.size) (Stars [Blk gk #[.slice (some ⟨gr, 0, none⟩) M.length ck, .int .i64 (j : Int)] 54, Row Kd.string 9 (.slice (some ⟨gr, 0, none⟩) M.length ck) (M), BA 93 gb (M.set j t) ((j : Int))]) wr_2) := ⟨Sep.below S_wr_1.out HB_wr_2.out⟩
            have Q_wr_2 : Aside0 (Below wr_1.heap.size wr_1 wr_2) := ⟨HB_wr_2.out⟩
            have xe_wr_2 := pw_cell_below Q_wr_2.out xe
            have x0b_wr_2 := pw_cell_below Q_wr_2.out x0b
            have x1b_wr_2 := pw_cell_below Q_wr_2.out x1b
            obtain ⟨c_gk_0_wr_2, c_gk_1_wr_2⟩ := XW.cells2 (Sep.front [] [Row Kd.string 9 (.slice (some ⟨gr, 0, none⟩) M.length ck) (M), BA 93 gb (M.set j t) ((j : Int))] S_wr_2.out).blk
            obtain ⟨z_gk_0_wr_2, z_gk_1_wr_2⟩ := XW.froz2 (Sep.front [] [Row Kd.string 9 (.slice (some ⟨gr, 0, none⟩) M.length ck) (M), BA 93 gb (M.set j t) ((j : Int))] S_wr_2.out).blk
            clear S_wr_1 c_gk_0_wr_1 c_gk_1_wr_1 z_gk_0_wr_1 z_gk_1_wr_1
            refine pure_ (i := 0) (N := some 54) (v := ?_) (a' := ?_) Fu19 rfl rfl (by kernel_rfl) (fun _ _ _ h => h) (Or.inl ⟨by rfl, ?_⟩) ?_ ?_
            rotate_left
            · intro w'
              go_simp
              with_reducible rfl
            rotate_left
            · simp only [Act.put, List.setIfInBounds_toArray, List.set_cons_zero, List.set_cons_succ, i64_w, i32_w]
              rfl
            refine pure_ (i := 1) (N := some 55) (v := ?_) (a' := ?_) Fu20 rfl rfl (by kernel_rfl) (fun _ _ _ h => h) (Or.inl ⟨by rfl, ?_⟩) ?_ ?_
            rotate_left
            · intro w'
              go_simp
              with_reducible rfl
            rotate_left
            · simp only [Act.put, List.setIfInBounds_toArray, List.set_cons_zero, List.set_cons_succ, i64_w, i32_w]
              rfl
            refine pure_ (i := 2) (N := some 56) (v := ?_) (a' := ?_) Fu21 rfl rfl (by kernel_rfl) (fun _ _ _ h => h) (Or.inl ⟨by rfl, ?_⟩) ?_ ?_
            rotate_left
            · intro w'
              go_simp
              with_reducible rfl
            rotate_left
            · simp only [Act.put, List.setIfInBounds_toArray, List.set_cons_zero, List.set_cons_succ, i64_w, i32_w]
              rfl
            refine pure_ (i := 4) (N := some 58) (v := ?_) (a' := ?_) Fu22 rfl rfl (by kernel_rfl) (fun _ _ _ h => h) (Or.inl ⟨by rfl, ?_⟩) ?_ ?_
            rotate_left
            · intro w'
              go_simp
              with_reducible rfl
            rotate_left
            · simp only [Act.put, List.setIfInBounds_toArray, List.set_cons_zero, List.set_cons_succ, i64_w, i32_w]
              rfl
            refine pure_ (i := 5) (N := some 59) (v := ?_) (a' := ?_) Fu23 rfl rfl (by kernel_rfl) (fun _ _ _ h => h) (Or.inl ⟨by rfl, ?_⟩) ?_ ?_
            rotate_left
            · intro w'
              go_simp
              with_reducible rfl
            rotate_left
            · simp only [Act.put, List.setIfInBounds_toArray, List.set_cons_zero, List.set_cons_succ, i64_w, i32_w]
              rfl
            refine pure_ (i := 6) (N := some 60) (v := ?_) (a' := ?_) Fu24 rfl rfl (by kernel_rfl) (fun _ _ _ h => h) (Or.inl ⟨by rfl, ?_⟩) ?_ ?_
            rotate_left
            · intro w'
              go_simp
              with_reducible rfl
            rotate_left
            · simp only [Act.put, List.setIfInBounds_toArray, List.set_cons_zero, List.set_cons_succ, i64_w, i32_w]
              rfl
            refine pure_ (i := 8) (N := some 62) (v := ?_) (a' := ?_) Fu25 rfl rfl (by kernel_rfl) (fun _ _ _ h => h) (Or.inl ⟨by rfl, ?_⟩) ?_ ?_
            rotate_left
            · intro w'
              go_simp
              with_reducible rfl
            rotate_left
            · simp only [Act.put, List.setIfInBounds_toArray, List.set_cons_zero, List.set_cons_succ, i64_w, i32_w]
              rfl
            refine pure_ (i := 9) (N := some 63) (v := ?_) (a' := ?_) Fu26 rfl rfl (by kernel_rfl) (fun _ _ _ h => h) (Or.inl ⟨by rfl, ?_⟩) ?_ ?_
            rotate_left
            · intro w'
              go_simp
              with_reducible rfl
            rotate_left
            · simp only [Act.put, List.setIfInBounds_toArray, List.set_cons_zero, List.set_cons_succ, i64_w, i32_w]
              rfl
            refine pure_ (i := 10) (N := some 64) (v := ?_) (a' := ?_) Fu27 rfl rfl (by kernel_rfl) (fun _ _ _ h => h) (Or.inl ⟨by rfl, ?_⟩) ?_ ?_
            rotate_left
            · intro w'
              go_simp
              with_reducible rfl
            rotate_left
            · simp only [Act.put, List.setIfInBounds_toArray, List.set_cons_zero, List.set_cons_succ, i64_w, i32_w]
              rfl
            refine pure_ (i := 11) (N := some 65) (v := ?_) (a' := ?_) Fu28 rfl rfl (by kernel_rfl) (fun _ _ _ h => h) (Or.inl ⟨by rfl, ?_⟩) ?_ ?_
            rotate_left
            · intro w'
              go_simp
              with_reducible rfl
            rotate_left
            · simp only [Act.put, List.setIfInBounds_toArray, List.set_cons_zero, List.set_cons_succ, i64_w, i32_w]
              rfl
            refine take_ (i := 3) (N := some 57) (v := ?_) (a' := ?_) Fu29 rfl rfl (by kernel_rfl) (fun _ _ _ h => h) (Or.inl ⟨by rfl, ?_⟩) hHeld ?_ ?_
            rotate_left
            · rintro w' ⟨s0, s1, s2, s3, s4⟩
              go_simp
              with_reducible rfl
            rotate_left
            · simp only [Act.put, List.setIfInBounds_toArray, List.set_cons_zero, List.set_cons_succ, i64_w, i32_w]
              rfl
            refine take_ (i := 7) (N := some 61) (v := ?_) (a' := ?_) Fu30 rfl rfl (by kernel_rfl) (fun _ _ _ h => h) (Or.inl ⟨by rfl, ?_⟩) hHeld ?_ ?_
            rotate_left
            · rintro w' ⟨s0, s1, s2, s3, s4⟩
              go_simp
              with_reducible rfl
            rotate_left
            · simp only [Act.put, List.setIfInBounds_toArray, List.set_cons_zero, List.set_cons_succ, i64_w, i32_w]
              rfl
            refine take_ (i := 12) (N := some 66) (v := ?_) (a' := ?_) Fu31 rfl rfl (by kernel_rfl) (fun _ _ _ h => h) (Or.inl ⟨by rfl, ?_⟩) hHeld ?_ ?_
            rotate_left
            · rintro w' ⟨s0, s1, s2, s3, s4⟩
              go_simp
              with_reducible rfl
            rotate_left
            · simp only [Act.put, List.setIfInBounds_toArray, List.set_cons_zero, List.set_cons_succ, i64_w, i32_w]
              rfl
            refine pure_ (i := 13) (N := some 67) (v := ?_) (a' := ?_) Fu32 rfl rfl (by kernel_rfl) (fun _ _ _ h => h) (Or.inl ⟨by rfl, ?_⟩) ?_ ?_
            rotate_left
            · intro w'
              go_simp
              with_reducible rfl
            rotate_left
            · simp only [Act.put, List.setIfInBounds_toArray, List.set_cons_zero, List.set_cons_succ, i64_w, i32_w]
              rfl
            refine last_ (i := 14) (N := none) Fu33 rfl rfl (by kernel_rfl) (by decide) (fun K hK => ?_)
            have zr := row_frozen (Sep.front [Blk gk #[.slice (some ⟨gr, 0, none⟩) M.length ck, .int .i64 (j : Int)] 54] [BA 93 gb (M.set j t) ((j : Int))] S_wr_2.out) j
            have xe1 := xe_wr_2
            refine skip_ (w1 := ?_) (by rfl) rfl ?_ ?_
            rotate_left
            · go_simp
              rfl
            refine hK.out _ _ ?_
            clear hK K
            refine done_ (by kernel_rfl) ?_
            have S_9 := Sep.back [Blk gk #[.slice (some ⟨gr, 0, none⟩) M.length ck, .int .i64 (j : Int)] 54] [BA 93 gb (M.set j t) ((j : Int))] (sep_store_str (Sep.front [Blk gk #[.slice (some ⟨gr, 0, none⟩) M.length ck, .int .i64 (j : Int)] 54] [BA 93 gb (M.set j t) ((j : Int))] S_wr_2.out) (Nat.le_trans (HLX.out) B_wr_2.out.size) j hj t)
            have B_9 : Below w.heap.size wr_1 (wr_2.setCell ⟨gr, j, none⟩ (.string t)) := Below.setCell B_wr_2.out Hle.out _
            obtain ⟨wr_3, hw⟩ : ∃ x, x = (wr_2.setCell ⟨gr, j, none⟩ (.string t)) := ⟨_, rfl⟩
            rw [← hw]
            rw [← hw] at S_9 B_9
            have B_wr_3 : Aside0 (Below w.heap.size w wr_3) := ⟨Below.trans BX.out B_9⟩
            have S_c := BA.close S_9
            have S_wr_3 : Aside0 (Sep w.heap.size (Stars [BA 54 gk (M.set j t) ((j : Int)), BA 93 gb (M.set j t) ((j : Int))]) wr_3) := ⟨by have h := S_c; exact BA_len h⟩
            clear S_9 B_9 S_c hw BX HLX S_wr_2 B_wr_2 xe_wr_2 x0b_wr_2 x1b_wr_2 c_gk_0_wr_2 c_gk_1_wr_2 z_gk_0_wr_2 z_gk_1_wr_2 B_wr_1
            have HLN : Aside0 ((M.set j t).length = M.length) := ⟨List.length_set⟩
            have HLM : Aside0 ((M.set j t).length = L.length + 1) := ⟨HLN.out.trans HJ.out.1⟩
            have ha0' := ha0
            have ha1' : (j : Int) < ((M.set j t).length : Int) := by rw [HLN.out]; exact ha1
            go_upto_region 20 with (fail)
            obtain ⟨Ak, ck, hlk, hCk, hSk⟩ := BA.open (Sep.front [] [BA 93 gb (M.set j t) ((j : Int))] S_wr_3.out)
            clear S_wr_3
            have S_wr_3 := Aside0.mk hSk
            obtain ⟨al, hA, xe⟩ := Kd.at_string hCk ((j : Int)) ha0' ha1'
            subst hA
            obtain ⟨te, hte⟩ : ∃ te, rdOf ByteArray.empty (M.set j t) ((j : Int)) = te := ⟨_, rfl⟩
            rw [hte] at xe
            rw [Int.toNat_natCast] at xe
            have Hte := Aside0.mk hte
            have bte : (te.toList != te.toList) = false := by simp
            clear hSk hCk hte
            have BX := B_wr_3
            clear B_wr_3
            have HLX : Aside0 (w.heap.size ≤ wr_3.heap.size) := ⟨BX.out.size⟩
            have B_wr_3 : Aside0 (Below (w.heap.size) wr_3 wr_3) := ⟨Below.refl _ _⟩
            obtain ⟨c_gk_0_wr_3, c_gk_1_wr_3⟩ := XW.cells2 (Sep.front [] [Row Kd.string 9 (.slice (some al) (M.set j t).length ck) (M.set j t), BA 93 gb (M.set j t) ((j : Int))] S_wr_3.out).blk
            obtain ⟨z_gk_0_wr_3, z_gk_1_wr_3⟩ := XW.froz2 (Sep.front [] [Row Kd.string 9 (.slice (some al) (M.set j t).length ck) (M.set j t), BA 93 gb (M.set j t) ((j : Int))] S_wr_3.out).blk
            refine start_ (n := 17) (S := fun w' => w'.cell? ⟨gk, 0, none⟩ = some (.slice (some al) (M.set j t).length ck) ∧ w'.cell? ⟨gk, 1, none⟩ = some (.int .i64 ((j : Int))) ∧ w'.cell? (al.add j) = some (.string te)) (ds := []) Fu0 (by kernel_rfl) rfl rfl ⟨c_gk_0_wr_3, c_gk_1_wr_3, xe⟩ (fun hHeld => ?_)
            generalize hdw : wr_3.drew = wr_4 at hHeld ⊢
            have HB_wr_4 : Aside0 (Below wr_3.heap.size wr_3 wr_4) := ⟨by rw [← hdw]; exact below_drew1 (Below.refl _ _)⟩
            clear hdw
            have B_wr_4 : Aside0 (Below (w.heap.size) wr_3 wr_4) := ⟨below_then B_wr_3.out (Nat.le_trans (HLX.out) B_wr_3.out.size) HB_wr_4.out⟩
            have S_wr_4 : Aside0 (Sep (w.heap.size) (Stars [Blk gk #[.slice (some al) (M.set j t).length ck, .int .i64 ((j : Int))] 54, Row Kd.string 9 (.slice (some al) (M.set j t).length ck) (M.set j t), BA 93 gb (M.set j t) ((j : Int))]) wr_4) := ⟨Sep.below S_wr_3.out HB_wr_4.out⟩
            have Q_wr_4 : Aside0 (Below wr_3.heap.size wr_3 wr_4) := ⟨HB_wr_4.out⟩
            have xe_wr_4 := pw_cell_below Q_wr_4.out xe
            obtain ⟨c_gk_0_wr_4, c_gk_1_wr_4⟩ := XW.cells2 (Sep.front [] [Row Kd.string 9 (.slice (some al) (M.set j t).length ck) (M.set j t), BA 93 gb (M.set j t) ((j : Int))] S_wr_4.out).blk
            obtain ⟨z_gk_0_wr_4, z_gk_1_wr_4⟩ := XW.froz2 (Sep.front [] [Row Kd.string 9 (.slice (some al) (M.set j t).length ck) (M.set j t), BA 93 gb (M.set j t) ((j : Int))] S_wr_4.out).blk
            clear S_wr_3 c_gk_0_wr_3 c_gk_1_wr_3 z_gk_0_wr_3 z_gk_1_wr_3
            refine pure_ (i := 0) (N := some 82) (v := ?_) (a' := ?_) Fu1 rfl rfl (by kernel_rfl) (fun _ _ _ h => h) (Or.inl ⟨by rfl, ?_⟩) ?_ ?_
            rotate_left
            · intro w'
              go_simp
              with_reducible rfl
            rotate_left
            · simp only [Act.put, List.setIfInBounds_toArray, List.set_cons_zero, List.set_cons_succ, i64_w, i32_w]
              rfl
            refine pure_ (i := 1) (N := some 83) (v := ?_) (a' := ?_) Fu2 rfl rfl (by kernel_rfl) (fun _ _ _ h => h) (Or.inl ⟨by rfl, ?_⟩) ?_ ?_
            rotate_left
            · intro w'
              go_simp
              with_reducible rfl
            rotate_left
            · simp only [Act.put, List.setIfInBounds_toArray, List.set_cons_zero, List.set_cons_succ, i64_w, i32_w]
              rfl
            refine pure_ (i := 2) (N := some 84) (v := ?_) (a' := ?_) Fu3 rfl rfl (by kernel_rfl) (fun _ _ _ h => h) (Or.inl ⟨by rfl, ?_⟩) ?_ ?_
            rotate_left
            · intro w'
              go_simp
              with_reducible rfl
            rotate_left
            · simp only [Act.put, List.setIfInBounds_toArray, List.set_cons_zero, List.set_cons_succ, i64_w, i32_w]
              rfl
            refine pure_ (i := 3) (N := some 85) (v := ?_) (a' := ?_) Fu4 rfl rfl (by kernel_rfl) (fun _ _ _ h => h) (Or.inl ⟨by rfl, ?_⟩) ?_ ?_
            rotate_left
            · intro w'
              go_simp
              with_reducible rfl
            rotate_left
            · simp only [Act.put, List.setIfInBounds_toArray, List.set_cons_zero, List.set_cons_succ, i64_w, i32_w]
              rfl
            refine pure_ (i := 5) (N := some 87) (v := ?_) (a' := ?_) Fu5 rfl rfl (by kernel_rfl) (fun _ _ _ h => h) (Or.inl ⟨by rfl, ?_⟩) ?_ ?_
            rotate_left
            · intro w'
              go_simp
              with_reducible rfl
            rotate_left
            · simp only [Act.put, List.setIfInBounds_toArray, List.set_cons_zero, List.set_cons_succ, i64_w, i32_w]
              rfl
            refine pure_ (i := 6) (N := some 88) (v := ?_) (a' := ?_) Fu6 rfl rfl (by kernel_rfl) (fun _ _ _ h => h) (Or.inl ⟨by rfl, ?_⟩) ?_ ?_
            rotate_left
            · intro w'
              go_simp
              with_reducible rfl
            rotate_left
            · simp only [Act.put, List.setIfInBounds_toArray, List.set_cons_zero, List.set_cons_succ, i64_w, i32_w]
              rfl
            refine pure_ (i := 7) (N := some 89) (v := ?_) (a' := ?_) Fu7 rfl rfl (by kernel_rfl) (fun _ _ _ h => h) (Or.inl ⟨by rfl, ?_⟩) ?_ ?_
            rotate_left
            · intro w'
              go_simp
              with_reducible rfl
            rotate_left
            · simp only [Act.put, List.setIfInBounds_toArray, List.set_cons_zero, List.set_cons_succ, i64_w, i32_w]
              rfl
            refine pure_ (i := 9) (N := some 91) (v := ?_) (a' := ?_) Fu8 rfl rfl (by kernel_rfl) (fun _ _ _ h => h) (Or.inl ⟨by rfl, ?_⟩) ?_ ?_
            rotate_left
            · intro w'
              go_simp
              with_reducible rfl
            rotate_left
            · simp only [Act.put, List.setIfInBounds_toArray, List.set_cons_zero, List.set_cons_succ, i64_w, i32_w]
              rfl
            refine pure_ (i := 10) (N := some 92) (v := ?_) (a' := ?_) Fu9 rfl rfl (by kernel_rfl) (fun _ _ _ h => h) (Or.inl ⟨by rfl, ?_⟩) ?_ ?_
            rotate_left
            · intro w'
              go_simp
              with_reducible rfl
            rotate_left
            · simp only [Act.put, List.setIfInBounds_toArray, List.set_cons_zero, List.set_cons_succ, i64_w, i32_w]
              rfl
            refine pure_ (i := 11) (N := some 93) (v := ?_) (a' := ?_) Fu10 rfl rfl (by kernel_rfl) (fun _ _ _ h => h) (Or.inl ⟨by rfl, ?_⟩) ?_ ?_
            rotate_left
            · intro w'
              go_simp
              with_reducible rfl
            rotate_left
            · simp only [Act.put, List.setIfInBounds_toArray, List.set_cons_zero, List.set_cons_succ, i64_w, i32_w]
              rfl
            refine take_ (i := 8) (N := some 90) (v := ?_) (a' := ?_) Fu11 rfl rfl (by kernel_rfl) (fun _ _ _ h => h) (Or.inl ⟨by rfl, ?_⟩) hHeld ?_ ?_
            rotate_left
            · rintro w' ⟨s0, s1, s2⟩
              go_simp
              with_reducible rfl
            rotate_left
            · simp only [Act.put, List.setIfInBounds_toArray, List.set_cons_zero, List.set_cons_succ, i64_w, i32_w]
              rfl
            refine take_ (i := 12) (N := some 94) (v := ?_) (a' := ?_) Fu12 rfl rfl (by kernel_rfl) (fun _ _ _ h => h) (Or.inl ⟨by rfl, ?_⟩) hHeld ?_ ?_
            rotate_left
            · rintro w' ⟨s0, s1, s2⟩
              go_simp
              with_reducible rfl
            rotate_left
            · simp only [Act.put, List.setIfInBounds_toArray, List.set_cons_zero, List.set_cons_succ, i64_w, i32_w]
              rfl
            refine pure_ (i := 13) (N := some 95) (v := ?_) (a' := ?_) Fu13 rfl rfl (by kernel_rfl) (fun _ _ _ h => h) (Or.inl ⟨by rfl, ?_⟩) ?_ ?_
            rotate_left
            · intro w'
              go_simp
              with_reducible rfl
            rotate_left
            · simp only [Act.put, List.setIfInBounds_toArray, List.set_cons_zero, List.set_cons_succ, i64_w, i32_w]
              rfl
            refine take_ (i := 14) (N := some 96) (v := ?_) (a' := ?_) Fu14 rfl rfl (by kernel_rfl) (fun _ _ _ h => h) (Or.inl ⟨by rfl, ?_⟩) hHeld ?_ ?_
            rotate_left
            · rintro w' ⟨s0, s1, s2⟩
              go_simp
              with_reducible rfl
            rotate_left
            · simp only [Act.put, List.setIfInBounds_toArray, List.set_cons_zero, List.set_cons_succ, i64_w, i32_w]
              rfl
            refine one_ (i := 4) (N := some 86) Fu15 rfl rfl (by kernel_rfl) (by decide) (fun K hK => ?_)
            refine goes_ Try.func29 (by kernel_rfl) rfl #[.pointer (some ⟨gb, 0, none⟩)] (by rfl) rfl rfl (by simp only [List.map_toArray, List.map_cons, List.map_nil]; rfl) ?_
            with_reducible refine (line_sep _ (Sep.front [Blk gk #[.slice (some al) (M.set j t).length ck, .int .i64 ((j : Int))] 54, Row Kd.string 9 (.slice (some al) (M.set j t).length ck) (M.set j t)] [] S_wr_4.out) ha0' ha1' te Hte.out).mono ?_
            rintro e wr_5 ⟨rfl, hb⟩
            refine ⟨_, rfl, ?_⟩
            have B_wr_5 : Aside0 (Below (w.heap.size) wr_3 wr_5) := ⟨below_then B_wr_4.out (Nat.le_trans (HLX.out) B_wr_4.out.size) hb⟩
            have S_wr_5 : Aside0 (Sep (w.heap.size) (Stars [Blk gk #[.slice (some al) (M.set j t).length ck, .int .i64 ((j : Int))] 54, Row Kd.string 9 (.slice (some al) (M.set j t).length ck) (M.set j t), BA 93 gb (M.set j t) ((j : Int))]) wr_5) := ⟨Sep.below S_wr_4.out hb⟩
            have Q_wr_5 : Aside0 (Below wr_3.heap.size wr_3 wr_5) := ⟨below_step Q_wr_4.out hb⟩
            have xe_wr_5 := pw_cell_below Q_wr_5.out xe
            obtain ⟨c_gk_0_wr_5, c_gk_1_wr_5⟩ := XW.cells2 (Sep.front [] [Row Kd.string 9 (.slice (some al) (M.set j t).length ck) (M.set j t), BA 93 gb (M.set j t) ((j : Int))] S_wr_5.out).blk
            obtain ⟨z_gk_0_wr_5, z_gk_1_wr_5⟩ := XW.froz2 (Sep.front [] [Row Kd.string 9 (.slice (some al) (M.set j t).length ck) (M.set j t), BA 93 gb (M.set j t) ((j : Int))] S_wr_5.out).blk
            clear S_wr_4 xe_wr_4 c_gk_0_wr_4 c_gk_1_wr_4 z_gk_0_wr_4 z_gk_1_wr_4
            clear hb
            refine hK.out _ _ ⟨c_gk_0_wr_5, c_gk_1_wr_5, xe_wr_5⟩ (fun hHeld => ?_)
            clear hK K
            refine norm_ (a' := ?_) ?_ ?_
            rotate_left
            · show Act.put _ (some 86) _ = _
              simp only [Act.put, List.setIfInBounds_toArray, List.set_cons_zero, List.set_cons_succ, i64_w, i32_w]
              rfl
            refine pure_ (i := 15) (N := some 97) (v := ?_) (a' := ?_) Fu16 rfl rfl (by kernel_rfl) (fun _ _ _ h => h) (Or.inl ⟨by rfl, ?_⟩) ?_ ?_
            rotate_left
            · intro w'
              go_simp
              with_reducible rfl
            rotate_left
            · simp only [Act.put, List.setIfInBounds_toArray, List.set_cons_zero, List.set_cons_succ, i64_w, i32_w]
              rfl
            refine pure_ (i := 16) (N := some 98) (v := ?_) (a' := ?_) Fu17 rfl rfl (by kernel_rfl) (fun _ _ _ h => h) (Or.inl ⟨by rfl, ?_⟩) ?_ ?_
            rotate_left
            · intro w'
              go_simp
              with_reducible rfl
            rotate_left
            · simp only [Act.put, List.setIfInBounds_toArray, List.set_cons_zero, List.set_cons_succ, i64_w, i32_w]
              rfl
            refine done_ (by kernel_rfl) ?_
            go_wp2
            go_roundw
            case rel => first | exact ⟨k + 1, M.set j t, (j : Int), by omega, by go_num, ⟨HLM.out, ha0', ha1'⟩, ⟨BA.close S_wr_5.out⟩, ⟨Below.trans BX.out B_wr_5.out⟩⟩ | ((repeat apply Exists.intro); exact ⟨⟨k + 1, M.set j t, (j : Int), by omega, by go_num, ⟨HLM.out, ha0', ha1'⟩, ⟨BA.close S_wr_5.out⟩, ⟨Below.trans BX.out B_wr_5.out⟩⟩, rfl⟩)
            case measure => simp [intOf]; omega
        · have h60b : ¬ (k : Int) < 100 := by omega
          go_wp2_with (first | (go_at_call 26; (with_reducible refine (live19 _ m (pw_cell_below B_wr.out HM.out)).mono ?_); rintro e2 w_l ⟨rfl, hb⟩; have HBl := Aside0.mk hb; clear hb))
          go_ret
          exact ⟨rfl, below_then B_wr.out B_wr.out.size HBl.out⟩
      · have hlt2 : ¬ (k : Int) < (sc.length : Int) := by omega
        go_wp2_with (first | (go_at_call 26; (with_reducible refine (live19 _ m (pw_cell_below B_wr.out HM.out)).mono ?_); rintro e2 w_l ⟨rfl, hb⟩; have HBl := Aside0.mk hb; clear hb))
        go_ret
        exact ⟨rfl, below_then B_wr.out B_wr.out.size HBl.out⟩
end Go.Proofs.Ythofobcbbddeeaa.SrchA
