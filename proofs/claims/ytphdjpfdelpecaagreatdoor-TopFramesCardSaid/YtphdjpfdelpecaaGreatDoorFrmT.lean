/- TopFrames. Conditions: none beyond those that each theorem states. -/
import Derived.Test.YtphdjpfdelpecaaGreatDoorFrmL
import Derived.Test.YtphdjpfdelpecaaGreatDoorWorks
namespace Go.Proofs.YtphdjpfdelpecaaGreatDoor.FrmA
open Go.RowKit Go.Proofs.YtphdjpfdelpecaaGreatDoorW.PrintWords Go.Proofs.YtphdjpfdelpecaaGreatDoorW.PrintLast Go.Proofs.YtphdjpfdelpecaaGreatDoorW.PrintMore Go.Proofs.YtphdjpfdelpecaaGreatDoor.XS Go.Proofs.YtphdjpfdelpecaaGreatDoor.PTopf
set_option linter.unusedVariables false
set_option linter.unusedSimpArgs false
abbrev flT0 : Array Bool := #[false, false, false, false, false, false, false, false, false, false, false, false, false, false]
abbrev flT1 : Array Bool := #[true, false, false, false, false, false, false, false, false, false, false, false, false, false]
abbrev flT2 : Array Bool := #[true, true, false, false, false, false, false, false, false, false, false, false, false, false]
abbrev flT3 : Array Bool := #[true, true, true, false, false, false, false, false, false, false, false, false, false, false]
abbrev flT4 : Array Bool := #[true, true, true, true, false, false, false, false, false, false, false, false, false, false]
abbrev flT5 : Array Bool := #[true, true, true, true, true, false, false, false, false, false, false, false, false, false]
abbrev flT6 : Array Bool := #[true, true, true, true, true, false, true, false, false, false, false, false, false, false]
abbrev flT7 : Array Bool := #[true, true, true, true, true, false, true, true, false, false, false, false, false, false]
abbrev flT8 : Array Bool := #[true, true, true, true, true, false, true, true, true, false, false, false, false, false]
abbrev flT9 : Array Bool := #[true, true, true, true, true, false, true, true, true, true, false, false, false, false]
abbrev flT10 : Array Bool := #[true, true, true, true, true, true, true, true, true, true, true, false, false, false]
abbrev flT11 : Array Bool := #[true, true, true, true, true, true, true, true, true, true, false, false, false, false]
abbrev flT12 : Array Bool := #[true, true, true, true, true, false, true, true, true, true, true, false, false, false]
abbrev flT13 : Array Bool := #[true, true, true, true, true, true, true, true, true, true, true, true, false, false]
abbrev flT14 : Array Bool := #[true, true, true, true, true, true, true, true, true, true, true, true, true, false]
abbrev flT15 : Array Bool := #[true, true, true, true, true, true, true, true, true, true, true, true, true, true]
attribute [local go_sem] run_store_func
theorem lit_R (W : World) (t : ByteArray) : Kd.string.R 9 (W.alloc (.cells #[.string t] 9)) W.heap.size (fun _ => True) (.slice (some ⟨W.heap.size, 0, none⟩) 1 1) [t] := by
 refine ⟨fun _ _ => trivial, [.string t], ?_, Reps.one (show Kd.M Kd.string _ _ _ t [.string t] from rfl) (Reps.none _ _)⟩
 have h2 := World.ownsRow_lit (base := W.heap.size) (e := 9) (size := 1) W #[.string t] 1 (Nat.le_refl _) (by unfold maxLen; omega) (by simp)
 show (W.alloc (.cells #[.string t] 9)).ownsRow W.heap.size 9 1 _ _ _
 simpa using h2
theorem lit_sep {base : Nat} {F : Assn} {W : World} (h : Sep base F W) (hb : base ≤ W.heap.size) (t : ByteArray) : Sep base (Star (Row Kd.string 9 (.slice (some ⟨W.heap.size, 0, none⟩) 1 1) [t]) F) (W.alloc (.cells #[.string t] 9)) :=
 Sep.new_row h hb (below_alloc (Below.refl _ _) _) (lit_R W t)
theorem row_text {base n c : Nat} {ad : Addr} {L : List ByteArray} {F : Assn} {w : World} (h : Sep base (Star (Row Kd.string 9 (.slice (some ad) n c) L) F) w) (i : Nat) (hi : i < n) (t : ByteArray) (ht : rdOf ByteArray.empty L (i : Int) = t) : w.cell? (ad.add i) = some (.string t) := by
 have hn := (Sep.row_cut h).1
 obtain ⟨ad', e, hx⟩ := Kd.at_string (Sep.row_cut h).2.2 (i : Int) (by omega) (by omega)
 cases e
 rw [Int.toNat_natCast, ht] at hx
 exact hx
theorem rd_mem (L : List ByteArray) (j : Nat) (h : j < L.length) : rdOf ByteArray.empty L (j : Int) ∈ L := by
 simp only [rdOf, Int.toNat_natCast, List.getD_eq_getElem?_getD, List.getElem?_eq_getElem h, Option.getD_some]
 exact List.getElem_mem h
theorem feed_len : ∀ (l pc : List UInt8) (acc L : List ByteArray), feedL l pc acc = some L → L.length ≤ acc.length + l.length
 | [], pc, acc, L, h => by cases h; simp
 | u :: r, pc, acc, L, h => by
  simp only [feedL] at h
  split at h
  ·split at h
   ·have := feed_len r [] acc L h
    simp only [List.length_cons]; omega
   ·obtain ⟨te, _, h⟩ := Option.bind_eq_some_iff.1 h
    have := feed_len r [] _ L h
    split at this
    ·simp only [List.length_append, List.length_cons, List.length_nil] at this ⊢; omega
    ·simp only [List.length_cons]; omega
  ·have := feed_len r _ acc L h
   simp only [List.length_cons]; omega
theorem new_s (w : World) : Calls Tryz.prog 14 #[] w fun e w' => ∃ g, e = .returned (.pointer (some ⟨g, 0, none⟩)) ∧ Sep w.heap.size (Blk g #[.pointer none, .slice none 0 0, .bool false, .int .i64 0] 110) w' ∧ Below w.heap.size w w' :=
 (new_is w).mono (by rintro e w' ⟨g, rfl, h, hb⟩; exact ⟨g, rfl, Sep.left h, hb⟩)
set_option maxHeartbeats 8000000 in
set_option maxRecDepth 100000 in
theorem top_big (s : ByteArray) (hs : 3000 < s.size) (w : World) : Calls Tryz.prog 4 #[.string s] w fun e w' => e = .returned (.bool true) ∧ Below w.heap.size w w' := by
 have t1 : decide ((3000 : Int) < (s.size : Int)) = true := decide_eq_true (by omega)
 have t2 : decide (3000 < s.size) = true := decide_eq_true hs
 have B_w := Aside0.mk (Below.refl w.heap.size w)
 go_enter Tryz.func4, Tryz.ntmps4
 go_wp2_with (first | (go_at_call 5; (with_reducible refine (Works.works_calls _).mono ?_); rintro e w1 ⟨rfl, hb⟩))
 go_ret
 exact ⟨rfl, hb⟩
set_option maxHeartbeats 8000000 in
set_option maxRecDepth 100000 in
theorem top_small (s : ByteArray) (hs : s.size ≤ 3000) (w : World) : Calls Tryz.prog 4 #[.string s] w fun e w' => e = .returned (.bool true) ∧ Below w.heap.size w w' := by
 obtain ⟨L, hL, hT⟩ := feed_any s.data.toList [] [] (by rw [data_length]; simp; omega) (by simp)
 have hlen : L.length ≤ 3000 := by
  have := feed_len _ _ _ _ hL
  rw [data_length] at this
  simp only [List.length_nil] at this
  omega
 have t1 : decide ((3000 : Int) < (s.size : Int)) = false := decide_eq_false (by omega)
 have t2 : decide (3000 < s.size) = false := decide_eq_false (by omega)
 have HZ := Aside0.mk hs
 have HF := Aside0.mk hL
 have HT := Aside0.mk hT
 have HN := Aside0.mk hlen
 clear hs hL hT hlen
 have B_w := Aside0.mk (Below.refl w.heap.size w)
 have S_w : Aside0 (Sep w.heap.size (Stars []) w) := ⟨Sep.emp _ _⟩
 go_enter Tryz.func4, Tryz.ntmps4
 go_wp2_with (first | (go_at_call 14; (with_reducible refine (new_s w).mono ?_); rintro e w_1 ⟨g, rfl, hN, hb⟩; have B_w_1 : Aside0 (Below (w.heap.size) w w_1) := ⟨below_then B_w.out B_w.out.size hb⟩; have S_w_1 : Aside0 (Sep (w.heap.size) (Stars [Blk g #[.pointer none, .slice none 0 0, .bool false, .int .i64 0] 110]) w_1) := ⟨Sep.more S_w.out hN hb B_w.out.size⟩; have Q_w_1 : Aside0 (Below w.heap.size w w_1) := ⟨hb⟩; clear S_w; clear hb) | (go_at_call 15; (with_reducible refine (feed_is (base := w.heap.size) (l := []) w_1 B_w_1.out.size s (by have := HZ.out; omega) L HF.out S_w_1.out).mono ?_); rintro e w_2 ⟨vl, rfl, hS, hb⟩; have B_w_2 : Aside0 (Below (w.heap.size) w w_2) := ⟨(Below.trans B_w_1.out hb)⟩; have S_w_2 : Aside0 (Sep (w.heap.size) (Stars [Row Kd.string 9 (vl) (L)]) w_2) := ⟨hS⟩; clear S_w_1; clear hS hb))
 obtain ⟨Al, cl, rfl, -, -⟩ := Sep.row S_w_2.out
 have HSL := Aside0.mk S_w_2.out
 have HBL := Aside0.mk B_w_2.out
 clear S_w_2 B_w_2
 go_loopw [5] (fun v5 wr => ∃ j : Nat, j ≤ L.length ∧ v5 = .int .i64 j ∧ Aside0 (Sep w.heap.size (Stars [Row Kd.string 9 (.slice Al L.length cl) L]) wr) ∧ Aside0 (Below w.heap.size w wr)) (fun v5 _ => L.length - (intOf v5).toNat)
 case atStart => exact ⟨0, by omega, rfl, HSL, HBL⟩
 case round =>
  clear HSL HBL HF
  obtain ⟨j, hj, rfl, S_wr, B_wr⟩ := hrel
  have hn := HN.out
  by_cases hlt : j < L.length
  ·have hlt2 : (j : Int) < (L.length : Int) := by omega
   have hlt3 : decide ((j : Int) < (L.length : Int)) = true := decide_eq_true hlt2
   have hlt4 : (0 : Int) ≤ (j : Int) := by omega
   have HJ := Aside0.mk hlt
   obtain ⟨ad, rfl, -⟩ := Kd.at_string (Sep.row_cut S_wr.out).2.2 (j : Int) (by omega) hlt2
   have htz := HT.out _ (rd_mem L j hlt)
   obtain ⟨t, ht⟩ : ∃ t, rdOf ByteArray.empty L (j : Int) = t := ⟨_, rfl⟩
   rw [ht] at htz
   have HRD := Aside0.mk ht
   obtain ⟨u, hu, huz, hpz, hfp⟩ := feed_pack t htz
   have HPK := fun W => pack_is t u htz hu huz W
   generalize strOfNums (126 :: (stuffI (bytesOf u) ++ [126])) = pk at hpz hfp HPK
   have HPZ := Aside0.mk hpz
   have HFP := Aside0.mk hfp
   obtain ⟨r1, r2, r3, r4, r5, r6, r7, r8, r9, r10, r11, hD, hE⟩ := MesfL.again t
   have HD := Aside0.mk hD
   have HE := Aside0.mk hE
   clear hu huz hpz hfp hD hE htz ht hlt
   have xe_wr := row_text (Sep.front [] [] S_wr.out) j HJ.out t HRD.out
   go_upto_region 12 with (first | (go_at_call 16; (with_reducible refine (HPK wr).mono ?_); rintro e wr_1 ⟨rfl, hb⟩; have B_wr_1 : Aside0 (Below (w.heap.size) w wr_1) := ⟨below_then B_wr.out B_wr.out.size hb⟩; have S_wr_1 : Aside0 (Sep (w.heap.size) (Stars [Row Kd.string 9 (.slice (some ad) L.length cl) (L)]) wr_1) := ⟨Sep.below S_wr.out hb⟩; have xe_wr_1 := row_text (Sep.front [] [] S_wr_1.out) j HJ.out t HRD.out; clear S_wr xe_wr; clear hb) | (go_at_call 14; (with_reducible refine (new_s wr_1).mono ?_); rintro e wr_2 ⟨g, rfl, hN, hb⟩; have B_wr_2 : Aside0 (Below (w.heap.size) w wr_2) := ⟨below_then B_wr_1.out B_wr_1.out.size hb⟩; have S_wr_2 : Aside0 (Sep (w.heap.size) (Stars [Blk g #[.pointer none, .slice none 0 0, .bool false, .int .i64 0] 110, Row Kd.string 9 (.slice (some ad) L.length cl) (L)]) wr_2) := ⟨Sep.more S_wr_1.out hN hb B_wr_1.out.size⟩; have xe_wr_2 := row_text (Sep.front [Blk g #[.pointer none, .slice none 0 0, .bool false, .int .i64 0] 110] [] S_wr_2.out) j HJ.out t HRD.out; clear S_wr_1 xe_wr_1; clear hb))
   refine start_ (n := 14) (S := fun w' => w'.cell? (ad.add j) = some (.string t)) (ds := [11]) flT0 (by kernel_rfl) rfl rfl (xe_wr_2) (fun hHeld => ?_)
   generalize hdw : wr_2.drew = wr_3 at hHeld ⊢
   have HB_wr_3 : Aside0 (Below wr_2.heap.size wr_2 wr_3) := ⟨by rw [← hdw]; exact below_drew1 (Below.refl _ _)⟩
   clear hdw
   have B_wr_3 : Aside0 (Below (w.heap.size) w wr_3) := ⟨below_then B_wr_2.out B_wr_2.out.size HB_wr_3.out⟩
   have S_wr_3 : Aside0 (Sep (w.heap.size) (Stars [Blk g #[.pointer none, .slice none 0 0, .bool false, .int .i64 0] 110, Row Kd.string 9 (.slice (some ad) L.length cl) (L)]) wr_3) := ⟨Sep.below S_wr_2.out HB_wr_3.out⟩
   have xe_wr_3 := row_text (Sep.front [Blk g #[.pointer none, .slice none 0 0, .bool false, .int .i64 0] 110] [] S_wr_3.out) j HJ.out t HRD.out
   clear S_wr_2 xe_wr_2
   refine pure_ (i := 0) (N := some 38) (v := ?_) (a' := ?_) flT1 rfl rfl (by kernel_rfl) (fun _ _ _ h => h) (Or.inl ⟨by rfl, ?_⟩) ?_ ?_
   rotate_left
   ·intro w'
    go_simp
    with_reducible rfl
   rotate_left
   ·simp only [Act.put, List.setIfInBounds_toArray, List.set_cons_zero, List.set_cons_succ, i64_w, i32_w]
    rfl
   refine pure_ (i := 1) (N := some 39) (v := ?_) (a' := ?_) flT2 rfl rfl (by kernel_rfl) (fun _ _ _ h => h) (Or.inl ⟨by rfl, ?_⟩) ?_ ?_
   rotate_left
   ·intro w'
    go_simp
    with_reducible rfl
   rotate_left
   ·simp only [Act.put, List.setIfInBounds_toArray, List.set_cons_zero, List.set_cons_succ, i64_w, i32_w]
    rfl
   refine pure_ (i := 2) (N := some 40) (v := ?_) (a' := ?_) flT3 rfl rfl (by kernel_rfl) (fun _ _ _ h => h) (Or.inl ⟨by rfl, ?_⟩) ?_ ?_
   rotate_left
   ·intro w'
    go_simp
    with_reducible rfl
   rotate_left
   ·simp only [Act.put, List.setIfInBounds_toArray, List.set_cons_zero, List.set_cons_succ, i64_w, i32_w]
    rfl
   refine pure_ (i := 3) (N := some 41) (v := ?_) (a' := ?_) flT4 rfl rfl (by kernel_rfl) (fun _ _ _ h => h) (Or.inl ⟨by rfl, ?_⟩) ?_ ?_
   rotate_left
   ·intro w'
    go_simp
    with_reducible rfl
   rotate_left
   ·simp only [Act.put, List.setIfInBounds_toArray, List.set_cons_zero, List.set_cons_succ, i64_w, i32_w]
    rfl
   refine pure_ (i := 4) (N := some 42) (v := ?_) (a' := ?_) flT5 rfl rfl (by kernel_rfl) (fun _ _ _ h => h) (Or.inl ⟨by rfl, ?_⟩) ?_ ?_
   rotate_left
   ·intro w'
    go_simp
    with_reducible rfl
   rotate_left
   ·simp only [Act.put, List.setIfInBounds_toArray, List.set_cons_zero, List.set_cons_succ, i64_w, i32_w]
    rfl
   refine pure_ (i := 6) (N := some 44) (v := ?_) (a' := ?_) flT6 rfl rfl (by kernel_rfl) (fun _ _ _ h => h) (Or.inl ⟨by rfl, ?_⟩) ?_ ?_
   rotate_left
   ·intro w'
    go_simp
    with_reducible rfl
   rotate_left
   ·simp only [Act.put, List.setIfInBounds_toArray, List.set_cons_zero, List.set_cons_succ, i64_w, i32_w]
    rfl
   refine pure_ (i := 7) (N := some 45) (v := ?_) (a' := ?_) flT7 rfl rfl (by kernel_rfl) (fun _ _ _ h => h) (Or.inl ⟨by rfl, ?_⟩) ?_ ?_
   rotate_left
   ·intro w'
    go_simp
    with_reducible rfl
   rotate_left
   ·simp only [Act.put, List.setIfInBounds_toArray, List.set_cons_zero, List.set_cons_succ, i64_w, i32_w]
    rfl
   refine pure_ (i := 8) (N := some 46) (v := ?_) (a' := ?_) flT8 rfl rfl (by kernel_rfl) (fun _ _ _ h => h) (Or.inl ⟨by rfl, ?_⟩) ?_ ?_
   rotate_left
   ·intro w'
    go_simp
    with_reducible rfl
   rotate_left
   ·simp only [Act.put, List.setIfInBounds_toArray, List.set_cons_zero, List.set_cons_succ, i64_w, i32_w]
    rfl
   refine take_ (i := 9) (N := some 47) (v := ?_) (a' := ?_) flT9 rfl rfl (by kernel_rfl) (fun _ _ _ h => h) (Or.inl ⟨by rfl, ?_⟩) hHeld ?_ ?_
   rotate_left
   ·intro w' s0
    go_simp
    with_reducible rfl
   rotate_left
   ·simp only [Act.put, List.setIfInBounds_toArray, List.set_cons_zero, List.set_cons_succ, i64_w, i32_w]
    rfl
   refine join_ (σ := Value × Value) 3 flT10 (fun s => [(43, s.1), (48, s.2)]) (fun s w' => w'.cell? (ad.add j) = some (.string t) ∧ Sep w.heap.size (Stars [Row Kd.string 9 (s.1) [t], Row Kd.string 9 (s.2) [t], Row Kd.string 9 (.slice (some ad) L.length cl) L]) w' ∧ Below w.heap.size wr_3 w') ?_ ?_
   rotate_left
   ·intro hCont
    refine two_ (i := 5) (j := 10) (Ni := some 43) (Nj := some 48) flT11 flT12 rfl rfl rfl rfl (by kernel_rfl) (by decide) (by decide) (fun K hK => ?_) (fun K hK => ?_)
    ·skip
     refine goes_ Tryz.func15 (by kernel_rfl) rfl #[.pointer (some ⟨g, 0, none⟩), .string pk] (by rfl) rfl rfl (by simp only [List.map_toArray, List.map_cons, List.map_nil]; rfl) ?_
     with_reducible refine (feed_is (base := w.heap.size) (l := [Row Kd.string 9 (.slice (some ad) L.length cl) L]) wr_3 B_wr_3.out.size pk HPZ.out [t] HFP.out S_wr_3.out).mono ?_
     rintro e wa ⟨va, rfl, hSa, hBa⟩
     refine ⟨_, rfl, ?_⟩
     refine hK.out _ _ ((row_text (Sep.front [Row Kd.string 9 (va) [t]] [] hSa) j HJ.out t HRD.out)) (fun hHeld => ?_)
     clear hK K
     refine norm_ (a' := ?_) ?_ ?_
     rotate_left
     ·show Act.put _ (some 43) _ = _
      simp only [Act.put, List.setIfInBounds_toArray, List.set_cons_zero, List.set_cons_succ, i64_w, i32_w]
      rfl
     refine one_ (i := 10) (N := some 48) flT10 rfl rfl (by kernel_rfl) (by decide) (fun K hK => ?_)
     refine value_ (w1 := ?_) (v := ?_) (by rfl) rfl ?_ ?_
     rotate_left 2
     ·go_simp
      constructor
      ·rfl
      ·rfl
     refine hK.out _ _ ((pw_cell_below (below_alloc (Below.refl _ _) _) (row_text (Sep.front [Row Kd.string 9 (va) [t]] [] hSa) j HJ.out t HRD.out))) (fun hHeld => ?_)
     clear hK K
     refine norm_ (a' := ?_) ?_ ?_
     rotate_left
     ·show Act.put _ (some 48) _ = _
      simp only [Act.put, List.setIfInBounds_toArray, List.set_cons_zero, List.set_cons_succ, i64_w, i32_w]
      rfl
     exact norm_ (by simp only [putAll, Act.put, List.setIfInBounds_toArray, List.set_cons_zero, List.set_cons_succ]) (hCont (va, .slice (some ⟨wa.heap.size, 0, none⟩) 1 1) _ ⟨pw_cell_below (below_alloc (Below.refl _ _) _) (row_text (Sep.front [Row Kd.string 9 (va) [t]] [] hSa) j HJ.out t HRD.out), Sep.front [Row Kd.string 9 (.slice (some ⟨wa.heap.size, 0, none⟩) 1 1) [t]] [Row Kd.string 9 (.slice (some ad) L.length cl) L] (lit_sep hSa (Nat.le_trans B_wr_3.out.size hBa.size) t), Below.alloc hBa (Nat.le_trans B_wr_3.out.size hBa.size) _⟩)
    ·skip
     refine value_ (w1 := ?_) (v := ?_) (by rfl) rfl ?_ ?_
     rotate_left 2
     ·go_simp
      constructor
      ·rfl
      ·rfl
     refine hK.out _ _ ((pw_cell_below (below_alloc (Below.refl _ _) _) xe_wr_3)) (fun hHeld => ?_)
     clear hK K
     refine norm_ (a' := ?_) ?_ ?_
     rotate_left
     ·show Act.put _ (some 48) _ = _
      simp only [Act.put, List.setIfInBounds_toArray, List.set_cons_zero, List.set_cons_succ, i64_w, i32_w]
      rfl
     refine one_ (i := 5) (N := some 43) flT10 rfl rfl (by kernel_rfl) (by decide) (fun K hK => ?_)
     have hS2 : Sep w.heap.size (Stars [Blk g #[.pointer none, .slice none 0 0, .bool false, .int .i64 0] 110, Row Kd.string 9 (.slice (some ⟨wr_3.heap.size, 0, none⟩) 1 1) [t], Row Kd.string 9 (.slice (some ad) L.length cl) L]) (wr_3.alloc (.cells #[.string t] 9)) := Sep.front [Row Kd.string 9 (.slice (some ⟨wr_3.heap.size, 0, none⟩) 1 1) [t]] [Row Kd.string 9 (.slice (some ad) L.length cl) L] (lit_sep S_wr_3.out B_wr_3.out.size t)
     have hZ2 : w.heap.size ≤ (wr_3.alloc (.cells #[.string t] 9)).heap.size := Nat.le_trans B_wr_3.out.size (below_alloc (Below.refl wr_3.heap.size wr_3) _).size
     refine goes_ Tryz.func15 (by kernel_rfl) rfl #[.pointer (some ⟨g, 0, none⟩), .string pk] (by rfl) rfl rfl (by simp only [List.map_toArray, List.map_cons, List.map_nil]; rfl) ?_
     with_reducible refine (feed_is (base := w.heap.size) (l := [Row Kd.string 9 (.slice (some ⟨wr_3.heap.size, 0, none⟩) 1 1) [t], Row Kd.string 9 (.slice (some ad) L.length cl) L]) _ hZ2 pk HPZ.out [t] HFP.out hS2).mono ?_
     rintro e wa ⟨va, rfl, hSa, hBa⟩
     refine ⟨_, rfl, ?_⟩
     refine hK.out _ _ ((row_text (Sep.front [Row Kd.string 9 (va) [t], Row Kd.string 9 (.slice (some ⟨wr_3.heap.size, 0, none⟩) 1 1) [t]] [] hSa) j HJ.out t HRD.out)) (fun hHeld => ?_)
     clear hK K
     refine norm_ (a' := ?_) ?_ ?_
     rotate_left
     ·show Act.put _ (some 43) _ = _
      simp only [Act.put, List.setIfInBounds_toArray, List.set_cons_zero, List.set_cons_succ, i64_w, i32_w]
      rfl
     exact norm_ (by simp only [putAll, Act.put, List.setIfInBounds_toArray, List.set_cons_zero, List.set_cons_succ]) (hCont (va, .slice (some ⟨wr_3.heap.size, 0, none⟩) 1 1) _ ⟨(row_text (Sep.front [Row Kd.string 9 (va) [t], Row Kd.string 9 (.slice (some ⟨wr_3.heap.size, 0, none⟩) 1 1) [t]] [] hSa) j HJ.out t HRD.out), hSa, (Below.alloc (Below.refl _ _) B_wr_3.out.size _).trans hBa⟩)
   rintro ⟨va, vb⟩ wf ⟨hHeld, hSf, hBf⟩
   obtain ⟨A1, c1, hv1, hc1, hC1⟩ := Sep.row (Sep.front [] [Row Kd.string 9 (vb) [t], Row Kd.string 9 (.slice (some ad) L.length cl) L] hSf)
   subst hv1
   obtain ⟨A2, c2, hv2, hc2, hC2⟩ := Sep.row (Sep.front [_] [Row Kd.string 9 (.slice (some ad) L.length cl) L] hSf)
   subst hv2
   have B_wf : Aside0 (Below w.heap.size w wf) := ⟨B_wr_3.out.trans hBf⟩
   have S_wf : Aside0 (Sep w.heap.size (Stars [Row Kd.string 9 (.slice (some ad) L.length cl) L]) wf) := ⟨tail_ (tail_ hSf)⟩
   clear hBf hSf B_wr_3 xe_wr_3 S_wr_3
   refine norm_ (a' := ?_) ?_ ?_
   rotate_left
   ·simp only [putAll, Act.put, List.setIfInBounds_toArray, List.set_cons_zero, List.set_cons_succ]
    rfl
   refine last_ (i := 11) (N := some 49) flT13 rfl rfl (by kernel_rfl) (by decide) (fun K hK => ?_)
   refine goes_ Tryz.func17 (by kernel_rfl) rfl #[.slice A1 [t].length c1, .slice A2 [t].length c2] (by rfl) rfl rfl (by simp only [List.map_toArray, List.map_cons, List.map_nil]; rfl) ?_
   with_reducible refine (duetref03_Texts.calls 5 A1 c1 [t] A2 c2 [t] true wf hC1 hc1 hC2 hc2 (texts_self t)).mono ?_
   rintro e wz ⟨rfl, hDz⟩
   refine ⟨_, rfl, ?_⟩
   have HB_wz := Aside0.mk hDz.below
   clear hDz hC1 hC2 hc1 hc2
   refine hK.out _ _ ?_
   clear hK K
   refine norm_ (a' := ?_) ?_ ?_
   rotate_left
   ·show Act.put _ (some 49) _ = _
    simp only [Act.put, List.setIfInBounds_toArray, List.set_cons_zero, List.set_cons_succ, i64_w, i32_w]
    rfl
   refine pure_ (i := 12) (N := some 50) (v := ?_) (a' := ?_) flT14 rfl rfl (by kernel_rfl) (fun _ _ _ h => h) (Or.inl ⟨by rfl, ?_⟩) ?_ ?_
   rotate_left
   ·intro w'
    go_simp
    with_reducible rfl
   rotate_left
   ·simp only [Act.put, List.setIfInBounds_toArray, List.set_cons_zero, List.set_cons_succ, i64_w, i32_w]
    rfl
   refine pure_ (i := 13) (N := some 51) (v := ?_) (a' := ?_) flT15 rfl rfl (by kernel_rfl) (fun _ _ _ h => h) (Or.inl ⟨by rfl, ?_⟩) ?_ ?_
   rotate_left
   ·intro w'
    go_simp
    with_reducible rfl
   rotate_left
   ·simp only [Act.put, List.setIfInBounds_toArray, List.set_cons_zero, List.set_cons_succ, i64_w, i32_w]
    rfl
   refine done_ (by kernel_rfl) ?_
   have xe_wf := hHeld
   clear hHeld
   have B_wz : Aside0 (Below (w.heap.size) w wz) := ⟨below_then B_wf.out B_wf.out.size HB_wz.out⟩
   have S_wz : Aside0 (Sep (w.heap.size) (Stars [Row Kd.string 9 (.slice (some ad) L.length cl) (L)]) wz) := ⟨Sep.below S_wf.out HB_wz.out⟩
   have xe_wz := row_text (Sep.front [] [] S_wz.out) j HJ.out t HRD.out
   clear S_wf xe_wf
   by_cases he : r11 = 0
   ·have HEN := Aside0.mk (HE.out he)
    subst he
    have b1 : ((0 : Int) != 0) = false := by decide
    have b2 : (t.toList != t.toList) = false := by simp
    have b3 : (t.toList == t.toList) = true := by simp
    go_wp2_with (first | (go_at_call 18; (with_reducible refine (mD.calls 1010 t r1 r2 r3 r4 r5 r6 r7 r8 r9 r10 0 wz HD.out).mono ?_); rintro e wz_1 ⟨v0, rfl, hR, hb⟩; obtain ⟨A3, c3, hv3⟩ := Kd.R_slice hR; subst hv3; have B_wz_1 : Aside0 (Below (w.heap.size) w wz_1) := ⟨below_then B_wz.out B_wz.out.size hb⟩; have S_wz_1 : Aside0 (Sep (w.heap.size) (Stars [Row (Kd.int .i64) 3 (.slice A3 r3.length c3) (r3), Row Kd.string 9 (.slice (some ad) L.length cl) (L)]) wz_1) := ⟨Sep.new_row S_wz.out B_wz.out.size hb hR⟩; have xe_wz_1 := row_text (Sep.front [Row (Kd.int .i64) 3 (.slice A3 r3.length c3) (r3)] [] S_wz_1.out) j HJ.out t HRD.out; clear S_wz xe_wz; clear hb) | ((with_reducible refine gate_dst (N := 9) rfl ?_); (try (refine gate_guard (by rfl) ?_; dsimp only)); refine box_event ?hg (N := 9) ?hd (cs := #[.int .i64 0, .int .i64 0, .slice none 0 0, .int .i64 0, .int .i64 0, .int .i64 0, .int .i64 0, .int .i64 0, .int .i64 0, .int .i64 0]) (t := 56) ?hr ?_; (case hd => rfl); (case hg => rfl); (case hr => first | (go_simp; done) | (go_simp; rfl)); intro gm hg_gm wz_2 hX hb; have B_wz_2 : Aside0 (Below (w.heap.size) w wz_2) := ⟨below_then B_wz_1.out B_wz_1.out.size hb⟩; have S_wz_2 : Aside0 (Sep (w.heap.size) (Stars [Blk gm #[.int .i64 0, .int .i64 0, .slice none 0 0, .int .i64 0, .int .i64 0, .int .i64 0, .int .i64 0, .int .i64 0, .int .i64 0, .int .i64 0] 56, Row (Kd.int .i64) 3 (.slice A3 r3.length c3) (r3), Row Kd.string 9 (.slice (some ad) L.length cl) (L)]) wz_2) := ⟨Sep.new_blk S_wz_1.out B_wz_1.out.size hg_gm hb hX⟩; obtain ⟨c_gm_0_wz_2, c_gm_1_wz_2, c_gm_2_wz_2, c_gm_3_wz_2, c_gm_4_wz_2, c_gm_5_wz_2, c_gm_6_wz_2, c_gm_7_wz_2, c_gm_8_wz_2, c_gm_9_wz_2⟩ := XW.cells10 (Sep.front [] [Row (Kd.int .i64) 3 (.slice A3 r3.length c3) (r3), Row Kd.string 9 (.slice (some ad) L.length cl) (L)] S_wz_2.out).blk; obtain ⟨z_gm_0_wz_2, z_gm_1_wz_2, z_gm_2_wz_2, z_gm_3_wz_2, z_gm_4_wz_2, z_gm_5_wz_2, z_gm_6_wz_2, z_gm_7_wz_2, z_gm_8_wz_2, z_gm_9_wz_2⟩ := XW.froz10 (Sep.front [] [Row (Kd.int .i64) 3 (.slice A3 r3.length c3) (r3), Row Kd.string 9 (.slice (some ad) L.length cl) (L)] S_wz_2.out).blk; have xe_wz_2 := row_text (Sep.front [Blk gm #[.int .i64 0, .int .i64 0, .slice none 0 0, .int .i64 0, .int .i64 0, .int .i64 0, .int .i64 0, .int .i64 0, .int .i64 0, .int .i64 0] 56, Row (Kd.int .i64) 3 (.slice A3 r3.length c3) (r3)] [] S_wz_2.out) j HJ.out t HRD.out; clear S_wz_1 xe_wz_1; clear hX hb hg_gm) | ((with_reducible refine gate_store (t := 56) (p := 9) rfl ?_); go_must (refine store_event (t := 56) (p := 9) (v := ?vo_1) (w1 := ((((((((((wz_2.setCell ⟨gm, 0, none⟩ (.int .i64 r1)).setCell ⟨gm, 1, none⟩ (.int .i64 r2)).setCell ⟨gm, 2, none⟩ (.slice A3 r3.length c3)).setCell ⟨gm, 3, none⟩ (.int .i64 r4)).setCell ⟨gm, 4, none⟩ (.int .i64 r5)).setCell ⟨gm, 5, none⟩ (.int .i64 r6)).setCell ⟨gm, 6, none⟩ (.int .i64 r7)).setCell ⟨gm, 7, none⟩ (.int .i64 r8)).setCell ⟨gm, 8, none⟩ (.int .i64 r9)).setCell ⟨gm, 9, none⟩ (.int .i64 r10))) ?hg ?ho ?hn ?hr ?_; (case ho => rfl); (case hg => rfl); (case hn => rfl); (case hr => first | (go_simp; done) | (go_simp; rfl)); intro wz_3 hw; have B_wz_3 : Aside0 (Below (w.heap.size) w wz_3) := ⟨by rw [hw]; exact (Below.setCell (Below.setCell (Below.setCell (Below.setCell (Below.setCell (Below.setCell (Below.setCell (Below.setCell (Below.setCell (Below.setCell B_wz_2.out ((Sep.front [] [Row (Kd.int .i64) 3 (.slice A3 r3.length c3) (r3), Row Kd.string 9 (.slice (some ad) L.length cl) (L)] S_wz_2.out).blk_le) _) ((Sep.front [] [Row (Kd.int .i64) 3 (.slice A3 r3.length c3) (r3), Row Kd.string 9 (.slice (some ad) L.length cl) (L)] S_wz_2.out).blk_le) _) ((Sep.front [] [Row (Kd.int .i64) 3 (.slice A3 r3.length c3) (r3), Row Kd.string 9 (.slice (some ad) L.length cl) (L)] S_wz_2.out).blk_le) _) ((Sep.front [] [Row (Kd.int .i64) 3 (.slice A3 r3.length c3) (r3), Row Kd.string 9 (.slice (some ad) L.length cl) (L)] S_wz_2.out).blk_le) _) ((Sep.front [] [Row (Kd.int .i64) 3 (.slice A3 r3.length c3) (r3), Row Kd.string 9 (.slice (some ad) L.length cl) (L)] S_wz_2.out).blk_le) _) ((Sep.front [] [Row (Kd.int .i64) 3 (.slice A3 r3.length c3) (r3), Row Kd.string 9 (.slice (some ad) L.length cl) (L)] S_wz_2.out).blk_le) _) ((Sep.front [] [Row (Kd.int .i64) 3 (.slice A3 r3.length c3) (r3), Row Kd.string 9 (.slice (some ad) L.length cl) (L)] S_wz_2.out).blk_le) _) ((Sep.front [] [Row (Kd.int .i64) 3 (.slice A3 r3.length c3) (r3), Row Kd.string 9 (.slice (some ad) L.length cl) (L)] S_wz_2.out).blk_le) _) ((Sep.front [] [Row (Kd.int .i64) 3 (.slice A3 r3.length c3) (r3), Row Kd.string 9 (.slice (some ad) L.length cl) (L)] S_wz_2.out).blk_le) _) ((Sep.front [] [Row (Kd.int .i64) 3 (.slice A3 r3.length c3) (r3), Row Kd.string 9 (.slice (some ad) L.length cl) (L)] S_wz_2.out).blk_le) _)⟩; have S_wz_3 : Aside0 (Sep (w.heap.size) (Stars [Blk gm #[.int .i64 r1, .int .i64 r2, .slice A3 r3.length c3, .int .i64 r4, .int .i64 r5, .int .i64 r6, .int .i64 r7, .int .i64 r8, .int .i64 r9, .int .i64 r10] 56, Row (Kd.int .i64) 3 (.slice A3 r3.length c3) (r3), Row Kd.string 9 (.slice (some ad) L.length cl) (L)]) wz_3) := ⟨by rw [hw]; exact Sep.back [] [Row (Kd.int .i64) 3 (.slice A3 r3.length c3) (r3), Row Kd.string 9 (.slice (some ad) L.length cl) (L)] (Sep.store (Sep.store (Sep.store (Sep.store (Sep.store (Sep.store (Sep.store (Sep.store (Sep.store (Sep.store (Sep.front [] [Row (Kd.int .i64) 3 (.slice A3 r3.length c3) (r3), Row Kd.string 9 (.slice (some ad) L.length cl) (L)] S_wz_2.out) B_wz_2.out.size 0 (.int .i64 r1) (cs' := #[.int .i64 r1, .int .i64 0, .slice none 0 0, .int .i64 0, .int .i64 0, .int .i64 0, .int .i64 0, .int .i64 0, .int .i64 0, .int .i64 0]) rfl) (Sep.size_store B_wz_2.out.size) 1 (.int .i64 r2) (cs' := #[.int .i64 r1, .int .i64 r2, .slice none 0 0, .int .i64 0, .int .i64 0, .int .i64 0, .int .i64 0, .int .i64 0, .int .i64 0, .int .i64 0]) rfl) (Sep.size_store (Sep.size_store B_wz_2.out.size)) 2 (.slice A3 r3.length c3) (cs' := #[.int .i64 r1, .int .i64 r2, .slice A3 r3.length c3, .int .i64 0, .int .i64 0, .int .i64 0, .int .i64 0, .int .i64 0, .int .i64 0, .int .i64 0]) rfl) (Sep.size_store (Sep.size_store (Sep.size_store B_wz_2.out.size))) 3 (.int .i64 r4) (cs' := #[.int .i64 r1, .int .i64 r2, .slice A3 r3.length c3, .int .i64 r4, .int .i64 0, .int .i64 0, .int .i64 0, .int .i64 0, .int .i64 0, .int .i64 0]) rfl) (Sep.size_store (Sep.size_store (Sep.size_store (Sep.size_store B_wz_2.out.size)))) 4 (.int .i64 r5) (cs' := #[.int .i64 r1, .int .i64 r2, .slice A3 r3.length c3, .int .i64 r4, .int .i64 r5, .int .i64 0, .int .i64 0, .int .i64 0, .int .i64 0, .int .i64 0]) rfl) (Sep.size_store (Sep.size_store (Sep.size_store (Sep.size_store (Sep.size_store B_wz_2.out.size))))) 5 (.int .i64 r6) (cs' := #[.int .i64 r1, .int .i64 r2, .slice A3 r3.length c3, .int .i64 r4, .int .i64 r5, .int .i64 r6, .int .i64 0, .int .i64 0, .int .i64 0, .int .i64 0]) rfl) (Sep.size_store (Sep.size_store (Sep.size_store (Sep.size_store (Sep.size_store (Sep.size_store B_wz_2.out.size)))))) 6 (.int .i64 r7) (cs' := #[.int .i64 r1, .int .i64 r2, .slice A3 r3.length c3, .int .i64 r4, .int .i64 r5, .int .i64 r6, .int .i64 r7, .int .i64 0, .int .i64 0, .int .i64 0]) rfl) (Sep.size_store (Sep.size_store (Sep.size_store (Sep.size_store (Sep.size_store (Sep.size_store (Sep.size_store B_wz_2.out.size))))))) 7 (.int .i64 r8) (cs' := #[.int .i64 r1, .int .i64 r2, .slice A3 r3.length c3, .int .i64 r4, .int .i64 r5, .int .i64 r6, .int .i64 r7, .int .i64 r8, .int .i64 0, .int .i64 0]) rfl) (Sep.size_store (Sep.size_store (Sep.size_store (Sep.size_store (Sep.size_store (Sep.size_store (Sep.size_store (Sep.size_store B_wz_2.out.size)))))))) 8 (.int .i64 r9) (cs' := #[.int .i64 r1, .int .i64 r2, .slice A3 r3.length c3, .int .i64 r4, .int .i64 r5, .int .i64 r6, .int .i64 r7, .int .i64 r8, .int .i64 r9, .int .i64 0]) rfl) (Sep.size_store (Sep.size_store (Sep.size_store (Sep.size_store (Sep.size_store (Sep.size_store (Sep.size_store (Sep.size_store (Sep.size_store B_wz_2.out.size))))))))) 9 (.int .i64 r10) (cs' := #[.int .i64 r1, .int .i64 r2, .slice A3 r3.length c3, .int .i64 r4, .int .i64 r5, .int .i64 r6, .int .i64 r7, .int .i64 r8, .int .i64 r9, .int .i64 r10]) rfl)⟩; obtain ⟨c_gm_0_wz_3, c_gm_1_wz_3, c_gm_2_wz_3, c_gm_3_wz_3, c_gm_4_wz_3, c_gm_5_wz_3, c_gm_6_wz_3, c_gm_7_wz_3, c_gm_8_wz_3, c_gm_9_wz_3⟩ := XW.cells10 (Sep.front [] [Row (Kd.int .i64) 3 (.slice A3 r3.length c3) (r3), Row Kd.string 9 (.slice (some ad) L.length cl) (L)] S_wz_3.out).blk; obtain ⟨z_gm_0_wz_3, z_gm_1_wz_3, z_gm_2_wz_3, z_gm_3_wz_3, z_gm_4_wz_3, z_gm_5_wz_3, z_gm_6_wz_3, z_gm_7_wz_3, z_gm_8_wz_3, z_gm_9_wz_3⟩ := XW.froz10 (Sep.front [] [Row (Kd.int .i64) 3 (.slice A3 r3.length c3) (r3), Row Kd.string 9 (.slice (some ad) L.length cl) (L)] S_wz_3.out).blk; have xe_wz_3 := row_text (Sep.front [Blk gm #[.int .i64 r1, .int .i64 r2, .slice A3 r3.length c3, .int .i64 r4, .int .i64 r5, .int .i64 r6, .int .i64 r7, .int .i64 r8, .int .i64 r9, .int .i64 r10] 56, Row (Kd.int .i64) 3 (.slice A3 r3.length c3) (r3)] [] S_wz_3.out) j HJ.out t HRD.out; clear S_wz_2 c_gm_0_wz_2 c_gm_1_wz_2 c_gm_2_wz_2 c_gm_3_wz_2 c_gm_4_wz_2 c_gm_5_wz_2 c_gm_6_wz_2 c_gm_7_wz_2 c_gm_8_wz_2 c_gm_9_wz_2 z_gm_0_wz_2 z_gm_1_wz_2 z_gm_2_wz_2 z_gm_3_wz_2 z_gm_4_wz_2 z_gm_5_wz_2 z_gm_6_wz_2 z_gm_7_wz_2 z_gm_8_wz_2 z_gm_9_wz_2 xe_wz_2; clear hw)) | (go_at_call 19; (with_reducible refine (mE.calls 1010 r1 r2 A3 c3 r3 r4 r5 r6 r7 r8 r9 r10 t 0 wz_3 (Sep.row_cut (Sep.front [Blk gm #[.int .i64 r1, .int .i64 r2, .slice A3 r3.length c3, .int .i64 r4, .int .i64 r5, .int .i64 r6, .int .i64 r7, .int .i64 r8, .int .i64 r9, .int .i64 r10] 56] [Row Kd.string 9 (.slice (some ad) L.length cl) (L)] S_wz_3.out)).2.2 (Sep.row_cut (Sep.front [Blk gm #[.int .i64 r1, .int .i64 r2, .slice A3 r3.length c3, .int .i64 r4, .int .i64 r5, .int .i64 r6, .int .i64 r7, .int .i64 r8, .int .i64 r9, .int .i64 r10] 56] [Row Kd.string 9 (.slice (some ad) L.length cl) (L)] S_wz_3.out)).2.1 HEN.out).mono ?_); rintro e wz_4 ⟨rfl, hb⟩; have B_wz_4 : Aside0 (Below (w.heap.size) w wz_4) := ⟨below_then B_wz_3.out B_wz_3.out.size hb⟩; have S_wz_4 : Aside0 (Sep (w.heap.size) (Stars [Blk gm #[.int .i64 r1, .int .i64 r2, .slice A3 r3.length c3, .int .i64 r4, .int .i64 r5, .int .i64 r6, .int .i64 r7, .int .i64 r8, .int .i64 r9, .int .i64 r10] 56, Row (Kd.int .i64) 3 (.slice A3 r3.length c3) (r3), Row Kd.string 9 (.slice (some ad) L.length cl) (L)]) wz_4) := ⟨Sep.below S_wz_3.out hb⟩; obtain ⟨c_gm_0_wz_4, c_gm_1_wz_4, c_gm_2_wz_4, c_gm_3_wz_4, c_gm_4_wz_4, c_gm_5_wz_4, c_gm_6_wz_4, c_gm_7_wz_4, c_gm_8_wz_4, c_gm_9_wz_4⟩ := XW.cells10 (Sep.front [] [Row (Kd.int .i64) 3 (.slice A3 r3.length c3) (r3), Row Kd.string 9 (.slice (some ad) L.length cl) (L)] S_wz_4.out).blk; obtain ⟨z_gm_0_wz_4, z_gm_1_wz_4, z_gm_2_wz_4, z_gm_3_wz_4, z_gm_4_wz_4, z_gm_5_wz_4, z_gm_6_wz_4, z_gm_7_wz_4, z_gm_8_wz_4, z_gm_9_wz_4⟩ := XW.froz10 (Sep.front [] [Row (Kd.int .i64) 3 (.slice A3 r3.length c3) (r3), Row Kd.string 9 (.slice (some ad) L.length cl) (L)] S_wz_4.out).blk; have xe_wz_4 := row_text (Sep.front [Blk gm #[.int .i64 r1, .int .i64 r2, .slice A3 r3.length c3, .int .i64 r4, .int .i64 r5, .int .i64 r6, .int .i64 r7, .int .i64 r8, .int .i64 r9, .int .i64 r10] 56, Row (Kd.int .i64) 3 (.slice A3 r3.length c3) (r3)] [] S_wz_4.out) j HJ.out t HRD.out; clear S_wz_3 c_gm_0_wz_3 c_gm_1_wz_3 c_gm_2_wz_3 c_gm_3_wz_3 c_gm_4_wz_3 c_gm_5_wz_3 c_gm_6_wz_3 c_gm_7_wz_3 c_gm_8_wz_3 c_gm_9_wz_3 z_gm_0_wz_3 z_gm_1_wz_3 z_gm_2_wz_3 z_gm_3_wz_3 z_gm_4_wz_3 z_gm_5_wz_3 z_gm_6_wz_3 z_gm_7_wz_3 z_gm_8_wz_3 z_gm_9_wz_3 xe_wz_3; clear hb))
    go_roundw
    case rel => exact ⟨j + 1, by have := HJ.out; omega, by have := HJ.out; go_num, ⟨tail_ (tail_ S_wz_4.out)⟩, B_wz_4⟩
    case measure => have := HJ.out; simp [intOf]; omega
   ·have b1 : (r11 != 0) = true := bne_iff_ne.mpr he
    have b4 : (r11 == 0) = false := beq_eq_false_iff_ne.mpr he
    clear he
    go_wp2_with (first | (go_at_call 18; (with_reducible refine (mD.calls 1010 t r1 r2 r3 r4 r5 r6 r7 r8 r9 r10 r11 wz HD.out).mono ?_); rintro e wz_1 ⟨v0, rfl, hR, hb⟩; obtain ⟨A3, c3, hv3⟩ := Kd.R_slice hR; subst hv3; have B_wz_1 : Aside0 (Below (w.heap.size) w wz_1) := ⟨below_then B_wz.out B_wz.out.size hb⟩; have S_wz_1 : Aside0 (Sep (w.heap.size) (Stars [Row (Kd.int .i64) 3 (.slice A3 r3.length c3) (r3), Row Kd.string 9 (.slice (some ad) L.length cl) (L)]) wz_1) := ⟨Sep.new_row S_wz.out B_wz.out.size hb hR⟩; have xe_wz_1 := row_text (Sep.front [Row (Kd.int .i64) 3 (.slice A3 r3.length c3) (r3)] [] S_wz_1.out) j HJ.out t HRD.out; clear S_wz xe_wz; clear hb) | ((with_reducible refine gate_dst (N := 9) rfl ?_); (try (refine gate_guard (by rfl) ?_; dsimp only)); refine box_event ?hg (N := 9) ?hd (cs := #[.int .i64 0, .int .i64 0, .slice none 0 0, .int .i64 0, .int .i64 0, .int .i64 0, .int .i64 0, .int .i64 0, .int .i64 0, .int .i64 0]) (t := 56) ?hr ?_; (case hd => rfl); (case hg => rfl); (case hr => first | (go_simp; done) | (go_simp; rfl)); intro gm hg_gm wz_2 hX hb; have B_wz_2 : Aside0 (Below (w.heap.size) w wz_2) := ⟨below_then B_wz_1.out B_wz_1.out.size hb⟩; have S_wz_2 : Aside0 (Sep (w.heap.size) (Stars [Blk gm #[.int .i64 0, .int .i64 0, .slice none 0 0, .int .i64 0, .int .i64 0, .int .i64 0, .int .i64 0, .int .i64 0, .int .i64 0, .int .i64 0] 56, Row (Kd.int .i64) 3 (.slice A3 r3.length c3) (r3), Row Kd.string 9 (.slice (some ad) L.length cl) (L)]) wz_2) := ⟨Sep.new_blk S_wz_1.out B_wz_1.out.size hg_gm hb hX⟩; obtain ⟨c_gm_0_wz_2, c_gm_1_wz_2, c_gm_2_wz_2, c_gm_3_wz_2, c_gm_4_wz_2, c_gm_5_wz_2, c_gm_6_wz_2, c_gm_7_wz_2, c_gm_8_wz_2, c_gm_9_wz_2⟩ := XW.cells10 (Sep.front [] [Row (Kd.int .i64) 3 (.slice A3 r3.length c3) (r3), Row Kd.string 9 (.slice (some ad) L.length cl) (L)] S_wz_2.out).blk; obtain ⟨z_gm_0_wz_2, z_gm_1_wz_2, z_gm_2_wz_2, z_gm_3_wz_2, z_gm_4_wz_2, z_gm_5_wz_2, z_gm_6_wz_2, z_gm_7_wz_2, z_gm_8_wz_2, z_gm_9_wz_2⟩ := XW.froz10 (Sep.front [] [Row (Kd.int .i64) 3 (.slice A3 r3.length c3) (r3), Row Kd.string 9 (.slice (some ad) L.length cl) (L)] S_wz_2.out).blk; have xe_wz_2 := row_text (Sep.front [Blk gm #[.int .i64 0, .int .i64 0, .slice none 0 0, .int .i64 0, .int .i64 0, .int .i64 0, .int .i64 0, .int .i64 0, .int .i64 0, .int .i64 0] 56, Row (Kd.int .i64) 3 (.slice A3 r3.length c3) (r3)] [] S_wz_2.out) j HJ.out t HRD.out; clear S_wz_1 xe_wz_1; clear hX hb hg_gm) | ((with_reducible refine gate_store (t := 56) (p := 9) rfl ?_); go_must (refine store_event (t := 56) (p := 9) (v := ?vo_1) (w1 := ((((((((((wz_2.setCell ⟨gm, 0, none⟩ (.int .i64 r1)).setCell ⟨gm, 1, none⟩ (.int .i64 r2)).setCell ⟨gm, 2, none⟩ (.slice A3 r3.length c3)).setCell ⟨gm, 3, none⟩ (.int .i64 r4)).setCell ⟨gm, 4, none⟩ (.int .i64 r5)).setCell ⟨gm, 5, none⟩ (.int .i64 r6)).setCell ⟨gm, 6, none⟩ (.int .i64 r7)).setCell ⟨gm, 7, none⟩ (.int .i64 r8)).setCell ⟨gm, 8, none⟩ (.int .i64 r9)).setCell ⟨gm, 9, none⟩ (.int .i64 r10))) ?hg ?ho ?hn ?hr ?_; (case ho => rfl); (case hg => rfl); (case hn => rfl); (case hr => first | (go_simp; done) | (go_simp; rfl)); intro wz_3 hw; have B_wz_3 : Aside0 (Below (w.heap.size) w wz_3) := ⟨by rw [hw]; exact (Below.setCell (Below.setCell (Below.setCell (Below.setCell (Below.setCell (Below.setCell (Below.setCell (Below.setCell (Below.setCell (Below.setCell B_wz_2.out ((Sep.front [] [Row (Kd.int .i64) 3 (.slice A3 r3.length c3) (r3), Row Kd.string 9 (.slice (some ad) L.length cl) (L)] S_wz_2.out).blk_le) _) ((Sep.front [] [Row (Kd.int .i64) 3 (.slice A3 r3.length c3) (r3), Row Kd.string 9 (.slice (some ad) L.length cl) (L)] S_wz_2.out).blk_le) _) ((Sep.front [] [Row (Kd.int .i64) 3 (.slice A3 r3.length c3) (r3), Row Kd.string 9 (.slice (some ad) L.length cl) (L)] S_wz_2.out).blk_le) _) ((Sep.front [] [Row (Kd.int .i64) 3 (.slice A3 r3.length c3) (r3), Row Kd.string 9 (.slice (some ad) L.length cl) (L)] S_wz_2.out).blk_le) _) ((Sep.front [] [Row (Kd.int .i64) 3 (.slice A3 r3.length c3) (r3), Row Kd.string 9 (.slice (some ad) L.length cl) (L)] S_wz_2.out).blk_le) _) ((Sep.front [] [Row (Kd.int .i64) 3 (.slice A3 r3.length c3) (r3), Row Kd.string 9 (.slice (some ad) L.length cl) (L)] S_wz_2.out).blk_le) _) ((Sep.front [] [Row (Kd.int .i64) 3 (.slice A3 r3.length c3) (r3), Row Kd.string 9 (.slice (some ad) L.length cl) (L)] S_wz_2.out).blk_le) _) ((Sep.front [] [Row (Kd.int .i64) 3 (.slice A3 r3.length c3) (r3), Row Kd.string 9 (.slice (some ad) L.length cl) (L)] S_wz_2.out).blk_le) _) ((Sep.front [] [Row (Kd.int .i64) 3 (.slice A3 r3.length c3) (r3), Row Kd.string 9 (.slice (some ad) L.length cl) (L)] S_wz_2.out).blk_le) _) ((Sep.front [] [Row (Kd.int .i64) 3 (.slice A3 r3.length c3) (r3), Row Kd.string 9 (.slice (some ad) L.length cl) (L)] S_wz_2.out).blk_le) _)⟩; have S_wz_3 : Aside0 (Sep (w.heap.size) (Stars [Blk gm #[.int .i64 r1, .int .i64 r2, .slice A3 r3.length c3, .int .i64 r4, .int .i64 r5, .int .i64 r6, .int .i64 r7, .int .i64 r8, .int .i64 r9, .int .i64 r10] 56, Row (Kd.int .i64) 3 (.slice A3 r3.length c3) (r3), Row Kd.string 9 (.slice (some ad) L.length cl) (L)]) wz_3) := ⟨by rw [hw]; exact Sep.back [] [Row (Kd.int .i64) 3 (.slice A3 r3.length c3) (r3), Row Kd.string 9 (.slice (some ad) L.length cl) (L)] (Sep.store (Sep.store (Sep.store (Sep.store (Sep.store (Sep.store (Sep.store (Sep.store (Sep.store (Sep.store (Sep.front [] [Row (Kd.int .i64) 3 (.slice A3 r3.length c3) (r3), Row Kd.string 9 (.slice (some ad) L.length cl) (L)] S_wz_2.out) B_wz_2.out.size 0 (.int .i64 r1) (cs' := #[.int .i64 r1, .int .i64 0, .slice none 0 0, .int .i64 0, .int .i64 0, .int .i64 0, .int .i64 0, .int .i64 0, .int .i64 0, .int .i64 0]) rfl) (Sep.size_store B_wz_2.out.size) 1 (.int .i64 r2) (cs' := #[.int .i64 r1, .int .i64 r2, .slice none 0 0, .int .i64 0, .int .i64 0, .int .i64 0, .int .i64 0, .int .i64 0, .int .i64 0, .int .i64 0]) rfl) (Sep.size_store (Sep.size_store B_wz_2.out.size)) 2 (.slice A3 r3.length c3) (cs' := #[.int .i64 r1, .int .i64 r2, .slice A3 r3.length c3, .int .i64 0, .int .i64 0, .int .i64 0, .int .i64 0, .int .i64 0, .int .i64 0, .int .i64 0]) rfl) (Sep.size_store (Sep.size_store (Sep.size_store B_wz_2.out.size))) 3 (.int .i64 r4) (cs' := #[.int .i64 r1, .int .i64 r2, .slice A3 r3.length c3, .int .i64 r4, .int .i64 0, .int .i64 0, .int .i64 0, .int .i64 0, .int .i64 0, .int .i64 0]) rfl) (Sep.size_store (Sep.size_store (Sep.size_store (Sep.size_store B_wz_2.out.size)))) 4 (.int .i64 r5) (cs' := #[.int .i64 r1, .int .i64 r2, .slice A3 r3.length c3, .int .i64 r4, .int .i64 r5, .int .i64 0, .int .i64 0, .int .i64 0, .int .i64 0, .int .i64 0]) rfl) (Sep.size_store (Sep.size_store (Sep.size_store (Sep.size_store (Sep.size_store B_wz_2.out.size))))) 5 (.int .i64 r6) (cs' := #[.int .i64 r1, .int .i64 r2, .slice A3 r3.length c3, .int .i64 r4, .int .i64 r5, .int .i64 r6, .int .i64 0, .int .i64 0, .int .i64 0, .int .i64 0]) rfl) (Sep.size_store (Sep.size_store (Sep.size_store (Sep.size_store (Sep.size_store (Sep.size_store B_wz_2.out.size)))))) 6 (.int .i64 r7) (cs' := #[.int .i64 r1, .int .i64 r2, .slice A3 r3.length c3, .int .i64 r4, .int .i64 r5, .int .i64 r6, .int .i64 r7, .int .i64 0, .int .i64 0, .int .i64 0]) rfl) (Sep.size_store (Sep.size_store (Sep.size_store (Sep.size_store (Sep.size_store (Sep.size_store (Sep.size_store B_wz_2.out.size))))))) 7 (.int .i64 r8) (cs' := #[.int .i64 r1, .int .i64 r2, .slice A3 r3.length c3, .int .i64 r4, .int .i64 r5, .int .i64 r6, .int .i64 r7, .int .i64 r8, .int .i64 0, .int .i64 0]) rfl) (Sep.size_store (Sep.size_store (Sep.size_store (Sep.size_store (Sep.size_store (Sep.size_store (Sep.size_store (Sep.size_store B_wz_2.out.size)))))))) 8 (.int .i64 r9) (cs' := #[.int .i64 r1, .int .i64 r2, .slice A3 r3.length c3, .int .i64 r4, .int .i64 r5, .int .i64 r6, .int .i64 r7, .int .i64 r8, .int .i64 r9, .int .i64 0]) rfl) (Sep.size_store (Sep.size_store (Sep.size_store (Sep.size_store (Sep.size_store (Sep.size_store (Sep.size_store (Sep.size_store (Sep.size_store B_wz_2.out.size))))))))) 9 (.int .i64 r10) (cs' := #[.int .i64 r1, .int .i64 r2, .slice A3 r3.length c3, .int .i64 r4, .int .i64 r5, .int .i64 r6, .int .i64 r7, .int .i64 r8, .int .i64 r9, .int .i64 r10]) rfl)⟩; obtain ⟨c_gm_0_wz_3, c_gm_1_wz_3, c_gm_2_wz_3, c_gm_3_wz_3, c_gm_4_wz_3, c_gm_5_wz_3, c_gm_6_wz_3, c_gm_7_wz_3, c_gm_8_wz_3, c_gm_9_wz_3⟩ := XW.cells10 (Sep.front [] [Row (Kd.int .i64) 3 (.slice A3 r3.length c3) (r3), Row Kd.string 9 (.slice (some ad) L.length cl) (L)] S_wz_3.out).blk; obtain ⟨z_gm_0_wz_3, z_gm_1_wz_3, z_gm_2_wz_3, z_gm_3_wz_3, z_gm_4_wz_3, z_gm_5_wz_3, z_gm_6_wz_3, z_gm_7_wz_3, z_gm_8_wz_3, z_gm_9_wz_3⟩ := XW.froz10 (Sep.front [] [Row (Kd.int .i64) 3 (.slice A3 r3.length c3) (r3), Row Kd.string 9 (.slice (some ad) L.length cl) (L)] S_wz_3.out).blk; have xe_wz_3 := row_text (Sep.front [Blk gm #[.int .i64 r1, .int .i64 r2, .slice A3 r3.length c3, .int .i64 r4, .int .i64 r5, .int .i64 r6, .int .i64 r7, .int .i64 r8, .int .i64 r9, .int .i64 r10] 56, Row (Kd.int .i64) 3 (.slice A3 r3.length c3) (r3)] [] S_wz_3.out) j HJ.out t HRD.out; clear S_wz_2 c_gm_0_wz_2 c_gm_1_wz_2 c_gm_2_wz_2 c_gm_3_wz_2 c_gm_4_wz_2 c_gm_5_wz_2 c_gm_6_wz_2 c_gm_7_wz_2 c_gm_8_wz_2 c_gm_9_wz_2 z_gm_0_wz_2 z_gm_1_wz_2 z_gm_2_wz_2 z_gm_3_wz_2 z_gm_4_wz_2 z_gm_5_wz_2 z_gm_6_wz_2 z_gm_7_wz_2 z_gm_8_wz_2 z_gm_9_wz_2 xe_wz_2; clear hw)))
    go_roundw
    case rel => exact ⟨j + 1, by have := HJ.out; omega, by have := HJ.out; go_num, ⟨tail_ (tail_ S_wz_3.out)⟩, B_wz_3⟩
    case measure => have := HJ.out; simp [intOf]; omega
  ·have hlt3 : decide ((j : Int) < (L.length : Int)) = false := decide_eq_false (by omega)
   go_wp2_with (first | (go_at_call 5; (with_reducible refine (Works.works_calls _).mono ?_); rintro e w1 ⟨rfl, hb⟩))
   go_ret
   exact ⟨rfl, B_wr.out.trans (hb.mono B_wr.out.size)⟩
theorem top_is (s : ByteArray) (w : World) : Calls Tryz.prog 4 #[.string s] w fun e w' => e = .returned (.bool true) ∧ Below w.heap.size w w' := by
 rcases Nat.lt_or_ge 3000 s.size with h | h
 ·exact top_big s h w
 ·exact top_small s h w
end Go.Proofs.YtphdjpfdelpecaaGreatDoor.FrmA
