/- Searches: Back, On. Conditions: none beyond those that each theorem states. -/
import Derived.Test.YthofobcbbddeeaaSrchF
namespace Go.Proofs.Ythofobcbbddeeaa.SrchA
open Go.RowKit Go.Proofs.YthofobcbbddeeaaW.PrintWords Go.Proofs.YthofobcbbddeeaaW.PrintLast Go.Proofs.YthofobcbbddeeaaW.PrintMore Go.Proofs.Ythofobcbbddeeaa.XS Go.Proofs.Ythofobcbbddeeaa.PSrch
set_option linter.unusedVariables false
set_option linter.unusedSimpArgs false
abbrev Fb0 : Array Bool := #[false, false, false, false, false, false, false, false, false, false, false, false, false, false, false, false, false]
abbrev Fb1 : Array Bool := #[true, false, false, false, false, false, false, false, false, false, false, false, false, false, false, false, false]
abbrev Fb2 : Array Bool := #[true, true, false, false, false, false, false, false, false, false, false, false, false, false, false, false, false]
abbrev Fb3 : Array Bool := #[true, true, true, false, false, false, false, false, false, false, false, false, false, false, false, false, false]
abbrev Fb4 : Array Bool := #[true, true, true, true, false, false, false, false, false, false, false, false, false, false, false, false, false]
abbrev Fb5 : Array Bool := #[true, true, true, true, true, false, false, false, false, false, false, false, false, false, false, false, false]
abbrev Fb6 : Array Bool := #[true, true, true, true, true, true, false, false, false, false, false, false, false, false, false, false, false]
abbrev Fb7 : Array Bool := #[true, true, true, true, true, true, true, false, false, false, false, false, false, false, false, false, false]
abbrev Fb8 : Array Bool := #[true, true, true, true, true, true, true, true, false, false, false, false, false, false, false, false, false]
abbrev Fb9 : Array Bool := #[true, true, true, true, true, true, true, true, true, false, false, false, false, false, false, false, false]
abbrev Fb10 : Array Bool := #[true, true, true, true, true, true, true, true, true, true, false, false, false, false, false, false, false]
abbrev Fb11 : Array Bool := #[true, true, true, true, true, true, true, true, true, true, true, false, false, false, false, false, false]
abbrev Fb12 : Array Bool := #[true, true, true, true, true, true, true, true, true, true, true, true, false, false, false, false, false]
abbrev Fb13 : Array Bool := #[true, true, true, true, true, true, true, true, true, true, true, true, true, false, false, false, false]
abbrev Fb14 : Array Bool := #[true, true, true, true, true, true, true, true, true, true, true, true, true, true, false, false, false]
abbrev Fb15 : Array Bool := #[true, true, true, true, true, true, true, true, true, true, true, true, true, true, true, false, false]
abbrev Fb16 : Array Bool := #[true, true, true, true, true, true, true, true, true, true, true, true, true, true, true, true, false]
abbrev Fb17 : Array Bool := #[true, true, true, true, true, true, true, true, true, true, true, true, true, true, true, true, true]
abbrev Fb18 : Array Bool := #[true, true, true, true, true, true, true, true, true, true, false, false, true, false, false, false, false]
abbrev Fb19 : Array Bool := #[true, true, true, true, true, true, true, true, true, true, true, false, true, false, false, false, false]
theorem nextF_lt (L : List ByteArray) (q : ByteArray) : ∀ d i : Nat, -1 ≤ nextF L q i d ∧ nextF L q i d < ((i + d : Nat) : Int)
  | 0, i => by unfold nextF; omega
  | d + 1, i => by
    unfold nextF
    have := nextF_lt L q d (i + 1)
    split <;> omega
/-- Back, On: where to; what is answered, the place. -/
def backR (L : List ByteArray) (Q : List Int) (p : Int) : Int := if p = -1 then -1 else lastF L (qs Q) p.toNat
def onR (L : List ByteArray) (Q : List Int) (p : Int) : Int := if p = -1 then -1 else nextF L (qs Q) (p.toNat + 1) (L.length - (p.toNat + 1))
def goP (r p : Int) : Int := if r = -1 then p else r
theorem back_ok {L : List ByteArray} {Q : List Int} {p : Int} (h : Ok L Q p) : Ok L Q (goP (backR L Q p) p) := by
  have h1 := lastF_lt L (qs Q) p.toNat
  have h4 := h.p0
  have h5 := h.p1
  refine ⟨h.short, h.len, h.q, ?_, ?_⟩ <;> unfold goP backR <;> repeat' split
  all_goals omega
theorem on_ok {L : List ByteArray} {Q : List Int} {p : Int} (h : Ok L Q p) : Ok L Q (goP (onR L Q p) p) := by
  have h1 := nextF_lt L (qs Q) (L.length - (p.toNat + 1)) (p.toNat + 1)
  have h4 := h.p0
  have h5 := h.p1
  refine ⟨h.short, h.len, h.q, ?_, ?_⟩ <;> unfold goP onR <;> repeat' split
  all_goals omega
set_option maxHeartbeats 8000000 in
set_option maxRecDepth 100000 in
theorem back2_is {base g : Nat} {L : List ByteArray} {Q : List Int} {p : Int} {l : List Assn} (w : World) (h : Sep base (Star (SS 97 .i32 21 g L Q p) (Stars l)) w) (hbase : base ≤ w.heap.size) (hb0 : 0 < base) (hok : Ok L Q p) (m : Int) (hm : w.cell? ⟨0, 0, none⟩ = some (.int .i64 m)) (r : Int) (hr : backR L Q p = r) (b : Bool) (hb : decide (r ≠ -1) = b) (p2 : Int) (hp2 : goP r p = p2) : Calls Try.prog 44 #[.pointer (some ⟨g, 0, none⟩)] w fun e w' => e = .returned (.bool b) ∧ Sep base (Star (SS 97 .i32 21 g L Q p2) (Stars l)) w' ∧ Below base w w' := by
  have HM := Aside0.mk hm
  have OK := Aside0.mk hok
  clear hm hok
  obtain ⟨A0, c0, A1, c1, hl0, hl1, hC0, hC1, hS⟩ := SS.open h
  have S_w := Aside0.mk hS
  have B_w := Aside0.mk (Below.refl base w)
  clear h hS hC0 hC1
  obtain ⟨c_g_0_w, c_g_1_w, c_g_2_w⟩ := XW.cells3 (Sep.front [] (Row Kd.string 9 (.slice A0 L.length c0) (L) :: Row (Kd.int .i32) 21 (.slice A1 Q.length c1) (Q) :: l) S_w.out).blk
  obtain ⟨z_g_0_w, z_g_1_w, z_g_2_w⟩ := XW.froz3 (Sep.front [] (Row Kd.string 9 (.slice A0 L.length c0) (L) :: Row (Kd.int .i32) 21 (.slice A1 Q.length c1) (Q) :: l) S_w.out).blk
  by_cases hp : p = -1
  case pos =>
    obtain rfl : r = -1 := by rw [← hr]; unfold backR; rw [if_pos hp]
    obtain rfl : b = false := by rw [← hb]; rfl
    obtain rfl : p2 = p := by rw [← hp2]; rfl
    have hpe : (p2 != -1) = false := bne_eq_false_iff_eq.mpr hp
    clear hp hr hb hp2
    go_enter Try.func44, Try.ntmps44
    go_wp2
    go_ret
    exact ⟨rfl, SS.close S_w.out, B_w.out⟩
  have h0 := OK.out.p0
  have h1 := OK.out.p1
  have hll := OK.out.len
  obtain ⟨k, rfl⟩ : ∃ k : Nat, p = (k : Int) := ⟨p.toNat, by omega⟩
  have hpe : ((k : Int) != -1) = true := bne_iff_ne.mpr hp
  have hk : k ≤ L.length := by omega
  have hw : wrap64 ((k : Int) - 1) = (k : Int) - 1 := by unfold wrap64; omega
  have HFD : Aside0 (firstF (qs Q) (downs L k) = r) := ⟨by rw [first_downs L _ OK.out.short _ hk, ← hr]; unfold backR; rw [if_neg hp, Int.toNat_natCast]⟩
  have HB := Aside0.mk hb
  have HP := Aside0.mk (show (if r = -1 then (k : Int) else r) = p2 from hp2)
  clear hr hb hp2 hp
  go_enter Try.func44, Try.ntmps44
  go_wp2_with (first | (go_at_call 70; (with_reducible refine (back_is _ (Sf.of S_w.out) OK.out.len k hk ((k : Int) - 1) rfl).mono ?_); rintro e w_1 ⟨B, rfl, hBc, hb⟩; have HBc := Aside0.mk hBc; clear hBc; have B_w_1 : Aside0 (Below (base) w w_1) := ⟨below_then B_w.out (Nat.le_trans (hbase) B_w.out.size) hb⟩; have S_w_1 : Aside0 (Sep (base) (Stars (Blk g #[.slice A0 L.length c0, .slice A1 Q.length c1, .int .i64 (k : Int)] 97 :: Row Kd.string 9 (.slice A0 L.length c0) (L) :: Row (Kd.int .i32) 21 (.slice A1 Q.length c1) (Q) :: l)) w_1) := ⟨Sep.below S_w.out hb⟩; have Q_w_1 : Aside0 (Below w.heap.size w w_1) := ⟨hb⟩; obtain ⟨c_g_0_w_1, c_g_1_w_1, c_g_2_w_1⟩ := XW.cells3 (Sep.front [] (Row Kd.string 9 (.slice A0 L.length c0) (L) :: Row (Kd.int .i32) 21 (.slice A1 Q.length c1) (Q) :: l) S_w_1.out).blk; obtain ⟨z_g_0_w_1, z_g_1_w_1, z_g_2_w_1⟩ := XW.froz3 (Sep.front [] (Row Kd.string 9 (.slice A0 L.length c0) (L) :: Row (Kd.int .i32) 21 (.slice A1 Q.length c1) (Q) :: l) S_w_1.out).blk; clear S_w c_g_0_w c_g_1_w c_g_2_w z_g_0_w z_g_1_w z_g_2_w; clear hb) | (go_at_call 69; (with_reducible refine (first_is _ (Sf.of S_w_1.out) m (cell_low B_w_1.out hb0 HM.out) 91 _ enters91 (downs L k) (fun n_ hn_ => by rw [downs_len]; exact back_stops n_ hn_ _ _ (Sf.of S_w_1.out) OK.out.short OK.out.len k hk B HBc.out (Below.refl _ _)) r HFD.out).mono ?_); rintro e w_2 ⟨rfl, hb⟩; have B_w_2 : Aside0 (Below (base) w w_2) := ⟨below_then B_w_1.out (Nat.le_trans (hbase) B_w_1.out.size) hb⟩; have S_w_2 : Aside0 (Sep (base) (Stars (Blk g #[.slice A0 L.length c0, .slice A1 Q.length c1, .int .i64 (k : Int)] 97 :: Row Kd.string 9 (.slice A0 L.length c0) (L) :: Row (Kd.int .i32) 21 (.slice A1 Q.length c1) (Q) :: l)) w_2) := ⟨Sep.below S_w_1.out hb⟩; have Q_w_2 : Aside0 (Below w.heap.size w w_2) := ⟨below_step Q_w_1.out hb⟩; obtain ⟨c_g_0_w_2, c_g_1_w_2, c_g_2_w_2⟩ := XW.cells3 (Sep.front [] (Row Kd.string 9 (.slice A0 L.length c0) (L) :: Row (Kd.int .i32) 21 (.slice A1 Q.length c1) (Q) :: l) S_w_2.out).blk; obtain ⟨z_g_0_w_2, z_g_1_w_2, z_g_2_w_2⟩ := XW.froz3 (Sep.front [] (Row Kd.string 9 (.slice A0 L.length c0) (L) :: Row (Kd.int .i32) 21 (.slice A1 Q.length c1) (Q) :: l) S_w_2.out).blk; clear S_w_1 c_g_0_w_1 c_g_1_w_1 c_g_2_w_1 z_g_0_w_1 z_g_1_w_1 z_g_2_w_1; clear hb) | (go_at_call 72; (with_reducible refine (move_is _ S_w_2.out (Nat.le_trans (hbase) B_w_2.out.size) r b HB.out p2 HP.out).mono ?_); rintro e w_3 ⟨rfl, hS, hb⟩; have B_w_3 : Aside0 (Below (base) w w_3) := ⟨(Below.trans B_w_2.out hb)⟩; have S_w_3 : Aside0 (Sep (base) (Stars (Blk g #[.slice A0 L.length c0, .slice A1 Q.length c1, .int .i64 p2] 97 :: Row Kd.string 9 (.slice A0 L.length c0) (L) :: Row (Kd.int .i32) 21 (.slice A1 Q.length c1) (Q) :: l)) w_3) := ⟨hS⟩; obtain ⟨c_g_0_w_3, c_g_1_w_3, c_g_2_w_3⟩ := XW.cells3 (Sep.front [] (Row Kd.string 9 (.slice A0 L.length c0) (L) :: Row (Kd.int .i32) 21 (.slice A1 Q.length c1) (Q) :: l) S_w_3.out).blk; obtain ⟨z_g_0_w_3, z_g_1_w_3, z_g_2_w_3⟩ := XW.froz3 (Sep.front [] (Row Kd.string 9 (.slice A0 L.length c0) (L) :: Row (Kd.int .i32) 21 (.slice A1 Q.length c1) (Q) :: l) S_w_3.out).blk; clear S_w_2 c_g_0_w_2 c_g_1_w_2 c_g_2_w_2 z_g_0_w_2 z_g_1_w_2 z_g_2_w_2; clear hS hb))
  go_ret
  exact ⟨rfl, SS.close S_w_3.out, B_w_3.out⟩
set_option maxHeartbeats 8000000 in
set_option maxRecDepth 100000 in
theorem on2_is {base g : Nat} {L : List ByteArray} {Q : List Int} {p : Int} {l : List Assn} (w : World) (h : Sep base (Star (SS 97 .i32 21 g L Q p) (Stars l)) w) (hbase : base ≤ w.heap.size) (hb0 : 0 < base) (hok : Ok L Q p) (m : Int) (hm : w.cell? ⟨0, 0, none⟩ = some (.int .i64 m)) (r : Int) (hr : onR L Q p = r) (b : Bool) (hb : decide (r ≠ -1) = b) (p2 : Int) (hp2 : goP r p = p2) : Calls Try.prog 46 #[.pointer (some ⟨g, 0, none⟩)] w fun e w' => e = .returned (.bool b) ∧ Sep base (Star (SS 97 .i32 21 g L Q p2) (Stars l)) w' ∧ Below base w w' := by
  have HM := Aside0.mk hm
  have OK := Aside0.mk hok
  clear hm hok
  obtain ⟨A0, c0, A1, c1, hl0, hl1, hC0, hC1, hS⟩ := SS.open h
  have S_w := Aside0.mk hS
  have B_w := Aside0.mk (Below.refl base w)
  clear h hS hC0 hC1
  obtain ⟨c_g_0_w, c_g_1_w, c_g_2_w⟩ := XW.cells3 (Sep.front [] (Row Kd.string 9 (.slice A0 L.length c0) (L) :: Row (Kd.int .i32) 21 (.slice A1 Q.length c1) (Q) :: l) S_w.out).blk
  obtain ⟨z_g_0_w, z_g_1_w, z_g_2_w⟩ := XW.froz3 (Sep.front [] (Row Kd.string 9 (.slice A0 L.length c0) (L) :: Row (Kd.int .i32) 21 (.slice A1 Q.length c1) (Q) :: l) S_w.out).blk
  by_cases hp : p = -1
  case pos =>
    obtain rfl : r = -1 := by rw [← hr]; unfold onR; rw [if_pos hp]
    obtain rfl : b = false := by rw [← hb]; rfl
    obtain rfl : p2 = p := by rw [← hp2]; rfl
    have hpe : (p2 != -1) = false := bne_eq_false_iff_eq.mpr hp
    clear hp hr hb hp2
    go_enter Try.func46, Try.ntmps46
    go_upto_region 1 with (first | ((with_reducible refine gate_dst (N := 1) rfl ?_); (try (refine gate_guard (by rfl) ?_; dsimp only)); refine box_event ?hg (N := 1) ?hd (cs := #[.pointer (some ⟨g, 0, none⟩)]) (t := 56) ?hr ?_; (case hd => rfl); (case hg => rfl); (case hr => first | (go_simp; done) | (go_simp; rfl)); intro gb hg_gb w_1 hX hb; have B_w_1 : Aside0 (Below (base) w w_1) := ⟨below_then B_w.out (Nat.le_trans (hbase) B_w.out.size) hb⟩; have S_w_1 : Aside0 (Sep (base) (Stars (Blk gb #[.pointer (some ⟨g, 0, none⟩)] 56 :: Blk g #[.slice A0 L.length c0, .slice A1 Q.length c1, .int .i64 p2] 97 :: Row Kd.string 9 (.slice A0 L.length c0) (L) :: Row (Kd.int .i32) 21 (.slice A1 Q.length c1) (Q) :: l)) w_1) := ⟨Sep.new_blk S_w.out (Nat.le_trans (hbase) B_w.out.size) hg_gb hb hX⟩; have Q_w_1 : Aside0 (Below w.heap.size w w_1) := ⟨hb⟩; have c_gb_0_w_1 := XW.cells1 (Sep.front [] (Blk g #[.slice A0 L.length c0, .slice A1 Q.length c1, .int .i64 p2] 97 :: Row Kd.string 9 (.slice A0 L.length c0) (L) :: Row (Kd.int .i32) 21 (.slice A1 Q.length c1) (Q) :: l) S_w_1.out).blk; have z_gb_0_w_1 := XW.froz1 (Sep.front [] (Blk g #[.slice A0 L.length c0, .slice A1 Q.length c1, .int .i64 p2] 97 :: Row Kd.string 9 (.slice A0 L.length c0) (L) :: Row (Kd.int .i32) 21 (.slice A1 Q.length c1) (Q) :: l) S_w_1.out).blk; obtain ⟨c_g_0_w_1, c_g_1_w_1, c_g_2_w_1⟩ := XW.cells3 (Sep.front [Blk gb #[.pointer (some ⟨g, 0, none⟩)] 56] (Row Kd.string 9 (.slice A0 L.length c0) (L) :: Row (Kd.int .i32) 21 (.slice A1 Q.length c1) (Q) :: l) S_w_1.out).blk; obtain ⟨z_g_0_w_1, z_g_1_w_1, z_g_2_w_1⟩ := XW.froz3 (Sep.front [Blk gb #[.pointer (some ⟨g, 0, none⟩)] 56] (Row Kd.string 9 (.slice A0 L.length c0) (L) :: Row (Kd.int .i32) 21 (.slice A1 Q.length c1) (Q) :: l) S_w_1.out).blk; clear S_w c_g_0_w c_g_1_w c_g_2_w z_g_0_w z_g_1_w z_g_2_w; clear hX hb hg_gb))
    refine start_ (n := 17) (S := fun w' => w'.cell? ⟨gb, 0, none⟩ = some (.pointer (some ⟨g, 0, none⟩)) ∧ w'.cell? ⟨g, 0, none⟩ = some (.slice A0 L.length c0) ∧ w'.cell? ⟨g, 1, none⟩ = some (.slice A1 Q.length c1) ∧ w'.cell? ⟨g, 2, none⟩ = some (.int .i64 p2)) (ds := []) Fb0 (by kernel_rfl) rfl rfl ⟨c_gb_0_w_1, c_g_0_w_1, c_g_1_w_1, c_g_2_w_1⟩ (fun hHeld => ?_)
    generalize hdw : w_1.drew = w_2 at hHeld ⊢
    have HB_w_2 : Aside0 (Below w_1.heap.size w_1 w_2) := ⟨by rw [← hdw]; exact below_drew1 (Below.refl _ _)⟩
    clear hdw
    have B_w_2 : Aside0 (Below (base) w w_2) := ⟨below_then B_w_1.out (Nat.le_trans (hbase) B_w_1.out.size) HB_w_2.out⟩
    have S_w_2 : Aside0 (Sep (base) (Stars (Blk gb #[.pointer (some ⟨g, 0, none⟩)] 56 :: Blk g #[.slice A0 L.length c0, .slice A1 Q.length c1, .int .i64 p2] 97 :: Row Kd.string 9 (.slice A0 L.length c0) (L) :: Row (Kd.int .i32) 21 (.slice A1 Q.length c1) (Q) :: l)) w_2) := ⟨Sep.below S_w_1.out HB_w_2.out⟩
    have Q_w_2 : Aside0 (Below w.heap.size w w_2) := ⟨below_step Q_w_1.out HB_w_2.out⟩
    have c_gb_0_w_2 := XW.cells1 (Sep.front [] (Blk g #[.slice A0 L.length c0, .slice A1 Q.length c1, .int .i64 p2] 97 :: Row Kd.string 9 (.slice A0 L.length c0) (L) :: Row (Kd.int .i32) 21 (.slice A1 Q.length c1) (Q) :: l) S_w_2.out).blk
    have z_gb_0_w_2 := XW.froz1 (Sep.front [] (Blk g #[.slice A0 L.length c0, .slice A1 Q.length c1, .int .i64 p2] 97 :: Row Kd.string 9 (.slice A0 L.length c0) (L) :: Row (Kd.int .i32) 21 (.slice A1 Q.length c1) (Q) :: l) S_w_2.out).blk
    obtain ⟨c_g_0_w_2, c_g_1_w_2, c_g_2_w_2⟩ := XW.cells3 (Sep.front [Blk gb #[.pointer (some ⟨g, 0, none⟩)] 56] (Row Kd.string 9 (.slice A0 L.length c0) (L) :: Row (Kd.int .i32) 21 (.slice A1 Q.length c1) (Q) :: l) S_w_2.out).blk
    obtain ⟨z_g_0_w_2, z_g_1_w_2, z_g_2_w_2⟩ := XW.froz3 (Sep.front [Blk gb #[.pointer (some ⟨g, 0, none⟩)] 56] (Row Kd.string 9 (.slice A0 L.length c0) (L) :: Row (Kd.int .i32) 21 (.slice A1 Q.length c1) (Q) :: l) S_w_2.out).blk
    clear S_w_1 c_gb_0_w_1 z_gb_0_w_1 c_g_0_w_1 c_g_1_w_1 c_g_2_w_1 z_g_0_w_1 z_g_1_w_1 z_g_2_w_1
    refine take_ (i := 0) (N := some 3) (v := ?_) (a' := ?_) Fb1 rfl rfl (by kernel_rfl) (fun _ _ _ h => h) (Or.inl ⟨by rfl, ?_⟩) hHeld ?_ ?_
    rotate_left
    · rintro w' ⟨s0, s1, s2, s3⟩
      go_simp
      with_reducible rfl
    rotate_left
    · simp only [Act.put, List.setIfInBounds_toArray, List.set_cons_zero, List.set_cons_succ, i64_w, i32_w]
      rfl
    refine pure_ (i := 1) (N := some 4) (v := ?_) (a' := ?_) Fb2 rfl rfl (by kernel_rfl) (fun _ _ _ h => h) (Or.inl ⟨by rfl, ?_⟩) ?_ ?_
    rotate_left
    · intro w'
      go_simp
      with_reducible rfl
    rotate_left
    · simp only [Act.put, List.setIfInBounds_toArray, List.set_cons_zero, List.set_cons_succ, i64_w, i32_w]
      rfl
    refine pure_ (i := 2) (N := some 5) (v := ?_) (a' := ?_) Fb3 rfl rfl (by kernel_rfl) (fun _ _ _ h => h) (Or.inl ⟨by rfl, ?_⟩) ?_ ?_
    rotate_left
    · intro w'
      go_simp
      with_reducible rfl
    rotate_left
    · simp only [Act.put, List.setIfInBounds_toArray, List.set_cons_zero, List.set_cons_succ, i64_w, i32_w]
      rfl
    refine take_ (i := 3) (N := some 6) (v := ?_) (a' := ?_) Fb4 rfl rfl (by kernel_rfl) (fun _ _ _ h => h) (Or.inl ⟨by rfl, ?_⟩) hHeld ?_ ?_
    rotate_left
    · rintro w' ⟨s0, s1, s2, s3⟩
      go_simp
      with_reducible rfl
    rotate_left
    · simp only [Act.put, List.setIfInBounds_toArray, List.set_cons_zero, List.set_cons_succ, i64_w, i32_w]
      rfl
    refine pure_ (i := 4) (N := some 7) (v := ?_) (a' := ?_) Fb5 rfl rfl (by kernel_rfl) (fun _ _ _ h => h) (Or.inl ⟨by rfl, ?_⟩) ?_ ?_
    rotate_left
    · intro w'
      go_simp
      with_reducible rfl
    rotate_left
    · simp only [Act.put, List.setIfInBounds_toArray, List.set_cons_zero, List.set_cons_succ, i64_w, i32_w]
      rfl
    refine pure_ (i := 5) (N := some 8) (v := ?_) (a' := ?_) Fb6 rfl rfl (by kernel_rfl) (fun _ _ _ h => h) (Or.inl ⟨by rfl, ?_⟩) ?_ ?_
    rotate_left
    · intro w'
      go_simp
      with_reducible rfl
    rotate_left
    · simp only [Act.put, List.setIfInBounds_toArray, List.set_cons_zero, List.set_cons_succ, i64_w, i32_w]
      rfl
    refine take_ (i := 6) (N := some 9) (v := ?_) (a' := ?_) Fb7 rfl rfl (by kernel_rfl) (fun _ _ _ h => h) (Or.inl ⟨by rfl, ?_⟩) hHeld ?_ ?_
    rotate_left
    · rintro w' ⟨s0, s1, s2, s3⟩
      go_simp
      with_reducible rfl
    rotate_left
    · simp only [Act.put, List.setIfInBounds_toArray, List.set_cons_zero, List.set_cons_succ, i64_w, i32_w]
      rfl
    refine pure_ (i := 7) (N := some 10) (v := ?_) (a' := ?_) Fb8 rfl rfl (by kernel_rfl) (fun _ _ _ h => h) (Or.inl ⟨by rfl, ?_⟩) ?_ ?_
    rotate_left
    · intro w'
      go_simp
      with_reducible rfl
    rotate_left
    · simp only [Act.put, List.setIfInBounds_toArray, List.set_cons_zero, List.set_cons_succ, i64_w, i32_w]
      rfl
    refine pure_ (i := 8) (N := some 11) (v := ?_) (a' := ?_) Fb9 rfl rfl (by kernel_rfl) (fun _ _ _ h => h) (Or.inl ⟨by rfl, ?_⟩) ?_ ?_
    rotate_left
    · intro w'
      go_simp
      with_reducible rfl
    rotate_left
    · simp only [Act.put, List.setIfInBounds_toArray, List.set_cons_zero, List.set_cons_succ, i64_w, i32_w]
      rfl
    refine pure_ (i := 9) (N := some 12) (v := ?_) (a' := ?_) Fb10 rfl rfl (by kernel_rfl) (fun _ _ _ h => h) (Or.inl ⟨by rfl, ?_⟩) ?_ ?_
    rotate_left
    · intro w'
      go_simp
      with_reducible rfl
    rotate_left
    · simp only [Act.put, List.setIfInBounds_toArray, List.set_cons_zero, List.set_cons_succ, i64_w, i32_w]
      rfl
    refine pure_ (i := 10) (N := some 13) (v := undef) (a' := ?_) Fb11 rfl rfl (by kernel_rfl) (fun _ _ _ h => h) (Or.inr ⟨by rfl, rfl⟩) ?_ ?_
    rotate_left
    · simp only [Act.put, List.setIfInBounds_toArray, List.set_cons_zero, List.set_cons_succ, i64_w, i32_w]
      rfl
    refine pure_ (i := 11) (N := some 14) (v := undef) (a' := ?_) Fb12 rfl rfl (by kernel_rfl) (fun _ _ _ h => h) (Or.inr ⟨by rfl, rfl⟩) ?_ ?_
    rotate_left
    · simp only [Act.put, List.setIfInBounds_toArray, List.set_cons_zero, List.set_cons_succ, i64_w, i32_w]
      rfl
    refine pure_ (i := 12) (N := some 15) (v := undef) (a' := ?_) Fb13 rfl rfl (by kernel_rfl) (fun _ _ _ h => h) (Or.inr ⟨by rfl, rfl⟩) ?_ ?_
    rotate_left
    · simp only [Act.put, List.setIfInBounds_toArray, List.set_cons_zero, List.set_cons_succ, i64_w, i32_w]
      rfl
    refine pure_ (i := 13) (N := some 16) (v := undef) (a' := ?_) Fb14 rfl rfl (by kernel_rfl) (fun _ _ _ h => h) (Or.inr ⟨by rfl, rfl⟩) ?_ ?_
    rotate_left
    · simp only [Act.put, List.setIfInBounds_toArray, List.set_cons_zero, List.set_cons_succ, i64_w, i32_w]
      rfl
    refine pure_ (i := 14) (N := some 17) (v := undef) (a' := ?_) Fb15 rfl rfl (by kernel_rfl) (fun _ _ _ h => h) (Or.inr ⟨by rfl, rfl⟩) ?_ ?_
    rotate_left
    · simp only [Act.put, List.setIfInBounds_toArray, List.set_cons_zero, List.set_cons_succ, i64_w, i32_w]
      rfl
    refine pure_ (i := 15) (N := some 18) (v := ?_) (a' := ?_) Fb16 rfl rfl (by kernel_rfl) (fun _ _ _ h => h) (Or.inl ⟨by rfl, ?_⟩) ?_ ?_
    rotate_left
    · intro w'
      go_simp
      with_reducible rfl
    rotate_left
    · simp only [Act.put, List.setIfInBounds_toArray, List.set_cons_zero, List.set_cons_succ, i64_w, i32_w]
      rfl
    refine pure_ (i := 16) (N := some 2) (v := ?_) (a' := ?_) Fb17 rfl rfl (by kernel_rfl) (fun _ _ _ h => h) (Or.inl ⟨by rfl, ?_⟩) ?_ ?_
    rotate_left
    · intro w'
      go_simp
      with_reducible rfl
    rotate_left
    · simp only [Act.put, List.setIfInBounds_toArray, List.set_cons_zero, List.set_cons_succ, i64_w, i32_w]
      rfl
    refine done_ (by kernel_rfl) ?_
    go_wp2
    go_ret
    exact ⟨rfl, SS.close (Sep.right S_w_2.out), B_w_2.out⟩
  have h0 := OK.out.p0
  have h1 := OK.out.p1
  have hll := OK.out.len
  obtain ⟨k, rfl⟩ : ∃ k : Nat, p = (k : Int) := ⟨p.toNat, by omega⟩
  have hpe : ((k : Int) != -1) = true := bne_iff_ne.mpr hp
  have hk : k < L.length := by omega
  have HFD : Aside0 (firstF (qs Q) (ups L (k + 1) (L.length - (k + 1))) = r) := ⟨by rw [first_ups L _ OK.out.short _ _ (by omega), ← hr]; unfold onR; rw [if_neg hp, Int.toNat_natCast]⟩
  have HB := Aside0.mk hb
  have HP := Aside0.mk (show (if r = -1 then (k : Int) else r) = p2 from hp2)
  clear hr hb hp2 hp
  go_enter Try.func46, Try.ntmps46
  go_upto_region 1 with (first | ((with_reducible refine gate_dst (N := 1) rfl ?_); (try (refine gate_guard (by rfl) ?_; dsimp only)); refine box_event ?hg (N := 1) ?hd (cs := #[.pointer (some ⟨g, 0, none⟩)]) (t := 56) ?hr ?_; (case hd => rfl); (case hg => rfl); (case hr => first | (go_simp; done) | (go_simp; rfl)); intro gb hg_gb w_1 hX hb; have B_w_1 : Aside0 (Below (base) w w_1) := ⟨below_then B_w.out (Nat.le_trans (hbase) B_w.out.size) hb⟩; have S_w_1 : Aside0 (Sep (base) (Stars (Blk gb #[.pointer (some ⟨g, 0, none⟩)] 56 :: Blk g #[.slice A0 L.length c0, .slice A1 Q.length c1, .int .i64 (k : Int)] 97 :: Row Kd.string 9 (.slice A0 L.length c0) (L) :: Row (Kd.int .i32) 21 (.slice A1 Q.length c1) (Q) :: l)) w_1) := ⟨Sep.new_blk S_w.out (Nat.le_trans (hbase) B_w.out.size) hg_gb hb hX⟩; have Q_w_1 : Aside0 (Below w.heap.size w w_1) := ⟨hb⟩; have c_gb_0_w_1 := XW.cells1 (Sep.front [] (Blk g #[.slice A0 L.length c0, .slice A1 Q.length c1, .int .i64 (k : Int)] 97 :: Row Kd.string 9 (.slice A0 L.length c0) (L) :: Row (Kd.int .i32) 21 (.slice A1 Q.length c1) (Q) :: l) S_w_1.out).blk; have z_gb_0_w_1 := XW.froz1 (Sep.front [] (Blk g #[.slice A0 L.length c0, .slice A1 Q.length c1, .int .i64 (k : Int)] 97 :: Row Kd.string 9 (.slice A0 L.length c0) (L) :: Row (Kd.int .i32) 21 (.slice A1 Q.length c1) (Q) :: l) S_w_1.out).blk; obtain ⟨c_g_0_w_1, c_g_1_w_1, c_g_2_w_1⟩ := XW.cells3 (Sep.front [Blk gb #[.pointer (some ⟨g, 0, none⟩)] 56] (Row Kd.string 9 (.slice A0 L.length c0) (L) :: Row (Kd.int .i32) 21 (.slice A1 Q.length c1) (Q) :: l) S_w_1.out).blk; obtain ⟨z_g_0_w_1, z_g_1_w_1, z_g_2_w_1⟩ := XW.froz3 (Sep.front [Blk gb #[.pointer (some ⟨g, 0, none⟩)] 56] (Row Kd.string 9 (.slice A0 L.length c0) (L) :: Row (Kd.int .i32) 21 (.slice A1 Q.length c1) (Q) :: l) S_w_1.out).blk; clear S_w c_g_0_w c_g_1_w c_g_2_w z_g_0_w z_g_1_w z_g_2_w; clear hX hb hg_gb))
  refine start_ (n := 17) (S := fun w' => w'.cell? ⟨gb, 0, none⟩ = some (.pointer (some ⟨g, 0, none⟩)) ∧ w'.cell? ⟨g, 0, none⟩ = some (.slice A0 L.length c0) ∧ w'.cell? ⟨g, 1, none⟩ = some (.slice A1 Q.length c1) ∧ w'.cell? ⟨g, 2, none⟩ = some (.int .i64 (k : Int))) (ds := [14]) Fb0 (by kernel_rfl) rfl rfl ⟨c_gb_0_w_1, c_g_0_w_1, c_g_1_w_1, c_g_2_w_1⟩ (fun hHeld => ?_)
  generalize hdw : w_1.drew = w_2 at hHeld ⊢
  have HB_w_2 : Aside0 (Below w_1.heap.size w_1 w_2) := ⟨by rw [← hdw]; exact below_drew1 (Below.refl _ _)⟩
  clear hdw
  have B_w_2 : Aside0 (Below (base) w w_2) := ⟨below_then B_w_1.out (Nat.le_trans (hbase) B_w_1.out.size) HB_w_2.out⟩
  have S_w_2 : Aside0 (Sep (base) (Stars (Blk gb #[.pointer (some ⟨g, 0, none⟩)] 56 :: Blk g #[.slice A0 L.length c0, .slice A1 Q.length c1, .int .i64 (k : Int)] 97 :: Row Kd.string 9 (.slice A0 L.length c0) (L) :: Row (Kd.int .i32) 21 (.slice A1 Q.length c1) (Q) :: l)) w_2) := ⟨Sep.below S_w_1.out HB_w_2.out⟩
  have Q_w_2 : Aside0 (Below w.heap.size w w_2) := ⟨below_step Q_w_1.out HB_w_2.out⟩
  have c_gb_0_w_2 := XW.cells1 (Sep.front [] (Blk g #[.slice A0 L.length c0, .slice A1 Q.length c1, .int .i64 (k : Int)] 97 :: Row Kd.string 9 (.slice A0 L.length c0) (L) :: Row (Kd.int .i32) 21 (.slice A1 Q.length c1) (Q) :: l) S_w_2.out).blk
  have z_gb_0_w_2 := XW.froz1 (Sep.front [] (Blk g #[.slice A0 L.length c0, .slice A1 Q.length c1, .int .i64 (k : Int)] 97 :: Row Kd.string 9 (.slice A0 L.length c0) (L) :: Row (Kd.int .i32) 21 (.slice A1 Q.length c1) (Q) :: l) S_w_2.out).blk
  obtain ⟨c_g_0_w_2, c_g_1_w_2, c_g_2_w_2⟩ := XW.cells3 (Sep.front [Blk gb #[.pointer (some ⟨g, 0, none⟩)] 56] (Row Kd.string 9 (.slice A0 L.length c0) (L) :: Row (Kd.int .i32) 21 (.slice A1 Q.length c1) (Q) :: l) S_w_2.out).blk
  obtain ⟨z_g_0_w_2, z_g_1_w_2, z_g_2_w_2⟩ := XW.froz3 (Sep.front [Blk gb #[.pointer (some ⟨g, 0, none⟩)] 56] (Row Kd.string 9 (.slice A0 L.length c0) (L) :: Row (Kd.int .i32) 21 (.slice A1 Q.length c1) (Q) :: l) S_w_2.out).blk
  clear S_w_1 c_gb_0_w_1 z_gb_0_w_1 c_g_0_w_1 c_g_1_w_1 c_g_2_w_1 z_g_0_w_1 z_g_1_w_1 z_g_2_w_1
  refine take_ (i := 0) (N := some 3) (v := ?_) (a' := ?_) Fb1 rfl rfl (by kernel_rfl) (fun _ _ _ h => h) (Or.inl ⟨by rfl, ?_⟩) hHeld ?_ ?_
  rotate_left
  · rintro w' ⟨s0, s1, s2, s3⟩
    go_simp
    with_reducible rfl
  rotate_left
  · simp only [Act.put, List.setIfInBounds_toArray, List.set_cons_zero, List.set_cons_succ, i64_w, i32_w]
    rfl
  refine pure_ (i := 1) (N := some 4) (v := ?_) (a' := ?_) Fb2 rfl rfl (by kernel_rfl) (fun _ _ _ h => h) (Or.inl ⟨by rfl, ?_⟩) ?_ ?_
  rotate_left
  · intro w'
    go_simp
    with_reducible rfl
  rotate_left
  · simp only [Act.put, List.setIfInBounds_toArray, List.set_cons_zero, List.set_cons_succ, i64_w, i32_w]
    rfl
  refine pure_ (i := 2) (N := some 5) (v := ?_) (a' := ?_) Fb3 rfl rfl (by kernel_rfl) (fun _ _ _ h => h) (Or.inl ⟨by rfl, ?_⟩) ?_ ?_
  rotate_left
  · intro w'
    go_simp
    with_reducible rfl
  rotate_left
  · simp only [Act.put, List.setIfInBounds_toArray, List.set_cons_zero, List.set_cons_succ, i64_w, i32_w]
    rfl
  refine take_ (i := 3) (N := some 6) (v := ?_) (a' := ?_) Fb4 rfl rfl (by kernel_rfl) (fun _ _ _ h => h) (Or.inl ⟨by rfl, ?_⟩) hHeld ?_ ?_
  rotate_left
  · rintro w' ⟨s0, s1, s2, s3⟩
    go_simp
    with_reducible rfl
  rotate_left
  · simp only [Act.put, List.setIfInBounds_toArray, List.set_cons_zero, List.set_cons_succ, i64_w, i32_w]
    rfl
  refine pure_ (i := 4) (N := some 7) (v := ?_) (a' := ?_) Fb5 rfl rfl (by kernel_rfl) (fun _ _ _ h => h) (Or.inl ⟨by rfl, ?_⟩) ?_ ?_
  rotate_left
  · intro w'
    go_simp
    with_reducible rfl
  rotate_left
  · simp only [Act.put, List.setIfInBounds_toArray, List.set_cons_zero, List.set_cons_succ, i64_w, i32_w]
    rfl
  refine pure_ (i := 5) (N := some 8) (v := ?_) (a' := ?_) Fb6 rfl rfl (by kernel_rfl) (fun _ _ _ h => h) (Or.inl ⟨by rfl, ?_⟩) ?_ ?_
  rotate_left
  · intro w'
    go_simp
    with_reducible rfl
  rotate_left
  · simp only [Act.put, List.setIfInBounds_toArray, List.set_cons_zero, List.set_cons_succ, i64_w, i32_w]
    rfl
  refine take_ (i := 6) (N := some 9) (v := ?_) (a' := ?_) Fb7 rfl rfl (by kernel_rfl) (fun _ _ _ h => h) (Or.inl ⟨by rfl, ?_⟩) hHeld ?_ ?_
  rotate_left
  · rintro w' ⟨s0, s1, s2, s3⟩
    go_simp
    with_reducible rfl
  rotate_left
  · simp only [Act.put, List.setIfInBounds_toArray, List.set_cons_zero, List.set_cons_succ, i64_w, i32_w]
    rfl
  refine pure_ (i := 7) (N := some 10) (v := ?_) (a' := ?_) Fb8 rfl rfl (by kernel_rfl) (fun _ _ _ h => h) (Or.inl ⟨by rfl, ?_⟩) ?_ ?_
  rotate_left
  · intro w'
    go_simp
    with_reducible rfl
  rotate_left
  · simp only [Act.put, List.setIfInBounds_toArray, List.set_cons_zero, List.set_cons_succ, i64_w, i32_w]
    rfl
  refine pure_ (i := 8) (N := some 11) (v := ?_) (a' := ?_) Fb9 rfl rfl (by kernel_rfl) (fun _ _ _ h => h) (Or.inl ⟨by rfl, ?_⟩) ?_ ?_
  rotate_left
  · intro w'
    go_simp
    with_reducible rfl
  rotate_left
  · simp only [Act.put, List.setIfInBounds_toArray, List.set_cons_zero, List.set_cons_succ, i64_w, i32_w]
    rfl
  refine pure_ (i := 9) (N := some 12) (v := ?_) (a' := ?_) Fb10 rfl rfl (by kernel_rfl) (fun _ _ _ h => h) (Or.inl ⟨by rfl, ?_⟩) ?_ ?_
  rotate_left
  · intro w'
    go_simp
    with_reducible rfl
  rotate_left
  · simp only [Act.put, List.setIfInBounds_toArray, List.set_cons_zero, List.set_cons_succ, i64_w, i32_w]
    rfl
  refine pure_ (i := 12) (N := some 15) (v := ?_) (a' := ?_) Fb18 rfl rfl (by kernel_rfl) (fun _ _ _ h => h) (Or.inl ⟨by rfl, ?_⟩) ?_ ?_
  rotate_left
  · intro w'
    go_simp
    with_reducible rfl
  rotate_left
  · simp only [Act.put, List.setIfInBounds_toArray, List.set_cons_zero, List.set_cons_succ, i64_w, i32_w]
    rfl
  refine take_ (i := 10) (N := some 13) (v := ?_) (a' := ?_) Fb19 rfl rfl (by kernel_rfl) (fun _ _ _ h => h) (Or.inl ⟨by rfl, ?_⟩) hHeld ?_ ?_
  rotate_left
  · rintro w' ⟨s0, s1, s2, s3⟩
    go_simp
    with_reducible rfl
  rotate_left
  · simp only [Act.put, List.setIfInBounds_toArray, List.set_cons_zero, List.set_cons_succ, i64_w, i32_w]
    rfl
  refine take_ (i := 11) (N := some 14) (v := ?_) (a' := ?_) Fb13 rfl rfl (by kernel_rfl) (fun _ _ _ h => h) (Or.inl ⟨by rfl, ?_⟩) hHeld ?_ ?_
  rotate_left
  · rintro w' ⟨s0, s1, s2, s3⟩
    go_simp
    with_reducible rfl
  rotate_left
  · simp only [Act.put, List.setIfInBounds_toArray, List.set_cons_zero, List.set_cons_succ, i64_w, i32_w]
    rfl
  refine one_ (i := 13) (N := some 16) Fb14 rfl rfl (by kernel_rfl) (by decide) (fun K hK => ?_)
  refine goes_ Try.func69 (by kernel_rfl) rfl #[.pointer (some ⟨g, 0, none⟩), .func (.func 73) #[] #[.pointer (some ⟨gb, 0, none⟩)]] (by rfl) rfl rfl (by simp only [List.map_toArray, List.map_cons, List.map_nil]; rfl) ?_
  with_reducible refine (first_is _ (Sf.of (Sep.right S_w_2.out)) m (cell_low B_w_2.out hb0 HM.out) 73 _ enters73 (ups L (k + 1) (L.length - (k + 1))) (fun n_ hn_ => by rw [ups_len]; exact on_stops n_ hn_ _ _ (Sf.of (Sep.right S_w_2.out)) OK.out.short OK.out.len hk gb c_gb_0_w_2 (Below.refl _ _)) r HFD.out).mono ?_
  rintro e w_3 ⟨rfl, hb⟩
  refine ⟨_, rfl, ?_⟩
  have B_w_3 : Aside0 (Below (base) w w_3) := ⟨below_then B_w_2.out (Nat.le_trans (hbase) B_w_2.out.size) hb⟩
  have S_w_3 : Aside0 (Sep (base) (Stars (Blk gb #[.pointer (some ⟨g, 0, none⟩)] 56 :: Blk g #[.slice A0 L.length c0, .slice A1 Q.length c1, .int .i64 (k : Int)] 97 :: Row Kd.string 9 (.slice A0 L.length c0) (L) :: Row (Kd.int .i32) 21 (.slice A1 Q.length c1) (Q) :: l)) w_3) := ⟨Sep.below S_w_2.out hb⟩
  have Q_w_3 : Aside0 (Below w.heap.size w w_3) := ⟨below_step Q_w_2.out hb⟩
  have c_gb_0_w_3 := XW.cells1 (Sep.front [] (Blk g #[.slice A0 L.length c0, .slice A1 Q.length c1, .int .i64 (k : Int)] 97 :: Row Kd.string 9 (.slice A0 L.length c0) (L) :: Row (Kd.int .i32) 21 (.slice A1 Q.length c1) (Q) :: l) S_w_3.out).blk
  have z_gb_0_w_3 := XW.froz1 (Sep.front [] (Blk g #[.slice A0 L.length c0, .slice A1 Q.length c1, .int .i64 (k : Int)] 97 :: Row Kd.string 9 (.slice A0 L.length c0) (L) :: Row (Kd.int .i32) 21 (.slice A1 Q.length c1) (Q) :: l) S_w_3.out).blk
  obtain ⟨c_g_0_w_3, c_g_1_w_3, c_g_2_w_3⟩ := XW.cells3 (Sep.front [Blk gb #[.pointer (some ⟨g, 0, none⟩)] 56] (Row Kd.string 9 (.slice A0 L.length c0) (L) :: Row (Kd.int .i32) 21 (.slice A1 Q.length c1) (Q) :: l) S_w_3.out).blk
  obtain ⟨z_g_0_w_3, z_g_1_w_3, z_g_2_w_3⟩ := XW.froz3 (Sep.front [Blk gb #[.pointer (some ⟨g, 0, none⟩)] 56] (Row Kd.string 9 (.slice A0 L.length c0) (L) :: Row (Kd.int .i32) 21 (.slice A1 Q.length c1) (Q) :: l) S_w_3.out).blk
  clear S_w_2 c_gb_0_w_2 z_gb_0_w_2 c_g_0_w_2 c_g_1_w_2 c_g_2_w_2 z_g_0_w_2 z_g_1_w_2 z_g_2_w_2
  clear hb
  refine hK.out _ _ ⟨c_gb_0_w_3, c_g_0_w_3, c_g_1_w_3, c_g_2_w_3⟩ (fun hHeld => ?_)
  clear hK K
  refine norm_ (a' := ?_) ?_ ?_
  rotate_left
  · show Act.put _ (some 16) _ = _
    simp only [Act.put, List.setIfInBounds_toArray, List.set_cons_zero, List.set_cons_succ, i64_w, i32_w]
    rfl
  refine last_ (i := 14) (N := some 17) Fb15 rfl rfl (by kernel_rfl) (by decide) (fun K hK => ?_)
  refine goes_ Try.func72 (by kernel_rfl) rfl #[.pointer (some ⟨g, 0, none⟩), .int .i64 r] (by rfl) rfl rfl (by simp only [List.map_toArray, List.map_cons, List.map_nil]; rfl) ?_
  with_reducible refine (move_is _ (Sep.front [Blk gb #[.pointer (some ⟨g, 0, none⟩)] 56] (Row Kd.string 9 (.slice A0 L.length c0) (L) :: Row (Kd.int .i32) 21 (.slice A1 Q.length c1) (Q) :: l) S_w_3.out) (Nat.le_trans (hbase) B_w_3.out.size) r b HB.out p2 HP.out).mono ?_
  rintro e w_4 ⟨rfl, hS, hb⟩
  refine ⟨_, rfl, ?_⟩
  have B_w_4 : Aside0 (Below (base) w w_4) := ⟨(Below.trans B_w_3.out hb)⟩
  have S_w_4 : Aside0 (Sep (base) (Stars (Blk gb #[.pointer (some ⟨g, 0, none⟩)] 56 :: Blk g #[.slice A0 L.length c0, .slice A1 Q.length c1, .int .i64 p2] 97 :: Row Kd.string 9 (.slice A0 L.length c0) (L) :: Row (Kd.int .i32) 21 (.slice A1 Q.length c1) (Q) :: l)) w_4) := ⟨Sep.back [Blk gb #[.pointer (some ⟨g, 0, none⟩)] 56] (Row Kd.string 9 (.slice A0 L.length c0) (L) :: Row (Kd.int .i32) 21 (.slice A1 Q.length c1) (Q) :: l) hS⟩
  have c_gb_0_w_4 := XW.cells1 (Sep.front [] (Blk g #[.slice A0 L.length c0, .slice A1 Q.length c1, .int .i64 p2] 97 :: Row Kd.string 9 (.slice A0 L.length c0) (L) :: Row (Kd.int .i32) 21 (.slice A1 Q.length c1) (Q) :: l) S_w_4.out).blk
  have z_gb_0_w_4 := XW.froz1 (Sep.front [] (Blk g #[.slice A0 L.length c0, .slice A1 Q.length c1, .int .i64 p2] 97 :: Row Kd.string 9 (.slice A0 L.length c0) (L) :: Row (Kd.int .i32) 21 (.slice A1 Q.length c1) (Q) :: l) S_w_4.out).blk
  obtain ⟨c_g_0_w_4, c_g_1_w_4, c_g_2_w_4⟩ := XW.cells3 (Sep.front [Blk gb #[.pointer (some ⟨g, 0, none⟩)] 56] (Row Kd.string 9 (.slice A0 L.length c0) (L) :: Row (Kd.int .i32) 21 (.slice A1 Q.length c1) (Q) :: l) S_w_4.out).blk
  obtain ⟨z_g_0_w_4, z_g_1_w_4, z_g_2_w_4⟩ := XW.froz3 (Sep.front [Blk gb #[.pointer (some ⟨g, 0, none⟩)] 56] (Row Kd.string 9 (.slice A0 L.length c0) (L) :: Row (Kd.int .i32) 21 (.slice A1 Q.length c1) (Q) :: l) S_w_4.out).blk
  clear S_w_3 c_gb_0_w_3 z_gb_0_w_3 c_g_0_w_3 c_g_1_w_3 c_g_2_w_3 z_g_0_w_3 z_g_1_w_3 z_g_2_w_3
  clear hS hb
  refine hK.out _ _ ?_
  clear hK K
  refine norm_ (a' := ?_) ?_ ?_
  rotate_left
  · show Act.put _ (some 17) _ = _
    simp only [Act.put, List.setIfInBounds_toArray, List.set_cons_zero, List.set_cons_succ, i64_w, i32_w]
    rfl
  refine pure_ (i := 15) (N := some 18) (v := ?_) (a' := ?_) Fb16 rfl rfl (by kernel_rfl) (fun _ _ _ h => h) (Or.inl ⟨by rfl, ?_⟩) ?_ ?_
  rotate_left
  · intro w'
    go_simp
    with_reducible rfl
  rotate_left
  · simp only [Act.put, List.setIfInBounds_toArray, List.set_cons_zero, List.set_cons_succ, i64_w, i32_w]
    rfl
  refine pure_ (i := 16) (N := some 2) (v := ?_) (a' := ?_) Fb17 rfl rfl (by kernel_rfl) (fun _ _ _ h => h) (Or.inl ⟨by rfl, ?_⟩) ?_ ?_
  rotate_left
  · intro w'
    go_simp
    with_reducible rfl
  rotate_left
  · simp only [Act.put, List.setIfInBounds_toArray, List.set_cons_zero, List.set_cons_succ, i64_w, i32_w]
    rfl
  refine done_ (by kernel_rfl) ?_
  go_wp2
  go_ret
  exact ⟨rfl, SS.close (Sep.right S_w_4.out), B_w_4.out⟩
end Go.Proofs.Ythofobcbbddeeaa.SrchA
