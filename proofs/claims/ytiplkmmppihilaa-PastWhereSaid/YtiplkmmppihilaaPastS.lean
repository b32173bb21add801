/- The document's carets: Sites and Move, walked. Conditions: none beyond those that each theorem states. -/
import Derived.Test.YtiplkmmppihilaaPastQ
import Derived.Test.YtiplkmmppihilaaPastR
namespace Go.Proofs.Ytiplkmmppihilaa.PastA
open Go.RowKit Go.Proofs.YtiplkmmppihilaaW.PrintWords Go.Proofs.YtiplkmmppihilaaW.PrintLast Go.Proofs.YtiplkmmppihilaaW.PrintMore Go.Proofs.Ytiplkmmppihilaa.XS Go.Proofs.Ytiplkmmppihilaa.PPast
set_option linter.unusedVariables false
set_option linter.unusedSimpArgs false
abbrev Fs0 : Array Bool := #[false, false, false, false, false, false, false, false, false, false, false, false, false, false, false, false, false, false, false, false]
abbrev Fs1 : Array Bool := #[true, false, false, false, false, false, false, false, false, false, false, false, false, false, false, false, false, false, false, false]
abbrev Fs2 : Array Bool := #[true, true, false, false, false, false, false, false, false, false, false, false, false, false, false, false, false, false, false, false]
abbrev Fs3 : Array Bool := #[true, true, true, false, false, false, false, false, false, false, false, false, false, false, false, false, false, false, false, false]
abbrev Fs4 : Array Bool := #[true, true, true, true, false, false, false, false, false, false, false, false, false, false, false, false, false, false, false, false]
abbrev Fs5 : Array Bool := #[true, true, true, true, true, false, false, false, false, false, false, false, false, false, false, false, false, false, false, false]
abbrev Fs6 : Array Bool := #[true, true, true, true, true, true, false, false, false, false, false, false, false, false, false, false, false, false, false, false]
abbrev Fs7 : Array Bool := #[true, true, true, true, true, true, true, false, false, false, false, false, false, false, false, false, false, false, false, false]
abbrev Fs8 : Array Bool := #[true, true, true, true, true, true, true, true, false, false, false, false, false, false, false, false, false, false, false, false]
abbrev Fs9 : Array Bool := #[true, true, true, true, true, true, true, true, true, false, false, false, false, false, false, false, false, false, false, false]
abbrev Fs10 : Array Bool := #[true, true, true, true, true, true, true, true, true, true, false, false, false, false, false, false, false, false, false, false]
abbrev Fs11 : Array Bool := #[true, true, true, true, true, true, true, true, true, true, true, false, false, false, false, false, false, false, false, false]
abbrev Fs12 : Array Bool := #[true, true, true, true, true, true, true, true, true, true, true, true, false, false, false, false, false, false, false, false]
abbrev Fs13 : Array Bool := #[true, true, true, true, true, true, true, true, true, true, true, true, true, false, false, false, false, false, false, false]
abbrev Fs14 : Array Bool := #[true, true, true, true, true, true, true, true, true, true, true, true, true, true, false, false, false, false, false, false]
abbrev Fs15 : Array Bool := #[true, true, true, true, true, true, true, true, true, true, true, true, true, true, true, false, false, false, false, false]
abbrev Fs16 : Array Bool := #[true, true, true, true, true, true, true, true, true, true, true, true, true, true, true, true, false, false, false, false]
abbrev Fs17 : Array Bool := #[true, true, true, true, true, true, true, true, true, true, true, true, true, true, true, true, true, false, false, false]
abbrev Fs18 : Array Bool := #[true, true, true, true, true, true, true, true, true, true, true, true, true, true, true, true, true, true, false, false]
abbrev Fs19 : Array Bool := #[true, true, true, true, true, true, true, true, true, true, true, true, true, true, true, true, true, true, true, false]
abbrev Fs20 : Array Bool := #[true, true, true, true, true, true, true, true, true, true, true, true, true, true, true, true, true, true, true, true]
abbrev Fs21 : Array Bool := #[true, true, true, true, true, false, false, true, false, false, false, false, false, false, false, false, false, false, false, false]
abbrev Fs22 : Array Bool := #[true, true, true, true, true, false, false, true, true, false, false, false, false, false, false, false, false, false, false, false]
abbrev Fs23 : Array Bool := #[true, true, true, true, true, false, false, true, true, true, false, false, false, false, false, false, false, false, false, false]
abbrev Fs24 : Array Bool := #[true, true, true, true, true, true, false, true, true, true, false, false, false, false, false, false, false, false, false, false]
abbrev Fs25 : Array Bool := #[false, false, false, false, false, false, false, false, false, false, false, false]
abbrev Fs26 : Array Bool := #[true, false, false, false, false, false, false, false, false, false, false, false]
abbrev Fs27 : Array Bool := #[true, false, true, false, false, false, false, false, false, false, false, false]
abbrev Fs28 : Array Bool := #[true, false, true, true, false, false, false, false, false, false, false, false]
abbrev Fs29 : Array Bool := #[true, false, true, true, true, false, false, false, false, false, false, false]
abbrev Fs30 : Array Bool := #[true, false, true, true, true, false, true, false, false, false, false, false]
abbrev Fs31 : Array Bool := #[true, true, true, true, true, false, true, false, false, false, false, false]
abbrev Fs32 : Array Bool := #[true, true, true, true, true, true, true, false, false, false, false, false]
abbrev Fs33 : Array Bool := #[true, true, true, true, true, true, true, true, false, false, false, false]
abbrev Fs34 : Array Bool := #[true, true, true, true, true, true, true, true, true, false, false, false]
abbrev Fs35 : Array Bool := #[true, true, true, true, true, true, true, true, true, true, false, false]
abbrev Fs36 : Array Bool := #[true, true, true, true, true, true, true, true, true, true, true, false]
abbrev Fs37 : Array Bool := #[true, true, true, true, true, true, true, true, true, true, true, true]
abbrev Fs38 : Array Bool := #[false, false, false, false, false, false, false, false, false, false, false, false, false, false, false, false, false]
abbrev Fs39 : Array Bool := #[true, false, false, false, false, false, false, false, false, false, false, false, false, false, false, false, false]
abbrev Fs40 : Array Bool := #[true, true, false, false, false, false, false, false, false, false, false, false, false, false, false, false, false]
abbrev Fs41 : Array Bool := #[true, true, true, false, false, false, false, false, false, false, false, false, false, false, false, false, false]
abbrev Fs42 : Array Bool := #[true, true, true, false, true, false, false, false, false, false, false, false, false, false, false, false, false]
abbrev Fs43 : Array Bool := #[true, true, true, false, true, false, true, false, false, false, false, false, false, false, false, false, false]
abbrev Fs44 : Array Bool := #[true, true, true, false, true, false, true, false, true, false, false, false, false, false, false, false, false]
abbrev Fs45 : Array Bool := #[true, true, true, false, true, false, true, false, true, true, false, false, false, false, false, false, false]
abbrev Fs46 : Array Bool := #[true, true, true, false, true, false, true, false, true, true, false, true, false, false, false, false, false]
abbrev Fs47 : Array Bool := #[true, true, true, false, true, false, true, false, true, true, false, true, true, false, false, false, false]
abbrev Fs48 : Array Bool := #[true, true, true, true, true, false, true, false, true, true, false, true, true, false, false, false, false]
abbrev Fs49 : Array Bool := #[true, true, true, true, true, true, true, false, true, true, false, true, true, false, false, false, false]
abbrev Fs50 : Array Bool := #[true, true, true, true, true, true, true, true, true, true, false, true, true, false, false, false, false]
abbrev Fs51 : Array Bool := #[true, true, true, true, true, true, true, true, true, true, true, true, true, false, false, false, false]
abbrev Fs52 : Array Bool := #[true, true, true, true, true, true, true, true, true, true, true, true, true, true, false, false, false]
abbrev Fs53 : Array Bool := #[true, true, true, true, true, true, true, true, true, true, true, true, true, true, true, false, false]
abbrev Fs54 : Array Bool := #[true, true, true, true, true, true, true, true, true, true, true, true, true, true, true, true, false]
abbrev Fs55 : Array Bool := #[true, true, true, true, true, true, true, true, true, true, true, true, true, true, true, true, true]
set_option maxHeartbeats 8000000 in
set_option maxRecDepth 100000 in
theorem rwhere_sites {base g : Nat} {n : Int} {D : Int → Nat → Int} {F : Assn} (w : World) (e : Int) (hn : n ≤ 16) (hn0 : 0 ≤ n) (h : Sep base (Star (RA g n D) F) w) (p : Nat → Bool) (hp : ∀ i : Nat, (atV n D (i : Int) e).2.2 = p i) (xs : List Int) (hx : sitesL p n.toNat = xs) :
    Calls Try.prog 34 #[.pointer (some ⟨g, 0, none⟩), .int .i64 e] w fun en w' => ∃ A c, en = .returned (.slice A xs.length c) ∧ xs.length ≤ c ∧ (Kd.int .i64).C w' A xs.length xs ∧ Below w.heap.size w w' := by
  obtain ⟨nn, rfl⟩ := Int.eq_ofNat_of_zero_le hn0
  rw [Int.toNat_natCast] at hx
  have hHX := Aside0.mk hx
  clear hx
  have H := Aside0.mk h
  obtain ⟨b, h⟩ := RA.open h
  have c0 := XW.cells1 h.blk
  rw [Int.toNat_natCast] at c0
  clear h
  have HP := Aside0.mk hp
  clear hp
  have hu52 := Try.underlying52
  have hu57 := Try.underlying57
  go_enter Try.func34, Try.ntmps34
  go_wp2
  go_loopw [5, 6] (fun v5 i wr => ∃ k : Nat, k ≤ nn ∧ i = .int .i64 k ∧ Aside0 (Sep w.heap.size (Stars [Row (Kd.int .i64) 3 v5 (sitesL p k)]) wr) ∧ Aside0 (Below w.heap.size w wr)) (fun _ i _ => nn - (intOf i).toNat)
  case atStart => exact ⟨0, by omega, rfl, ⟨Sep.nil_row _ _ (Sep.emp _ _)⟩, ⟨Below.refl _ _⟩⟩
  case round =>
    obtain ⟨k, hk, rfl, S_wr, B_wr⟩ := hrel
    have c0_wr := pw_cell_below B_wr.out c0
    by_cases hlt : k < nn
    · have hlt2 : (k : Int) < (nn : Int) := by omega
      have HL := Aside0.mk (sitesL_le p k)
      obtain ⟨r0, r1, hat⟩ : ∃ r0 r1, atV (nn : Int) D (k : Int) e = (r0, r1, p k) := ⟨_, _, by rw [← HP.out k]⟩
      have HA := Aside0.mk hat
      clear hat
      cases hpk : p k with
      | true =>
        have HA2 : Aside0 (atV (nn : Int) D (k : Int) e = (r0, r1, true)) := ⟨by rw [HA.out, hpk]⟩
        have HK : Aside0 (sitesL p (k + 1) = sitesL p k ++ [(k : Int)]) := ⟨by rw [sitesL, hpk]; rfl⟩
        clear HA hpk
        go_wp2_with (first | (go_at_call 31; (with_reducible refine (rwhere_at _ _ _ hn hn0 (H.out.below B_wr.out) (r0, r1, true) HA2.out).mono ?_); rintro e wr_1 ⟨rfl, hb⟩; have B_wr_1 : Aside0 (Below (w.heap.size) w wr_1) := ⟨below_then B_wr.out B_wr.out.size hb⟩; have S_wr_1 : Aside0 (Sep (w.heap.size) (Stars [Row (Kd.int .i64) 3 (u5) (sitesL p k)]) wr_1) := ⟨Sep.below S_wr.out hb⟩; have c0_wr_1 := pw_cell_below B_wr_1.out c0; clear S_wr c0_wr; clear hb) | ((with_reducible refine gate_dst (N := 7) rfl ?_); (try (refine gate_guard (by rfl) ?_; dsimp only)); refine box_event ?hg (N := 7) ?hd (cs := #[.int .i64 0, .int .i64 0]) (t := 52) ?hr ?_; (case hd => rfl); (case hg => rfl); (case hr => first | (go_simp; done) | (go_simp; rfl)); intro gx hg_gx wr_2 hX hb; have B_wr_2 : Aside0 (Below (w.heap.size) w wr_2) := ⟨below_then B_wr_1.out B_wr_1.out.size hb⟩; have S_wr_2 : Aside0 (Sep (w.heap.size) (Stars [Blk gx #[.int .i64 0, .int .i64 0] 52, Row (Kd.int .i64) 3 (u5) (sitesL p k)]) wr_2) := ⟨Sep.new_blk S_wr_1.out B_wr_1.out.size hg_gx hb hX⟩; have c0_wr_2 := pw_cell_below B_wr_2.out c0; obtain ⟨c_gx_0_wr_2, c_gx_1_wr_2⟩ := XW.cells2 (Sep.front [] [Row (Kd.int .i64) 3 (u5) (sitesL p k)] S_wr_2.out).blk; obtain ⟨z_gx_0_wr_2, z_gx_1_wr_2⟩ := XW.froz2 (Sep.front [] [Row (Kd.int .i64) 3 (u5) (sitesL p k)] S_wr_2.out).blk; clear S_wr_1 c0_wr_1; clear hX hb hg_gx) | ((with_reducible refine gate_store (t := 52) (p := 7) rfl ?_); go_must (refine store_event (t := 52) (p := 7) (v := ?vo_1) (w1 := ((wr_2.setCell ⟨gx, 0, none⟩ (.int .i64 r0)).setCell ⟨gx, 1, none⟩ (.int .i64 r1))) ?hg ?ho ?hn ?hr ?_; (case ho => rfl); (case hg => rfl); (case hn => rfl); (case hr => first | (go_simp; done) | (go_simp; rfl)); intro wr_3 hw; have B_wr_3 : Aside0 (Below (w.heap.size) w wr_3) := ⟨by rw [hw]; exact (Below.setCell (Below.setCell B_wr_2.out ((Sep.front [] [Row (Kd.int .i64) 3 (u5) (sitesL p k)] S_wr_2.out).blk_le) _) ((Sep.front [] [Row (Kd.int .i64) 3 (u5) (sitesL p k)] S_wr_2.out).blk_le) _)⟩; have S_wr_3 : Aside0 (Sep (w.heap.size) (Stars [Blk gx #[.int .i64 r0, .int .i64 r1] 52, Row (Kd.int .i64) 3 (u5) (sitesL p k)]) wr_3) := ⟨by rw [hw]; exact Sep.back [] [Row (Kd.int .i64) 3 (u5) (sitesL p k)] (Sep.store (Sep.store (Sep.front [] [Row (Kd.int .i64) 3 (u5) (sitesL p k)] S_wr_2.out) B_wr_2.out.size 0 (.int .i64 r0) (cs' := #[.int .i64 r0, .int .i64 0]) rfl) (Sep.size_store B_wr_2.out.size) 1 (.int .i64 r1) (cs' := #[.int .i64 r0, .int .i64 r1]) rfl)⟩; have c0_wr_3 := pw_cell_below B_wr_3.out c0; obtain ⟨c_gx_0_wr_3, c_gx_1_wr_3⟩ := XW.cells2 (Sep.front [] [Row (Kd.int .i64) 3 (u5) (sitesL p k)] S_wr_3.out).blk; obtain ⟨z_gx_0_wr_3, z_gx_1_wr_3⟩ := XW.froz2 (Sep.front [] [Row (Kd.int .i64) 3 (u5) (sitesL p k)] S_wr_3.out).blk; clear S_wr_2 c0_wr_2 c_gx_0_wr_2 c_gx_1_wr_2 z_gx_0_wr_2 z_gx_1_wr_2; clear hw)) | ((with_reducible refine gate_builtin (b := .append) (xs := #[.tmp 26, .tmp 28]) rfl ?_); at_builtin; go_must (refine sep_append (enc := Value.int .i64) (h1 := fun _ => rfl) (w.heap.size) rfl (.tmp 26) (.tmp 28) 50 3 (.int .i64 0) 8 rfl Try.underlying50 info3 rfl (by decide) _ (sitesL p k) ((k : Int)) rfl rfl (Sep.front [Blk gx #[.int .i64 r0, .int .i64 r1] 52] [] S_wr_3.out) B_wr_3.out.size ?al ?_); (case al => have := HL.out; omega); intro v6 wr_4 hS hb; have B_wr_4 : Aside0 (Below (w.heap.size) w wr_4) := ⟨(Below.trans B_wr_3.out hb)⟩; have S_wr_4 : Aside0 (Sep (w.heap.size) (Stars [Blk gx #[.int .i64 r0, .int .i64 r1] 52, Row (Kd.int .i64) 3 (v6) (sitesL p k ++ [(k : Int)])]) wr_4) := ⟨Sep.back [Blk gx #[.int .i64 r0, .int .i64 r1] 52] [] hS⟩; have c0_wr_4 := pw_cell_below B_wr_4.out c0; obtain ⟨c_gx_0_wr_4, c_gx_1_wr_4⟩ := XW.cells2 (Sep.front [] [Row (Kd.int .i64) 3 (v6) (sitesL p k ++ [(k : Int)])] S_wr_4.out).blk; obtain ⟨z_gx_0_wr_4, z_gx_1_wr_4⟩ := XW.froz2 (Sep.front [] [Row (Kd.int .i64) 3 (v6) (sitesL p k ++ [(k : Int)])] S_wr_4.out).blk; clear S_wr_3 c0_wr_3 c_gx_0_wr_3 c_gx_1_wr_3 z_gx_0_wr_3 z_gx_1_wr_3; clear hS hb))
        go_roundw
        case rel => exact ⟨k + 1, by omega, by go_num, ⟨by rw [HK.out]; exact Sep.right S_wr_4.out⟩, B_wr_4⟩
        case measure => simp [intOf]; omega
      | false =>
        have HA2 : Aside0 (atV (nn : Int) D (k : Int) e = (r0, r1, false)) := ⟨by rw [HA.out, hpk]⟩
        have HK : Aside0 (sitesL p (k + 1) = sitesL p k) := ⟨by rw [sitesL, hpk]; rfl⟩
        clear HA hpk
        go_wp2_with (first | (go_at_call 31; (with_reducible refine (rwhere_at _ _ _ hn hn0 (H.out.below B_wr.out) (r0, r1, false) HA2.out).mono ?_); rintro e wr_1 ⟨rfl, hb⟩; have B_wr_1 : Aside0 (Below (w.heap.size) w wr_1) := ⟨below_then B_wr.out B_wr.out.size hb⟩; have S_wr_1 : Aside0 (Sep (w.heap.size) (Stars [Row (Kd.int .i64) 3 (u5) (sitesL p k)]) wr_1) := ⟨Sep.below S_wr.out hb⟩; have c0_wr_1 := pw_cell_below B_wr_1.out c0; clear S_wr c0_wr; clear hb) | ((with_reducible refine gate_dst (N := 7) rfl ?_); (try (refine gate_guard (by rfl) ?_; dsimp only)); refine box_event ?hg (N := 7) ?hd (cs := #[.int .i64 0, .int .i64 0]) (t := 52) ?hr ?_; (case hd => rfl); (case hg => rfl); (case hr => first | (go_simp; done) | (go_simp; rfl)); intro gx hg_gx wr_2 hX hb; have B_wr_2 : Aside0 (Below (w.heap.size) w wr_2) := ⟨below_then B_wr_1.out B_wr_1.out.size hb⟩; have S_wr_2 : Aside0 (Sep (w.heap.size) (Stars [Blk gx #[.int .i64 0, .int .i64 0] 52, Row (Kd.int .i64) 3 (u5) (sitesL p k)]) wr_2) := ⟨Sep.new_blk S_wr_1.out B_wr_1.out.size hg_gx hb hX⟩; have c0_wr_2 := pw_cell_below B_wr_2.out c0; obtain ⟨c_gx_0_wr_2, c_gx_1_wr_2⟩ := XW.cells2 (Sep.front [] [Row (Kd.int .i64) 3 (u5) (sitesL p k)] S_wr_2.out).blk; obtain ⟨z_gx_0_wr_2, z_gx_1_wr_2⟩ := XW.froz2 (Sep.front [] [Row (Kd.int .i64) 3 (u5) (sitesL p k)] S_wr_2.out).blk; clear S_wr_1 c0_wr_1; clear hX hb hg_gx) | ((with_reducible refine gate_store (t := 52) (p := 7) rfl ?_); go_must (refine store_event (t := 52) (p := 7) (v := ?vo_2) (w1 := ((wr_2.setCell ⟨gx, 0, none⟩ (.int .i64 r0)).setCell ⟨gx, 1, none⟩ (.int .i64 r1))) ?hg ?ho ?hn ?hr ?_; (case ho => rfl); (case hg => rfl); (case hn => rfl); (case hr => first | (go_simp; done) | (go_simp; rfl)); intro wr_3 hw; have B_wr_3 : Aside0 (Below (w.heap.size) w wr_3) := ⟨by rw [hw]; exact (Below.setCell (Below.setCell B_wr_2.out ((Sep.front [] [Row (Kd.int .i64) 3 (u5) (sitesL p k)] S_wr_2.out).blk_le) _) ((Sep.front [] [Row (Kd.int .i64) 3 (u5) (sitesL p k)] S_wr_2.out).blk_le) _)⟩; have S_wr_3 : Aside0 (Sep (w.heap.size) (Stars [Blk gx #[.int .i64 r0, .int .i64 r1] 52, Row (Kd.int .i64) 3 (u5) (sitesL p k)]) wr_3) := ⟨by rw [hw]; exact Sep.back [] [Row (Kd.int .i64) 3 (u5) (sitesL p k)] (Sep.store (Sep.store (Sep.front [] [Row (Kd.int .i64) 3 (u5) (sitesL p k)] S_wr_2.out) B_wr_2.out.size 0 (.int .i64 r0) (cs' := #[.int .i64 r0, .int .i64 0]) rfl) (Sep.size_store B_wr_2.out.size) 1 (.int .i64 r1) (cs' := #[.int .i64 r0, .int .i64 r1]) rfl)⟩; have c0_wr_3 := pw_cell_below B_wr_3.out c0; obtain ⟨c_gx_0_wr_3, c_gx_1_wr_3⟩ := XW.cells2 (Sep.front [] [Row (Kd.int .i64) 3 (u5) (sitesL p k)] S_wr_3.out).blk; obtain ⟨z_gx_0_wr_3, z_gx_1_wr_3⟩ := XW.froz2 (Sep.front [] [Row (Kd.int .i64) 3 (u5) (sitesL p k)] S_wr_3.out).blk; clear S_wr_2 c0_wr_2 c_gx_0_wr_2 c_gx_1_wr_2 z_gx_0_wr_2 z_gx_1_wr_2; clear hw)))
        go_roundw
        case rel => exact ⟨k + 1, by omega, by go_num, ⟨by rw [HK.out]; exact Sep.right S_wr_3.out⟩, B_wr_3⟩
        case measure => simp [intOf]; omega
    · obtain rfl : k = nn := by omega
      have hlt2 : ¬ (k : Int) < (k : Int) := by omega
      go_wp2
      have hS := Sep.left S_wr.out
      obtain ⟨A, c, hv, hle, hC⟩ := Sep.row1 hS
      subst hv
      go_ret
      rw [hHX.out] at hle hC ⊢
      exact ⟨A, c, rfl, hle, hC, B_wr.out⟩
set_option maxHeartbeats 8000000 in
set_option maxRecDepth 100000 in
theorem rmove_a {base g : Nat} {n : Int} {D : Int → Nat → Int} {L : List Assn} (w : World) (h : Sep base (Star (RA g n D) (Stars L)) w) (hbase : base ≤ w.heap.size) (hn : n ≤ 16) (hn0 : 0 ≤ n)
    (s q : Int) (A : Option Addr) (c : Nat) (l : List Int) (kd ep it is rt rs ru : Int) (hC : (Kd.int .i64).C w A l.length l) (hc : l.length ≤ c) (r : Int) (hk : mesg_Check.f s q l kd ep it is rt rs ru = some r) (hr : r ≠ 0) :
    Calls Try.prog 29 #[.pointer (some ⟨g, 0, none⟩), .agg #[.int .i64 s, .int .i64 q, .slice A l.length c, .int .i64 kd, .int .i64 ep, .int .i64 it, .int .i64 is, .int .i64 rt, .int .i64 rs, .int .i64 ru]] w fun en w' => en = .returned (.int .i64 1) ∧ Sep base (Star (RA g n D) (Stars L)) w' ∧ Below base w w' := by
  obtain ⟨nn, rfl⟩ := Int.eq_ofNat_of_zero_le hn0
  obtain ⟨b, h⟩ := RA.open h
  have c0 := XW.cells1 h.blk
  rw [Int.toNat_natCast] at c0 h
  have hcs := fun i => RB.cells h.swap i
  have hu52 := Try.underlying52
  have hu54 := Try.underlying54
  have hu56 := Try.underlying56
  have hu98 := Try.underlying98
  have B_w := Aside0.mk (Below.refl base w)
  have S_w : Aside0 (Sep base (Stars (Blk g #[.slice (some ⟨b, 0, none⟩) nn nn] 96 :: RB b (nn : Int) D :: L)) w) := ⟨h⟩
  have HB := Aside0.mk hbase
  have HC := Aside0.mk hC
  have HK := Aside0.mk hk
  clear h hbase hC hk
  have br : (r != 0) = true := bne_iff_ne.mpr hr
  clear hr hcs
  have c_g_0_w := XW.cells1 (Sep.front [] (RB b (nn : Int) D :: L) S_w.out).blk
  have z_g_0_w := XW.froz1 (Sep.front [] (RB b (nn : Int) D :: L) S_w.out).blk
  go_enter Try.func29, Try.ntmps29
  go_upto_region 1 with (first | ((with_reducible refine gate_dst (N := 3) rfl ?_); (try (refine gate_guard (by rfl) ?_; dsimp only)); refine box_event ?hg (N := 3) ?hd (cs := #[.int .i64 s, .int .i64 q, .slice A l.length c, .int .i64 kd, .int .i64 ep, .int .i64 it, .int .i64 is, .int .i64 rt, .int .i64 rs, .int .i64 ru]) (t := 56) ?hr ?_; (case hd => rfl); (case hg => rfl); (case hr => first | (go_simp; done) | (go_simp; rfl)); intro gm hg_gm w_1 hX hb; have B_w_1 : Aside0 (Below (base) w w_1) := ⟨below_then B_w.out (Nat.le_trans (HB.out) B_w.out.size) hb⟩; have S_w_1 : Aside0 (Sep (base) (Stars (Blk gm #[.int .i64 s, .int .i64 q, .slice A l.length c, .int .i64 kd, .int .i64 ep, .int .i64 it, .int .i64 is, .int .i64 rt, .int .i64 rs, .int .i64 ru] 56 :: Blk g #[.slice (some ⟨b, 0, none⟩) nn nn] 96 :: RB b (nn : Int) D :: L)) w_1) := ⟨Sep.new_blk S_w.out (Nat.le_trans (HB.out) B_w.out.size) hg_gm hb hX⟩; have Q_w_1 : Aside0 (Below w.heap.size w w_1) := ⟨hb⟩; obtain ⟨c_gm_0_w_1, c_gm_1_w_1, c_gm_2_w_1, c_gm_3_w_1, c_gm_4_w_1, c_gm_5_w_1, c_gm_6_w_1, c_gm_7_w_1, c_gm_8_w_1, c_gm_9_w_1⟩ := XW.cells10 (Sep.front [] (Blk g #[.slice (some ⟨b, 0, none⟩) nn nn] 96 :: RB b (nn : Int) D :: L) S_w_1.out).blk; obtain ⟨z_gm_0_w_1, z_gm_1_w_1, z_gm_2_w_1, z_gm_3_w_1, z_gm_4_w_1, z_gm_5_w_1, z_gm_6_w_1, z_gm_7_w_1, z_gm_8_w_1, z_gm_9_w_1⟩ := XW.froz10 (Sep.front [] (Blk g #[.slice (some ⟨b, 0, none⟩) nn nn] 96 :: RB b (nn : Int) D :: L) S_w_1.out).blk; have c_g_0_w_1 := XW.cells1 (Sep.front [Blk gm #[.int .i64 s, .int .i64 q, .slice A l.length c, .int .i64 kd, .int .i64 ep, .int .i64 it, .int .i64 is, .int .i64 rt, .int .i64 rs, .int .i64 ru] 56] (RB b (nn : Int) D :: L) S_w_1.out).blk; have z_g_0_w_1 := XW.froz1 (Sep.front [Blk gm #[.int .i64 s, .int .i64 q, .slice A l.length c, .int .i64 kd, .int .i64 ep, .int .i64 it, .int .i64 is, .int .i64 rt, .int .i64 rs, .int .i64 ru] 56] (RB b (nn : Int) D :: L) S_w_1.out).blk; clear S_w c_g_0_w z_g_0_w; clear hX hb hg_gm))
  refine start_ (n := 20) (S := fun w' => w'.cell? ⟨gm, 0, none⟩ = some (.int .i64 s) ∧ w'.cell? ⟨gm, 1, none⟩ = some (.int .i64 q) ∧ w'.cell? ⟨gm, 2, none⟩ = some (.slice A l.length c) ∧ w'.cell? ⟨gm, 3, none⟩ = some (.int .i64 kd) ∧ w'.cell? ⟨gm, 4, none⟩ = some (.int .i64 ep) ∧ w'.cell? ⟨gm, 5, none⟩ = some (.int .i64 it) ∧ w'.cell? ⟨gm, 6, none⟩ = some (.int .i64 is) ∧ w'.cell? ⟨gm, 7, none⟩ = some (.int .i64 rt) ∧ w'.cell? ⟨gm, 8, none⟩ = some (.int .i64 rs) ∧ w'.cell? ⟨gm, 9, none⟩ = some (.int .i64 ru) ∧ w'.cell? ⟨g, 0, none⟩ = some (.slice (some ⟨b, 0, none⟩) nn nn)) (ds := []) Fs0 (by kernel_rfl) rfl rfl ⟨c_gm_0_w_1, c_gm_1_w_1, c_gm_2_w_1, c_gm_3_w_1, c_gm_4_w_1, c_gm_5_w_1, c_gm_6_w_1, c_gm_7_w_1, c_gm_8_w_1, c_gm_9_w_1, c_g_0_w_1⟩ (fun hHeld => ?_)
  generalize hdw : w_1.drew = w_2 at hHeld ⊢
  have HB_w_2 : Aside0 (Below w_1.heap.size w_1 w_2) := ⟨by rw [← hdw]; exact below_drew1 (Below.refl _ _)⟩
  clear hdw
  have B_w_2 : Aside0 (Below (base) w w_2) := ⟨below_then B_w_1.out (Nat.le_trans (HB.out) B_w_1.out.size) HB_w_2.out⟩
  have S_w_2 : Aside0 (Sep (base) (Stars (Blk gm #[.int .i64 s, .int .i64 q, .slice A l.length c, .int .i64 kd, .int .i64 ep, .int .i64 it, .int .i64 is, .int .i64 rt, .int .i64 rs, .int .i64 ru] 56 :: Blk g #[.slice (some ⟨b, 0, none⟩) nn nn] 96 :: RB b (nn : Int) D :: L)) w_2) := ⟨Sep.below S_w_1.out HB_w_2.out⟩
  have Q_w_2 : Aside0 (Below w.heap.size w w_2) := ⟨below_step Q_w_1.out HB_w_2.out⟩
  obtain ⟨c_gm_0_w_2, c_gm_1_w_2, c_gm_2_w_2, c_gm_3_w_2, c_gm_4_w_2, c_gm_5_w_2, c_gm_6_w_2, c_gm_7_w_2, c_gm_8_w_2, c_gm_9_w_2⟩ := XW.cells10 (Sep.front [] (Blk g #[.slice (some ⟨b, 0, none⟩) nn nn] 96 :: RB b (nn : Int) D :: L) S_w_2.out).blk
  obtain ⟨z_gm_0_w_2, z_gm_1_w_2, z_gm_2_w_2, z_gm_3_w_2, z_gm_4_w_2, z_gm_5_w_2, z_gm_6_w_2, z_gm_7_w_2, z_gm_8_w_2, z_gm_9_w_2⟩ := XW.froz10 (Sep.front [] (Blk g #[.slice (some ⟨b, 0, none⟩) nn nn] 96 :: RB b (nn : Int) D :: L) S_w_2.out).blk
  have c_g_0_w_2 := XW.cells1 (Sep.front [Blk gm #[.int .i64 s, .int .i64 q, .slice A l.length c, .int .i64 kd, .int .i64 ep, .int .i64 it, .int .i64 is, .int .i64 rt, .int .i64 rs, .int .i64 ru] 56] (RB b (nn : Int) D :: L) S_w_2.out).blk
  have z_g_0_w_2 := XW.froz1 (Sep.front [Blk gm #[.int .i64 s, .int .i64 q, .slice A l.length c, .int .i64 kd, .int .i64 ep, .int .i64 it, .int .i64 is, .int .i64 rt, .int .i64 rs, .int .i64 ru] 56] (RB b (nn : Int) D :: L) S_w_2.out).blk
  clear S_w_1 c_gm_0_w_1 c_gm_1_w_1 c_gm_2_w_1 c_gm_3_w_1 c_gm_4_w_1 c_gm_5_w_1 c_gm_6_w_1 c_gm_7_w_1 c_gm_8_w_1 c_gm_9_w_1 z_gm_0_w_1 z_gm_1_w_1 z_gm_2_w_1 z_gm_3_w_1 z_gm_4_w_1 z_gm_5_w_1 z_gm_6_w_1 z_gm_7_w_1 z_gm_8_w_1 z_gm_9_w_1 c_g_0_w_1 z_g_0_w_1
  refine take_ (i := 0) (N := some 5) (v := ?_) (a' := ?_) Fs1 rfl rfl (by kernel_rfl) (fun _ _ _ h => h) (Or.inl ⟨by rfl, ?_⟩) hHeld ?_ ?_
  rotate_left
  · rintro w' ⟨s0, s1, s2, s3, s4, s5, s6, s7, s8, s9, s10⟩
    go_simp
    with_reducible rfl
  rotate_left
  · simp only [Act.put, List.setIfInBounds_toArray, List.set_cons_zero, List.set_cons_succ, i64_w, i32_w]
    rfl
  refine one_ (i := 1) (N := some 6) Fs2 rfl rfl (by kernel_rfl) (by decide) (fun K hK => ?_)
  refine goes_ Try.func54 (by kernel_rfl) rfl #[.agg #[.int .i64 s, .int .i64 q, .slice A l.length c, .int .i64 kd, .int .i64 ep, .int .i64 it, .int .i64 is, .int .i64 rt, .int .i64 rs, .int .i64 ru]] (by rfl) rfl rfl (by simp only [List.map_toArray, List.map_cons, List.map_nil]; rfl) ?_
  with_reducible refine (ref_check s q A c l kd ep it is rt rs ru _ (Kd.C_below HC.out Q_w_2.out) hc r HK.out).mono ?_
  rintro e w_3 ⟨rfl, hb⟩
  refine ⟨_, rfl, ?_⟩
  have B_w_3 : Aside0 (Below (base) w w_3) := ⟨below_then B_w_2.out (Nat.le_trans (HB.out) B_w_2.out.size) hb⟩
  have S_w_3 : Aside0 (Sep (base) (Stars (Blk gm #[.int .i64 s, .int .i64 q, .slice A l.length c, .int .i64 kd, .int .i64 ep, .int .i64 it, .int .i64 is, .int .i64 rt, .int .i64 rs, .int .i64 ru] 56 :: Blk g #[.slice (some ⟨b, 0, none⟩) nn nn] 96 :: RB b (nn : Int) D :: L)) w_3) := ⟨Sep.below S_w_2.out hb⟩
  have Q_w_3 : Aside0 (Below w.heap.size w w_3) := ⟨below_step Q_w_2.out hb⟩
  obtain ⟨c_gm_0_w_3, c_gm_1_w_3, c_gm_2_w_3, c_gm_3_w_3, c_gm_4_w_3, c_gm_5_w_3, c_gm_6_w_3, c_gm_7_w_3, c_gm_8_w_3, c_gm_9_w_3⟩ := XW.cells10 (Sep.front [] (Blk g #[.slice (some ⟨b, 0, none⟩) nn nn] 96 :: RB b (nn : Int) D :: L) S_w_3.out).blk
  obtain ⟨z_gm_0_w_3, z_gm_1_w_3, z_gm_2_w_3, z_gm_3_w_3, z_gm_4_w_3, z_gm_5_w_3, z_gm_6_w_3, z_gm_7_w_3, z_gm_8_w_3, z_gm_9_w_3⟩ := XW.froz10 (Sep.front [] (Blk g #[.slice (some ⟨b, 0, none⟩) nn nn] 96 :: RB b (nn : Int) D :: L) S_w_3.out).blk
  have c_g_0_w_3 := XW.cells1 (Sep.front [Blk gm #[.int .i64 s, .int .i64 q, .slice A l.length c, .int .i64 kd, .int .i64 ep, .int .i64 it, .int .i64 is, .int .i64 rt, .int .i64 rs, .int .i64 ru] 56] (RB b (nn : Int) D :: L) S_w_3.out).blk
  have z_g_0_w_3 := XW.froz1 (Sep.front [Blk gm #[.int .i64 s, .int .i64 q, .slice A l.length c, .int .i64 kd, .int .i64 ep, .int .i64 it, .int .i64 is, .int .i64 rt, .int .i64 rs, .int .i64 ru] 56] (RB b (nn : Int) D :: L) S_w_3.out).blk
  clear S_w_2 c_gm_0_w_2 c_gm_1_w_2 c_gm_2_w_2 c_gm_3_w_2 c_gm_4_w_2 c_gm_5_w_2 c_gm_6_w_2 c_gm_7_w_2 c_gm_8_w_2 c_gm_9_w_2 z_gm_0_w_2 z_gm_1_w_2 z_gm_2_w_2 z_gm_3_w_2 z_gm_4_w_2 z_gm_5_w_2 z_gm_6_w_2 z_gm_7_w_2 z_gm_8_w_2 z_gm_9_w_2 c_g_0_w_2 z_g_0_w_2
  clear hb
  refine hK.out _ _ ⟨c_gm_0_w_3, c_gm_1_w_3, c_gm_2_w_3, c_gm_3_w_3, c_gm_4_w_3, c_gm_5_w_3, c_gm_6_w_3, c_gm_7_w_3, c_gm_8_w_3, c_gm_9_w_3, c_g_0_w_3⟩ (fun hHeld => ?_)
  clear hK K
  refine norm_ (a' := ?_) ?_ ?_
  rotate_left
  · show Act.put _ (some 6) _ = _
    simp only [Act.put, List.setIfInBounds_toArray, List.set_cons_zero, List.set_cons_succ, i64_w, i32_w]
    rfl
  refine pure_ (i := 2) (N := some 7) (v := ?_) (a' := ?_) Fs3 rfl rfl (by kernel_rfl) (fun _ _ _ h => h) (Or.inl ⟨by rfl, ?_⟩) ?_ ?_
  rotate_left
  · intro w'
    go_simp
    with_reducible rfl
  rotate_left
  · simp only [Act.put, List.setIfInBounds_toArray, List.set_cons_zero, List.set_cons_succ, i64_w, i32_w]
    rfl
  refine pure_ (i := 3) (N := some 8) (v := ?_) (a' := ?_) Fs4 rfl rfl (by kernel_rfl) (fun _ _ _ h => h) (Or.inl ⟨by rfl, ?_⟩) ?_ ?_
  rotate_left
  · intro w'
    go_simp
    with_reducible rfl
  rotate_left
  · simp only [Act.put, List.setIfInBounds_toArray, List.set_cons_zero, List.set_cons_succ, i64_w, i32_w]
    rfl
  refine pure_ (i := 4) (N := some 9) (v := undef) (a' := ?_) Fs5 rfl rfl (by kernel_rfl) (fun _ _ _ h => h) (Or.inr ⟨by rfl, rfl⟩) ?_ ?_
  rotate_left
  · simp only [Act.put, List.setIfInBounds_toArray, List.set_cons_zero, List.set_cons_succ, i64_w, i32_w]
    rfl
  refine pure_ (i := 5) (N := some 10) (v := undef) (a' := ?_) Fs6 rfl rfl (by kernel_rfl) (fun _ _ _ h => h) (Or.inr ⟨by rfl, rfl⟩) ?_ ?_
  rotate_left
  · simp only [Act.put, List.setIfInBounds_toArray, List.set_cons_zero, List.set_cons_succ, i64_w, i32_w]
    rfl
  refine pure_ (i := 6) (N := some 11) (v := undef) (a' := ?_) Fs7 rfl rfl (by kernel_rfl) (fun _ _ _ h => h) (Or.inr ⟨by rfl, rfl⟩) ?_ ?_
  rotate_left
  · simp only [Act.put, List.setIfInBounds_toArray, List.set_cons_zero, List.set_cons_succ, i64_w, i32_w]
    rfl
  refine pure_ (i := 7) (N := some 12) (v := undef) (a' := ?_) Fs8 rfl rfl (by kernel_rfl) (fun _ _ _ h => h) (Or.inr ⟨by rfl, rfl⟩) ?_ ?_
  rotate_left
  · simp only [Act.put, List.setIfInBounds_toArray, List.set_cons_zero, List.set_cons_succ, i64_w, i32_w]
    rfl
  refine pure_ (i := 8) (N := some 13) (v := undef) (a' := ?_) Fs9 rfl rfl (by kernel_rfl) (fun _ _ _ h => h) (Or.inr ⟨by rfl, rfl⟩) ?_ ?_
  rotate_left
  · simp only [Act.put, List.setIfInBounds_toArray, List.set_cons_zero, List.set_cons_succ, i64_w, i32_w]
    rfl
  refine pure_ (i := 9) (N := some 14) (v := undef) (a' := ?_) Fs10 rfl rfl (by kernel_rfl) (fun _ _ _ h => h) (Or.inr ⟨by rfl, rfl⟩) ?_ ?_
  rotate_left
  · simp only [Act.put, List.setIfInBounds_toArray, List.set_cons_zero, List.set_cons_succ, i64_w, i32_w]
    rfl
  refine pure_ (i := 10) (N := some 15) (v := undef) (a' := ?_) Fs11 rfl rfl (by kernel_rfl) (fun _ _ _ h => h) (Or.inr ⟨by rfl, rfl⟩) ?_ ?_
  rotate_left
  · simp only [Act.put, List.setIfInBounds_toArray, List.set_cons_zero, List.set_cons_succ, i64_w, i32_w]
    rfl
  refine pure_ (i := 11) (N := some 16) (v := undef) (a' := ?_) Fs12 rfl rfl (by kernel_rfl) (fun _ _ _ h => h) (Or.inr ⟨by rfl, rfl⟩) ?_ ?_
  rotate_left
  · simp only [Act.put, List.setIfInBounds_toArray, List.set_cons_zero, List.set_cons_succ, i64_w, i32_w]
    rfl
  refine pure_ (i := 12) (N := some 17) (v := undef) (a' := ?_) Fs13 rfl rfl (by kernel_rfl) (fun _ _ _ h => h) (Or.inr ⟨by rfl, rfl⟩) ?_ ?_
  rotate_left
  · simp only [Act.put, List.setIfInBounds_toArray, List.set_cons_zero, List.set_cons_succ, i64_w, i32_w]
    rfl
  refine pure_ (i := 13) (N := some 18) (v := ?_) (a' := ?_) Fs14 rfl rfl (by kernel_rfl) (fun _ _ _ h => h) (Or.inl ⟨by rfl, ?_⟩) ?_ ?_
  rotate_left
  · intro w'
    go_simp
    with_reducible rfl
  rotate_left
  · simp only [Act.put, List.setIfInBounds_toArray, List.set_cons_zero, List.set_cons_succ, i64_w, i32_w]
    rfl
  refine pure_ (i := 14) (N := some 19) (v := ?_) (a' := ?_) Fs15 rfl rfl (by kernel_rfl) (fun _ _ _ h => h) (Or.inl ⟨by rfl, ?_⟩) ?_ ?_
  rotate_left
  · intro w'
    go_simp
    with_reducible rfl
  rotate_left
  · simp only [Act.put, List.setIfInBounds_toArray, List.set_cons_zero, List.set_cons_succ, i64_w, i32_w]
    rfl
  refine pure_ (i := 15) (N := some 20) (v := undef) (a' := ?_) Fs16 rfl rfl (by kernel_rfl) (fun _ _ _ h => h) (Or.inr ⟨by rfl, rfl⟩) ?_ ?_
  rotate_left
  · simp only [Act.put, List.setIfInBounds_toArray, List.set_cons_zero, List.set_cons_succ, i64_w, i32_w]
    rfl
  refine pure_ (i := 16) (N := some 21) (v := undef) (a' := ?_) Fs17 rfl rfl (by kernel_rfl) (fun _ _ _ h => h) (Or.inr ⟨by rfl, rfl⟩) ?_ ?_
  rotate_left
  · simp only [Act.put, List.setIfInBounds_toArray, List.set_cons_zero, List.set_cons_succ, i64_w, i32_w]
    rfl
  refine pure_ (i := 17) (N := some 22) (v := undef) (a' := ?_) Fs18 rfl rfl (by kernel_rfl) (fun _ _ _ h => h) (Or.inr ⟨by rfl, rfl⟩) ?_ ?_
  rotate_left
  · simp only [Act.put, List.setIfInBounds_toArray, List.set_cons_zero, List.set_cons_succ, i64_w, i32_w]
    rfl
  refine pure_ (i := 18) (N := some 23) (v := undef) (a' := ?_) Fs19 rfl rfl (by kernel_rfl) (fun _ _ _ h => h) (Or.inr ⟨by rfl, rfl⟩) ?_ ?_
  rotate_left
  · simp only [Act.put, List.setIfInBounds_toArray, List.set_cons_zero, List.set_cons_succ, i64_w, i32_w]
    rfl
  refine pure_ (i := 19) (N := some 24) (v := ?_) (a' := ?_) Fs20 rfl rfl (by kernel_rfl) (fun _ _ _ h => h) (Or.inl ⟨by rfl, ?_⟩) ?_ ?_
  rotate_left
  · intro w'
    go_simp
    with_reducible rfl
  rotate_left
  · simp only [Act.put, List.setIfInBounds_toArray, List.set_cons_zero, List.set_cons_succ, i64_w, i32_w]
    rfl
  refine done_ (by kernel_rfl) ?_
  go_wp2
  go_ret
  exact ⟨rfl, RA.close (Sep.right S_w_3.out), B_w_3.out⟩
set_option maxHeartbeats 8000000 in
set_option maxRecDepth 100000 in
theorem rmove_b {base g : Nat} {n : Int} {D : Int → Nat → Int} {L : List Assn} (w : World) (h : Sep base (Star (RA g n D) (Stars L)) w) (hbase : base ≤ w.heap.size) (hn : n ≤ 16) (hn0 : 0 ≤ n)
    (s q : Int) (A : Option Addr) (c : Nat) (l : List Int) (kd ep it is rt rs ru : Int) (hC : (Kd.int .i64).C w A l.length l) (hc : l.length ≤ c) (hk : mesg_Check.f s q l kd ep it is rt rs ru = some 0) (hl : ¬ (l.length : Int) = n) :
    Calls Try.prog 29 #[.pointer (some ⟨g, 0, none⟩), .agg #[.int .i64 s, .int .i64 q, .slice A l.length c, .int .i64 kd, .int .i64 ep, .int .i64 it, .int .i64 is, .int .i64 rt, .int .i64 rs, .int .i64 ru]] w fun en w' => en = .returned (.int .i64 1) ∧ Sep base (Star (RA g n D) (Stars L)) w' ∧ Below base w w' := by
  obtain ⟨nn, rfl⟩ := Int.eq_ofNat_of_zero_le hn0
  obtain ⟨b, h⟩ := RA.open h
  have c0 := XW.cells1 h.blk
  rw [Int.toNat_natCast] at c0 h
  have hcs := fun i => RB.cells h.swap i
  have hu52 := Try.underlying52
  have hu54 := Try.underlying54
  have hu56 := Try.underlying56
  have hu98 := Try.underlying98
  have B_w := Aside0.mk (Below.refl base w)
  have S_w : Aside0 (Sep base (Stars (Blk g #[.slice (some ⟨b, 0, none⟩) nn nn] 96 :: RB b (nn : Int) D :: L)) w) := ⟨h⟩
  have HB := Aside0.mk hbase
  have HC := Aside0.mk hC
  have HK := Aside0.mk hk
  clear h hbase hC hk
  have bl : ((l.length : Int) != (nn : Int)) = true := bne_iff_ne.mpr hl
  have bl2 : (l.length != nn) = true := bne_iff_ne.mpr (by omega)
  clear hl hcs
  have c_g_0_w := XW.cells1 (Sep.front [] (RB b (nn : Int) D :: L) S_w.out).blk
  have z_g_0_w := XW.froz1 (Sep.front [] (RB b (nn : Int) D :: L) S_w.out).blk
  go_enter Try.func29, Try.ntmps29
  go_upto_region 1 with (first | ((with_reducible refine gate_dst (N := 3) rfl ?_); (try (refine gate_guard (by rfl) ?_; dsimp only)); refine box_event ?hg (N := 3) ?hd (cs := #[.int .i64 s, .int .i64 q, .slice A l.length c, .int .i64 kd, .int .i64 ep, .int .i64 it, .int .i64 is, .int .i64 rt, .int .i64 rs, .int .i64 ru]) (t := 56) ?hr ?_; (case hd => rfl); (case hg => rfl); (case hr => first | (go_simp; done) | (go_simp; rfl)); intro gm hg_gm w_1 hX hb; have B_w_1 : Aside0 (Below (base) w w_1) := ⟨below_then B_w.out (Nat.le_trans (HB.out) B_w.out.size) hb⟩; have S_w_1 : Aside0 (Sep (base) (Stars (Blk gm #[.int .i64 s, .int .i64 q, .slice A l.length c, .int .i64 kd, .int .i64 ep, .int .i64 it, .int .i64 is, .int .i64 rt, .int .i64 rs, .int .i64 ru] 56 :: Blk g #[.slice (some ⟨b, 0, none⟩) nn nn] 96 :: RB b (nn : Int) D :: L)) w_1) := ⟨Sep.new_blk S_w.out (Nat.le_trans (HB.out) B_w.out.size) hg_gm hb hX⟩; have Q_w_1 : Aside0 (Below w.heap.size w w_1) := ⟨hb⟩; obtain ⟨c_gm_0_w_1, c_gm_1_w_1, c_gm_2_w_1, c_gm_3_w_1, c_gm_4_w_1, c_gm_5_w_1, c_gm_6_w_1, c_gm_7_w_1, c_gm_8_w_1, c_gm_9_w_1⟩ := XW.cells10 (Sep.front [] (Blk g #[.slice (some ⟨b, 0, none⟩) nn nn] 96 :: RB b (nn : Int) D :: L) S_w_1.out).blk; obtain ⟨z_gm_0_w_1, z_gm_1_w_1, z_gm_2_w_1, z_gm_3_w_1, z_gm_4_w_1, z_gm_5_w_1, z_gm_6_w_1, z_gm_7_w_1, z_gm_8_w_1, z_gm_9_w_1⟩ := XW.froz10 (Sep.front [] (Blk g #[.slice (some ⟨b, 0, none⟩) nn nn] 96 :: RB b (nn : Int) D :: L) S_w_1.out).blk; have c_g_0_w_1 := XW.cells1 (Sep.front [Blk gm #[.int .i64 s, .int .i64 q, .slice A l.length c, .int .i64 kd, .int .i64 ep, .int .i64 it, .int .i64 is, .int .i64 rt, .int .i64 rs, .int .i64 ru] 56] (RB b (nn : Int) D :: L) S_w_1.out).blk; have z_g_0_w_1 := XW.froz1 (Sep.front [Blk gm #[.int .i64 s, .int .i64 q, .slice A l.length c, .int .i64 kd, .int .i64 ep, .int .i64 it, .int .i64 is, .int .i64 rt, .int .i64 rs, .int .i64 ru] 56] (RB b (nn : Int) D :: L) S_w_1.out).blk; clear S_w c_g_0_w z_g_0_w; clear hX hb hg_gm))
  refine start_ (n := 20) (S := fun w' => w'.cell? ⟨gm, 0, none⟩ = some (.int .i64 s) ∧ w'.cell? ⟨gm, 1, none⟩ = some (.int .i64 q) ∧ w'.cell? ⟨gm, 2, none⟩ = some (.slice A l.length c) ∧ w'.cell? ⟨gm, 3, none⟩ = some (.int .i64 kd) ∧ w'.cell? ⟨gm, 4, none⟩ = some (.int .i64 ep) ∧ w'.cell? ⟨gm, 5, none⟩ = some (.int .i64 it) ∧ w'.cell? ⟨gm, 6, none⟩ = some (.int .i64 is) ∧ w'.cell? ⟨gm, 7, none⟩ = some (.int .i64 rt) ∧ w'.cell? ⟨gm, 8, none⟩ = some (.int .i64 rs) ∧ w'.cell? ⟨gm, 9, none⟩ = some (.int .i64 ru) ∧ w'.cell? ⟨g, 0, none⟩ = some (.slice (some ⟨b, 0, none⟩) nn nn)) (ds := []) Fs0 (by kernel_rfl) rfl rfl ⟨c_gm_0_w_1, c_gm_1_w_1, c_gm_2_w_1, c_gm_3_w_1, c_gm_4_w_1, c_gm_5_w_1, c_gm_6_w_1, c_gm_7_w_1, c_gm_8_w_1, c_gm_9_w_1, c_g_0_w_1⟩ (fun hHeld => ?_)
  generalize hdw : w_1.drew = w_2 at hHeld ⊢
  have HB_w_2 : Aside0 (Below w_1.heap.size w_1 w_2) := ⟨by rw [← hdw]; exact below_drew1 (Below.refl _ _)⟩
  clear hdw
  have B_w_2 : Aside0 (Below (base) w w_2) := ⟨below_then B_w_1.out (Nat.le_trans (HB.out) B_w_1.out.size) HB_w_2.out⟩
  have S_w_2 : Aside0 (Sep (base) (Stars (Blk gm #[.int .i64 s, .int .i64 q, .slice A l.length c, .int .i64 kd, .int .i64 ep, .int .i64 it, .int .i64 is, .int .i64 rt, .int .i64 rs, .int .i64 ru] 56 :: Blk g #[.slice (some ⟨b, 0, none⟩) nn nn] 96 :: RB b (nn : Int) D :: L)) w_2) := ⟨Sep.below S_w_1.out HB_w_2.out⟩
  have Q_w_2 : Aside0 (Below w.heap.size w w_2) := ⟨below_step Q_w_1.out HB_w_2.out⟩
  obtain ⟨c_gm_0_w_2, c_gm_1_w_2, c_gm_2_w_2, c_gm_3_w_2, c_gm_4_w_2, c_gm_5_w_2, c_gm_6_w_2, c_gm_7_w_2, c_gm_8_w_2, c_gm_9_w_2⟩ := XW.cells10 (Sep.front [] (Blk g #[.slice (some ⟨b, 0, none⟩) nn nn] 96 :: RB b (nn : Int) D :: L) S_w_2.out).blk
  obtain ⟨z_gm_0_w_2, z_gm_1_w_2, z_gm_2_w_2, z_gm_3_w_2, z_gm_4_w_2, z_gm_5_w_2, z_gm_6_w_2, z_gm_7_w_2, z_gm_8_w_2, z_gm_9_w_2⟩ := XW.froz10 (Sep.front [] (Blk g #[.slice (some ⟨b, 0, none⟩) nn nn] 96 :: RB b (nn : Int) D :: L) S_w_2.out).blk
  have c_g_0_w_2 := XW.cells1 (Sep.front [Blk gm #[.int .i64 s, .int .i64 q, .slice A l.length c, .int .i64 kd, .int .i64 ep, .int .i64 it, .int .i64 is, .int .i64 rt, .int .i64 rs, .int .i64 ru] 56] (RB b (nn : Int) D :: L) S_w_2.out).blk
  have z_g_0_w_2 := XW.froz1 (Sep.front [Blk gm #[.int .i64 s, .int .i64 q, .slice A l.length c, .int .i64 kd, .int .i64 ep, .int .i64 it, .int .i64 is, .int .i64 rt, .int .i64 rs, .int .i64 ru] 56] (RB b (nn : Int) D :: L) S_w_2.out).blk
  clear S_w_1 c_gm_0_w_1 c_gm_1_w_1 c_gm_2_w_1 c_gm_3_w_1 c_gm_4_w_1 c_gm_5_w_1 c_gm_6_w_1 c_gm_7_w_1 c_gm_8_w_1 c_gm_9_w_1 z_gm_0_w_1 z_gm_1_w_1 z_gm_2_w_1 z_gm_3_w_1 z_gm_4_w_1 z_gm_5_w_1 z_gm_6_w_1 z_gm_7_w_1 z_gm_8_w_1 z_gm_9_w_1 c_g_0_w_1 z_g_0_w_1
  refine take_ (i := 0) (N := some 5) (v := ?_) (a' := ?_) Fs1 rfl rfl (by kernel_rfl) (fun _ _ _ h => h) (Or.inl ⟨by rfl, ?_⟩) hHeld ?_ ?_
  rotate_left
  · rintro w' ⟨s0, s1, s2, s3, s4, s5, s6, s7, s8, s9, s10⟩
    go_simp
    with_reducible rfl
  rotate_left
  · simp only [Act.put, List.setIfInBounds_toArray, List.set_cons_zero, List.set_cons_succ, i64_w, i32_w]
    rfl
  refine one_ (i := 1) (N := some 6) Fs2 rfl rfl (by kernel_rfl) (by decide) (fun K hK => ?_)
  refine goes_ Try.func54 (by kernel_rfl) rfl #[.agg #[.int .i64 s, .int .i64 q, .slice A l.length c, .int .i64 kd, .int .i64 ep, .int .i64 it, .int .i64 is, .int .i64 rt, .int .i64 rs, .int .i64 ru]] (by rfl) rfl rfl (by simp only [List.map_toArray, List.map_cons, List.map_nil]; rfl) ?_
  with_reducible refine (ref_check s q A c l kd ep it is rt rs ru _ (Kd.C_below HC.out Q_w_2.out) hc 0 HK.out).mono ?_
  rintro e w_3 ⟨rfl, hb⟩
  refine ⟨_, rfl, ?_⟩
  have B_w_3 : Aside0 (Below (base) w w_3) := ⟨below_then B_w_2.out (Nat.le_trans (HB.out) B_w_2.out.size) hb⟩
  have S_w_3 : Aside0 (Sep (base) (Stars (Blk gm #[.int .i64 s, .int .i64 q, .slice A l.length c, .int .i64 kd, .int .i64 ep, .int .i64 it, .int .i64 is, .int .i64 rt, .int .i64 rs, .int .i64 ru] 56 :: Blk g #[.slice (some ⟨b, 0, none⟩) nn nn] 96 :: RB b (nn : Int) D :: L)) w_3) := ⟨Sep.below S_w_2.out hb⟩
  have Q_w_3 : Aside0 (Below w.heap.size w w_3) := ⟨below_step Q_w_2.out hb⟩
  obtain ⟨c_gm_0_w_3, c_gm_1_w_3, c_gm_2_w_3, c_gm_3_w_3, c_gm_4_w_3, c_gm_5_w_3, c_gm_6_w_3, c_gm_7_w_3, c_gm_8_w_3, c_gm_9_w_3⟩ := XW.cells10 (Sep.front [] (Blk g #[.slice (some ⟨b, 0, none⟩) nn nn] 96 :: RB b (nn : Int) D :: L) S_w_3.out).blk
  obtain ⟨z_gm_0_w_3, z_gm_1_w_3, z_gm_2_w_3, z_gm_3_w_3, z_gm_4_w_3, z_gm_5_w_3, z_gm_6_w_3, z_gm_7_w_3, z_gm_8_w_3, z_gm_9_w_3⟩ := XW.froz10 (Sep.front [] (Blk g #[.slice (some ⟨b, 0, none⟩) nn nn] 96 :: RB b (nn : Int) D :: L) S_w_3.out).blk
  have c_g_0_w_3 := XW.cells1 (Sep.front [Blk gm #[.int .i64 s, .int .i64 q, .slice A l.length c, .int .i64 kd, .int .i64 ep, .int .i64 it, .int .i64 is, .int .i64 rt, .int .i64 rs, .int .i64 ru] 56] (RB b (nn : Int) D :: L) S_w_3.out).blk
  have z_g_0_w_3 := XW.froz1 (Sep.front [Blk gm #[.int .i64 s, .int .i64 q, .slice A l.length c, .int .i64 kd, .int .i64 ep, .int .i64 it, .int .i64 is, .int .i64 rt, .int .i64 rs, .int .i64 ru] 56] (RB b (nn : Int) D :: L) S_w_3.out).blk
  clear S_w_2 c_gm_0_w_2 c_gm_1_w_2 c_gm_2_w_2 c_gm_3_w_2 c_gm_4_w_2 c_gm_5_w_2 c_gm_6_w_2 c_gm_7_w_2 c_gm_8_w_2 c_gm_9_w_2 z_gm_0_w_2 z_gm_1_w_2 z_gm_2_w_2 z_gm_3_w_2 z_gm_4_w_2 z_gm_5_w_2 z_gm_6_w_2 z_gm_7_w_2 z_gm_8_w_2 z_gm_9_w_2 c_g_0_w_2 z_g_0_w_2
  clear hb
  refine hK.out _ _ ⟨c_gm_0_w_3, c_gm_1_w_3, c_gm_2_w_3, c_gm_3_w_3, c_gm_4_w_3, c_gm_5_w_3, c_gm_6_w_3, c_gm_7_w_3, c_gm_8_w_3, c_gm_9_w_3, c_g_0_w_3⟩ (fun hHeld => ?_)
  clear hK K
  refine norm_ (a' := ?_) ?_ ?_
  rotate_left
  · show Act.put _ (some 6) _ = _
    simp only [Act.put, List.setIfInBounds_toArray, List.set_cons_zero, List.set_cons_succ, i64_w, i32_w]
    rfl
  refine pure_ (i := 2) (N := some 7) (v := ?_) (a' := ?_) Fs3 rfl rfl (by kernel_rfl) (fun _ _ _ h => h) (Or.inl ⟨by rfl, ?_⟩) ?_ ?_
  rotate_left
  · intro w'
    go_simp
    with_reducible rfl
  rotate_left
  · simp only [Act.put, List.setIfInBounds_toArray, List.set_cons_zero, List.set_cons_succ, i64_w, i32_w]
    rfl
  refine pure_ (i := 3) (N := some 8) (v := ?_) (a' := ?_) Fs4 rfl rfl (by kernel_rfl) (fun _ _ _ h => h) (Or.inl ⟨by rfl, ?_⟩) ?_ ?_
  rotate_left
  · intro w'
    go_simp
    with_reducible rfl
  rotate_left
  · simp only [Act.put, List.setIfInBounds_toArray, List.set_cons_zero, List.set_cons_succ, i64_w, i32_w]
    rfl
  refine pure_ (i := 4) (N := some 9) (v := ?_) (a' := ?_) Fs5 rfl rfl (by kernel_rfl) (fun _ _ _ h => h) (Or.inl ⟨by rfl, ?_⟩) ?_ ?_
  rotate_left
  · intro w'
    go_simp
    with_reducible rfl
  rotate_left
  · simp only [Act.put, List.setIfInBounds_toArray, List.set_cons_zero, List.set_cons_succ, i64_w, i32_w]
    rfl
  refine pure_ (i := 7) (N := some 12) (v := ?_) (a' := ?_) Fs21 rfl rfl (by kernel_rfl) (fun _ _ _ h => h) (Or.inl ⟨by rfl, ?_⟩) ?_ ?_
  rotate_left
  · intro w'
    go_simp
    with_reducible rfl
  rotate_left
  · simp only [Act.put, List.setIfInBounds_toArray, List.set_cons_zero, List.set_cons_succ, i64_w, i32_w]
    rfl
  refine pure_ (i := 8) (N := some 13) (v := ?_) (a' := ?_) Fs22 rfl rfl (by kernel_rfl) (fun _ _ _ h => h) (Or.inl ⟨by rfl, ?_⟩) ?_ ?_
  rotate_left
  · intro w'
    go_simp
    with_reducible rfl
  rotate_left
  · simp only [Act.put, List.setIfInBounds_toArray, List.set_cons_zero, List.set_cons_succ, i64_w, i32_w]
    rfl
  refine pure_ (i := 9) (N := some 14) (v := ?_) (a' := ?_) Fs23 rfl rfl (by kernel_rfl) (fun _ _ _ h => h) (Or.inl ⟨by rfl, ?_⟩) ?_ ?_
  rotate_left
  · intro w'
    go_simp
    with_reducible rfl
  rotate_left
  · simp only [Act.put, List.setIfInBounds_toArray, List.set_cons_zero, List.set_cons_succ, i64_w, i32_w]
    rfl
  refine take_ (i := 5) (N := some 10) (v := ?_) (a' := ?_) Fs24 rfl rfl (by kernel_rfl) (fun _ _ _ h => h) (Or.inl ⟨by rfl, ?_⟩) hHeld ?_ ?_
  rotate_left
  · rintro w' ⟨s0, s1, s2, s3, s4, s5, s6, s7, s8, s9, s10⟩
    go_simp
    with_reducible rfl
  rotate_left
  · simp only [Act.put, List.setIfInBounds_toArray, List.set_cons_zero, List.set_cons_succ, i64_w, i32_w]
    rfl
  refine pure_ (i := 6) (N := some 11) (v := ?_) (a' := ?_) Fs10 rfl rfl (by kernel_rfl) (fun _ _ _ h => h) (Or.inl ⟨by rfl, ?_⟩) ?_ ?_
  rotate_left
  · intro w'
    go_simp
    with_reducible rfl
  rotate_left
  · simp only [Act.put, List.setIfInBounds_toArray, List.set_cons_zero, List.set_cons_succ, i64_w, i32_w]
    rfl
  refine take_ (i := 10) (N := some 15) (v := ?_) (a' := ?_) Fs11 rfl rfl (by kernel_rfl) (fun _ _ _ h => h) (Or.inl ⟨by rfl, ?_⟩) hHeld ?_ ?_
  rotate_left
  · rintro w' ⟨s0, s1, s2, s3, s4, s5, s6, s7, s8, s9, s10⟩
    go_simp
    with_reducible rfl
  rotate_left
  · simp only [Act.put, List.setIfInBounds_toArray, List.set_cons_zero, List.set_cons_succ, i64_w, i32_w]
    rfl
  refine pure_ (i := 11) (N := some 16) (v := ?_) (a' := ?_) Fs12 rfl rfl (by kernel_rfl) (fun _ _ _ h => h) (Or.inl ⟨by rfl, ?_⟩) ?_ ?_
  rotate_left
  · intro w'
    go_simp
    with_reducible rfl
  rotate_left
  · simp only [Act.put, List.setIfInBounds_toArray, List.set_cons_zero, List.set_cons_succ, i64_w, i32_w]
    rfl
  refine pure_ (i := 12) (N := some 17) (v := ?_) (a' := ?_) Fs13 rfl rfl (by kernel_rfl) (fun _ _ _ h => h) (Or.inl ⟨by rfl, ?_⟩) ?_ ?_
  rotate_left
  · intro w'
    go_simp
    with_reducible rfl
  rotate_left
  · simp only [Act.put, List.setIfInBounds_toArray, List.set_cons_zero, List.set_cons_succ, i64_w, i32_w]
    rfl
  refine pure_ (i := 13) (N := some 18) (v := ?_) (a' := ?_) Fs14 rfl rfl (by kernel_rfl) (fun _ _ _ h => h) (Or.inl ⟨by rfl, ?_⟩) ?_ ?_
  rotate_left
  · intro w'
    go_simp
    with_reducible rfl
  rotate_left
  · simp only [Act.put, List.setIfInBounds_toArray, List.set_cons_zero, List.set_cons_succ, i64_w, i32_w]
    rfl
  refine pure_ (i := 14) (N := some 19) (v := ?_) (a' := ?_) Fs15 rfl rfl (by kernel_rfl) (fun _ _ _ h => h) (Or.inl ⟨by rfl, ?_⟩) ?_ ?_
  rotate_left
  · intro w'
    go_simp
    with_reducible rfl
  rotate_left
  · simp only [Act.put, List.setIfInBounds_toArray, List.set_cons_zero, List.set_cons_succ, i64_w, i32_w]
    rfl
  refine pure_ (i := 15) (N := some 20) (v := undef) (a' := ?_) Fs16 rfl rfl (by kernel_rfl) (fun _ _ _ h => h) (Or.inr ⟨by rfl, rfl⟩) ?_ ?_
  rotate_left
  · simp only [Act.put, List.setIfInBounds_toArray, List.set_cons_zero, List.set_cons_succ, i64_w, i32_w]
    rfl
  refine pure_ (i := 16) (N := some 21) (v := undef) (a' := ?_) Fs17 rfl rfl (by kernel_rfl) (fun _ _ _ h => h) (Or.inr ⟨by rfl, rfl⟩) ?_ ?_
  rotate_left
  · simp only [Act.put, List.setIfInBounds_toArray, List.set_cons_zero, List.set_cons_succ, i64_w, i32_w]
    rfl
  refine pure_ (i := 17) (N := some 22) (v := undef) (a' := ?_) Fs18 rfl rfl (by kernel_rfl) (fun _ _ _ h => h) (Or.inr ⟨by rfl, rfl⟩) ?_ ?_
  rotate_left
  · simp only [Act.put, List.setIfInBounds_toArray, List.set_cons_zero, List.set_cons_succ, i64_w, i32_w]
    rfl
  refine pure_ (i := 18) (N := some 23) (v := undef) (a' := ?_) Fs19 rfl rfl (by kernel_rfl) (fun _ _ _ h => h) (Or.inr ⟨by rfl, rfl⟩) ?_ ?_
  rotate_left
  · simp only [Act.put, List.setIfInBounds_toArray, List.set_cons_zero, List.set_cons_succ, i64_w, i32_w]
    rfl
  refine pure_ (i := 19) (N := some 24) (v := ?_) (a' := ?_) Fs20 rfl rfl (by kernel_rfl) (fun _ _ _ h => h) (Or.inl ⟨by rfl, ?_⟩) ?_ ?_
  rotate_left
  · intro w'
    go_simp
    with_reducible rfl
  rotate_left
  · simp only [Act.put, List.setIfInBounds_toArray, List.set_cons_zero, List.set_cons_succ, i64_w, i32_w]
    rfl
  refine done_ (by kernel_rfl) ?_
  go_wp2
  go_ret
  exact ⟨rfl, RA.close (Sep.right S_w_3.out), B_w_3.out⟩
set_option maxHeartbeats 8000000 in
set_option maxRecDepth 100000 in
theorem rmove_c {base g : Nat} {n : Int} {D : Int → Nat → Int} {L : List Assn} (w : World) (h : Sep base (Star (RA g n D) (Stars L)) w) (hbase : base ≤ w.heap.size) (hn : n ≤ 16) (hn0 : 0 ≤ n)
    (s q : Int) (A : Option Addr) (c : Nat) (l : List Int) (kd ep it is rt rs ru : Int) (hC : (Kd.int .i64).C w A l.length l) (hc : l.length ≤ c) (hk : mesg_Check.f s q l kd ep it is rt rs ru = some 0) (hl : (l.length : Int) = n) (hkd : ¬ kd = 5) :
    Calls Try.prog 29 #[.pointer (some ⟨g, 0, none⟩), .agg #[.int .i64 s, .int .i64 q, .slice A l.length c, .int .i64 kd, .int .i64 ep, .int .i64 it, .int .i64 is, .int .i64 rt, .int .i64 rs, .int .i64 ru]] w fun en w' => en = .returned (.int .i64 1) ∧ Sep base (Star (RA g n D) (Stars L)) w' ∧ Below base w w' := by
  obtain ⟨nn, rfl⟩ := Int.eq_ofNat_of_zero_le hn0
  obtain ⟨b, h⟩ := RA.open h
  have c0 := XW.cells1 h.blk
  rw [Int.toNat_natCast] at c0 h
  have hcs := fun i => RB.cells h.swap i
  have hu52 := Try.underlying52
  have hu54 := Try.underlying54
  have hu56 := Try.underlying56
  have hu98 := Try.underlying98
  have B_w := Aside0.mk (Below.refl base w)
  have S_w : Aside0 (Sep base (Stars (Blk g #[.slice (some ⟨b, 0, none⟩) nn nn] 96 :: RB b (nn : Int) D :: L)) w) := ⟨h⟩
  have HB := Aside0.mk hbase
  have HC := Aside0.mk hC
  have HK := Aside0.mk hk
  clear h hbase hC hk
  have bl : ((l.length : Int) != (nn : Int)) = false := bne_eq_false_iff_eq.mpr hl
  have bl2 : (l.length != nn) = false := bne_eq_false_iff_eq.mpr (by omega)
  have bk : (kd != 5) = true := bne_iff_ne.mpr hkd
  clear hl hkd hcs
  have c_g_0_w := XW.cells1 (Sep.front [] (RB b (nn : Int) D :: L) S_w.out).blk
  have z_g_0_w := XW.froz1 (Sep.front [] (RB b (nn : Int) D :: L) S_w.out).blk
  go_enter Try.func29, Try.ntmps29
  go_upto_region 1 with (first | ((with_reducible refine gate_dst (N := 3) rfl ?_); (try (refine gate_guard (by rfl) ?_; dsimp only)); refine box_event ?hg (N := 3) ?hd (cs := #[.int .i64 s, .int .i64 q, .slice A l.length c, .int .i64 kd, .int .i64 ep, .int .i64 it, .int .i64 is, .int .i64 rt, .int .i64 rs, .int .i64 ru]) (t := 56) ?hr ?_; (case hd => rfl); (case hg => rfl); (case hr => first | (go_simp; done) | (go_simp; rfl)); intro gm hg_gm w_1 hX hb; have B_w_1 : Aside0 (Below (base) w w_1) := ⟨below_then B_w.out (Nat.le_trans (HB.out) B_w.out.size) hb⟩; have S_w_1 : Aside0 (Sep (base) (Stars (Blk gm #[.int .i64 s, .int .i64 q, .slice A l.length c, .int .i64 kd, .int .i64 ep, .int .i64 it, .int .i64 is, .int .i64 rt, .int .i64 rs, .int .i64 ru] 56 :: Blk g #[.slice (some ⟨b, 0, none⟩) nn nn] 96 :: RB b (nn : Int) D :: L)) w_1) := ⟨Sep.new_blk S_w.out (Nat.le_trans (HB.out) B_w.out.size) hg_gm hb hX⟩; have Q_w_1 : Aside0 (Below w.heap.size w w_1) := ⟨hb⟩; obtain ⟨c_gm_0_w_1, c_gm_1_w_1, c_gm_2_w_1, c_gm_3_w_1, c_gm_4_w_1, c_gm_5_w_1, c_gm_6_w_1, c_gm_7_w_1, c_gm_8_w_1, c_gm_9_w_1⟩ := XW.cells10 (Sep.front [] (Blk g #[.slice (some ⟨b, 0, none⟩) nn nn] 96 :: RB b (nn : Int) D :: L) S_w_1.out).blk; obtain ⟨z_gm_0_w_1, z_gm_1_w_1, z_gm_2_w_1, z_gm_3_w_1, z_gm_4_w_1, z_gm_5_w_1, z_gm_6_w_1, z_gm_7_w_1, z_gm_8_w_1, z_gm_9_w_1⟩ := XW.froz10 (Sep.front [] (Blk g #[.slice (some ⟨b, 0, none⟩) nn nn] 96 :: RB b (nn : Int) D :: L) S_w_1.out).blk; have c_g_0_w_1 := XW.cells1 (Sep.front [Blk gm #[.int .i64 s, .int .i64 q, .slice A l.length c, .int .i64 kd, .int .i64 ep, .int .i64 it, .int .i64 is, .int .i64 rt, .int .i64 rs, .int .i64 ru] 56] (RB b (nn : Int) D :: L) S_w_1.out).blk; have z_g_0_w_1 := XW.froz1 (Sep.front [Blk gm #[.int .i64 s, .int .i64 q, .slice A l.length c, .int .i64 kd, .int .i64 ep, .int .i64 it, .int .i64 is, .int .i64 rt, .int .i64 rs, .int .i64 ru] 56] (RB b (nn : Int) D :: L) S_w_1.out).blk; clear S_w c_g_0_w z_g_0_w; clear hX hb hg_gm))
  refine start_ (n := 20) (S := fun w' => w'.cell? ⟨gm, 0, none⟩ = some (.int .i64 s) ∧ w'.cell? ⟨gm, 1, none⟩ = some (.int .i64 q) ∧ w'.cell? ⟨gm, 2, none⟩ = some (.slice A l.length c) ∧ w'.cell? ⟨gm, 3, none⟩ = some (.int .i64 kd) ∧ w'.cell? ⟨gm, 4, none⟩ = some (.int .i64 ep) ∧ w'.cell? ⟨gm, 5, none⟩ = some (.int .i64 it) ∧ w'.cell? ⟨gm, 6, none⟩ = some (.int .i64 is) ∧ w'.cell? ⟨gm, 7, none⟩ = some (.int .i64 rt) ∧ w'.cell? ⟨gm, 8, none⟩ = some (.int .i64 rs) ∧ w'.cell? ⟨gm, 9, none⟩ = some (.int .i64 ru) ∧ w'.cell? ⟨g, 0, none⟩ = some (.slice (some ⟨b, 0, none⟩) nn nn)) (ds := []) Fs0 (by kernel_rfl) rfl rfl ⟨c_gm_0_w_1, c_gm_1_w_1, c_gm_2_w_1, c_gm_3_w_1, c_gm_4_w_1, c_gm_5_w_1, c_gm_6_w_1, c_gm_7_w_1, c_gm_8_w_1, c_gm_9_w_1, c_g_0_w_1⟩ (fun hHeld => ?_)
  generalize hdw : w_1.drew = w_2 at hHeld ⊢
  have HB_w_2 : Aside0 (Below w_1.heap.size w_1 w_2) := ⟨by rw [← hdw]; exact below_drew1 (Below.refl _ _)⟩
  clear hdw
  have B_w_2 : Aside0 (Below (base) w w_2) := ⟨below_then B_w_1.out (Nat.le_trans (HB.out) B_w_1.out.size) HB_w_2.out⟩
  have S_w_2 : Aside0 (Sep (base) (Stars (Blk gm #[.int .i64 s, .int .i64 q, .slice A l.length c, .int .i64 kd, .int .i64 ep, .int .i64 it, .int .i64 is, .int .i64 rt, .int .i64 rs, .int .i64 ru] 56 :: Blk g #[.slice (some ⟨b, 0, none⟩) nn nn] 96 :: RB b (nn : Int) D :: L)) w_2) := ⟨Sep.below S_w_1.out HB_w_2.out⟩
  have Q_w_2 : Aside0 (Below w.heap.size w w_2) := ⟨below_step Q_w_1.out HB_w_2.out⟩
  obtain ⟨c_gm_0_w_2, c_gm_1_w_2, c_gm_2_w_2, c_gm_3_w_2, c_gm_4_w_2, c_gm_5_w_2, c_gm_6_w_2, c_gm_7_w_2, c_gm_8_w_2, c_gm_9_w_2⟩ := XW.cells10 (Sep.front [] (Blk g #[.slice (some ⟨b, 0, none⟩) nn nn] 96 :: RB b (nn : Int) D :: L) S_w_2.out).blk
  obtain ⟨z_gm_0_w_2, z_gm_1_w_2, z_gm_2_w_2, z_gm_3_w_2, z_gm_4_w_2, z_gm_5_w_2, z_gm_6_w_2, z_gm_7_w_2, z_gm_8_w_2, z_gm_9_w_2⟩ := XW.froz10 (Sep.front [] (Blk g #[.slice (some ⟨b, 0, none⟩) nn nn] 96 :: RB b (nn : Int) D :: L) S_w_2.out).blk
  have c_g_0_w_2 := XW.cells1 (Sep.front [Blk gm #[.int .i64 s, .int .i64 q, .slice A l.length c, .int .i64 kd, .int .i64 ep, .int .i64 it, .int .i64 is, .int .i64 rt, .int .i64 rs, .int .i64 ru] 56] (RB b (nn : Int) D :: L) S_w_2.out).blk
  have z_g_0_w_2 := XW.froz1 (Sep.front [Blk gm #[.int .i64 s, .int .i64 q, .slice A l.length c, .int .i64 kd, .int .i64 ep, .int .i64 it, .int .i64 is, .int .i64 rt, .int .i64 rs, .int .i64 ru] 56] (RB b (nn : Int) D :: L) S_w_2.out).blk
  clear S_w_1 c_gm_0_w_1 c_gm_1_w_1 c_gm_2_w_1 c_gm_3_w_1 c_gm_4_w_1 c_gm_5_w_1 c_gm_6_w_1 c_gm_7_w_1 c_gm_8_w_1 c_gm_9_w_1 z_gm_0_w_1 z_gm_1_w_1 z_gm_2_w_1 z_gm_3_w_1 z_gm_4_w_1 z_gm_5_w_1 z_gm_6_w_1 z_gm_7_w_1 z_gm_8_w_1 z_gm_9_w_1 c_g_0_w_1 z_g_0_w_1
  refine take_ (i := 0) (N := some 5) (v := ?_) (a' := ?_) Fs1 rfl rfl (by kernel_rfl) (fun _ _ _ h => h) (Or.inl ⟨by rfl, ?_⟩) hHeld ?_ ?_
  rotate_left
  · rintro w' ⟨s0, s1, s2, s3, s4, s5, s6, s7, s8, s9, s10⟩
    go_simp
    with_reducible rfl
  rotate_left
  · simp only [Act.put, List.setIfInBounds_toArray, List.set_cons_zero, List.set_cons_succ, i64_w, i32_w]
    rfl
  refine one_ (i := 1) (N := some 6) Fs2 rfl rfl (by kernel_rfl) (by decide) (fun K hK => ?_)
  refine goes_ Try.func54 (by kernel_rfl) rfl #[.agg #[.int .i64 s, .int .i64 q, .slice A l.length c, .int .i64 kd, .int .i64 ep, .int .i64 it, .int .i64 is, .int .i64 rt, .int .i64 rs, .int .i64 ru]] (by rfl) rfl rfl (by simp only [List.map_toArray, List.map_cons, List.map_nil]; rfl) ?_
  with_reducible refine (ref_check s q A c l kd ep it is rt rs ru _ (Kd.C_below HC.out Q_w_2.out) hc 0 HK.out).mono ?_
  rintro e w_3 ⟨rfl, hb⟩
  refine ⟨_, rfl, ?_⟩
  have B_w_3 : Aside0 (Below (base) w w_3) := ⟨below_then B_w_2.out (Nat.le_trans (HB.out) B_w_2.out.size) hb⟩
  have S_w_3 : Aside0 (Sep (base) (Stars (Blk gm #[.int .i64 s, .int .i64 q, .slice A l.length c, .int .i64 kd, .int .i64 ep, .int .i64 it, .int .i64 is, .int .i64 rt, .int .i64 rs, .int .i64 ru] 56 :: Blk g #[.slice (some ⟨b, 0, none⟩) nn nn] 96 :: RB b (nn : Int) D :: L)) w_3) := ⟨Sep.below S_w_2.out hb⟩
  have Q_w_3 : Aside0 (Below w.heap.size w w_3) := ⟨below_step Q_w_2.out hb⟩
  obtain ⟨c_gm_0_w_3, c_gm_1_w_3, c_gm_2_w_3, c_gm_3_w_3, c_gm_4_w_3, c_gm_5_w_3, c_gm_6_w_3, c_gm_7_w_3, c_gm_8_w_3, c_gm_9_w_3⟩ := XW.cells10 (Sep.front [] (Blk g #[.slice (some ⟨b, 0, none⟩) nn nn] 96 :: RB b (nn : Int) D :: L) S_w_3.out).blk
  obtain ⟨z_gm_0_w_3, z_gm_1_w_3, z_gm_2_w_3, z_gm_3_w_3, z_gm_4_w_3, z_gm_5_w_3, z_gm_6_w_3, z_gm_7_w_3, z_gm_8_w_3, z_gm_9_w_3⟩ := XW.froz10 (Sep.front [] (Blk g #[.slice (some ⟨b, 0, none⟩) nn nn] 96 :: RB b (nn : Int) D :: L) S_w_3.out).blk
  have c_g_0_w_3 := XW.cells1 (Sep.front [Blk gm #[.int .i64 s, .int .i64 q, .slice A l.length c, .int .i64 kd, .int .i64 ep, .int .i64 it, .int .i64 is, .int .i64 rt, .int .i64 rs, .int .i64 ru] 56] (RB b (nn : Int) D :: L) S_w_3.out).blk
  have z_g_0_w_3 := XW.froz1 (Sep.front [Blk gm #[.int .i64 s, .int .i64 q, .slice A l.length c, .int .i64 kd, .int .i64 ep, .int .i64 it, .int .i64 is, .int .i64 rt, .int .i64 rs, .int .i64 ru] 56] (RB b (nn : Int) D :: L) S_w_3.out).blk
  clear S_w_2 c_gm_0_w_2 c_gm_1_w_2 c_gm_2_w_2 c_gm_3_w_2 c_gm_4_w_2 c_gm_5_w_2 c_gm_6_w_2 c_gm_7_w_2 c_gm_8_w_2 c_gm_9_w_2 z_gm_0_w_2 z_gm_1_w_2 z_gm_2_w_2 z_gm_3_w_2 z_gm_4_w_2 z_gm_5_w_2 z_gm_6_w_2 z_gm_7_w_2 z_gm_8_w_2 z_gm_9_w_2 c_g_0_w_2 z_g_0_w_2
  clear hb
  refine hK.out _ _ ⟨c_gm_0_w_3, c_gm_1_w_3, c_gm_2_w_3, c_gm_3_w_3, c_gm_4_w_3, c_gm_5_w_3, c_gm_6_w_3, c_gm_7_w_3, c_gm_8_w_3, c_gm_9_w_3, c_g_0_w_3⟩ (fun hHeld => ?_)
  clear hK K
  refine norm_ (a' := ?_) ?_ ?_
  rotate_left
  · show Act.put _ (some 6) _ = _
    simp only [Act.put, List.setIfInBounds_toArray, List.set_cons_zero, List.set_cons_succ, i64_w, i32_w]
    rfl
  refine pure_ (i := 2) (N := some 7) (v := ?_) (a' := ?_) Fs3 rfl rfl (by kernel_rfl) (fun _ _ _ h => h) (Or.inl ⟨by rfl, ?_⟩) ?_ ?_
  rotate_left
  · intro w'
    go_simp
    with_reducible rfl
  rotate_left
  · simp only [Act.put, List.setIfInBounds_toArray, List.set_cons_zero, List.set_cons_succ, i64_w, i32_w]
    rfl
  refine pure_ (i := 3) (N := some 8) (v := ?_) (a' := ?_) Fs4 rfl rfl (by kernel_rfl) (fun _ _ _ h => h) (Or.inl ⟨by rfl, ?_⟩) ?_ ?_
  rotate_left
  · intro w'
    go_simp
    with_reducible rfl
  rotate_left
  · simp only [Act.put, List.setIfInBounds_toArray, List.set_cons_zero, List.set_cons_succ, i64_w, i32_w]
    rfl
  refine pure_ (i := 4) (N := some 9) (v := ?_) (a' := ?_) Fs5 rfl rfl (by kernel_rfl) (fun _ _ _ h => h) (Or.inl ⟨by rfl, ?_⟩) ?_ ?_
  rotate_left
  · intro w'
    go_simp
    with_reducible rfl
  rotate_left
  · simp only [Act.put, List.setIfInBounds_toArray, List.set_cons_zero, List.set_cons_succ, i64_w, i32_w]
    rfl
  refine pure_ (i := 7) (N := some 12) (v := ?_) (a' := ?_) Fs21 rfl rfl (by kernel_rfl) (fun _ _ _ h => h) (Or.inl ⟨by rfl, ?_⟩) ?_ ?_
  rotate_left
  · intro w'
    go_simp
    with_reducible rfl
  rotate_left
  · simp only [Act.put, List.setIfInBounds_toArray, List.set_cons_zero, List.set_cons_succ, i64_w, i32_w]
    rfl
  refine pure_ (i := 8) (N := some 13) (v := ?_) (a' := ?_) Fs22 rfl rfl (by kernel_rfl) (fun _ _ _ h => h) (Or.inl ⟨by rfl, ?_⟩) ?_ ?_
  rotate_left
  · intro w'
    go_simp
    with_reducible rfl
  rotate_left
  · simp only [Act.put, List.setIfInBounds_toArray, List.set_cons_zero, List.set_cons_succ, i64_w, i32_w]
    rfl
  refine pure_ (i := 9) (N := some 14) (v := ?_) (a' := ?_) Fs23 rfl rfl (by kernel_rfl) (fun _ _ _ h => h) (Or.inl ⟨by rfl, ?_⟩) ?_ ?_
  rotate_left
  · intro w'
    go_simp
    with_reducible rfl
  rotate_left
  · simp only [Act.put, List.setIfInBounds_toArray, List.set_cons_zero, List.set_cons_succ, i64_w, i32_w]
    rfl
  refine take_ (i := 5) (N := some 10) (v := ?_) (a' := ?_) Fs24 rfl rfl (by kernel_rfl) (fun _ _ _ h => h) (Or.inl ⟨by rfl, ?_⟩) hHeld ?_ ?_
  rotate_left
  · rintro w' ⟨s0, s1, s2, s3, s4, s5, s6, s7, s8, s9, s10⟩
    go_simp
    with_reducible rfl
  rotate_left
  · simp only [Act.put, List.setIfInBounds_toArray, List.set_cons_zero, List.set_cons_succ, i64_w, i32_w]
    rfl
  refine pure_ (i := 6) (N := some 11) (v := ?_) (a' := ?_) Fs10 rfl rfl (by kernel_rfl) (fun _ _ _ h => h) (Or.inl ⟨by rfl, ?_⟩) ?_ ?_
  rotate_left
  · intro w'
    go_simp
    with_reducible rfl
  rotate_left
  · simp only [Act.put, List.setIfInBounds_toArray, List.set_cons_zero, List.set_cons_succ, i64_w, i32_w]
    rfl
  refine take_ (i := 10) (N := some 15) (v := ?_) (a' := ?_) Fs11 rfl rfl (by kernel_rfl) (fun _ _ _ h => h) (Or.inl ⟨by rfl, ?_⟩) hHeld ?_ ?_
  rotate_left
  · rintro w' ⟨s0, s1, s2, s3, s4, s5, s6, s7, s8, s9, s10⟩
    go_simp
    with_reducible rfl
  rotate_left
  · simp only [Act.put, List.setIfInBounds_toArray, List.set_cons_zero, List.set_cons_succ, i64_w, i32_w]
    rfl
  refine pure_ (i := 11) (N := some 16) (v := ?_) (a' := ?_) Fs12 rfl rfl (by kernel_rfl) (fun _ _ _ h => h) (Or.inl ⟨by rfl, ?_⟩) ?_ ?_
  rotate_left
  · intro w'
    go_simp
    with_reducible rfl
  rotate_left
  · simp only [Act.put, List.setIfInBounds_toArray, List.set_cons_zero, List.set_cons_succ, i64_w, i32_w]
    rfl
  refine pure_ (i := 12) (N := some 17) (v := ?_) (a' := ?_) Fs13 rfl rfl (by kernel_rfl) (fun _ _ _ h => h) (Or.inl ⟨by rfl, ?_⟩) ?_ ?_
  rotate_left
  · intro w'
    go_simp
    with_reducible rfl
  rotate_left
  · simp only [Act.put, List.setIfInBounds_toArray, List.set_cons_zero, List.set_cons_succ, i64_w, i32_w]
    rfl
  refine pure_ (i := 13) (N := some 18) (v := ?_) (a' := ?_) Fs14 rfl rfl (by kernel_rfl) (fun _ _ _ h => h) (Or.inl ⟨by rfl, ?_⟩) ?_ ?_
  rotate_left
  · intro w'
    go_simp
    with_reducible rfl
  rotate_left
  · simp only [Act.put, List.setIfInBounds_toArray, List.set_cons_zero, List.set_cons_succ, i64_w, i32_w]
    rfl
  refine pure_ (i := 14) (N := some 19) (v := ?_) (a' := ?_) Fs15 rfl rfl (by kernel_rfl) (fun _ _ _ h => h) (Or.inl ⟨by rfl, ?_⟩) ?_ ?_
  rotate_left
  · intro w'
    go_simp
    with_reducible rfl
  rotate_left
  · simp only [Act.put, List.setIfInBounds_toArray, List.set_cons_zero, List.set_cons_succ, i64_w, i32_w]
    rfl
  refine pure_ (i := 15) (N := some 20) (v := ?_) (a' := ?_) Fs16 rfl rfl (by kernel_rfl) (fun _ _ _ h => h) (Or.inl ⟨by rfl, ?_⟩) ?_ ?_
  rotate_left
  · intro w'
    go_simp
    with_reducible rfl
  rotate_left
  · simp only [Act.put, List.setIfInBounds_toArray, List.set_cons_zero, List.set_cons_succ, i64_w, i32_w]
    rfl
  refine pure_ (i := 16) (N := some 21) (v := ?_) (a' := ?_) Fs17 rfl rfl (by kernel_rfl) (fun _ _ _ h => h) (Or.inl ⟨by rfl, ?_⟩) ?_ ?_
  rotate_left
  · intro w'
    go_simp
    with_reducible rfl
  rotate_left
  · simp only [Act.put, List.setIfInBounds_toArray, List.set_cons_zero, List.set_cons_succ, i64_w, i32_w]
    rfl
  refine take_ (i := 17) (N := some 22) (v := ?_) (a' := ?_) Fs18 rfl rfl (by kernel_rfl) (fun _ _ _ h => h) (Or.inl ⟨by rfl, ?_⟩) hHeld ?_ ?_
  rotate_left
  · rintro w' ⟨s0, s1, s2, s3, s4, s5, s6, s7, s8, s9, s10⟩
    go_simp
    with_reducible rfl
  rotate_left
  · simp only [Act.put, List.setIfInBounds_toArray, List.set_cons_zero, List.set_cons_succ, i64_w, i32_w]
    rfl
  refine pure_ (i := 18) (N := some 23) (v := ?_) (a' := ?_) Fs19 rfl rfl (by kernel_rfl) (fun _ _ _ h => h) (Or.inl ⟨by rfl, ?_⟩) ?_ ?_
  rotate_left
  · intro w'
    go_simp
    with_reducible rfl
  rotate_left
  · simp only [Act.put, List.setIfInBounds_toArray, List.set_cons_zero, List.set_cons_succ, i64_w, i32_w]
    rfl
  refine pure_ (i := 19) (N := some 24) (v := ?_) (a' := ?_) Fs20 rfl rfl (by kernel_rfl) (fun _ _ _ h => h) (Or.inl ⟨by rfl, ?_⟩) ?_ ?_
  rotate_left
  · intro w'
    go_simp
    with_reducible rfl
  rotate_left
  · simp only [Act.put, List.setIfInBounds_toArray, List.set_cons_zero, List.set_cons_succ, i64_w, i32_w]
    rfl
  refine done_ (by kernel_rfl) ?_
  go_wp2
  go_ret
  exact ⟨rfl, RA.close (Sep.right S_w_3.out), B_w_3.out⟩
set_option maxHeartbeats 8000000 in
set_option maxRecDepth 100000 in
theorem rmove_d {base g : Nat} {n : Int} {D : Int → Nat → Int} {L : List Assn} (w : World) (h : Sep base (Star (RA g n D) (Stars L)) w) (hbase : base ≤ w.heap.size) (hn : n ≤ 16) (hn0 : 0 ≤ n)
    (s q : Int) (A : Option Addr) (c : Nat) (l : List Int) (kd ep it is rt rs ru : Int) (hC : (Kd.int .i64).C w A l.length l) (hc : l.length ≤ c) (hk : mesg_Check.f s q l kd ep it is rt rs ru = some 0) (hl : (l.length : Int) = n) (hkd : kd = 5) (hs : 0 ≤ s) (hs2 : s < n) (hq : q ≤ D s 7) :
    Calls Try.prog 29 #[.pointer (some ⟨g, 0, none⟩), .agg #[.int .i64 s, .int .i64 q, .slice A l.length c, .int .i64 kd, .int .i64 ep, .int .i64 it, .int .i64 is, .int .i64 rt, .int .i64 rs, .int .i64 ru]] w fun en w' => en = .returned (.int .i64 7) ∧ Sep base (Star (RA g n D) (Stars L)) w' ∧ Below base w w' := by
  obtain ⟨nn, rfl⟩ := Int.eq_ofNat_of_zero_le hn0
  obtain ⟨b, h⟩ := RA.open h
  have c0 := XW.cells1 h.blk
  rw [Int.toNat_natCast] at c0 h
  have hcs := fun i => RB.cells h.swap i
  have hu52 := Try.underlying52
  have hu54 := Try.underlying54
  have hu56 := Try.underlying56
  have hu98 := Try.underlying98
  have B_w := Aside0.mk (Below.refl base w)
  have S_w : Aside0 (Sep base (Stars (Blk g #[.slice (some ⟨b, 0, none⟩) nn nn] 96 :: RB b (nn : Int) D :: L)) w) := ⟨h⟩
  have HB := Aside0.mk hbase
  have HC := Aside0.mk hC
  have HK := Aside0.mk hk
  clear h hbase hC hk
  have bl : ((l.length : Int) != (nn : Int)) = false := bne_eq_false_iff_eq.mpr hl
  have bl2 : (l.length != nn) = false := bne_eq_false_iff_eq.mpr (by omega)
  clear hl
  subst hkd
  obtain ⟨i, rfl⟩ := Int.eq_ofNat_of_zero_le hs
  obtain ⟨d0, d1, d2, d3⟩ := hcs i hs2
  have hi2 : (i : Int) < (nn : Int) := hs2
  have hi3 : i < nn := by omega
  have hi0 : (0 : Int) ≤ (i : Int) := by omega
  clear hcs hs hs2
  have c_g_0_w := XW.cells1 (Sep.front [] (RB b (nn : Int) D :: L) S_w.out).blk
  have z_g_0_w := XW.froz1 (Sep.front [] (RB b (nn : Int) D :: L) S_w.out).blk
  go_enter Try.func29, Try.ntmps29
  go_upto_region 1 with (first | ((with_reducible refine gate_dst (N := 3) rfl ?_); (try (refine gate_guard (by rfl) ?_; dsimp only)); refine box_event ?hg (N := 3) ?hd (cs := #[.int .i64 (i : Int), .int .i64 q, .slice A l.length c, .int .i64 5, .int .i64 ep, .int .i64 it, .int .i64 is, .int .i64 rt, .int .i64 rs, .int .i64 ru]) (t := 56) ?hr ?_; (case hd => rfl); (case hg => rfl); (case hr => first | (go_simp; done) | (go_simp; rfl)); intro gm hg_gm w_1 hX hb; have B_w_1 : Aside0 (Below (base) w w_1) := ⟨below_then B_w.out (Nat.le_trans (HB.out) B_w.out.size) hb⟩; have S_w_1 : Aside0 (Sep (base) (Stars (Blk gm #[.int .i64 (i : Int), .int .i64 q, .slice A l.length c, .int .i64 5, .int .i64 ep, .int .i64 it, .int .i64 is, .int .i64 rt, .int .i64 rs, .int .i64 ru] 56 :: Blk g #[.slice (some ⟨b, 0, none⟩) nn nn] 96 :: RB b (nn : Int) D :: L)) w_1) := ⟨Sep.new_blk S_w.out (Nat.le_trans (HB.out) B_w.out.size) hg_gm hb hX⟩; have Q_w_1 : Aside0 (Below w.heap.size w w_1) := ⟨hb⟩; have d0_w_1 := pw_cell_below Q_w_1.out d0; have d1_w_1 := pw_cell_below Q_w_1.out d1; have d2_w_1 := pw_cell_below Q_w_1.out d2; have d3_w_1 := pw_cell_below Q_w_1.out d3; obtain ⟨c_gm_0_w_1, c_gm_1_w_1, c_gm_2_w_1, c_gm_3_w_1, c_gm_4_w_1, c_gm_5_w_1, c_gm_6_w_1, c_gm_7_w_1, c_gm_8_w_1, c_gm_9_w_1⟩ := XW.cells10 (Sep.front [] (Blk g #[.slice (some ⟨b, 0, none⟩) nn nn] 96 :: RB b (nn : Int) D :: L) S_w_1.out).blk; obtain ⟨z_gm_0_w_1, z_gm_1_w_1, z_gm_2_w_1, z_gm_3_w_1, z_gm_4_w_1, z_gm_5_w_1, z_gm_6_w_1, z_gm_7_w_1, z_gm_8_w_1, z_gm_9_w_1⟩ := XW.froz10 (Sep.front [] (Blk g #[.slice (some ⟨b, 0, none⟩) nn nn] 96 :: RB b (nn : Int) D :: L) S_w_1.out).blk; have c_g_0_w_1 := XW.cells1 (Sep.front [Blk gm #[.int .i64 (i : Int), .int .i64 q, .slice A l.length c, .int .i64 5, .int .i64 ep, .int .i64 it, .int .i64 is, .int .i64 rt, .int .i64 rs, .int .i64 ru] 56] (RB b (nn : Int) D :: L) S_w_1.out).blk; have z_g_0_w_1 := XW.froz1 (Sep.front [Blk gm #[.int .i64 (i : Int), .int .i64 q, .slice A l.length c, .int .i64 5, .int .i64 ep, .int .i64 it, .int .i64 is, .int .i64 rt, .int .i64 rs, .int .i64 ru] 56] (RB b (nn : Int) D :: L) S_w_1.out).blk; clear S_w c_g_0_w z_g_0_w; clear hX hb hg_gm))
  refine start_ (n := 20) (S := fun w' => w'.cell? ⟨gm, 0, none⟩ = some (.int .i64 (i : Int)) ∧ w'.cell? ⟨gm, 1, none⟩ = some (.int .i64 q) ∧ w'.cell? ⟨gm, 2, none⟩ = some (.slice A l.length c) ∧ w'.cell? ⟨gm, 3, none⟩ = some (.int .i64 5) ∧ w'.cell? ⟨gm, 4, none⟩ = some (.int .i64 ep) ∧ w'.cell? ⟨gm, 5, none⟩ = some (.int .i64 it) ∧ w'.cell? ⟨gm, 6, none⟩ = some (.int .i64 is) ∧ w'.cell? ⟨gm, 7, none⟩ = some (.int .i64 rt) ∧ w'.cell? ⟨gm, 8, none⟩ = some (.int .i64 rs) ∧ w'.cell? ⟨gm, 9, none⟩ = some (.int .i64 ru) ∧ w'.cell? ⟨g, 0, none⟩ = some (.slice (some ⟨b, 0, none⟩) nn nn)) (ds := []) Fs0 (by kernel_rfl) rfl rfl ⟨c_gm_0_w_1, c_gm_1_w_1, c_gm_2_w_1, c_gm_3_w_1, c_gm_4_w_1, c_gm_5_w_1, c_gm_6_w_1, c_gm_7_w_1, c_gm_8_w_1, c_gm_9_w_1, c_g_0_w_1⟩ (fun hHeld => ?_)
  generalize hdw : w_1.drew = w_2 at hHeld ⊢
  have HB_w_2 : Aside0 (Below w_1.heap.size w_1 w_2) := ⟨by rw [← hdw]; exact below_drew1 (Below.refl _ _)⟩
  clear hdw
  have B_w_2 : Aside0 (Below (base) w w_2) := ⟨below_then B_w_1.out (Nat.le_trans (HB.out) B_w_1.out.size) HB_w_2.out⟩
  have S_w_2 : Aside0 (Sep (base) (Stars (Blk gm #[.int .i64 (i : Int), .int .i64 q, .slice A l.length c, .int .i64 5, .int .i64 ep, .int .i64 it, .int .i64 is, .int .i64 rt, .int .i64 rs, .int .i64 ru] 56 :: Blk g #[.slice (some ⟨b, 0, none⟩) nn nn] 96 :: RB b (nn : Int) D :: L)) w_2) := ⟨Sep.below S_w_1.out HB_w_2.out⟩
  have Q_w_2 : Aside0 (Below w.heap.size w w_2) := ⟨below_step Q_w_1.out HB_w_2.out⟩
  have d0_w_2 := pw_cell_below Q_w_2.out d0
  have d1_w_2 := pw_cell_below Q_w_2.out d1
  have d2_w_2 := pw_cell_below Q_w_2.out d2
  have d3_w_2 := pw_cell_below Q_w_2.out d3
  obtain ⟨c_gm_0_w_2, c_gm_1_w_2, c_gm_2_w_2, c_gm_3_w_2, c_gm_4_w_2, c_gm_5_w_2, c_gm_6_w_2, c_gm_7_w_2, c_gm_8_w_2, c_gm_9_w_2⟩ := XW.cells10 (Sep.front [] (Blk g #[.slice (some ⟨b, 0, none⟩) nn nn] 96 :: RB b (nn : Int) D :: L) S_w_2.out).blk
  obtain ⟨z_gm_0_w_2, z_gm_1_w_2, z_gm_2_w_2, z_gm_3_w_2, z_gm_4_w_2, z_gm_5_w_2, z_gm_6_w_2, z_gm_7_w_2, z_gm_8_w_2, z_gm_9_w_2⟩ := XW.froz10 (Sep.front [] (Blk g #[.slice (some ⟨b, 0, none⟩) nn nn] 96 :: RB b (nn : Int) D :: L) S_w_2.out).blk
  have c_g_0_w_2 := XW.cells1 (Sep.front [Blk gm #[.int .i64 (i : Int), .int .i64 q, .slice A l.length c, .int .i64 5, .int .i64 ep, .int .i64 it, .int .i64 is, .int .i64 rt, .int .i64 rs, .int .i64 ru] 56] (RB b (nn : Int) D :: L) S_w_2.out).blk
  have z_g_0_w_2 := XW.froz1 (Sep.front [Blk gm #[.int .i64 (i : Int), .int .i64 q, .slice A l.length c, .int .i64 5, .int .i64 ep, .int .i64 it, .int .i64 is, .int .i64 rt, .int .i64 rs, .int .i64 ru] 56] (RB b (nn : Int) D :: L) S_w_2.out).blk
  clear S_w_1 d0_w_1 d1_w_1 d2_w_1 d3_w_1 c_gm_0_w_1 c_gm_1_w_1 c_gm_2_w_1 c_gm_3_w_1 c_gm_4_w_1 c_gm_5_w_1 c_gm_6_w_1 c_gm_7_w_1 c_gm_8_w_1 c_gm_9_w_1 z_gm_0_w_1 z_gm_1_w_1 z_gm_2_w_1 z_gm_3_w_1 z_gm_4_w_1 z_gm_5_w_1 z_gm_6_w_1 z_gm_7_w_1 z_gm_8_w_1 z_gm_9_w_1 c_g_0_w_1 z_g_0_w_1
  refine take_ (i := 0) (N := some 5) (v := ?_) (a' := ?_) Fs1 rfl rfl (by kernel_rfl) (fun _ _ _ h => h) (Or.inl ⟨by rfl, ?_⟩) hHeld ?_ ?_
  rotate_left
  · rintro w' ⟨s0, s1, s2, s3, s4, s5, s6, s7, s8, s9, s10⟩
    go_simp
    with_reducible rfl
  rotate_left
  · simp only [Act.put, List.setIfInBounds_toArray, List.set_cons_zero, List.set_cons_succ, i64_w, i32_w]
    rfl
  refine one_ (i := 1) (N := some 6) Fs2 rfl rfl (by kernel_rfl) (by decide) (fun K hK => ?_)
  refine goes_ Try.func54 (by kernel_rfl) rfl #[.agg #[.int .i64 (i : Int), .int .i64 q, .slice A l.length c, .int .i64 5, .int .i64 ep, .int .i64 it, .int .i64 is, .int .i64 rt, .int .i64 rs, .int .i64 ru]] (by rfl) rfl rfl (by simp only [List.map_toArray, List.map_cons, List.map_nil]; rfl) ?_
  with_reducible refine (ref_check (i : Int) q A c l 5 ep it is rt rs ru _ (Kd.C_below HC.out Q_w_2.out) hc 0 HK.out).mono ?_
  rintro e w_3 ⟨rfl, hb⟩
  refine ⟨_, rfl, ?_⟩
  have B_w_3 : Aside0 (Below (base) w w_3) := ⟨below_then B_w_2.out (Nat.le_trans (HB.out) B_w_2.out.size) hb⟩
  have S_w_3 : Aside0 (Sep (base) (Stars (Blk gm #[.int .i64 (i : Int), .int .i64 q, .slice A l.length c, .int .i64 5, .int .i64 ep, .int .i64 it, .int .i64 is, .int .i64 rt, .int .i64 rs, .int .i64 ru] 56 :: Blk g #[.slice (some ⟨b, 0, none⟩) nn nn] 96 :: RB b (nn : Int) D :: L)) w_3) := ⟨Sep.below S_w_2.out hb⟩
  have Q_w_3 : Aside0 (Below w.heap.size w w_3) := ⟨below_step Q_w_2.out hb⟩
  have d0_w_3 := pw_cell_below Q_w_3.out d0
  have d1_w_3 := pw_cell_below Q_w_3.out d1
  have d2_w_3 := pw_cell_below Q_w_3.out d2
  have d3_w_3 := pw_cell_below Q_w_3.out d3
  obtain ⟨c_gm_0_w_3, c_gm_1_w_3, c_gm_2_w_3, c_gm_3_w_3, c_gm_4_w_3, c_gm_5_w_3, c_gm_6_w_3, c_gm_7_w_3, c_gm_8_w_3, c_gm_9_w_3⟩ := XW.cells10 (Sep.front [] (Blk g #[.slice (some ⟨b, 0, none⟩) nn nn] 96 :: RB b (nn : Int) D :: L) S_w_3.out).blk
  obtain ⟨z_gm_0_w_3, z_gm_1_w_3, z_gm_2_w_3, z_gm_3_w_3, z_gm_4_w_3, z_gm_5_w_3, z_gm_6_w_3, z_gm_7_w_3, z_gm_8_w_3, z_gm_9_w_3⟩ := XW.froz10 (Sep.front [] (Blk g #[.slice (some ⟨b, 0, none⟩) nn nn] 96 :: RB b (nn : Int) D :: L) S_w_3.out).blk
  have c_g_0_w_3 := XW.cells1 (Sep.front [Blk gm #[.int .i64 (i : Int), .int .i64 q, .slice A l.length c, .int .i64 5, .int .i64 ep, .int .i64 it, .int .i64 is, .int .i64 rt, .int .i64 rs, .int .i64 ru] 56] (RB b (nn : Int) D :: L) S_w_3.out).blk
  have z_g_0_w_3 := XW.froz1 (Sep.front [Blk gm #[.int .i64 (i : Int), .int .i64 q, .slice A l.length c, .int .i64 5, .int .i64 ep, .int .i64 it, .int .i64 is, .int .i64 rt, .int .i64 rs, .int .i64 ru] 56] (RB b (nn : Int) D :: L) S_w_3.out).blk
  clear S_w_2 d0_w_2 d1_w_2 d2_w_2 d3_w_2 c_gm_0_w_2 c_gm_1_w_2 c_gm_2_w_2 c_gm_3_w_2 c_gm_4_w_2 c_gm_5_w_2 c_gm_6_w_2 c_gm_7_w_2 c_gm_8_w_2 c_gm_9_w_2 z_gm_0_w_2 z_gm_1_w_2 z_gm_2_w_2 z_gm_3_w_2 z_gm_4_w_2 z_gm_5_w_2 z_gm_6_w_2 z_gm_7_w_2 z_gm_8_w_2 z_gm_9_w_2 c_g_0_w_2 z_g_0_w_2
  clear hb
  refine hK.out _ _ ⟨c_gm_0_w_3, c_gm_1_w_3, c_gm_2_w_3, c_gm_3_w_3, c_gm_4_w_3, c_gm_5_w_3, c_gm_6_w_3, c_gm_7_w_3, c_gm_8_w_3, c_gm_9_w_3, c_g_0_w_3⟩ (fun hHeld => ?_)
  clear hK K
  refine norm_ (a' := ?_) ?_ ?_
  rotate_left
  · show Act.put _ (some 6) _ = _
    simp only [Act.put, List.setIfInBounds_toArray, List.set_cons_zero, List.set_cons_succ, i64_w, i32_w]
    rfl
  refine pure_ (i := 2) (N := some 7) (v := ?_) (a' := ?_) Fs3 rfl rfl (by kernel_rfl) (fun _ _ _ h => h) (Or.inl ⟨by rfl, ?_⟩) ?_ ?_
  rotate_left
  · intro w'
    go_simp
    with_reducible rfl
  rotate_left
  · simp only [Act.put, List.setIfInBounds_toArray, List.set_cons_zero, List.set_cons_succ, i64_w, i32_w]
    rfl
  refine pure_ (i := 3) (N := some 8) (v := ?_) (a' := ?_) Fs4 rfl rfl (by kernel_rfl) (fun _ _ _ h => h) (Or.inl ⟨by rfl, ?_⟩) ?_ ?_
  rotate_left
  · intro w'
    go_simp
    with_reducible rfl
  rotate_left
  · simp only [Act.put, List.setIfInBounds_toArray, List.set_cons_zero, List.set_cons_succ, i64_w, i32_w]
    rfl
  refine pure_ (i := 4) (N := some 9) (v := ?_) (a' := ?_) Fs5 rfl rfl (by kernel_rfl) (fun _ _ _ h => h) (Or.inl ⟨by rfl, ?_⟩) ?_ ?_
  rotate_left
  · intro w'
    go_simp
    with_reducible rfl
  rotate_left
  · simp only [Act.put, List.setIfInBounds_toArray, List.set_cons_zero, List.set_cons_succ, i64_w, i32_w]
    rfl
  refine pure_ (i := 7) (N := some 12) (v := ?_) (a' := ?_) Fs21 rfl rfl (by kernel_rfl) (fun _ _ _ h => h) (Or.inl ⟨by rfl, ?_⟩) ?_ ?_
  rotate_left
  · intro w'
    go_simp
    with_reducible rfl
  rotate_left
  · simp only [Act.put, List.setIfInBounds_toArray, List.set_cons_zero, List.set_cons_succ, i64_w, i32_w]
    rfl
  refine pure_ (i := 8) (N := some 13) (v := ?_) (a' := ?_) Fs22 rfl rfl (by kernel_rfl) (fun _ _ _ h => h) (Or.inl ⟨by rfl, ?_⟩) ?_ ?_
  rotate_left
  · intro w'
    go_simp
    with_reducible rfl
  rotate_left
  · simp only [Act.put, List.setIfInBounds_toArray, List.set_cons_zero, List.set_cons_succ, i64_w, i32_w]
    rfl
  refine pure_ (i := 9) (N := some 14) (v := ?_) (a' := ?_) Fs23 rfl rfl (by kernel_rfl) (fun _ _ _ h => h) (Or.inl ⟨by rfl, ?_⟩) ?_ ?_
  rotate_left
  · intro w'
    go_simp
    with_reducible rfl
  rotate_left
  · simp only [Act.put, List.setIfInBounds_toArray, List.set_cons_zero, List.set_cons_succ, i64_w, i32_w]
    rfl
  refine take_ (i := 5) (N := some 10) (v := ?_) (a' := ?_) Fs24 rfl rfl (by kernel_rfl) (fun _ _ _ h => h) (Or.inl ⟨by rfl, ?_⟩) hHeld ?_ ?_
  rotate_left
  · rintro w' ⟨s0, s1, s2, s3, s4, s5, s6, s7, s8, s9, s10⟩
    go_simp
    with_reducible rfl
  rotate_left
  · simp only [Act.put, List.setIfInBounds_toArray, List.set_cons_zero, List.set_cons_succ, i64_w, i32_w]
    rfl
  refine pure_ (i := 6) (N := some 11) (v := ?_) (a' := ?_) Fs10 rfl rfl (by kernel_rfl) (fun _ _ _ h => h) (Or.inl ⟨by rfl, ?_⟩) ?_ ?_
  rotate_left
  · intro w'
    go_simp
    with_reducible rfl
  rotate_left
  · simp only [Act.put, List.setIfInBounds_toArray, List.set_cons_zero, List.set_cons_succ, i64_w, i32_w]
    rfl
  refine take_ (i := 10) (N := some 15) (v := ?_) (a' := ?_) Fs11 rfl rfl (by kernel_rfl) (fun _ _ _ h => h) (Or.inl ⟨by rfl, ?_⟩) hHeld ?_ ?_
  rotate_left
  · rintro w' ⟨s0, s1, s2, s3, s4, s5, s6, s7, s8, s9, s10⟩
    go_simp
    with_reducible rfl
  rotate_left
  · simp only [Act.put, List.setIfInBounds_toArray, List.set_cons_zero, List.set_cons_succ, i64_w, i32_w]
    rfl
  refine pure_ (i := 11) (N := some 16) (v := ?_) (a' := ?_) Fs12 rfl rfl (by kernel_rfl) (fun _ _ _ h => h) (Or.inl ⟨by rfl, ?_⟩) ?_ ?_
  rotate_left
  · intro w'
    go_simp
    with_reducible rfl
  rotate_left
  · simp only [Act.put, List.setIfInBounds_toArray, List.set_cons_zero, List.set_cons_succ, i64_w, i32_w]
    rfl
  refine pure_ (i := 12) (N := some 17) (v := ?_) (a' := ?_) Fs13 rfl rfl (by kernel_rfl) (fun _ _ _ h => h) (Or.inl ⟨by rfl, ?_⟩) ?_ ?_
  rotate_left
  · intro w'
    go_simp
    with_reducible rfl
  rotate_left
  · simp only [Act.put, List.setIfInBounds_toArray, List.set_cons_zero, List.set_cons_succ, i64_w, i32_w]
    rfl
  refine pure_ (i := 13) (N := some 18) (v := ?_) (a' := ?_) Fs14 rfl rfl (by kernel_rfl) (fun _ _ _ h => h) (Or.inl ⟨by rfl, ?_⟩) ?_ ?_
  rotate_left
  · intro w'
    go_simp
    with_reducible rfl
  rotate_left
  · simp only [Act.put, List.setIfInBounds_toArray, List.set_cons_zero, List.set_cons_succ, i64_w, i32_w]
    rfl
  refine pure_ (i := 14) (N := some 19) (v := ?_) (a' := ?_) Fs15 rfl rfl (by kernel_rfl) (fun _ _ _ h => h) (Or.inl ⟨by rfl, ?_⟩) ?_ ?_
  rotate_left
  · intro w'
    go_simp
    with_reducible rfl
  rotate_left
  · simp only [Act.put, List.setIfInBounds_toArray, List.set_cons_zero, List.set_cons_succ, i64_w, i32_w]
    rfl
  refine pure_ (i := 15) (N := some 20) (v := ?_) (a' := ?_) Fs16 rfl rfl (by kernel_rfl) (fun _ _ _ h => h) (Or.inl ⟨by rfl, ?_⟩) ?_ ?_
  rotate_left
  · intro w'
    go_simp
    with_reducible rfl
  rotate_left
  · simp only [Act.put, List.setIfInBounds_toArray, List.set_cons_zero, List.set_cons_succ, i64_w, i32_w]
    rfl
  refine pure_ (i := 16) (N := some 21) (v := ?_) (a' := ?_) Fs17 rfl rfl (by kernel_rfl) (fun _ _ _ h => h) (Or.inl ⟨by rfl, ?_⟩) ?_ ?_
  rotate_left
  · intro w'
    go_simp
    with_reducible rfl
  rotate_left
  · simp only [Act.put, List.setIfInBounds_toArray, List.set_cons_zero, List.set_cons_succ, i64_w, i32_w]
    rfl
  refine take_ (i := 17) (N := some 22) (v := ?_) (a' := ?_) Fs18 rfl rfl (by kernel_rfl) (fun _ _ _ h => h) (Or.inl ⟨by rfl, ?_⟩) hHeld ?_ ?_
  rotate_left
  · rintro w' ⟨s0, s1, s2, s3, s4, s5, s6, s7, s8, s9, s10⟩
    go_simp
    with_reducible rfl
  rotate_left
  · simp only [Act.put, List.setIfInBounds_toArray, List.set_cons_zero, List.set_cons_succ, i64_w, i32_w]
    rfl
  refine pure_ (i := 18) (N := some 23) (v := ?_) (a' := ?_) Fs19 rfl rfl (by kernel_rfl) (fun _ _ _ h => h) (Or.inl ⟨by rfl, ?_⟩) ?_ ?_
  rotate_left
  · intro w'
    go_simp
    with_reducible rfl
  rotate_left
  · simp only [Act.put, List.setIfInBounds_toArray, List.set_cons_zero, List.set_cons_succ, i64_w, i32_w]
    rfl
  refine pure_ (i := 19) (N := some 24) (v := ?_) (a' := ?_) Fs20 rfl rfl (by kernel_rfl) (fun _ _ _ h => h) (Or.inl ⟨by rfl, ?_⟩) ?_ ?_
  rotate_left
  · intro w'
    go_simp
    with_reducible rfl
  rotate_left
  · simp only [Act.put, List.setIfInBounds_toArray, List.set_cons_zero, List.set_cons_succ, i64_w, i32_w]
    rfl
  refine done_ (by kernel_rfl) ?_
  go_wp2
  go_quiet (fail)
  go_wp2
  go_ret
  exact ⟨rfl, (RA.close (Sep.right S_w_3.out)).drewN _, pw_below_drewN B_w_3.out _⟩
set_option maxHeartbeats 8000000 in
set_option maxRecDepth 100000 in
theorem rmove_e {base g : Nat} {n : Int} {D : Int → Nat → Int} {L : List Assn} (w : World) (h : Sep base (Star (RA g n D) (Stars L)) w) (hbase : base ≤ w.heap.size) (hn : n ≤ 16) (hn0 : 0 ≤ n)
    (s q : Int) (A : Option Addr) (c : Nat) (l : List Int) (kd ep it is rt rs ru : Int) (hC : (Kd.int .i64).C w A l.length l) (hc : l.length ≤ c) (hk : mesg_Check.f s q l kd ep it is rt rs ru = some 0) (hl : (l.length : Int) = n) (hkd : kd = 5) (hs : 0 ≤ s) (hs2 : s < n) (hq : ¬ q ≤ D s 7) :
    Calls Try.prog 29 #[.pointer (some ⟨g, 0, none⟩), .agg #[.int .i64 s, .int .i64 q, .slice A l.length c, .int .i64 kd, .int .i64 ep, .int .i64 it, .int .i64 is, .int .i64 rt, .int .i64 rs, .int .i64 ru]] w fun en w' => en = .returned (.int .i64 0) ∧ Sep base (Star (RA g n (upd D s [kd, ep, it, is, rt, rs, ru, q])) (Stars L)) w' ∧ Below base w w' := by
  obtain ⟨nn, rfl⟩ := Int.eq_ofNat_of_zero_le hn0
  obtain ⟨b, h⟩ := RA.open h
  have c0 := XW.cells1 h.blk
  rw [Int.toNat_natCast] at c0 h
  have hcs := fun i => RB.cells h.swap i
  have hu52 := Try.underlying52
  have hu54 := Try.underlying54
  have hu56 := Try.underlying56
  have hu98 := Try.underlying98
  have B_w := Aside0.mk (Below.refl base w)
  have S_w : Aside0 (Sep base (Stars (Blk g #[.slice (some ⟨b, 0, none⟩) nn nn] 96 :: RB b (nn : Int) D :: L)) w) := ⟨h⟩
  have HB := Aside0.mk hbase
  have HC := Aside0.mk hC
  have HK := Aside0.mk hk
  clear h hbase hC hk
  have bl : ((l.length : Int) != (nn : Int)) = false := bne_eq_false_iff_eq.mpr hl
  have bl2 : (l.length != nn) = false := bne_eq_false_iff_eq.mpr (by omega)
  clear hl
  subst hkd
  obtain ⟨i, rfl⟩ := Int.eq_ofNat_of_zero_le hs
  obtain ⟨d0, d1, d2, d3⟩ := hcs i hs2
  have hi2 : (i : Int) < (nn : Int) := hs2
  have hi3 : i < nn := by omega
  have hi0 : (0 : Int) ≤ (i : Int) := by omega
  clear hcs hs hs2
  have c_g_0_w := XW.cells1 (Sep.front [] (RB b (nn : Int) D :: L) S_w.out).blk
  have z_g_0_w := XW.froz1 (Sep.front [] (RB b (nn : Int) D :: L) S_w.out).blk
  go_enter Try.func29, Try.ntmps29
  go_upto_region 1 with (first | ((with_reducible refine gate_dst (N := 3) rfl ?_); (try (refine gate_guard (by rfl) ?_; dsimp only)); refine box_event ?hg (N := 3) ?hd (cs := #[.int .i64 (i : Int), .int .i64 q, .slice A l.length c, .int .i64 5, .int .i64 ep, .int .i64 it, .int .i64 is, .int .i64 rt, .int .i64 rs, .int .i64 ru]) (t := 56) ?hr ?_; (case hd => rfl); (case hg => rfl); (case hr => first | (go_simp; done) | (go_simp; rfl)); intro gm hg_gm w_1 hX hb; have B_w_1 : Aside0 (Below (base) w w_1) := ⟨below_then B_w.out (Nat.le_trans (HB.out) B_w.out.size) hb⟩; have S_w_1 : Aside0 (Sep (base) (Stars (Blk gm #[.int .i64 (i : Int), .int .i64 q, .slice A l.length c, .int .i64 5, .int .i64 ep, .int .i64 it, .int .i64 is, .int .i64 rt, .int .i64 rs, .int .i64 ru] 56 :: Blk g #[.slice (some ⟨b, 0, none⟩) nn nn] 96 :: RB b (nn : Int) D :: L)) w_1) := ⟨Sep.new_blk S_w.out (Nat.le_trans (HB.out) B_w.out.size) hg_gm hb hX⟩; have Q_w_1 : Aside0 (Below w.heap.size w w_1) := ⟨hb⟩; have d0_w_1 := pw_cell_below Q_w_1.out d0; have d1_w_1 := pw_cell_below Q_w_1.out d1; have d2_w_1 := pw_cell_below Q_w_1.out d2; have d3_w_1 := pw_cell_below Q_w_1.out d3; obtain ⟨c_gm_0_w_1, c_gm_1_w_1, c_gm_2_w_1, c_gm_3_w_1, c_gm_4_w_1, c_gm_5_w_1, c_gm_6_w_1, c_gm_7_w_1, c_gm_8_w_1, c_gm_9_w_1⟩ := XW.cells10 (Sep.front [] (Blk g #[.slice (some ⟨b, 0, none⟩) nn nn] 96 :: RB b (nn : Int) D :: L) S_w_1.out).blk; obtain ⟨z_gm_0_w_1, z_gm_1_w_1, z_gm_2_w_1, z_gm_3_w_1, z_gm_4_w_1, z_gm_5_w_1, z_gm_6_w_1, z_gm_7_w_1, z_gm_8_w_1, z_gm_9_w_1⟩ := XW.froz10 (Sep.front [] (Blk g #[.slice (some ⟨b, 0, none⟩) nn nn] 96 :: RB b (nn : Int) D :: L) S_w_1.out).blk; have c_g_0_w_1 := XW.cells1 (Sep.front [Blk gm #[.int .i64 (i : Int), .int .i64 q, .slice A l.length c, .int .i64 5, .int .i64 ep, .int .i64 it, .int .i64 is, .int .i64 rt, .int .i64 rs, .int .i64 ru] 56] (RB b (nn : Int) D :: L) S_w_1.out).blk; have z_g_0_w_1 := XW.froz1 (Sep.front [Blk gm #[.int .i64 (i : Int), .int .i64 q, .slice A l.length c, .int .i64 5, .int .i64 ep, .int .i64 it, .int .i64 is, .int .i64 rt, .int .i64 rs, .int .i64 ru] 56] (RB b (nn : Int) D :: L) S_w_1.out).blk; clear S_w c_g_0_w z_g_0_w; clear hX hb hg_gm))
  refine start_ (n := 20) (S := fun w' => w'.cell? ⟨gm, 0, none⟩ = some (.int .i64 (i : Int)) ∧ w'.cell? ⟨gm, 1, none⟩ = some (.int .i64 q) ∧ w'.cell? ⟨gm, 2, none⟩ = some (.slice A l.length c) ∧ w'.cell? ⟨gm, 3, none⟩ = some (.int .i64 5) ∧ w'.cell? ⟨gm, 4, none⟩ = some (.int .i64 ep) ∧ w'.cell? ⟨gm, 5, none⟩ = some (.int .i64 it) ∧ w'.cell? ⟨gm, 6, none⟩ = some (.int .i64 is) ∧ w'.cell? ⟨gm, 7, none⟩ = some (.int .i64 rt) ∧ w'.cell? ⟨gm, 8, none⟩ = some (.int .i64 rs) ∧ w'.cell? ⟨gm, 9, none⟩ = some (.int .i64 ru) ∧ w'.cell? ⟨g, 0, none⟩ = some (.slice (some ⟨b, 0, none⟩) nn nn)) (ds := []) Fs0 (by kernel_rfl) rfl rfl ⟨c_gm_0_w_1, c_gm_1_w_1, c_gm_2_w_1, c_gm_3_w_1, c_gm_4_w_1, c_gm_5_w_1, c_gm_6_w_1, c_gm_7_w_1, c_gm_8_w_1, c_gm_9_w_1, c_g_0_w_1⟩ (fun hHeld => ?_)
  generalize hdw : w_1.drew = w_2 at hHeld ⊢
  have HB_w_2 : Aside0 (Below w_1.heap.size w_1 w_2) := ⟨by rw [← hdw]; exact below_drew1 (Below.refl _ _)⟩
  clear hdw
  have B_w_2 : Aside0 (Below (base) w w_2) := ⟨below_then B_w_1.out (Nat.le_trans (HB.out) B_w_1.out.size) HB_w_2.out⟩
  have S_w_2 : Aside0 (Sep (base) (Stars (Blk gm #[.int .i64 (i : Int), .int .i64 q, .slice A l.length c, .int .i64 5, .int .i64 ep, .int .i64 it, .int .i64 is, .int .i64 rt, .int .i64 rs, .int .i64 ru] 56 :: Blk g #[.slice (some ⟨b, 0, none⟩) nn nn] 96 :: RB b (nn : Int) D :: L)) w_2) := ⟨Sep.below S_w_1.out HB_w_2.out⟩
  have Q_w_2 : Aside0 (Below w.heap.size w w_2) := ⟨below_step Q_w_1.out HB_w_2.out⟩
  have d0_w_2 := pw_cell_below Q_w_2.out d0
  have d1_w_2 := pw_cell_below Q_w_2.out d1
  have d2_w_2 := pw_cell_below Q_w_2.out d2
  have d3_w_2 := pw_cell_below Q_w_2.out d3
  obtain ⟨c_gm_0_w_2, c_gm_1_w_2, c_gm_2_w_2, c_gm_3_w_2, c_gm_4_w_2, c_gm_5_w_2, c_gm_6_w_2, c_gm_7_w_2, c_gm_8_w_2, c_gm_9_w_2⟩ := XW.cells10 (Sep.front [] (Blk g #[.slice (some ⟨b, 0, none⟩) nn nn] 96 :: RB b (nn : Int) D :: L) S_w_2.out).blk
  obtain ⟨z_gm_0_w_2, z_gm_1_w_2, z_gm_2_w_2, z_gm_3_w_2, z_gm_4_w_2, z_gm_5_w_2, z_gm_6_w_2, z_gm_7_w_2, z_gm_8_w_2, z_gm_9_w_2⟩ := XW.froz10 (Sep.front [] (Blk g #[.slice (some ⟨b, 0, none⟩) nn nn] 96 :: RB b (nn : Int) D :: L) S_w_2.out).blk
  have c_g_0_w_2 := XW.cells1 (Sep.front [Blk gm #[.int .i64 (i : Int), .int .i64 q, .slice A l.length c, .int .i64 5, .int .i64 ep, .int .i64 it, .int .i64 is, .int .i64 rt, .int .i64 rs, .int .i64 ru] 56] (RB b (nn : Int) D :: L) S_w_2.out).blk
  have z_g_0_w_2 := XW.froz1 (Sep.front [Blk gm #[.int .i64 (i : Int), .int .i64 q, .slice A l.length c, .int .i64 5, .int .i64 ep, .int .i64 it, .int .i64 is, .int .i64 rt, .int .i64 rs, .int .i64 ru] 56] (RB b (nn : Int) D :: L) S_w_2.out).blk
  clear S_w_1 d0_w_1 d1_w_1 d2_w_1 d3_w_1 c_gm_0_w_1 c_gm_1_w_1 c_gm_2_w_1 c_gm_3_w_1 c_gm_4_w_1 c_gm_5_w_1 c_gm_6_w_1 c_gm_7_w_1 c_gm_8_w_1 c_gm_9_w_1 z_gm_0_w_1 z_gm_1_w_1 z_gm_2_w_1 z_gm_3_w_1 z_gm_4_w_1 z_gm_5_w_1 z_gm_6_w_1 z_gm_7_w_1 z_gm_8_w_1 z_gm_9_w_1 c_g_0_w_1 z_g_0_w_1
  refine take_ (i := 0) (N := some 5) (v := ?_) (a' := ?_) Fs1 rfl rfl (by kernel_rfl) (fun _ _ _ h => h) (Or.inl ⟨by rfl, ?_⟩) hHeld ?_ ?_
  rotate_left
  · rintro w' ⟨s0, s1, s2, s3, s4, s5, s6, s7, s8, s9, s10⟩
    go_simp
    with_reducible rfl
  rotate_left
  · simp only [Act.put, List.setIfInBounds_toArray, List.set_cons_zero, List.set_cons_succ, i64_w, i32_w]
    rfl
  refine one_ (i := 1) (N := some 6) Fs2 rfl rfl (by kernel_rfl) (by decide) (fun K hK => ?_)
  refine goes_ Try.func54 (by kernel_rfl) rfl #[.agg #[.int .i64 (i : Int), .int .i64 q, .slice A l.length c, .int .i64 5, .int .i64 ep, .int .i64 it, .int .i64 is, .int .i64 rt, .int .i64 rs, .int .i64 ru]] (by rfl) rfl rfl (by simp only [List.map_toArray, List.map_cons, List.map_nil]; rfl) ?_
  with_reducible refine (ref_check (i : Int) q A c l 5 ep it is rt rs ru _ (Kd.C_below HC.out Q_w_2.out) hc 0 HK.out).mono ?_
  rintro e w_3 ⟨rfl, hb⟩
  refine ⟨_, rfl, ?_⟩
  have B_w_3 : Aside0 (Below (base) w w_3) := ⟨below_then B_w_2.out (Nat.le_trans (HB.out) B_w_2.out.size) hb⟩
  have S_w_3 : Aside0 (Sep (base) (Stars (Blk gm #[.int .i64 (i : Int), .int .i64 q, .slice A l.length c, .int .i64 5, .int .i64 ep, .int .i64 it, .int .i64 is, .int .i64 rt, .int .i64 rs, .int .i64 ru] 56 :: Blk g #[.slice (some ⟨b, 0, none⟩) nn nn] 96 :: RB b (nn : Int) D :: L)) w_3) := ⟨Sep.below S_w_2.out hb⟩
  have Q_w_3 : Aside0 (Below w.heap.size w w_3) := ⟨below_step Q_w_2.out hb⟩
  have d0_w_3 := pw_cell_below Q_w_3.out d0
  have d1_w_3 := pw_cell_below Q_w_3.out d1
  have d2_w_3 := pw_cell_below Q_w_3.out d2
  have d3_w_3 := pw_cell_below Q_w_3.out d3
  obtain ⟨c_gm_0_w_3, c_gm_1_w_3, c_gm_2_w_3, c_gm_3_w_3, c_gm_4_w_3, c_gm_5_w_3, c_gm_6_w_3, c_gm_7_w_3, c_gm_8_w_3, c_gm_9_w_3⟩ := XW.cells10 (Sep.front [] (Blk g #[.slice (some ⟨b, 0, none⟩) nn nn] 96 :: RB b (nn : Int) D :: L) S_w_3.out).blk
  obtain ⟨z_gm_0_w_3, z_gm_1_w_3, z_gm_2_w_3, z_gm_3_w_3, z_gm_4_w_3, z_gm_5_w_3, z_gm_6_w_3, z_gm_7_w_3, z_gm_8_w_3, z_gm_9_w_3⟩ := XW.froz10 (Sep.front [] (Blk g #[.slice (some ⟨b, 0, none⟩) nn nn] 96 :: RB b (nn : Int) D :: L) S_w_3.out).blk
  have c_g_0_w_3 := XW.cells1 (Sep.front [Blk gm #[.int .i64 (i : Int), .int .i64 q, .slice A l.length c, .int .i64 5, .int .i64 ep, .int .i64 it, .int .i64 is, .int .i64 rt, .int .i64 rs, .int .i64 ru] 56] (RB b (nn : Int) D :: L) S_w_3.out).blk
  have z_g_0_w_3 := XW.froz1 (Sep.front [Blk gm #[.int .i64 (i : Int), .int .i64 q, .slice A l.length c, .int .i64 5, .int .i64 ep, .int .i64 it, .int .i64 is, .int .i64 rt, .int .i64 rs, .int .i64 ru] 56] (RB b (nn : Int) D :: L) S_w_3.out).blk
  clear S_w_2 d0_w_2 d1_w_2 d2_w_2 d3_w_2 c_gm_0_w_2 c_gm_1_w_2 c_gm_2_w_2 c_gm_3_w_2 c_gm_4_w_2 c_gm_5_w_2 c_gm_6_w_2 c_gm_7_w_2 c_gm_8_w_2 c_gm_9_w_2 z_gm_0_w_2 z_gm_1_w_2 z_gm_2_w_2 z_gm_3_w_2 z_gm_4_w_2 z_gm_5_w_2 z_gm_6_w_2 z_gm_7_w_2 z_gm_8_w_2 z_gm_9_w_2 c_g_0_w_2 z_g_0_w_2
  clear hb
  refine hK.out _ _ ⟨c_gm_0_w_3, c_gm_1_w_3, c_gm_2_w_3, c_gm_3_w_3, c_gm_4_w_3, c_gm_5_w_3, c_gm_6_w_3, c_gm_7_w_3, c_gm_8_w_3, c_gm_9_w_3, c_g_0_w_3⟩ (fun hHeld => ?_)
  clear hK K
  refine norm_ (a' := ?_) ?_ ?_
  rotate_left
  · show Act.put _ (some 6) _ = _
    simp only [Act.put, List.setIfInBounds_toArray, List.set_cons_zero, List.set_cons_succ, i64_w, i32_w]
    rfl
  refine pure_ (i := 2) (N := some 7) (v := ?_) (a' := ?_) Fs3 rfl rfl (by kernel_rfl) (fun _ _ _ h => h) (Or.inl ⟨by rfl, ?_⟩) ?_ ?_
  rotate_left
  · intro w'
    go_simp
    with_reducible rfl
  rotate_left
  · simp only [Act.put, List.setIfInBounds_toArray, List.set_cons_zero, List.set_cons_succ, i64_w, i32_w]
    rfl
  refine pure_ (i := 3) (N := some 8) (v := ?_) (a' := ?_) Fs4 rfl rfl (by kernel_rfl) (fun _ _ _ h => h) (Or.inl ⟨by rfl, ?_⟩) ?_ ?_
  rotate_left
  · intro w'
    go_simp
    with_reducible rfl
  rotate_left
  · simp only [Act.put, List.setIfInBounds_toArray, List.set_cons_zero, List.set_cons_succ, i64_w, i32_w]
    rfl
  refine pure_ (i := 4) (N := some 9) (v := ?_) (a' := ?_) Fs5 rfl rfl (by kernel_rfl) (fun _ _ _ h => h) (Or.inl ⟨by rfl, ?_⟩) ?_ ?_
  rotate_left
  · intro w'
    go_simp
    with_reducible rfl
  rotate_left
  · simp only [Act.put, List.setIfInBounds_toArray, List.set_cons_zero, List.set_cons_succ, i64_w, i32_w]
    rfl
  refine pure_ (i := 7) (N := some 12) (v := ?_) (a' := ?_) Fs21 rfl rfl (by kernel_rfl) (fun _ _ _ h => h) (Or.inl ⟨by rfl, ?_⟩) ?_ ?_
  rotate_left
  · intro w'
    go_simp
    with_reducible rfl
  rotate_left
  · simp only [Act.put, List.setIfInBounds_toArray, List.set_cons_zero, List.set_cons_succ, i64_w, i32_w]
    rfl
  refine pure_ (i := 8) (N := some 13) (v := ?_) (a' := ?_) Fs22 rfl rfl (by kernel_rfl) (fun _ _ _ h => h) (Or.inl ⟨by rfl, ?_⟩) ?_ ?_
  rotate_left
  · intro w'
    go_simp
    with_reducible rfl
  rotate_left
  · simp only [Act.put, List.setIfInBounds_toArray, List.set_cons_zero, List.set_cons_succ, i64_w, i32_w]
    rfl
  refine pure_ (i := 9) (N := some 14) (v := ?_) (a' := ?_) Fs23 rfl rfl (by kernel_rfl) (fun _ _ _ h => h) (Or.inl ⟨by rfl, ?_⟩) ?_ ?_
  rotate_left
  · intro w'
    go_simp
    with_reducible rfl
  rotate_left
  · simp only [Act.put, List.setIfInBounds_toArray, List.set_cons_zero, List.set_cons_succ, i64_w, i32_w]
    rfl
  refine take_ (i := 5) (N := some 10) (v := ?_) (a' := ?_) Fs24 rfl rfl (by kernel_rfl) (fun _ _ _ h => h) (Or.inl ⟨by rfl, ?_⟩) hHeld ?_ ?_
  rotate_left
  · rintro w' ⟨s0, s1, s2, s3, s4, s5, s6, s7, s8, s9, s10⟩
    go_simp
    with_reducible rfl
  rotate_left
  · simp only [Act.put, List.setIfInBounds_toArray, List.set_cons_zero, List.set_cons_succ, i64_w, i32_w]
    rfl
  refine pure_ (i := 6) (N := some 11) (v := ?_) (a' := ?_) Fs10 rfl rfl (by kernel_rfl) (fun _ _ _ h => h) (Or.inl ⟨by rfl, ?_⟩) ?_ ?_
  rotate_left
  · intro w'
    go_simp
    with_reducible rfl
  rotate_left
  · simp only [Act.put, List.setIfInBounds_toArray, List.set_cons_zero, List.set_cons_succ, i64_w, i32_w]
    rfl
  refine take_ (i := 10) (N := some 15) (v := ?_) (a' := ?_) Fs11 rfl rfl (by kernel_rfl) (fun _ _ _ h => h) (Or.inl ⟨by rfl, ?_⟩) hHeld ?_ ?_
  rotate_left
  · rintro w' ⟨s0, s1, s2, s3, s4, s5, s6, s7, s8, s9, s10⟩
    go_simp
    with_reducible rfl
  rotate_left
  · simp only [Act.put, List.setIfInBounds_toArray, List.set_cons_zero, List.set_cons_succ, i64_w, i32_w]
    rfl
  refine pure_ (i := 11) (N := some 16) (v := ?_) (a' := ?_) Fs12 rfl rfl (by kernel_rfl) (fun _ _ _ h => h) (Or.inl ⟨by rfl, ?_⟩) ?_ ?_
  rotate_left
  · intro w'
    go_simp
    with_reducible rfl
  rotate_left
  · simp only [Act.put, List.setIfInBounds_toArray, List.set_cons_zero, List.set_cons_succ, i64_w, i32_w]
    rfl
  refine pure_ (i := 12) (N := some 17) (v := ?_) (a' := ?_) Fs13 rfl rfl (by kernel_rfl) (fun _ _ _ h => h) (Or.inl ⟨by rfl, ?_⟩) ?_ ?_
  rotate_left
  · intro w'
    go_simp
    with_reducible rfl
  rotate_left
  · simp only [Act.put, List.setIfInBounds_toArray, List.set_cons_zero, List.set_cons_succ, i64_w, i32_w]
    rfl
  refine pure_ (i := 13) (N := some 18) (v := ?_) (a' := ?_) Fs14 rfl rfl (by kernel_rfl) (fun _ _ _ h => h) (Or.inl ⟨by rfl, ?_⟩) ?_ ?_
  rotate_left
  · intro w'
    go_simp
    with_reducible rfl
  rotate_left
  · simp only [Act.put, List.setIfInBounds_toArray, List.set_cons_zero, List.set_cons_succ, i64_w, i32_w]
    rfl
  refine pure_ (i := 14) (N := some 19) (v := ?_) (a' := ?_) Fs15 rfl rfl (by kernel_rfl) (fun _ _ _ h => h) (Or.inl ⟨by rfl, ?_⟩) ?_ ?_
  rotate_left
  · intro w'
    go_simp
    with_reducible rfl
  rotate_left
  · simp only [Act.put, List.setIfInBounds_toArray, List.set_cons_zero, List.set_cons_succ, i64_w, i32_w]
    rfl
  refine pure_ (i := 15) (N := some 20) (v := ?_) (a' := ?_) Fs16 rfl rfl (by kernel_rfl) (fun _ _ _ h => h) (Or.inl ⟨by rfl, ?_⟩) ?_ ?_
  rotate_left
  · intro w'
    go_simp
    with_reducible rfl
  rotate_left
  · simp only [Act.put, List.setIfInBounds_toArray, List.set_cons_zero, List.set_cons_succ, i64_w, i32_w]
    rfl
  refine pure_ (i := 16) (N := some 21) (v := ?_) (a' := ?_) Fs17 rfl rfl (by kernel_rfl) (fun _ _ _ h => h) (Or.inl ⟨by rfl, ?_⟩) ?_ ?_
  rotate_left
  · intro w'
    go_simp
    with_reducible rfl
  rotate_left
  · simp only [Act.put, List.setIfInBounds_toArray, List.set_cons_zero, List.set_cons_succ, i64_w, i32_w]
    rfl
  refine take_ (i := 17) (N := some 22) (v := ?_) (a' := ?_) Fs18 rfl rfl (by kernel_rfl) (fun _ _ _ h => h) (Or.inl ⟨by rfl, ?_⟩) hHeld ?_ ?_
  rotate_left
  · rintro w' ⟨s0, s1, s2, s3, s4, s5, s6, s7, s8, s9, s10⟩
    go_simp
    with_reducible rfl
  rotate_left
  · simp only [Act.put, List.setIfInBounds_toArray, List.set_cons_zero, List.set_cons_succ, i64_w, i32_w]
    rfl
  refine pure_ (i := 18) (N := some 23) (v := ?_) (a' := ?_) Fs19 rfl rfl (by kernel_rfl) (fun _ _ _ h => h) (Or.inl ⟨by rfl, ?_⟩) ?_ ?_
  rotate_left
  · intro w'
    go_simp
    with_reducible rfl
  rotate_left
  · simp only [Act.put, List.setIfInBounds_toArray, List.set_cons_zero, List.set_cons_succ, i64_w, i32_w]
    rfl
  refine pure_ (i := 19) (N := some 24) (v := ?_) (a' := ?_) Fs20 rfl rfl (by kernel_rfl) (fun _ _ _ h => h) (Or.inl ⟨by rfl, ?_⟩) ?_ ?_
  rotate_left
  · intro w'
    go_simp
    with_reducible rfl
  rotate_left
  · simp only [Act.put, List.setIfInBounds_toArray, List.set_cons_zero, List.set_cons_succ, i64_w, i32_w]
    rfl
  refine done_ (by kernel_rfl) ?_
  go_wp2
  refine start_ (n := 12) (S := fun w' => w'.cell? ⟨gm, 0, none⟩ = some (.int .i64 (i : Int)) ∧ w'.cell? ⟨gm, 1, none⟩ = some (.int .i64 q) ∧ w'.cell? ⟨gm, 2, none⟩ = some (.slice A l.length c) ∧ w'.cell? ⟨gm, 3, none⟩ = some (.int .i64 5) ∧ w'.cell? ⟨gm, 4, none⟩ = some (.int .i64 ep) ∧ w'.cell? ⟨gm, 5, none⟩ = some (.int .i64 it) ∧ w'.cell? ⟨gm, 6, none⟩ = some (.int .i64 is) ∧ w'.cell? ⟨gm, 7, none⟩ = some (.int .i64 rt) ∧ w'.cell? ⟨gm, 8, none⟩ = some (.int .i64 rs) ∧ w'.cell? ⟨gm, 9, none⟩ = some (.int .i64 ru) ∧ w'.cell? ⟨g, 0, none⟩ = some (.slice (some ⟨b, 0, none⟩) nn nn) ∧ w'.cell? ⟨b, i * 4, none⟩ = some (.int .i64 (D (i : Int) 7))) (ds := []) Fs25 (by kernel_rfl) rfl rfl ⟨c_gm_0_w_3, c_gm_1_w_3, c_gm_2_w_3, c_gm_3_w_3, c_gm_4_w_3, c_gm_5_w_3, c_gm_6_w_3, c_gm_7_w_3, c_gm_8_w_3, c_gm_9_w_3, c_g_0_w_3, d0_w_3⟩ (fun hHeld => ?_)
  generalize hdw : w_3.drew = w_4 at hHeld ⊢
  have HB_w_4 : Aside0 (Below w_3.heap.size w_3 w_4) := ⟨by rw [← hdw]; exact below_drew1 (Below.refl _ _)⟩
  clear hdw
  have B_w_4 : Aside0 (Below (base) w w_4) := ⟨below_then B_w_3.out (Nat.le_trans (HB.out) B_w_3.out.size) HB_w_4.out⟩
  have S_w_4 : Aside0 (Sep (base) (Stars (Blk gm #[.int .i64 (i : Int), .int .i64 q, .slice A l.length c, .int .i64 5, .int .i64 ep, .int .i64 it, .int .i64 is, .int .i64 rt, .int .i64 rs, .int .i64 ru] 56 :: Blk g #[.slice (some ⟨b, 0, none⟩) nn nn] 96 :: RB b (nn : Int) D :: L)) w_4) := ⟨Sep.below S_w_3.out HB_w_4.out⟩
  have Q_w_4 : Aside0 (Below w.heap.size w w_4) := ⟨below_step Q_w_3.out HB_w_4.out⟩
  have d0_w_4 := pw_cell_below Q_w_4.out d0
  have d1_w_4 := pw_cell_below Q_w_4.out d1
  have d2_w_4 := pw_cell_below Q_w_4.out d2
  have d3_w_4 := pw_cell_below Q_w_4.out d3
  obtain ⟨c_gm_0_w_4, c_gm_1_w_4, c_gm_2_w_4, c_gm_3_w_4, c_gm_4_w_4, c_gm_5_w_4, c_gm_6_w_4, c_gm_7_w_4, c_gm_8_w_4, c_gm_9_w_4⟩ := XW.cells10 (Sep.front [] (Blk g #[.slice (some ⟨b, 0, none⟩) nn nn] 96 :: RB b (nn : Int) D :: L) S_w_4.out).blk
  obtain ⟨z_gm_0_w_4, z_gm_1_w_4, z_gm_2_w_4, z_gm_3_w_4, z_gm_4_w_4, z_gm_5_w_4, z_gm_6_w_4, z_gm_7_w_4, z_gm_8_w_4, z_gm_9_w_4⟩ := XW.froz10 (Sep.front [] (Blk g #[.slice (some ⟨b, 0, none⟩) nn nn] 96 :: RB b (nn : Int) D :: L) S_w_4.out).blk
  have c_g_0_w_4 := XW.cells1 (Sep.front [Blk gm #[.int .i64 (i : Int), .int .i64 q, .slice A l.length c, .int .i64 5, .int .i64 ep, .int .i64 it, .int .i64 is, .int .i64 rt, .int .i64 rs, .int .i64 ru] 56] (RB b (nn : Int) D :: L) S_w_4.out).blk
  have z_g_0_w_4 := XW.froz1 (Sep.front [Blk gm #[.int .i64 (i : Int), .int .i64 q, .slice A l.length c, .int .i64 5, .int .i64 ep, .int .i64 it, .int .i64 is, .int .i64 rt, .int .i64 rs, .int .i64 ru] 56] (RB b (nn : Int) D :: L) S_w_4.out).blk
  clear S_w_3 d0_w_3 d1_w_3 d2_w_3 d3_w_3 c_gm_0_w_3 c_gm_1_w_3 c_gm_2_w_3 c_gm_3_w_3 c_gm_4_w_3 c_gm_5_w_3 c_gm_6_w_3 c_gm_7_w_3 c_gm_8_w_3 c_gm_9_w_3 z_gm_0_w_3 z_gm_1_w_3 z_gm_2_w_3 z_gm_3_w_3 z_gm_4_w_3 z_gm_5_w_3 z_gm_6_w_3 z_gm_7_w_3 z_gm_8_w_3 z_gm_9_w_3 c_g_0_w_3 z_g_0_w_3
  refine pure_ (i := 0) (N := some 25) (v := ?_) (a' := ?_) Fs26 rfl rfl (by kernel_rfl) (fun _ _ _ h => h) (Or.inl ⟨by rfl, ?_⟩) ?_ ?_
  rotate_left
  · intro w'
    go_simp
    with_reducible rfl
  rotate_left
  · simp only [Act.put, List.setIfInBounds_toArray, List.set_cons_zero, List.set_cons_succ, i64_w, i32_w]
    rfl
  refine pure_ (i := 2) (N := some 27) (v := ?_) (a' := ?_) Fs27 rfl rfl (by kernel_rfl) (fun _ _ _ h => h) (Or.inl ⟨by rfl, ?_⟩) ?_ ?_
  rotate_left
  · intro w'
    go_simp
    with_reducible rfl
  rotate_left
  · simp only [Act.put, List.setIfInBounds_toArray, List.set_cons_zero, List.set_cons_succ, i64_w, i32_w]
    rfl
  refine pure_ (i := 3) (N := some 28) (v := ?_) (a' := ?_) Fs28 rfl rfl (by kernel_rfl) (fun _ _ _ h => h) (Or.inl ⟨by rfl, ?_⟩) ?_ ?_
  rotate_left
  · intro w'
    go_simp
    with_reducible rfl
  rotate_left
  · simp only [Act.put, List.setIfInBounds_toArray, List.set_cons_zero, List.set_cons_succ, i64_w, i32_w]
    rfl
  refine pure_ (i := 4) (N := some 29) (v := ?_) (a' := ?_) Fs29 rfl rfl (by kernel_rfl) (fun _ _ _ h => h) (Or.inl ⟨by rfl, ?_⟩) ?_ ?_
  rotate_left
  · intro w'
    go_simp
    with_reducible rfl
  rotate_left
  · simp only [Act.put, List.setIfInBounds_toArray, List.set_cons_zero, List.set_cons_succ, i64_w, i32_w]
    rfl
  refine pure_ (i := 6) (N := some 31) (v := ?_) (a' := ?_) Fs30 rfl rfl (by kernel_rfl) (fun _ _ _ h => h) (Or.inl ⟨by rfl, ?_⟩) ?_ ?_
  rotate_left
  · intro w'
    go_simp
    with_reducible rfl
  rotate_left
  · simp only [Act.put, List.setIfInBounds_toArray, List.set_cons_zero, List.set_cons_succ, i64_w, i32_w]
    rfl
  refine take_ (i := 1) (N := some 26) (v := ?_) (a' := ?_) Fs31 rfl rfl (by kernel_rfl) (fun _ _ _ h => h) (Or.inl ⟨by rfl, ?_⟩) hHeld ?_ ?_
  rotate_left
  · rintro w' ⟨s0, s1, s2, s3, s4, s5, s6, s7, s8, s9, s10, s11⟩
    go_simp
    with_reducible rfl
  rotate_left
  · simp only [Act.put, List.setIfInBounds_toArray, List.set_cons_zero, List.set_cons_succ, i64_w, i32_w]
    rfl
  refine take_ (i := 5) (N := some 30) (v := ?_) (a' := ?_) Fs32 rfl rfl (by kernel_rfl) (fun _ _ _ h => h) (Or.inl ⟨by rfl, ?_⟩) hHeld ?_ ?_
  rotate_left
  · rintro w' ⟨s0, s1, s2, s3, s4, s5, s6, s7, s8, s9, s10, s11⟩
    go_simp
    with_reducible rfl
  rotate_left
  · simp only [Act.put, List.setIfInBounds_toArray, List.set_cons_zero, List.set_cons_succ, i64_w, i32_w]
    rfl
  refine take_ (i := 7) (N := some 32) (v := ?_) (a' := ?_) Fs33 rfl rfl (by kernel_rfl) (fun _ _ _ h => h) (Or.inl ⟨by rfl, ?_⟩) hHeld ?_ ?_
  rotate_left
  · rintro w' ⟨s0, s1, s2, s3, s4, s5, s6, s7, s8, s9, s10, s11⟩
    go_simp
    with_reducible rfl
  rotate_left
  · simp only [Act.put, List.setIfInBounds_toArray, List.set_cons_zero, List.set_cons_succ, i64_w, i32_w]
    rfl
  refine pure_ (i := 8) (N := some 33) (v := ?_) (a' := ?_) Fs34 rfl rfl (by kernel_rfl) (fun _ _ _ h => h) (Or.inl ⟨by rfl, ?_⟩) ?_ ?_
  rotate_left
  · intro w'
    go_simp
    with_reducible rfl
  rotate_left
  · simp only [Act.put, List.setIfInBounds_toArray, List.set_cons_zero, List.set_cons_succ, i64_w, i32_w]
    rfl
  refine pure_ (i := 9) (N := some 34) (v := ?_) (a' := ?_) Fs35 rfl rfl (by kernel_rfl) (fun _ _ _ h => h) (Or.inl ⟨by rfl, ?_⟩) ?_ ?_
  rotate_left
  · intro w'
    go_simp
    with_reducible rfl
  rotate_left
  · simp only [Act.put, List.setIfInBounds_toArray, List.set_cons_zero, List.set_cons_succ, i64_w, i32_w]
    rfl
  refine take_ (i := 10) (N := some 35) (v := ?_) (a' := ?_) Fs36 rfl rfl (by kernel_rfl) (fun _ _ _ h => h) (Or.inl ⟨by rfl, ?_⟩) hHeld ?_ ?_
  rotate_left
  · rintro w' ⟨s0, s1, s2, s3, s4, s5, s6, s7, s8, s9, s10, s11⟩
    go_simp
    with_reducible rfl
  rotate_left
  · simp only [Act.put, List.setIfInBounds_toArray, List.set_cons_zero, List.set_cons_succ, i64_w, i32_w]
    rfl
  refine pure_ (i := 11) (N := some 36) (v := ?_) (a' := ?_) Fs37 rfl rfl (by kernel_rfl) (fun _ _ _ h => h) (Or.inl ⟨by rfl, ?_⟩) ?_ ?_
  rotate_left
  · intro w'
    go_simp
    with_reducible rfl
  rotate_left
  · simp only [Act.put, List.setIfInBounds_toArray, List.set_cons_zero, List.set_cons_succ, i64_w, i32_w]
    rfl
  refine done_ (by kernel_rfl) ?_
  go_wp2
  have z0 : w_4.frozen? ⟨b, i * 4, none⟩ = false := RB.frozen (Sep.front [Blk gm #[.int .i64 (i : Int), .int .i64 q, .slice A l.length c, .int .i64 5, .int .i64 ep, .int .i64 it, .int .i64 is, .int .i64 rt, .int .i64 rs, .int .i64 ru] 56, Blk g #[.slice (some ⟨b, 0, none⟩) nn nn] 96] (L) S_w_4.out) (i * 4)
  have z1 := RB.frozen (Sep.front [Blk gm #[.int .i64 (i : Int), .int .i64 q, .slice A l.length c, .int .i64 5, .int .i64 ep, .int .i64 it, .int .i64 is, .int .i64 rt, .int .i64 rs, .int .i64 ru] 56, Blk g #[.slice (some ⟨b, 0, none⟩) nn nn] 96] (L) S_w_4.out) (i * 4 + 1)
  have z2 := RB.frozen (Sep.front [Blk gm #[.int .i64 (i : Int), .int .i64 q, .slice A l.length c, .int .i64 5, .int .i64 ep, .int .i64 it, .int .i64 is, .int .i64 rt, .int .i64 rs, .int .i64 ru] 56, Blk g #[.slice (some ⟨b, 0, none⟩) nn nn] 96] (L) S_w_4.out) (i * 4 + 2)
  have z3 := RB.frozen (Sep.front [Blk gm #[.int .i64 (i : Int), .int .i64 q, .slice A l.length c, .int .i64 5, .int .i64 ep, .int .i64 it, .int .i64 is, .int .i64 rt, .int .i64 rs, .int .i64 ru] 56, Blk g #[.slice (some ⟨b, 0, none⟩) nn nn] 96] (L) S_w_4.out) (i * 4 + 3)
  refine start_ (n := 17) (S := fun w' => w'.cell? ⟨gm, 0, none⟩ = some (.int .i64 (i : Int)) ∧ w'.cell? ⟨gm, 1, none⟩ = some (.int .i64 q) ∧ w'.cell? ⟨gm, 2, none⟩ = some (.slice A l.length c) ∧ w'.cell? ⟨gm, 3, none⟩ = some (.int .i64 5) ∧ w'.cell? ⟨gm, 4, none⟩ = some (.int .i64 ep) ∧ w'.cell? ⟨gm, 5, none⟩ = some (.int .i64 it) ∧ w'.cell? ⟨gm, 6, none⟩ = some (.int .i64 is) ∧ w'.cell? ⟨gm, 7, none⟩ = some (.int .i64 rt) ∧ w'.cell? ⟨gm, 8, none⟩ = some (.int .i64 rs) ∧ w'.cell? ⟨gm, 9, none⟩ = some (.int .i64 ru) ∧ w'.cell? ⟨g, 0, none⟩ = some (.slice (some ⟨b, 0, none⟩) nn nn) ∧ w'.cell? ⟨b, i * 4, none⟩ = some (.int .i64 (D (i : Int) 7)) ∧ w'.cell? ⟨b, i * 4 + 1, none⟩ = some (.int .i64 (D (i : Int) 1)) ∧ w'.cell? ⟨b, i * 4 + 2, none⟩ = some (.int .i64 (D (i : Int) 4)) ∧ w'.cell? ⟨b, i * 4 + 3, none⟩ = some (.int .i64 (D (i : Int) 5))) (ds := [16]) Fs38 (by kernel_rfl) rfl rfl ⟨c_gm_0_w_4, c_gm_1_w_4, c_gm_2_w_4, c_gm_3_w_4, c_gm_4_w_4, c_gm_5_w_4, c_gm_6_w_4, c_gm_7_w_4, c_gm_8_w_4, c_gm_9_w_4, c_g_0_w_4, d0_w_4, d1_w_4, d2_w_4, d3_w_4⟩ (fun hHeld => ?_)
  refine pure_ (i := 0) (N := some 37) (v := ?_) (a' := ?_) Fs39 rfl rfl (by kernel_rfl) (fun _ _ _ h => h) (Or.inl ⟨by rfl, ?_⟩) ?_ ?_
  rotate_left
  · intro w'
    go_simp
    with_reducible rfl
  rotate_left
  · simp only [Act.put, List.setIfInBounds_toArray, List.set_cons_zero, List.set_cons_succ, i64_w, i32_w]
    rfl
  refine pure_ (i := 1) (N := some 38) (v := ?_) (a' := ?_) Fs40 rfl rfl (by kernel_rfl) (fun _ _ _ h => h) (Or.inl ⟨by rfl, ?_⟩) ?_ ?_
  rotate_left
  · intro w'
    go_simp
    with_reducible rfl
  rotate_left
  · simp only [Act.put, List.setIfInBounds_toArray, List.set_cons_zero, List.set_cons_succ, i64_w, i32_w]
    rfl
  refine pure_ (i := 2) (N := some 39) (v := ?_) (a' := ?_) Fs41 rfl rfl (by kernel_rfl) (fun _ _ _ h => h) (Or.inl ⟨by rfl, ?_⟩) ?_ ?_
  rotate_left
  · intro w'
    go_simp
    with_reducible rfl
  rotate_left
  · simp only [Act.put, List.setIfInBounds_toArray, List.set_cons_zero, List.set_cons_succ, i64_w, i32_w]
    rfl
  refine pure_ (i := 4) (N := some 41) (v := ?_) (a' := ?_) Fs42 rfl rfl (by kernel_rfl) (fun _ _ _ h => h) (Or.inl ⟨by rfl, ?_⟩) ?_ ?_
  rotate_left
  · intro w'
    go_simp
    with_reducible rfl
  rotate_left
  · simp only [Act.put, List.setIfInBounds_toArray, List.set_cons_zero, List.set_cons_succ, i64_w, i32_w]
    rfl
  refine pure_ (i := 6) (N := some 43) (v := ?_) (a' := ?_) Fs43 rfl rfl (by kernel_rfl) (fun _ _ _ h => h) (Or.inl ⟨by rfl, ?_⟩) ?_ ?_
  rotate_left
  · intro w'
    go_simp
    with_reducible rfl
  rotate_left
  · simp only [Act.put, List.setIfInBounds_toArray, List.set_cons_zero, List.set_cons_succ, i64_w, i32_w]
    rfl
  refine pure_ (i := 8) (N := some 45) (v := ?_) (a' := ?_) Fs44 rfl rfl (by kernel_rfl) (fun _ _ _ h => h) (Or.inl ⟨by rfl, ?_⟩) ?_ ?_
  rotate_left
  · intro w'
    go_simp
    with_reducible rfl
  rotate_left
  · simp only [Act.put, List.setIfInBounds_toArray, List.set_cons_zero, List.set_cons_succ, i64_w, i32_w]
    rfl
  refine pure_ (i := 9) (N := some 46) (v := ?_) (a' := ?_) Fs45 rfl rfl (by kernel_rfl) (fun _ _ _ h => h) (Or.inl ⟨by rfl, ?_⟩) ?_ ?_
  rotate_left
  · intro w'
    go_simp
    with_reducible rfl
  rotate_left
  · simp only [Act.put, List.setIfInBounds_toArray, List.set_cons_zero, List.set_cons_succ, i64_w, i32_w]
    rfl
  refine pure_ (i := 11) (N := some 48) (v := ?_) (a' := ?_) Fs46 rfl rfl (by kernel_rfl) (fun _ _ _ h => h) (Or.inl ⟨by rfl, ?_⟩) ?_ ?_
  rotate_left
  · intro w'
    go_simp
    with_reducible rfl
  rotate_left
  · simp only [Act.put, List.setIfInBounds_toArray, List.set_cons_zero, List.set_cons_succ, i64_w, i32_w]
    rfl
  refine pure_ (i := 12) (N := some 49) (v := ?_) (a' := ?_) Fs47 rfl rfl (by kernel_rfl) (fun _ _ _ h => h) (Or.inl ⟨by rfl, ?_⟩) ?_ ?_
  rotate_left
  · intro w'
    go_simp
    with_reducible rfl
  rotate_left
  · simp only [Act.put, List.setIfInBounds_toArray, List.set_cons_zero, List.set_cons_succ, i64_w, i32_w]
    rfl
  refine take_ (i := 3) (N := some 40) (v := ?_) (a' := ?_) Fs48 rfl rfl (by kernel_rfl) (fun _ _ _ h => h) (Or.inl ⟨by rfl, ?_⟩) hHeld ?_ ?_
  rotate_left
  · rintro w' ⟨s0, s1, s2, s3, s4, s5, s6, s7, s8, s9, s10, s11, s12, s13, s14⟩
    go_simp
    with_reducible rfl
  rotate_left
  · simp only [Act.put, List.setIfInBounds_toArray, List.set_cons_zero, List.set_cons_succ, i64_w, i32_w]
    rfl
  refine take_ (i := 5) (N := some 42) (v := ?_) (a' := ?_) Fs49 rfl rfl (by kernel_rfl) (fun _ _ _ h => h) (Or.inl ⟨by rfl, ?_⟩) hHeld ?_ ?_
  rotate_left
  · rintro w' ⟨s0, s1, s2, s3, s4, s5, s6, s7, s8, s9, s10, s11, s12, s13, s14⟩
    go_simp
    with_reducible rfl
  rotate_left
  · simp only [Act.put, List.setIfInBounds_toArray, List.set_cons_zero, List.set_cons_succ, i64_w, i32_w]
    rfl
  refine take_ (i := 7) (N := some 44) (v := ?_) (a' := ?_) Fs50 rfl rfl (by kernel_rfl) (fun _ _ _ h => h) (Or.inl ⟨by rfl, ?_⟩) hHeld ?_ ?_
  rotate_left
  · rintro w' ⟨s0, s1, s2, s3, s4, s5, s6, s7, s8, s9, s10, s11, s12, s13, s14⟩
    go_simp
    with_reducible rfl
  rotate_left
  · simp only [Act.put, List.setIfInBounds_toArray, List.set_cons_zero, List.set_cons_succ, i64_w, i32_w]
    rfl
  refine take_ (i := 10) (N := some 47) (v := ?_) (a' := ?_) Fs51 rfl rfl (by kernel_rfl) (fun _ _ _ h => h) (Or.inl ⟨by rfl, ?_⟩) hHeld ?_ ?_
  rotate_left
  · rintro w' ⟨s0, s1, s2, s3, s4, s5, s6, s7, s8, s9, s10, s11, s12, s13, s14⟩
    go_simp
    with_reducible rfl
  rotate_left
  · simp only [Act.put, List.setIfInBounds_toArray, List.set_cons_zero, List.set_cons_succ, i64_w, i32_w]
    rfl
  refine take_ (i := 13) (N := some 50) (v := ?_) (a' := ?_) Fs52 rfl rfl (by kernel_rfl) (fun _ _ _ h => h) (Or.inl ⟨by rfl, ?_⟩) hHeld ?_ ?_
  rotate_left
  · rintro w' ⟨s0, s1, s2, s3, s4, s5, s6, s7, s8, s9, s10, s11, s12, s13, s14⟩
    go_simp
    with_reducible rfl
  rotate_left
  · simp only [Act.put, List.setIfInBounds_toArray, List.set_cons_zero, List.set_cons_succ, i64_w, i32_w]
    rfl
  refine pure_ (i := 14) (N := some 51) (v := ?_) (a' := ?_) Fs53 rfl rfl (by kernel_rfl) (fun _ _ _ h => h) (Or.inl ⟨by rfl, ?_⟩) ?_ ?_
  rotate_left
  · intro w'
    go_simp
    with_reducible rfl
  rotate_left
  · simp only [Act.put, List.setIfInBounds_toArray, List.set_cons_zero, List.set_cons_succ, i64_w, i32_w]
    rfl
  refine pure_ (i := 15) (N := some 52) (v := ?_) (a' := ?_) Fs54 rfl rfl (by kernel_rfl) (fun _ _ _ h => h) (Or.inl ⟨by rfl, ?_⟩) ?_ ?_
  rotate_left
  · intro w'
    go_simp
    with_reducible rfl
  rotate_left
  · simp only [Act.put, List.setIfInBounds_toArray, List.set_cons_zero, List.set_cons_succ, i64_w, i32_w]
    rfl
  refine last_ (i := 16) (N := none) Fs55 rfl rfl (by kernel_rfl) (by decide) (fun K hK => ?_)
  refine skip_ (w1 := ?_) (by rfl) rfl ?_ ?_
  rotate_left
  · go_simp
    rfl
  refine hK.out _ _ ?_
  clear hK K
  refine done_ (by kernel_rfl) ?_
  go_wp2
  go_ret
  have hle := RB.le (Sep.front [Blk gm #[.int .i64 (i : Int), .int .i64 q, .slice A l.length c, .int .i64 5, .int .i64 ep, .int .i64 it, .int .i64 is, .int .i64 rt, .int .i64 rs, .int .i64 ru] 56, Blk g #[.slice (some ⟨b, 0, none⟩) nn nn] 96] (L) S_w_4.out)
  exact ⟨rfl, RA.close (Sep.right (Sep.below (Sep.back [Blk gm #[.int .i64 (i : Int), .int .i64 q, .slice A l.length c, .int .i64 5, .int .i64 ep, .int .i64 it, .int .i64 is, .int .i64 rt, .int .i64 rs, .int .i64 ru] 56, Blk g #[.slice (some ⟨b, 0, none⟩) nn nn] 96] L (RB.store (Sep.front [Blk gm #[.int .i64 (i : Int), .int .i64 q, .slice A l.length c, .int .i64 5, .int .i64 ep, .int .i64 it, .int .i64 is, .int .i64 rt, .int .i64 rs, .int .i64 ru] 56, Blk g #[.slice (some ⟨b, 0, none⟩) nn nn] 96] (L) S_w_4.out) (Nat.le_trans (HB.out) B_w_4.out.size) i hi2 5 ep it is rt rs ru q)) (below_drew1 (Below.refl _ _)))), below_drew1 (Below.setCell (Below.setCell (Below.setCell (Below.setCell B_w_4.out hle _) hle _) hle _) hle _)⟩
theorem rwhere_move_at {base g : Nat} {n : Int} {D : Int → Nat → Int} {L : List Assn} (w : World) (h : Sep base (Star (RA g n D) (Stars L)) w) (hbase : base ≤ w.heap.size) (hn : n ≤ 16) (hn0 : 0 ≤ n)
    (s q : Int) (A : Option Addr) (c nl : Nat) (l : List Int) (kd ep it is rt rs ru : Int) (hC : (Kd.int .i64).C w A nl l) (hc : nl ≤ c) (k : Int) (hk : mesg_Check.f s q l kd ep it is rt rs ru = some k) (hs : k = 0 → 0 ≤ s ∧ s < (l.length : Int)) (r : Int) (D2 : Int → Nat → Int) (hr : moveE n D k s q l kd = r) (hD : moveD n D k s q l kd ep it is rt rs ru = D2) :
    Calls Try.prog 29 #[.pointer (some ⟨g, 0, none⟩), .agg #[.int .i64 s, .int .i64 q, .slice A nl c, .int .i64 kd, .int .i64 ep, .int .i64 it, .int .i64 is, .int .i64 rt, .int .i64 rs, .int .i64 ru]] w fun en w' => en = .returned (.int .i64 r) ∧ Sep base (Star (RA g n D2) (Stars L)) w' ∧ Below base w w' := by
  obtain rfl : l.length = nl := Kd.C_len hC
  unfold moveD moveE at hD
  unfold moveE at hr
  by_cases h1 : k = 0
  · subst h1
    obtain ⟨hs0, hs1⟩ := hs rfl
    by_cases h2 : (l.length : Int) = n
    · by_cases h3 : kd = 5
      · by_cases h4 : q ≤ D s 7
        · simp [h2, h3, h4] at hr hD
          subst hr; subst hD
          exact rmove_d w h hbase hn hn0 s q A c l kd ep it is rt rs ru hC hc hk h2 h3 hs0 (by omega) h4
        · simp [h2, h3, h4] at hr hD
          subst hr; subst hD
          have := rmove_e w h hbase hn hn0 s q A c l kd ep it is rt rs ru hC hc hk h2 h3 hs0 (by omega) h4
          rw [h3] at this ⊢
          exact this
      · simp [h2, h3] at hr hD
        subst hr; subst hD
        exact rmove_c w h hbase hn hn0 s q A c l kd ep it is rt rs ru hC hc hk h2 h3
    · simp [h2] at hr hD
      subst hr; subst hD
      exact rmove_b w h hbase hn hn0 s q A c l kd ep it is rt rs ru hC hc hk h2
  · simp [h1] at hr hD
    subst hr; subst hD
    exact rmove_a w h hbase hn hn0 s q A c l kd ep it is rt rs ru hC hc k hk h1
end Go.Proofs.Ytiplkmmppihilaa.PastA
