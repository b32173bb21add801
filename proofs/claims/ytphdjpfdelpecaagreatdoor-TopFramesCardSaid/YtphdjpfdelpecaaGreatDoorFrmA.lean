/- Frames: Pack. Conditions: none beyond those that each theorem states. -/
import Derived.Test.YtphdjpfdelpecaaGreatDoorPTopfx5
import Derived.Test.YtphdjpfdelpecaaGreatDoorXT
import Derived.Test.YtphdjpfdelpecaaGreatDoorCrcA
namespace Go.Proofs.YtphdjpfdelpecaaGreatDoor.FrmA
open Go.RowKit Go.Proofs.YtphdjpfdelpecaaGreatDoorW.PrintWords Go.Proofs.YtphdjpfdelpecaaGreatDoorW.PrintLast Go.Proofs.YtphdjpfdelpecaaGreatDoorW.PrintMore Go.Proofs.YtphdjpfdelpecaaGreatDoor.XS Go.Proofs.YtphdjpfdelpecaaGreatDoor.PTopf
set_option linter.unusedVariables false
set_option linter.unusedSimpArgs false
def stuffI : List Int → List Int
 | [] => []
 | c :: r => if c = 126 then 125 :: 94 :: stuffI r else if c = 125 then 125 :: 93 :: stuffI r else c :: stuffI r
theorem stuffI_append : ∀ a b : List Int, stuffI (a ++ b) = stuffI a ++ stuffI b
 | [], b => rfl
 | c :: r, b => by
  simp only [List.cons_append, stuffI]
  rw [stuffI_append r b]
  split
  ·rfl
  ·split <;> rfl
theorem stuffI_le : ∀ a : List Int, (stuffI a).length ≤ 2 * a.length
 | [] => by simp [stuffI]
 | c :: r => by
  have := stuffI_le r
  simp only [stuffI]
  split
  ·simp only [List.length_cons]; omega
  ·split <;> (simp only [List.length_cons]; omega)
theorem c_reads {w : World} {A : Option Addr} {n : Nat} {xs : List Int} (h : (Kd.int .u8).C w A n xs) (hn : xs.length = n) (hm : n ≤ 9223372036854775807) : ReadsInt w .u8 A n xs := by
 refine ⟨hn, hm, fun hp => ?_⟩
 obtain ⟨ad, rfl, _⟩ := Kd.at_int h 0 (by omega) (by omega)
 refine ⟨ad, rfl, fun j hj => ?_⟩
 obtain ⟨ad', e, hc⟩ := Kd.at_int h (j : Int) (by omega) (by omega)
 cases e
 rw [Int.toNat_natCast] at hc
 rw [hc]
 simp [rd]
theorem c_string {w : World} {A : Option Addr} {n c : Nat} {xs : List Int} (h : (Kd.int .u8).C w A n xs) (hn : xs.length = n) (hm : n ≤ 9223372036854775807) : (convert 92 9 (.slice A n c)).run Tryz.prog w = .ok (.string (strOfNums xs)) w :=
 string_of_reads Tryz.underlying92 Tryz.underlying5 Tryz.underlying9 (c_reads h hn hm)
def Kept (g : Nat) (o : Obj) : Assn where
 S := fun w f => f g ∧ w.heap[g]? = some o
 mono := fun hf h => ⟨hf _ h.1, h.2⟩
 bound := fun h => ⟨⟨h.1, XW.blk_lt' h.2⟩, h.2⟩
 move := fun hm h => ⟨h.1, (hm _ h.1).trans h.2⟩
theorem kept {base g : Nat} {o : Obj} {F : Assn} {w : World} (h : Sep base (Star (Kept g o) F) w) : w.heap[g]? = some o := by
 obtain ⟨f, ⟨a, b, _, _, _, ha, _⟩, _⟩ := h
 exact ha.2
theorem new_kept {base g : Nat} {o : Obj} {F : Assn} {w w1 : World} (h : Sep base F w) (hbase : base ≤ w.heap.size) (hg : g = w.heap.size) (hb : Below w.heap.size w w1) (hh : w1.heap[g]? = some o) : Sep base (Star (Kept g o) F) w1 :=
 Sep.new h ⟨fun k => k = g, ⟨rfl, hh⟩, fun k hk => by omega⟩ hb hbase
theorem reads_congr {w w1 : World} {k : IntKind} {A : Option Addr} {n : Nat} {xs : List Int} (h : ReadsInt w k A n xs) (hb : ∀ ad, A = some ad → w1.heap[ad.block]? = w.heap[ad.block]?) : ReadsInt w1 k A n xs := by
 refine ⟨h.1, h.2.1, fun hn => ?_⟩
 obtain ⟨ad, e, hc⟩ := h.2.2 hn
 refine ⟨ad, e, fun j hj => ?_⟩
 rw [← hc j hj]
 have hbl : (ad.add j).block = ad.block := by unfold Addr.add; split <;> rfl
 exact World.cell?_of_block (w := w) (by rw [hbl]; exact hb ad e)
theorem bt_take (t : ByteArray) (j : Nat) (h : j < t.size) : (bytesOf t).take (j + 1) = (bytesOf t).take j ++ [bt t (j : Int)] := by
 have hl : j < (bytesOf t).length := by rw [bytesOf_length]; exact h
 rw [List.take_succ_eq_append_getElem hl]
 congr 2
 rw [← rd_bytesOf]
 simp [rd, List.getD_eq_getElem?_getD, List.getElem?_eq_getElem hl]
set_option maxHeartbeats 8000000 in
set_option maxRecDepth 100000 in
theorem pack_is (s t : ByteArray) (hs : s.size ≤ 2000) (ht : crcs_Seal.f s = some t) (htz : t.size ≤ 2003) (w : World) : Calls Tryz.prog 16 #[.string s] w fun e w' => e = .returned (.tuple #[.string (strOfNums (126 :: (stuffI (bytesOf t) ++ [126]))), .int .i64 0]) ∧ Below w.heap.size w w' := by
 have HT := Aside0.mk ht
 have HZ := Aside0.mk htz
 have t1 : decide ((2000 : Int) < (s.size : Int)) = false := decide_eq_false (by omega)
 have t2 : decide (2000 < s.size) = false := decide_eq_false (by omega)
 clear ht htz hs
 have kb := fun W => print_bytes (P := Tryz.prog) 9 92 5 Tryz.underlying9 Tryz.underlying92 Tryz.underlying5 t W
 have B_w := Aside0.mk (Below.refl w.heap.size w)
 have S_w : Aside0 (Sep w.heap.size (Stars []) w) := ⟨Sep.emp _ _⟩
 go_enter Tryz.func16, Tryz.ntmps16
 go_wp2_with (first | ((with_reducible refine gate_dst (N := 10) rfl ?_); (try (refine gate_guard (by rfl) ?_; dsimp only)); refine Kd.R_lit (Kd.int .u8) (w0 := w) w.heap.size 5 ?hg (N := 10) ?hd (xs := ([126] : List Int)) (inner := [Value.int .u8 126]) (ok := fun _ => True) (okp := fun _ => True) ?hr ?hp (fun _ hk => hk) trivial (Below.refl _ _) (Nat.le_refl _) (by simp) ?_; (case hd => rfl); (case hg => rfl); (case hr => first | (go_simp; done) | (go_simp; rfl)); (case hp => exact Reps.one (show Kd.M (Kd.int .u8) _ _ _ 126 [Value.int .u8 126] from rfl) (Reps.none _ _)); intro v w_1 ho hb hg_ hn_; clear hg_ hn_; obtain ⟨Aa, ca, hv⟩ := Kd.R_slice ho; subst hv; have B_w_1 : Aside0 (Below (w.heap.size) w w_1) := ⟨below_then B_w.out B_w.out.size hb⟩; have S_w_1 : Aside0 (Sep (w.heap.size) (Stars [Row (Kd.int .u8) 5 (.slice Aa 1 ca) (([126] : List Int))]) w_1) := ⟨Sep.new_row S_w.out B_w.out.size hb ho⟩; have Q_w_1 : Aside0 (Below w.heap.size w w_1) := ⟨hb⟩; clear S_w; clear ho hb) | (go_at_call 37; (with_reducible refine (crcs_Seal.calls s t _ HT.out).mono ?_); rintro e w_2 ⟨rfl, hb⟩; have B_w_2 : Aside0 (Below (w.heap.size) w w_2) := ⟨below_then B_w_1.out B_w_1.out.size hb⟩; have S_w_2 : Aside0 (Sep (w.heap.size) (Stars [Row (Kd.int .u8) 5 (.slice Aa 1 ca) (([126] : List Int))]) w_2) := ⟨Sep.below S_w_1.out hb⟩; have Q_w_2 : Aside0 (Below w.heap.size w w_2) := ⟨below_step Q_w_1.out hb⟩; clear S_w_1; clear hb))
 have HBL := Aside0.mk (bytes_below B_w_2.out B_w_2.out.size 5 t)
 have HSL := Aside0.mk (Sep.back [Row (Kd.int .u8) 5 (.slice Aa 1 ca) [126]] [] (new_kept S_w_2.out B_w_2.out.size rfl (bytes_below (Below.refl w_2.heap.size w_2) (Nat.le_refl _) 5 t) (Lib.bytesWorld_at_new w_2 5 t)))
 have HK : Aside0 (∀ v : World, v.heap[w_2.heap.size]? = some (.cells (Lib.bytesCells w_2 5 t) 5 ((Lib.bytesCells w_2 5 t).size, (Lib.bytesCells w_2 5 t).size + 1)) → ReadsInt v .u8 (some ⟨w_2.heap.size, 0, none⟩) t.size (bytesOf t)) := ⟨fun v hv => reads_congr (bytes_reads w_2 5 t (by have := HZ.out; omega)) (by intro ad e; cases e; rw [hv]; exact (Lib.bytesWorld_at_new w_2 5 t).symm)⟩
 clear B_w_2 S_w_2 Q_w_2 kb HT
 generalize Lib.bytesWorld w_2 5 t = W2 at HBL HSL ⊢
 generalize (Obj.cells (Lib.bytesCells w_2 5 t) 5 ((Lib.bytesCells w_2 5 t).size, (Lib.bytesCells w_2 5 t).size + 1)) = TO at HSL HK
 generalize w_2.heap.size = gt at HSL HK ⊢
 generalize grownCap w_2 t.size 0 5 = cc
 go_loopw [4, 15] (fun v4 i wr => ∃ j : Nat, j ≤ t.size ∧ i = .int .i64 j ∧ Aside0 (Sep w.heap.size (Stars [Row (Kd.int .u8) 5 v4 (126 :: stuffI ((bytesOf t).take j)), Kept gt TO]) wr) ∧ Aside0 (Below w.heap.size w wr)) (fun _ i _ => t.size - (intOf i).toNat)
 case atStart => exact ⟨0, by omega, rfl, HSL, HBL⟩
 case round =>
  clear HSL HBL
  obtain ⟨j, hj, rfl, S_wr, B_wr⟩ := hrel
  obtain ⟨A0, c0, rfl, hc0, hC0⟩ := Sep.row S_wr.out
  have hz := HZ.out
  by_cases hlt : j < t.size
  ·have hlt2 : (j : Int) < (t.size : Int) := by omega
   have hlt3 : decide ((j : Int) < (t.size : Int)) = true := decide_eq_true hlt2
   obtain ⟨ad, had, hcell⟩ := (HK.out wr (kept (Sep.front [Row (Kd.int .u8) 5 _ _] [] S_wr.out))).at_ (j : Int) (by omega) hlt2
   cases had
   rw [Int.toNat_natCast, rd_bytesOf, add_plain] at hcell
   try simp only [Nat.zero_add] at hcell
   have hst : stuffI ((bytesOf t).take (j + 1)) = stuffI ((bytesOf t).take j) ++ stuffI [bt t (j : Int)] := by rw [bt_take t j hlt, stuffI_append]
   have hle := stuffI_le ((bytesOf t).take j)
   rw [List.length_take, bytesOf_length] at hle
   have HST := Aside0.mk hst
   have HLE : Aside0 ((stuffI ((bytesOf t).take j)).length ≤ 4100) := ⟨by omega⟩
   clear hst hle hC0 hc0
   generalize stuffI ((bytesOf t).take j) = st at S_wr HST HLE ⊢
   by_cases h126 : bt t (j : Int) = 126
   ·rw [h126] at hcell
    have hx : bits .xor .u8 126 32 = 94 := by decide
    have H1 := Aside0.mk h126
    clear h126
    go_wp2_with (first | ((with_reducible refine gate_builtin (b := .append) (xs := #[.tmp 25, .tmp 26]) rfl ?_); at_builtin; go_must (refine sep_append (enc := Value.int .u8) (h1 := fun _ => rfl) (w.heap.size) rfl (.tmp 25) (.tmp 26) 92 5 (.int .u8 0) 1 rfl Tryz.underlying92 info5 rfl (by decide) _ (126 :: st) (125) rfl rfl (Sep.front [] [Kept gt TO] S_wr.out) B_wr.out.size ?al ?_); (case al => have h0 := HLE.out; simp only [List.length_cons, List.length_append, List.length_nil]; omega); intro v1 wr_1 hS hb; have B_wr_1 : Aside0 (Below (w.heap.size) w wr_1) := ⟨(Below.trans B_wr.out hb)⟩; have S_wr_1 : Aside0 (Sep (w.heap.size) (Stars [Row (Kd.int .u8) 5 (v1) (126 :: st ++ [125]), Kept gt TO]) wr_1) := ⟨Sep.back [] [Kept gt TO] hS⟩; clear S_wr; clear hS hb) | ((with_reducible refine gate_builtin (b := .append) (xs := #[.tmp 30, .tmp 32]) rfl ?_); at_builtin; go_must (refine sep_append (enc := Value.int .u8) (h1 := fun _ => rfl) (w.heap.size) rfl (.tmp 30) (.tmp 32) 92 5 (.int .u8 0) 1 rfl Tryz.underlying92 info5 rfl (by decide) _ (126 :: st ++ [125]) (94) rfl rfl (Sep.front [] [Kept gt TO] S_wr_1.out) B_wr_1.out.size ?al ?_); (case al => have h0 := HLE.out; simp only [List.length_cons, List.length_append, List.length_nil]; omega); intro v2 wr_2 hS hb; have B_wr_2 : Aside0 (Below (w.heap.size) w wr_2) := ⟨(Below.trans B_wr_1.out hb)⟩; have S_wr_2 : Aside0 (Sep (w.heap.size) (Stars [Row (Kd.int .u8) 5 (v2) (126 :: st ++ [125] ++ [94]), Kept gt TO]) wr_2) := ⟨Sep.back [] [Kept gt TO] hS⟩; clear S_wr_1; clear hS hb))
    go_roundw
    case rel => exact ⟨j + 1, by omega, by go_num, ⟨by rw [HST.out, H1.out]; simpa only [stuffI, List.append_assoc, List.cons_append, List.nil_append, if_true] using S_wr_2.out⟩, B_wr_2⟩
    case measure => simp [intOf]; omega
   ·by_cases h125 : bt t (j : Int) = 125
    ·rw [h125] at hcell
     have hx : bits .xor .u8 125 32 = 93 := by decide
     have H1 := Aside0.mk h125
     clear h125 h126
     go_wp2_with (first | ((with_reducible refine gate_builtin (b := .append) (xs := #[.tmp 25, .tmp 26]) rfl ?_); at_builtin; go_must (refine sep_append (enc := Value.int .u8) (h1 := fun _ => rfl) (w.heap.size) rfl (.tmp 25) (.tmp 26) 92 5 (.int .u8 0) 1 rfl Tryz.underlying92 info5 rfl (by decide) _ (126 :: st) (125) rfl rfl (Sep.front [] [Kept gt TO] S_wr.out) B_wr.out.size ?al ?_); (case al => have h0 := HLE.out; simp only [List.length_cons, List.length_append, List.length_nil]; omega); intro v1 wr_1 hS hb; have B_wr_1 : Aside0 (Below (w.heap.size) w wr_1) := ⟨(Below.trans B_wr.out hb)⟩; have S_wr_1 : Aside0 (Sep (w.heap.size) (Stars [Row (Kd.int .u8) 5 (v1) (126 :: st ++ [125]), Kept gt TO]) wr_1) := ⟨Sep.back [] [Kept gt TO] hS⟩; clear S_wr; clear hS hb) | ((with_reducible refine gate_builtin (b := .append) (xs := #[.tmp 30, .tmp 32]) rfl ?_); at_builtin; go_must (refine sep_append (enc := Value.int .u8) (h1 := fun _ => rfl) (w.heap.size) rfl (.tmp 30) (.tmp 32) 92 5 (.int .u8 0) 1 rfl Tryz.underlying92 info5 rfl (by decide) _ (126 :: st ++ [125]) (93) rfl rfl (Sep.front [] [Kept gt TO] S_wr_1.out) B_wr_1.out.size ?al ?_); (case al => have h0 := HLE.out; simp only [List.length_cons, List.length_append, List.length_nil]; omega); intro v2 wr_2 hS hb; have B_wr_2 : Aside0 (Below (w.heap.size) w wr_2) := ⟨(Below.trans B_wr_1.out hb)⟩; have S_wr_2 : Aside0 (Sep (w.heap.size) (Stars [Row (Kd.int .u8) 5 (v2) (126 :: st ++ [125] ++ [93]), Kept gt TO]) wr_2) := ⟨Sep.back [] [Kept gt TO] hS⟩; clear S_wr_1; clear hS hb))
     go_roundw
     case rel => exact ⟨j + 1, by omega, by go_num, ⟨by rw [HST.out, H1.out]; simpa only [stuffI, List.append_assoc, List.cons_append, List.nil_append, if_true, show (125 : Int) = 126 ↔ False from by decide, if_false] using S_wr_2.out⟩, B_wr_2⟩
     case measure => simp [intOf]; omega
    ·have b1 : (bt t (j : Int) == 126) = false := beq_eq_false_iff_ne.mpr h126
     have b2 : (bt t (j : Int) == 125) = false := beq_eq_false_iff_ne.mpr h125
     have H1 := Aside0.mk h126
     have H2 := Aside0.mk h125
     clear h125 h126
     go_wp2_with (first | ((with_reducible refine gate_builtin (b := .append) (xs := #[.tmp 30, .tmp 32]) rfl ?_); at_builtin; go_must (refine sep_append (enc := Value.int .u8) (h1 := fun _ => rfl) (w.heap.size) rfl (.tmp 30) (.tmp 32) 92 5 (.int .u8 0) 1 rfl Tryz.underlying92 info5 rfl (by decide) _ (126 :: st) ((bt t (j : Int))) rfl rfl (Sep.front [] [Kept gt TO] S_wr.out) B_wr.out.size ?al ?_); (case al => have h0 := HLE.out; simp only [List.length_cons, List.length_append, List.length_nil]; omega); intro v2 wr_1 hS hb; have B_wr_1 : Aside0 (Below (w.heap.size) w wr_1) := ⟨(Below.trans B_wr.out hb)⟩; have S_wr_1 : Aside0 (Sep (w.heap.size) (Stars [Row (Kd.int .u8) 5 (v2) (126 :: st ++ [(bt t (j : Int))]), Kept gt TO]) wr_1) := ⟨Sep.back [] [Kept gt TO] hS⟩; clear S_wr; clear hS hb))
     go_roundw
     case rel => exact ⟨j + 1, by omega, by go_num, ⟨by rw [HST.out, show stuffI [bt t (j : Int)] = [bt t (j : Int)] from by simp only [stuffI, if_neg H1.out, if_neg H2.out]]; simpa only [stuffI, List.append_assoc, List.cons_append, List.nil_append] using S_wr_1.out⟩, B_wr_1⟩
     case measure => simp [intOf]; omega
  ·obtain rfl : j = t.size := by omega
   have hlt3 : decide ((t.size : Int) < (t.size : Int)) = false := decide_eq_false (by omega)
   rw [List.take_of_length_le (by rw [bytesOf_length]; exact Nat.le_refl _)] at S_wr ⊢
   have hle := stuffI_le (bytesOf t)
   rw [bytesOf_length] at hle
   have HLE : Aside0 ((stuffI (bytesOf t)).length ≤ 4100) := ⟨by omega⟩
   clear hle hC0 hc0
   obtain ⟨st, hst⟩ : ∃ st, stuffI (bytesOf t) = st := ⟨_, rfl⟩
   rw [hst] at S_wr HLE ⊢
   have HE := Aside0.mk hst
   clear hst
   go_wp2_with (first | ((with_reducible refine gate_builtin (b := .append) (xs := #[.tmp 35, .tmp 36]) rfl ?_); at_builtin; go_must (refine sep_append (enc := Value.int .u8) (h1 := fun _ => rfl) (w.heap.size) rfl (.tmp 35) (.tmp 36) 92 5 (.int .u8 0) 1 rfl Tryz.underlying92 info5 rfl (by decide) _ (126 :: st) (126) rfl rfl (Sep.front [] [Kept gt TO] S_wr.out) B_wr.out.size ?al ?_); (case al => have h0 := HLE.out; simp only [List.length_cons, List.length_append, List.length_nil]; omega); intro vq wr_1 hS hb; obtain ⟨A9, c9, hv, -, hC9⟩ := Sep.row hS; subst hv; have hcv := c_string (c := c9) hC9 rfl (by have h0 := HLE.out; simp only [List.length_cons, List.length_append, List.length_nil]; omega); simp only [List.length_cons, List.length_append, List.length_nil, Nat.zero_add] at hcv; clear hC9; have B_wr_1 : Aside0 (Below (w.heap.size) w wr_1) := ⟨(Below.trans B_wr.out hb)⟩; have S_wr_1 : Aside0 (Sep (w.heap.size) (Stars [Row (Kd.int .u8) 5 (.slice A9 (126 :: st ++ [126]).length c9) (126 :: st ++ [126]), Kept gt TO]) wr_1) := ⟨Sep.back [] [Kept gt TO] hS⟩; clear S_wr; clear hS hb))
   go_ret2
   exact ⟨by rw [HE.out]; rfl, B_wr_1.out⟩
end Go.Proofs.YtphdjpfdelpecaaGreatDoor.FrmA
