/- Functions that the law reaches, each as a plain Lean function with the proof that the call does what it says. Conditions: none beyond those that each theorem states. Written by a program for this claim. -/
import Derived.Test.YtphdjpfdelpecaaGreatDoorPTopfx0
import Derived.Test.YtphdjpfdelpecaaGreatDoorPTopfx1
import Derived.Test.YtphdjpfdelpecaaGreatDoorPTopfx2
import Derived.Test.YtphdjpfdelpecaaGreatDoorPTopfx5
namespace Go.Proofs.YtphdjpfdelpecaaGreatDoor.PTopf
open Go.RowKit Go.Proofs.YtphdjpfdelpecaaGreatDoorW.PrintWords Go.Proofs.YtphdjpfdelpecaaGreatDoorW.PrintLast Go.Proofs.YtphdjpfdelpecaaGreatDoorW.PrintMore
attribute [local go_sem] max2_int min2_int max_two min_two max_three min_three max_four min_four   -- for this text's walks alone
set_option linter.unusedVariables false
set_option linter.unusedSimpArgs false
def mD.KB (w x : World) (g : Nat) : Prop := (x.os = w.os ∧ x.tape = w.tape ∧ x.output = w.output) ∧ w.heap.size ≤ x.heap.size ∧ ∀ i, i < w.heap.size → i ≠ g → x.heap[i]? = w.heap[i]?
theorem mD.KB.refl (w : World) (g : Nat) : mD.KB w w g := ⟨⟨rfl, rfl, rfl⟩, Nat.le_refl _, fun _ _ _ => rfl⟩
theorem mD.KB.of_below {w x : World} (h : Below w.heap.size w x) (g : Nat) : mD.KB w x g := ⟨⟨h.os, h.tape, h.output⟩, h.size, fun i hi _ => h.block i hi⟩
theorem mD.KB.trans {w x y : World} {g : Nat} (h : mD.KB w x g) (k : mD.KB x y g) : mD.KB w y g :=
 ⟨⟨k.1.1.trans h.1.1, k.1.2.1.trans h.1.2.1, k.1.2.2.trans h.1.2.2⟩, Nat.le_trans h.2.1 k.2.1, fun i hi hg => (k.2.2 i (Nat.lt_of_lt_of_le hi h.2.1) hg).trans (h.2.2 i hi hg)⟩
theorem mD.KB.step {w x y : World} {g : Nat} (h : mD.KB w x g) (hb : Below x.heap.size x y) : mD.KB w y g := h.trans (.of_below hb g)
theorem mD.KB.drewN {w x : World} {g : Nat} (h : mD.KB w x g) (n : Nat) : mD.KB w (x.drewN n) g := h
theorem mD.KB.drew {w x : World} {g : Nat} (h : mD.KB w x g) : mD.KB w x.drew g := h
theorem mD.KB.put {w x : World} {g : Nat} (h : mD.KB w x g) {q : Nat} (hq : q = g ∨ w.heap.size ≤ q) (j : Nat) (v : Value) : mD.KB w (x.setCell ⟨q, j, none⟩ v) g := by
 have e : Below 0 x (x.setCell ⟨q, j, none⟩ v) := Below.setCell (Below.refl 0 x) (Nat.zero_le _) _
 exact ⟨⟨e.os.trans h.1.1, e.tape.trans h.1.2.1, e.output.trans h.1.2.2⟩, Nat.le_trans h.2.1 e.size, fun i hi hg => (Below.heap_setCell x ⟨q, j, none⟩ v i (by show i ≠ q; omega)).trans (h.2.2 i hi hg)⟩
theorem mD.KB.below {b : Nat} {w0 w x : World} {g : Nat} (k : mD.KB w x g) (h : Below b w0 w) (hb : b ≤ g) (hw : b ≤ w.heap.size) : Below b w0 x :=
 ⟨k.1.1.trans h.os, k.1.2.1.trans h.tape, k.1.2.2.trans h.output, Nat.le_trans h.size k.2.1, fun i hi => (k.2.2 i (Nat.lt_of_lt_of_le hi hw) (by omega)).trans (h.block i hi)⟩
theorem mD.KB.blk {w x : World} {g g' : Nat} {o : Obj} (k : mD.KB w x g) (hb : w.heap[g']? = some o) (hne : g' ≠ g) : x.heap[g']? = some o := (k.2.2 g' (blk_lt hb) hne).trans hb
theorem mD.KB.row {α : Type} {d : Kd α} {e base : Nat} {ok : Nat → Prop} {w x : World} {g : Nat} {v : Value} {xs : List α} (k : mD.KB w x g) (h : Kd.R d e w base ok v xs) (hok : ∀ i, ok i → i ≠ g) : Kd.R d e x base ok v xs :=
 Kd.R_step h (fun i hi hlt => k.2.2 i hlt (hok i hi))
set_option maxHeartbeats 4000000 in
set_option maxRecDepth 100000 in
theorem mD.mustOk (g : Nat) (s rest : ByteArray) (w : World) (hX : w.heap[g]? = some (.cells #[.string s] 119 (0, 0))) :
  Calls Tryz.prog 85 #[.pointer (some ⟨g, 0, none⟩), .string rest, .int .i64 0] w fun e w' => e = .returned (.tuple #[]) ∧ w'.heap[g]? = some (.cells #[.string rest] 119 (0, 0)) ∧ mD.KB w w' g := by
 have hu := Tryz.underlying119
 have X := Aside0.mk hX
 have c0 : w.cell? ⟨g, 0, none⟩ = some (.string s) := (blk_cell hX 0).trans rfl
 have z0 := blk_frozen hX 0
 clear hX
 go_enter Tryz.func85, Tryz.ntmps85
 go_wp2
 go_end0
 exact ⟨rfl, blk_put X.out 0 (.string rest) rfl, (mD.KB.refl w g).put (.inl rfl) 0 _⟩
set_option maxHeartbeats 4000000 in
set_option maxRecDepth 100000 in
theorem mD.mustBad (g : Nat) (s rest : ByteArray) (ec : Int) (hec : ec ≠ 0) (w : World) :
  Calls Tryz.prog 85 #[.pointer (some ⟨g, 0, none⟩), .string rest, .int .i64 ec] w fun e w' => e = .panicked [{ v := .iface 46 (.int .i64 ec), recovered := false }] ∧ mD.KB w w' g := by
 have hb : (ec != 0) = true := bne_iff_ne.mpr hec
 clear hec
 go_enter Tryz.func85, Tryz.ntmps85
 go_wp2
 exact ⟨rfl, rfl, mD.KB.refl w g⟩
set_option maxHeartbeats 4000000 in
set_option maxRecDepth 100000 in
theorem mD.numOk (g : Nat) (s rest : ByteArray) (n : Int) (h : pack_Take.f s = some (n, rest, 0)) (w : World) (hX : w.heap[g]? = some (.cells #[.string s] 119 (0, 0))) :
  Calls Tryz.prog 83 #[.pointer (some ⟨g, 0, none⟩)] w fun e w' => e = .returned (.int .i64 n) ∧ w'.heap[g]? = some (.cells #[.string rest] 119 (0, 0)) ∧ mD.KB w w' g := by
 have hu := Tryz.underlying119
 have K_w := Aside0.mk (mD.KB.refl w g)
 have X_g_w := Aside0.mk hX
 have c_g_0_w := XW.cells1 (X_g_w.out)
 have z_g_0_w := XW.froz1 (X_g_w.out)
 clear hX
 have H := Aside0.mk h
 clear h
 go_enter Tryz.func83, Tryz.ntmps83
 go_wp2_with (first | (go_at_call 146; (with_reducible refine (pack_Take.calls s n rest 0 _ H.out).mono ?_); rintro e w1 ⟨rfl, hb⟩; have K_w1 := Aside0.mk (mD.KB.step K_w.out hb); have X_g_w1 := Aside0.mk (blk_below X_g_w.out hb); have c_g_0_w1 := XW.cells1 (X_g_w1.out); have z_g_0_w1 := XW.froz1 (X_g_w1.out); clear hb) | (go_at_call 85; (with_reducible refine (mD.mustOk g s rest _ X_g_w1.out).mono ?_); rintro e w2 ⟨rfl, hx, hk⟩; have K_w2 := Aside0.mk (mD.KB.trans K_w1.out hk); have X_g_w2 : Aside0 (w2.heap[g]? = some (.cells #[.string rest] 119 (0, 0))) := ⟨hx⟩; have c_g_0_w2 := XW.cells1 (X_g_w2.out); have z_g_0_w2 := XW.froz1 (X_g_w2.out); clear hx hk))
 go_ret
 exact ⟨rfl, X_g_w2.out, K_w2.out⟩
set_option maxHeartbeats 4000000 in
set_option maxRecDepth 100000 in
theorem mD.numBad (g : Nat) (s rest : ByteArray) (n ec : Int) (h : pack_Take.f s = some (n, rest, ec)) (hec : ec ≠ 0) (w : World) (hX : w.heap[g]? = some (.cells #[.string s] 119 (0, 0))) :
  Calls Tryz.prog 83 #[.pointer (some ⟨g, 0, none⟩)] w fun e w' => e = .panicked [{ v := .iface 46 (.int .i64 ec), recovered := false }] ∧ mD.KB w w' g := by
 have hu := Tryz.underlying119
 have K_w := Aside0.mk (mD.KB.refl w g)
 have X_g_w := Aside0.mk hX
 have c_g_0_w := XW.cells1 (X_g_w.out)
 have z_g_0_w := XW.froz1 (X_g_w.out)
 clear hX
 have H := Aside0.mk h
 have HE := Aside0.mk hec
 clear h hec
 go_enter Tryz.func83, Tryz.ntmps83
 go_wp2_with (first | (go_at_call 146; (with_reducible refine (pack_Take.calls s n rest ec _ H.out).mono ?_); rintro e w1 ⟨rfl, hb⟩; have K_w1 := Aside0.mk (mD.KB.step K_w.out hb); have X_g_w1 := Aside0.mk (blk_below X_g_w.out hb); have c_g_0_w1 := XW.cells1 (X_g_w1.out); have z_g_0_w1 := XW.froz1 (X_g_w1.out); clear hb) | (go_at_call 85; (with_reducible refine (mD.mustBad g s rest ec HE.out _).mono ?_); rintro e wp ⟨rfl, hk⟩; have KP := Aside0.mk (mD.KB.trans K_w1.out hk); clear hk))
 exact ⟨rfl, rfl, KP.out⟩
set_option maxHeartbeats 4000000 in
set_option maxRecDepth 100000 in
theorem mD.idOk (g : Nat) (s s1 s2 : ByteArray) (n n2 : Int) (h : pack_Take.f s = some (n, s1, 0)) (h2 : pack_Take.f s1 = some (n2, s2, 0)) (w : World) (hX : w.heap[g]? = some (.cells #[.string s] 119 (0, 0))) :
  Calls Tryz.prog 86 #[.pointer (some ⟨g, 0, none⟩)] w fun e w' => e = .returned (.agg #[.int .i64 n, .int .i64 n2]) ∧ w'.heap[g]? = some (.cells #[.string s2] 119 (0, 0)) ∧ mD.KB w w' g := by
 have hu := Tryz.underlying119
 have K_w := Aside0.mk (mD.KB.refl w g)
 have X_g_w := Aside0.mk hX
 have c_g_0_w := XW.cells1 (X_g_w.out)
 have z_g_0_w := XW.froz1 (X_g_w.out)
 clear hX
 have hu24 := Tryz.underlying52
 have H := Aside0.mk h
 have H2 := Aside0.mk h2
 clear h2
 clear h
 go_enter Tryz.func86, Tryz.ntmps86
 go_wp2_with (first | ((with_reducible refine gate_dst (N := 2) rfl ?_); (try (refine gate_guard (by rfl) ?_; dsimp only)); refine box_event ?hg (N := 2) ?hd (cs := #[.int .i64 0, .int .i64 0]) (t := 52) ?hr ?_; (case hd => rfl); (case hg => rfl); (case hr => first | (go_simp; done) | (go_simp; rfl)); intro gx hg_gx w1 hbox hb; have K_w1 := Aside0.mk (mD.KB.step K_w.out hb); have GE_gx : Aside0 (w.heap.size ≤ gx) := ⟨by rw [hg_gx]; exact K_w.out.2.1⟩; have X_g_w1 := Aside0.mk (blk_below X_g_w.out hb); have c_g_0_w1 := XW.cells1 (X_g_w1.out); have X_gx_w1 : Aside0 (w1.heap[gx]? = some (.cells #[.int .i64 0, .int .i64 0] 52 (0, 0))) := ⟨hbox⟩; obtain ⟨c_gx_0_w1, c_gx_1_w1⟩ := XW.cells2 (X_gx_w1.out); clear hb hbox hg_gx) | (go_at_call 83; (with_reducible refine (mD.numOk g s s1 n H.out _ X_g_w1.out).mono ?_); rintro e w2 ⟨rfl, hx, hk⟩; have K_w2 := Aside0.mk (mD.KB.trans K_w1.out hk); have X_g_w2 : Aside0 (w2.heap[g]? = some (.cells #[.string s1] 119 (0, 0))) := ⟨hx⟩; have c_g_0_w2 := XW.cells1 (X_g_w2.out); have z_g_0_w2 := XW.froz1 (X_g_w2.out); have X_gx_w2 := Aside0.mk (mD.KB.blk hk X_gx_w1.out (blk_ne X_gx_w1.out X_g_w1.out (by decide))); obtain ⟨c_gx_0_w2, c_gx_1_w2⟩ := XW.cells2 (X_gx_w2.out); obtain ⟨z_gx_0_w2, z_gx_1_w2⟩ := XW.froz2 (X_gx_w2.out); clear hx hk) | (go_at_call 83; (with_reducible refine (mD.numOk g s1 s2 n2 H2.out _ X_g_w2.out).mono ?_); rintro e w3 ⟨rfl, hx, hk⟩; have K_w3 := Aside0.mk (mD.KB.trans K_w2.out hk); have X_g_w3 : Aside0 (w3.heap[g]? = some (.cells #[.string s2] 119 (0, 0))) := ⟨hx⟩; have c_g_0_w3 := XW.cells1 (X_g_w3.out); have z_g_0_w3 := XW.froz1 (X_g_w3.out); have X_gx_w3 := Aside0.mk (mD.KB.blk hk X_gx_w2.out (blk_ne X_gx_w2.out X_g_w2.out (by decide))); obtain ⟨c_gx_0_w3, c_gx_1_w3⟩ := XW.cells2 (X_gx_w3.out); obtain ⟨z_gx_0_w3, z_gx_1_w3⟩ := XW.froz2 (X_gx_w3.out); clear hx hk) | ((with_reducible refine gate_store (t := 52) (p := 2) rfl ?_); go_must (refine store_event (t := 52) (p := 2) (v := ?vo_1) (w1 := ((w3.setCell ⟨gx, 0, none⟩ (.int .i64 n)).setCell ⟨gx, 1, none⟩ (.int .i64 n2))) ?hg ?ho ?hn ?hr ?_; (case ho => rfl); (case hg => rfl); (case hn => rfl); (case hr => first | (go_simp; done) | (go_simp; rfl)); intro w4 hw; have K_w4 : Aside0 (mD.KB w w4 g) := ⟨by rw [hw]; exact mD.KB.put (mD.KB.put (K_w3.out) (.inr GE_gx.out) 0 (.int .i64 n)) (.inr GE_gx.out) 1 (.int .i64 n2)⟩; have X_g_w4 := Aside0.mk (XW.blk_eq hw (blk_far (blk_far (X_g_w3.out) (p := ⟨gx, 0, none⟩) (blk_ne X_g_w3.out X_gx_w3.out (by decide)) (.int .i64 n)) (p := ⟨gx, 1, none⟩) (blk_ne X_g_w3.out X_gx_w3.out (by decide)) (.int .i64 n2))); have c_g_0_w4 := XW.cells1 (X_g_w4.out); have z_g_0_w4 := XW.froz1 (X_g_w4.out); have X_gx_w4 := Aside0.mk (XW.blk_eq hw (blk_put (cs' := #[.int .i64 n, .int .i64 n2]) (blk_put (cs' := #[.int .i64 n, .int .i64 0]) (X_gx_w3.out) 0 (.int .i64 n) rfl) 1 (.int .i64 n2) rfl)); obtain ⟨c_gx_0_w4, c_gx_1_w4⟩ := XW.cells2 (X_gx_w4.out); obtain ⟨z_gx_0_w4, z_gx_1_w4⟩ := XW.froz2 (X_gx_w4.out); clear hw)))
 refine bodyPost_ret (results_cell_row rfl _ _ gx 52 #[.int .i64 n, .int .i64 n2] (0, 0) _ rfl X_gx_w4.out Tryz.underlying52 rfl (by kernel_rfl)) rfl ?_
 exact ⟨rfl, X_g_w4.out, K_w4.out⟩
set_option maxHeartbeats 4000000 in
set_option maxRecDepth 100000 in
theorem mD.idBad1 (g : Nat) (s s1 : ByteArray) (n ec : Int) (h : pack_Take.f s = some (n, s1, ec)) (hec : ec ≠ 0) (w : World) (hX : w.heap[g]? = some (.cells #[.string s] 119 (0, 0))) :
  Calls Tryz.prog 86 #[.pointer (some ⟨g, 0, none⟩)] w fun e w' => e = .panicked [{ v := .iface 46 (.int .i64 ec), recovered := false }] ∧ mD.KB w w' g := by
 have hu := Tryz.underlying119
 have K_w := Aside0.mk (mD.KB.refl w g)
 have X_g_w := Aside0.mk hX
 have c_g_0_w := XW.cells1 (X_g_w.out)
 have z_g_0_w := XW.froz1 (X_g_w.out)
 clear hX
 have hu24 := Tryz.underlying52
 have H := Aside0.mk h
 have HE := Aside0.mk hec
 clear hec
 clear h
 go_enter Tryz.func86, Tryz.ntmps86
 go_wp2_with (first | ((with_reducible refine gate_dst (N := 2) rfl ?_); (try (refine gate_guard (by rfl) ?_; dsimp only)); refine box_event ?hg (N := 2) ?hd (cs := #[.int .i64 0, .int .i64 0]) (t := 52) ?hr ?_; (case hd => rfl); (case hg => rfl); (case hr => first | (go_simp; done) | (go_simp; rfl)); intro gx hg_gx w1 hbox hb; have K_w1 := Aside0.mk (mD.KB.step K_w.out hb); have GE_gx : Aside0 (w.heap.size ≤ gx) := ⟨by rw [hg_gx]; exact K_w.out.2.1⟩; have X_g_w1 := Aside0.mk (blk_below X_g_w.out hb); have c_g_0_w1 := XW.cells1 (X_g_w1.out); have X_gx_w1 : Aside0 (w1.heap[gx]? = some (.cells #[.int .i64 0, .int .i64 0] 52 (0, 0))) := ⟨hbox⟩; obtain ⟨c_gx_0_w1, c_gx_1_w1⟩ := XW.cells2 (X_gx_w1.out); clear hb hbox hg_gx) | (go_at_call 83; (with_reducible refine (mD.numBad g s s1 n ec H.out HE.out _ X_g_w1.out).mono ?_); rintro e wp ⟨rfl, hk⟩; have KP := Aside0.mk (mD.KB.trans K_w1.out hk); clear hk))
 exact ⟨rfl, rfl, KP.out⟩
set_option maxHeartbeats 4000000 in
set_option maxRecDepth 100000 in
theorem mD.idBad2 (g : Nat) (s s1 s2 : ByteArray) (n n2 ec : Int) (h : pack_Take.f s = some (n, s1, 0)) (h2 : pack_Take.f s1 = some (n2, s2, ec)) (hec : ec ≠ 0) (w : World) (hX : w.heap[g]? = some (.cells #[.string s] 119 (0, 0))) :
  Calls Tryz.prog 86 #[.pointer (some ⟨g, 0, none⟩)] w fun e w' => e = .panicked [{ v := .iface 46 (.int .i64 ec), recovered := false }] ∧ mD.KB w w' g := by
 have hu := Tryz.underlying119
 have K_w := Aside0.mk (mD.KB.refl w g)
 have X_g_w := Aside0.mk hX
 have c_g_0_w := XW.cells1 (X_g_w.out)
 have z_g_0_w := XW.froz1 (X_g_w.out)
 clear hX
 have hu24 := Tryz.underlying52
 have H := Aside0.mk h
 have H2 := Aside0.mk h2
 clear h2
 have HE := Aside0.mk hec
 clear hec
 clear h
 go_enter Tryz.func86, Tryz.ntmps86
 go_wp2_with (first | ((with_reducible refine gate_dst (N := 2) rfl ?_); (try (refine gate_guard (by rfl) ?_; dsimp only)); refine box_event ?hg (N := 2) ?hd (cs := #[.int .i64 0, .int .i64 0]) (t := 52) ?hr ?_; (case hd => rfl); (case hg => rfl); (case hr => first | (go_simp; done) | (go_simp; rfl)); intro gx hg_gx w1 hbox hb; have K_w1 := Aside0.mk (mD.KB.step K_w.out hb); have GE_gx : Aside0 (w.heap.size ≤ gx) := ⟨by rw [hg_gx]; exact K_w.out.2.1⟩; have X_g_w1 := Aside0.mk (blk_below X_g_w.out hb); have c_g_0_w1 := XW.cells1 (X_g_w1.out); have X_gx_w1 : Aside0 (w1.heap[gx]? = some (.cells #[.int .i64 0, .int .i64 0] 52 (0, 0))) := ⟨hbox⟩; obtain ⟨c_gx_0_w1, c_gx_1_w1⟩ := XW.cells2 (X_gx_w1.out); clear hb hbox hg_gx) | (go_at_call 83; (with_reducible refine (mD.numOk g s s1 n H.out _ X_g_w1.out).mono ?_); rintro e w2 ⟨rfl, hx, hk⟩; have K_w2 := Aside0.mk (mD.KB.trans K_w1.out hk); have X_g_w2 : Aside0 (w2.heap[g]? = some (.cells #[.string s1] 119 (0, 0))) := ⟨hx⟩; have c_g_0_w2 := XW.cells1 (X_g_w2.out); have z_g_0_w2 := XW.froz1 (X_g_w2.out); have X_gx_w2 := Aside0.mk (mD.KB.blk hk X_gx_w1.out (blk_ne X_gx_w1.out X_g_w1.out (by decide))); obtain ⟨c_gx_0_w2, c_gx_1_w2⟩ := XW.cells2 (X_gx_w2.out); obtain ⟨z_gx_0_w2, z_gx_1_w2⟩ := XW.froz2 (X_gx_w2.out); clear hx hk) | (go_at_call 83; (with_reducible refine (mD.numBad g s1 s2 n2 ec H2.out HE.out _ X_g_w2.out).mono ?_); rintro e wp ⟨rfl, hk⟩; have KP := Aside0.mk (mD.KB.trans K_w2.out hk); clear hk))
 exact ⟨rfl, rfl, KP.out⟩
def mD.bad (e : Int) : Option (Int × Int × List Int × Int × Int × Int × Int × Int × Int × Int × Int) := some (0, 0, ([] : List Int), 0, 0, 0, 0, 0, 0, 0, e)
def mD.num (s : ByteArray) (c : Int → ByteArray → Option (Int × Int × List Int × Int × Int × Int × Int × Int × Int × Int × Int)) : Option (Int × Int × List Int × Int × Int × Int × Int × Int × Int × Int × Int) := (pack_Take.f s).bind fun t => if t.2.2 = 0 then c t.1 t.2.1 else mD.bad t.2.2
def mD.ids (s : ByteArray) (c : Int → Int → ByteArray → Option (Int × Int × List Int × Int × Int × Int × Int × Int × Int × Int × Int)) : Option (Int × Int × List Int × Int × Int × Int × Int × Int × Int × Int × Int) := mD.num s fun a s => mD.num s fun b s => c a b s
def mD.fin (rest : ByteArray) (site seq : Int) (know : List Int) (kind epoch a b c d r : Int) : Option (Int × Int × List Int × Int × Int × Int × Int × Int × Int × Int × Int) :=
 if rest.toList = ([] : List UInt8) then (mC.f site seq know kind epoch a b c d r).bind fun q => if q = 0 then some (site, seq, know, kind, epoch, a, b, c, d, r, 0) else mD.bad 2 else mD.bad 2
def mD.tail (site seq : Int) (know : List Int) (kind epoch : Int) (s : ByteArray) : Option (Int × Int × List Int × Int × Int × Int × Int × Int × Int × Int × Int) :=
 if kind = 1 then mD.ids s fun a b s => mD.ids s fun c d s => mD.num s fun r s => mD.fin s site seq know kind epoch a b c d r
 else if kind = 6 then mD.ids s fun a b s => mD.fin s site seq know kind epoch a b 0 0 0
 else mD.ids s fun c d s => mD.fin s site seq know kind epoch 0 0 c d 0
def mD.kind (s : ByteArray) (site seq : Int) (know : List Int) : Option (Int × Int × List Int × Int × Int × Int × Int × Int × Int × Int × Int) :=
 mD.num s fun kind s => if kind < 1 then mD.bad 2 else if 8 < kind then mD.bad 2 else mD.num s fun epoch s => mD.tail site seq know kind epoch s
def mD.f (k : Nat) (s : ByteArray) : Option (Int × Int × List Int × Int × Int × Int × Int × Int × Int × Int × Int) :=
 mD.num s fun site s => mD.num s fun seq s => (pack_Each.f k s).bind fun t => if t.2.2 = 0 then mD.kind t.2.1 site seq t.1 else mD.bad t.2.2
theorem mD.num_le {s : ByteArray} {c c' : Int → ByteArray → Option (Int × Int × List Int × Int × Int × Int × Int × Int × Int × Int × Int)} (h : ∀ n t, LeO (c n t) (c' n t)) : LeO (mD.num s c) (mD.num s c') := by
 unfold mD.num
 refine LeO.bind (LeO.refl _) (fun t => ?_)
 exact LeO.ite (h _ _) (LeO.refl _)
theorem mD.mono : ∀ a0 k, LeO (mD.f k a0) (mD.f (k + 1) a0) := by
 intro a0 k
 unfold mD.f
 exact mD.num_le fun n s => mD.num_le fun m s => LeO.bind (pack_Each.mono _ _) (fun t => LeO.refl _)
theorem mD.num_some {s : ByteArray} {c : Int → ByteArray → Option (Int × Int × List Int × Int × Int × Int × Int × Int × Int × Int × Int)} {r : Int × Int × List Int × Int × Int × Int × Int × Int × Int × Int × Int} (h : mD.num s c = some r) :
  (∃ n t e, e ≠ 0 ∧ pack_Take.f s = some (n, t, e) ∧ mD.bad e = some r) ∨ (∃ n t, pack_Take.f s = some (n, t, 0) ∧ c n t = some r) := by
 unfold mD.num at h
 obtain ⟨⟨n, t, e⟩, h1, h2⟩ := Option.bind_eq_some_iff.mp h
 by_cases he : e = 0
 ·subst he; exact .inr ⟨n, t, h1, by simpa using h2⟩
 ·exact .inl ⟨n, t, e, he, h1, by simpa [he] using h2⟩
theorem mD.fin_some {s : ByteArray} {site seq : Int} {know : List Int} {kind epoch a b c d q : Int} {r : Int × Int × List Int × Int × Int × Int × Int × Int × Int × Int × Int} (h : mD.fin s site seq know kind epoch a b c d q = some r) :
  ((s.toList == ([] : List UInt8)) = false ∧ mD.bad 2 = some r) ∨ ((s.toList == ([] : List UInt8)) = true ∧ ∃ x, mC.f site seq know kind epoch a b c d q = some x ∧ x ≠ 0 ∧ mD.bad 2 = some r) ∨ ((s.toList == ([] : List UInt8)) = true ∧ mC.f site seq know kind epoch a b c d q = some 0 ∧ some (site, seq, know, kind, epoch, a, b, c, d, q, (0 : Int)) = some r) := by
 unfold mD.fin at h
 by_cases hs : s.toList = ([] : List UInt8)
 ·rw [if_pos hs] at h
  obtain ⟨x, h1, h2⟩ := Option.bind_eq_some_iff.mp h
  by_cases hx : x = 0
  ·subst hx; exact .inr (.inr ⟨beq_iff_eq.mpr hs, h1, by simpa using h2⟩)
  ·exact .inr (.inl ⟨beq_iff_eq.mpr hs, x, h1, hx, by simpa [hx] using h2⟩)
 ·rw [if_neg hs] at h
  exact .inl ⟨beq_eq_false_iff_ne.mpr hs, h⟩
theorem mD.each_some {k : Nat} {s : ByteArray} {site seq : Int} {r : Int × Int × List Int × Int × Int × Int × Int × Int × Int × Int × Int} (h : ((pack_Each.f k s).bind fun t => if t.2.2 = 0 then mD.kind t.2.1 site seq t.1 else mD.bad t.2.2) = some r) :
  (∃ l t e, e ≠ 0 ∧ pack_Each.f k s = some (l, t, e) ∧ mD.bad e = some r) ∨ (∃ l t, pack_Each.f k s = some (l, t, 0) ∧ mD.kind t site seq l = some r) := by
 obtain ⟨⟨n, t, e⟩, h1, h2⟩ := Option.bind_eq_some_iff.mp h
 by_cases he : e = 0
 ·subst he; exact .inr ⟨n, t, h1, by simpa using h2⟩
 ·exact .inl ⟨n, t, e, he, h1, by simpa [he] using h2⟩
theorem mD.kindK {n : Int} {s : ByteArray} {site seq : Int} {know : List Int} {r : Int × Int × List Int × Int × Int × Int × Int × Int × Int × Int × Int} (k0 : ¬ n < 1) (k8 : ¬ 8 < n) (h : (if n < 1 then mD.bad 2 else if 8 < n then mD.bad 2 else mD.num s fun epoch s => mD.tail site seq know n epoch s) = some r) : (mD.num s fun epoch s => mD.tail site seq know n epoch s) = some r := by
 rw [if_neg k0, if_neg k8] at h
 exact h
theorem mD.kind0 {n : Int} {c : Option (Int × Int × List Int × Int × Int × Int × Int × Int × Int × Int × Int)} {r : Int × Int × List Int × Int × Int × Int × Int × Int × Int × Int × Int} (k0 : n < 1) (h : (if n < 1 then mD.bad 2 else c) = some r) : mD.bad 2 = some r := by
 rw [if_pos k0] at h
 exact h
theorem mD.kind8 {n : Int} {c : Option (Int × Int × List Int × Int × Int × Int × Int × Int × Int × Int × Int)} {r : Int × Int × List Int × Int × Int × Int × Int × Int × Int × Int × Int} (k0 : ¬ n < 1) (k8 : 8 < n) (h : (if n < 1 then mD.bad 2 else if 8 < n then mD.bad 2 else c) = some r) : mD.bad 2 = some r := by
 rw [if_neg k0, if_pos k8] at h
 exact h
theorem mD.tail1 {s : ByteArray} {site seq epoch : Int} {know : List Int} {r : Int × Int × List Int × Int × Int × Int × Int × Int × Int × Int × Int} (h : mD.tail site seq know 1 epoch s = some r) : (mD.ids s fun a b s => mD.ids s fun c d s => mD.num s fun q s => mD.fin s site seq know 1 epoch a b c d q) = some r := by
 unfold mD.tail at h
 rw [if_pos rfl] at h
 exact h
theorem mD.tail6 {s : ByteArray} {site seq epoch : Int} {know : List Int} {r : Int × Int × List Int × Int × Int × Int × Int × Int × Int × Int × Int} (h : mD.tail site seq know 6 epoch s = some r) : (mD.ids s fun a b s => mD.fin s site seq know 6 epoch a b 0 0 0) = some r := by
 unfold mD.tail at h
 rw [if_neg (by decide), if_pos rfl] at h
 exact h
theorem mD.tailO {s : ByteArray} {site seq kind epoch : Int} {know : List Int} {r : Int × Int × List Int × Int × Int × Int × Int × Int × Int × Int × Int} (k1 : ¬ kind = 1) (k6 : ¬ kind = 6) (h : mD.tail site seq know kind epoch s = some r) : (mD.ids s fun c d s => mD.fin s site seq know kind epoch 0 0 c d 0) = some r := by
 unfold mD.tail at h
 rw [if_neg k1, if_neg k6] at h
 exact h
def mD.MP (w w' : World) (g : Nat) (e : Ending) (r : Int × Int × List Int × Int × Int × Int × Int × Int × Int × Int × Int) : Prop := mD.KB w w' g ∧ ((r.2.2.2.2.2.2.2.2.2.2 = 0 ∧ ∃ (A : Option Addr) (c : Nat), e = .returned (.agg #[.int .i64 r.1, .int .i64 r.2.1, .slice A r.2.2.1.length c, .int .i64 r.2.2.2.1, .int .i64 r.2.2.2.2.1, .int .i64 r.2.2.2.2.2.1, .int .i64 r.2.2.2.2.2.2.1, .int .i64 r.2.2.2.2.2.2.2.1, .int .i64 r.2.2.2.2.2.2.2.2.1, .int .i64 r.2.2.2.2.2.2.2.2.2.1]) ∧ Kd.R (Kd.int .i64) 3 w' w.heap.size (fun _ => True) (.slice A r.2.2.1.length c) r.2.2.1) ∨ (∃ ec, ec ≠ 0 ∧ mD.bad ec = some r ∧ e = .panicked [{ v := .iface 46 (.int .i64 ec), recovered := false }]))
theorem mD.MP.cases {w w' : World} {g : Nat} {e : Ending} {r1 r2 : Int} {r3 : List Int} {r4 r5 r6 r7 r8 r9 r10 r11 : Int} (h : mD.MP w w' g e (r1, r2, r3, r4, r5, r6, r7, r8, r9, r10, r11)) : mD.KB w w' g ∧ ((r11 = 0 ∧ ∃ (A : Option Addr) (c : Nat), e = .returned (.agg #[.int .i64 r1, .int .i64 r2, .slice A r3.length c, .int .i64 r4, .int .i64 r5, .int .i64 r6, .int .i64 r7, .int .i64 r8, .int .i64 r9, .int .i64 r10]) ∧ Kd.R (Kd.int .i64) 3 w' w.heap.size (fun _ => True) (.slice A r3.length c) r3) ∨ (∃ ec, ec ≠ 0 ∧ mD.bad ec = some (r1, r2, r3, r4, r5, r6, r7, r8, r9, r10, r11) ∧ e = .panicked [{ v := .iface 46 (.int .i64 ec), recovered := false }])) := h
theorem mD.MP.bad {w w' : World} {g : Nat} {r : Int × Int × List Int × Int × Int × Int × Int × Int × Int × Int × Int} {ec : Int} (k : mD.KB w w' g) (he : ec ≠ 0) (h : mD.bad ec = some r) : mD.MP w w' g (.panicked [{ v := .iface 46 (.int .i64 ec), recovered := false }]) r := ⟨k, .inr ⟨ec, he, h, rfl⟩⟩
set_option maxHeartbeats 4000000 in
set_option maxRecDepth 100000 in
theorem mD.msg (k : Nat) (g : Nat) (s : ByteArray) (r : Int × Int × List Int × Int × Int × Int × Int × Int × Int × Int × Int) (h : mD.f k s = some r) (w : World) (hX : w.heap[g]? = some (.cells #[.string s] 119 (0, 0))) :
  Calls Tryz.prog 39 #[.pointer (some ⟨g, 0, none⟩)] w fun e w' => mD.MP w w' g e r := by
 have hu := Tryz.underlying119
 have K_w := Aside0.mk (mD.KB.refl w g)
 have X_g_w := Aside0.mk hX
 have c_g_0_w := XW.cells1 (X_g_w.out)
 have z_g_0_w := XW.froz1 (X_g_w.out)
 clear hX
 have hu24 := Tryz.underlying52
 have hu26 := Tryz.underlying54
 have hu28 := Tryz.underlying56
 have H := Aside0.mk h
 clear h
 go_enter Tryz.func39, Tryz.ntmps39
 rcases mD.num_some H.out with ⟨n1, s1, ec, he, hA, hH⟩ | ⟨n1, s1, hA, hH⟩
 ·as_aux_lemma =>
   have HE := Aside0.mk he; have HA := Aside0.mk hA; have HB := Aside0.mk hH; clear he hA hH H
   go_wp2_with (first | ((with_reducible refine gate_dst (N := 2) rfl ?_); (try (refine gate_guard (by rfl) ?_; dsimp only)); refine box_event ?hg (N := 2) ?hd (cs := #[.int .i64 0, .int .i64 0, .slice none 0 0, .int .i64 0, .int .i64 0, .int .i64 0, .int .i64 0, .int .i64 0, .int .i64 0, .int .i64 0]) (t := 56) ?hr ?_; (case hd => rfl); (case hg => rfl); (case hr => first | (go_simp; done) | (go_simp; rfl)); intro gm hg_gm w1 hbox hb; have K_w1 := Aside0.mk (mD.KB.step K_w.out hb); have GE_gm : Aside0 (w.heap.size ≤ gm) := ⟨by rw [hg_gm]; exact K_w.out.2.1⟩; have X_g_w1 := Aside0.mk (blk_below X_g_w.out hb); have c_g_0_w1 := XW.cells1 (X_g_w1.out); have X_gm_w1 : Aside0 (w1.heap[gm]? = some (.cells #[.int .i64 0, .int .i64 0, .slice none 0 0, .int .i64 0, .int .i64 0, .int .i64 0, .int .i64 0, .int .i64 0, .int .i64 0, .int .i64 0] 56 (0, 0))) := ⟨hbox⟩; obtain ⟨c_gm_0_w1, c_gm_1_w1, c_gm_2_w1, c_gm_3_w1, c_gm_4_w1, c_gm_5_w1, c_gm_6_w1, c_gm_7_w1, c_gm_8_w1, c_gm_9_w1⟩ := XW.cells10 (X_gm_w1.out); obtain ⟨z_gm_0_w1, z_gm_1_w1, z_gm_2_w1, z_gm_3_w1, z_gm_4_w1, z_gm_5_w1, z_gm_6_w1, z_gm_7_w1, z_gm_8_w1, z_gm_9_w1⟩ := XW.froz10 (X_gm_w1.out); clear hb hbox hg_gm) | (go_at_call 83; (with_reducible refine (mD.numBad g s s1 n1 ec HA.out HE.out _ X_g_w1.out).mono ?_); rintro e wp ⟨rfl, hk⟩; have KP := Aside0.mk (mD.KB.trans K_w1.out hk); clear hk))
   exact ⟨rfl, mD.MP.bad KP.out HE.out HB.out⟩
 have HA1 := Aside0.mk hA; have H := Aside0.mk hH; clear hA hH
 go_upto_region 2 with (first | ((with_reducible refine gate_dst (N := 2) rfl ?_); (try (refine gate_guard (by rfl) ?_; dsimp only)); refine box_event ?hg (N := 2) ?hd (cs := #[.int .i64 0, .int .i64 0, .slice none 0 0, .int .i64 0, .int .i64 0, .int .i64 0, .int .i64 0, .int .i64 0, .int .i64 0, .int .i64 0]) (t := 56) ?hr ?_; (case hd => rfl); (case hg => rfl); (case hr => first | (go_simp; done) | (go_simp; rfl)); intro gm hg_gm w1 hbox hb; have K_w1 := Aside0.mk (mD.KB.step K_w.out hb); have GE_gm : Aside0 (w.heap.size ≤ gm) := ⟨by rw [hg_gm]; exact K_w.out.2.1⟩; have X_g_w1 := Aside0.mk (blk_below X_g_w.out hb); have c_g_0_w1 := XW.cells1 (X_g_w1.out); have X_gm_w1 : Aside0 (w1.heap[gm]? = some (.cells #[.int .i64 0, .int .i64 0, .slice none 0 0, .int .i64 0, .int .i64 0, .int .i64 0, .int .i64 0, .int .i64 0, .int .i64 0, .int .i64 0] 56 (0, 0))) := ⟨hbox⟩; obtain ⟨c_gm_0_w1, c_gm_1_w1, c_gm_2_w1, c_gm_3_w1, c_gm_4_w1, c_gm_5_w1, c_gm_6_w1, c_gm_7_w1, c_gm_8_w1, c_gm_9_w1⟩ := XW.cells10 (X_gm_w1.out); obtain ⟨z_gm_0_w1, z_gm_1_w1, z_gm_2_w1, z_gm_3_w1, z_gm_4_w1, z_gm_5_w1, z_gm_6_w1, z_gm_7_w1, z_gm_8_w1, z_gm_9_w1⟩ := XW.froz10 (X_gm_w1.out); clear hb hbox hg_gm) | (go_at_call 83; (with_reducible refine (mD.numOk g s s1 n1 HA1.out _ X_g_w1.out).mono ?_); rintro e w2 ⟨rfl, hx, hk⟩; have K_w2 := Aside0.mk (mD.KB.trans K_w1.out hk); have X_g_w2 : Aside0 (w2.heap[g]? = some (.cells #[.string s1] 119 (0, 0))) := ⟨hx⟩; have c_g_0_w2 := XW.cells1 (X_g_w2.out); have z_g_0_w2 := XW.froz1 (X_g_w2.out); have X_gm_w2 := Aside0.mk (mD.KB.blk hk X_gm_w1.out (blk_ne X_gm_w1.out X_g_w1.out (by decide))); obtain ⟨c_gm_0_w2, c_gm_1_w2, c_gm_2_w2, c_gm_3_w2, c_gm_4_w2, c_gm_5_w2, c_gm_6_w2, c_gm_7_w2, c_gm_8_w2, c_gm_9_w2⟩ := XW.cells10 (X_gm_w2.out); obtain ⟨z_gm_0_w2, z_gm_1_w2, z_gm_2_w2, z_gm_3_w2, z_gm_4_w2, z_gm_5_w2, z_gm_6_w2, z_gm_7_w2, z_gm_8_w2, z_gm_9_w2⟩ := XW.froz10 (X_gm_w2.out); clear hx hk) | ((with_reducible refine gate_store (t := 3) (p := 11) rfl ?_); go_must (refine store_event (t := 3) (p := 11) (v := ?vo_2) (w1 := (w2.setCell ⟨gm, 0, none⟩ (.int .i64 n1))) ?hg ?ho ?hn ?hr ?_; (case ho => rfl); (case hg => rfl); (case hn => rfl); (case hr => first | (go_simp; done) | (go_simp; rfl)); intro w3 hw; have K_w3 : Aside0 (mD.KB w w3 g) := ⟨by rw [hw]; exact mD.KB.put (K_w2.out) (.inr GE_gm.out) 0 (.int .i64 n1)⟩; have X_g_w3 := Aside0.mk (XW.blk_eq hw (blk_far (X_g_w2.out) (p := ⟨gm, 0, none⟩) (blk_ne X_g_w2.out X_gm_w2.out (by decide)) (.int .i64 n1))); have c_g_0_w3 := XW.cells1 (X_g_w3.out); have z_g_0_w3 := XW.froz1 (X_g_w3.out); have X_gm_w3 := Aside0.mk (XW.blk_eq hw (blk_put (cs' := #[.int .i64 n1, .int .i64 0, .slice none 0 0, .int .i64 0, .int .i64 0, .int .i64 0, .int .i64 0, .int .i64 0, .int .i64 0, .int .i64 0]) (X_gm_w2.out) 0 (.int .i64 n1) rfl)); obtain ⟨c_gm_0_w3, c_gm_1_w3, c_gm_2_w3, c_gm_3_w3, c_gm_4_w3, c_gm_5_w3, c_gm_6_w3, c_gm_7_w3, c_gm_8_w3, c_gm_9_w3⟩ := XW.cells10 (X_gm_w3.out); obtain ⟨z_gm_0_w3, z_gm_1_w3, z_gm_2_w3, z_gm_3_w3, z_gm_4_w3, z_gm_5_w3, z_gm_6_w3, z_gm_7_w3, z_gm_8_w3, z_gm_9_w3⟩ := XW.froz10 (X_gm_w3.out); clear hw)))
 try clear X_g_w; try clear X_gm_w; try clear K_w; try clear z_g_0_w c_g_0_w; try clear c_gm_0_w c_gm_1_w c_gm_2_w c_gm_3_w c_gm_4_w c_gm_5_w c_gm_6_w c_gm_7_w c_gm_8_w c_gm_9_w; try clear z_gm_0_w z_gm_1_w z_gm_2_w z_gm_3_w z_gm_4_w z_gm_5_w z_gm_6_w z_gm_7_w z_gm_8_w z_gm_9_w
 try clear O_k_w
 try clear X_g_w1; try clear X_gm_w1; try clear K_w1; try clear z_g_0_w1 c_g_0_w1; try clear c_gm_0_w1 c_gm_1_w1 c_gm_2_w1 c_gm_3_w1 c_gm_4_w1 c_gm_5_w1 c_gm_6_w1 c_gm_7_w1 c_gm_8_w1 c_gm_9_w1; try clear z_gm_0_w1 z_gm_1_w1 z_gm_2_w1 z_gm_3_w1 z_gm_4_w1 z_gm_5_w1 z_gm_6_w1 z_gm_7_w1 z_gm_8_w1 z_gm_9_w1
 try clear O_k_w1
 try clear X_g_w2; try clear X_gm_w2; try clear K_w2; try clear z_g_0_w2 c_g_0_w2; try clear c_gm_0_w2 c_gm_1_w2 c_gm_2_w2 c_gm_3_w2 c_gm_4_w2 c_gm_5_w2 c_gm_6_w2 c_gm_7_w2 c_gm_8_w2 c_gm_9_w2; try clear z_gm_0_w2 z_gm_1_w2 z_gm_2_w2 z_gm_3_w2 z_gm_4_w2 z_gm_5_w2 z_gm_6_w2 z_gm_7_w2 z_gm_8_w2 z_gm_9_w2
 try clear O_k_w2
 rcases mD.num_some H.out with ⟨n2, s2, ec, he, hA, hH⟩ | ⟨n2, s2, hA, hH⟩
 ·as_aux_lemma =>
   have HE := Aside0.mk he; have HA := Aside0.mk hA; have HB := Aside0.mk hH; clear he hA hH H
   go_wp2_with (first | (go_at_call 83; (with_reducible refine (mD.numBad g s1 s2 n2 ec HA.out HE.out _ X_g_w3.out).mono ?_); rintro e wp ⟨rfl, hk⟩; have KP := Aside0.mk (mD.KB.trans K_w3.out hk); clear hk))
   exact ⟨rfl, mD.MP.bad KP.out HE.out HB.out⟩
 have HA2 := Aside0.mk hA; have H := Aside0.mk hH; clear hA hH
 go_upto_region 3 with (first | (go_at_call 83; (with_reducible refine (mD.numOk g s1 s2 n2 HA2.out _ X_g_w3.out).mono ?_); rintro e w4 ⟨rfl, hx, hk⟩; have K_w4 := Aside0.mk (mD.KB.trans K_w3.out hk); have X_g_w4 : Aside0 (w4.heap[g]? = some (.cells #[.string s2] 119 (0, 0))) := ⟨hx⟩; have c_g_0_w4 := XW.cells1 (X_g_w4.out); have z_g_0_w4 := XW.froz1 (X_g_w4.out); have X_gm_w4 := Aside0.mk (mD.KB.blk hk X_gm_w3.out (blk_ne X_gm_w3.out X_g_w3.out (by decide))); obtain ⟨c_gm_0_w4, c_gm_1_w4, c_gm_2_w4, c_gm_3_w4, c_gm_4_w4, c_gm_5_w4, c_gm_6_w4, c_gm_7_w4, c_gm_8_w4, c_gm_9_w4⟩ := XW.cells10 (X_gm_w4.out); obtain ⟨z_gm_0_w4, z_gm_1_w4, z_gm_2_w4, z_gm_3_w4, z_gm_4_w4, z_gm_5_w4, z_gm_6_w4, z_gm_7_w4, z_gm_8_w4, z_gm_9_w4⟩ := XW.froz10 (X_gm_w4.out); clear hx hk) | ((with_reducible refine gate_store (t := 3) (p := 14) rfl ?_); go_must (refine store_event (t := 3) (p := 14) (v := ?vo_3) (w1 := (w4.setCell ⟨gm, 1, none⟩ (.int .i64 n2))) ?hg ?ho ?hn ?hr ?_; (case ho => rfl); (case hg => rfl); (case hn => rfl); (case hr => first | (go_simp; done) | (go_simp; rfl)); intro w5 hw; have K_w5 : Aside0 (mD.KB w w5 g) := ⟨by rw [hw]; exact mD.KB.put (K_w4.out) (.inr GE_gm.out) 1 (.int .i64 n2)⟩; have X_g_w5 := Aside0.mk (XW.blk_eq hw (blk_far (X_g_w4.out) (p := ⟨gm, 1, none⟩) (blk_ne X_g_w4.out X_gm_w4.out (by decide)) (.int .i64 n2))); have c_g_0_w5 := XW.cells1 (X_g_w5.out); have z_g_0_w5 := XW.froz1 (X_g_w5.out); have X_gm_w5 := Aside0.mk (XW.blk_eq hw (blk_put (cs' := #[.int .i64 n1, .int .i64 n2, .slice none 0 0, .int .i64 0, .int .i64 0, .int .i64 0, .int .i64 0, .int .i64 0, .int .i64 0, .int .i64 0]) (X_gm_w4.out) 1 (.int .i64 n2) rfl)); obtain ⟨c_gm_0_w5, c_gm_1_w5, c_gm_2_w5, c_gm_3_w5, c_gm_4_w5, c_gm_5_w5, c_gm_6_w5, c_gm_7_w5, c_gm_8_w5, c_gm_9_w5⟩ := XW.cells10 (X_gm_w5.out); obtain ⟨z_gm_0_w5, z_gm_1_w5, z_gm_2_w5, z_gm_3_w5, z_gm_4_w5, z_gm_5_w5, z_gm_6_w5, z_gm_7_w5, z_gm_8_w5, z_gm_9_w5⟩ := XW.froz10 (X_gm_w5.out); clear hw)))
 try clear X_g_w3; try clear X_gm_w3; try clear K_w3; try clear z_g_0_w3 c_g_0_w3; try clear c_gm_0_w3 c_gm_1_w3 c_gm_2_w3 c_gm_3_w3 c_gm_4_w3 c_gm_5_w3 c_gm_6_w3 c_gm_7_w3 c_gm_8_w3 c_gm_9_w3; try clear z_gm_0_w3 z_gm_1_w3 z_gm_2_w3 z_gm_3_w3 z_gm_4_w3 z_gm_5_w3 z_gm_6_w3 z_gm_7_w3 z_gm_8_w3 z_gm_9_w3
 try clear O_k_w3
 try clear X_g_w4; try clear X_gm_w4; try clear K_w4; try clear z_g_0_w4 c_g_0_w4; try clear c_gm_0_w4 c_gm_1_w4 c_gm_2_w4 c_gm_3_w4 c_gm_4_w4 c_gm_5_w4 c_gm_6_w4 c_gm_7_w4 c_gm_8_w4 c_gm_9_w4; try clear z_gm_0_w4 z_gm_1_w4 z_gm_2_w4 z_gm_3_w4 z_gm_4_w4 z_gm_5_w4 z_gm_6_w4 z_gm_7_w4 z_gm_8_w4 z_gm_9_w4
 try clear O_k_w4
 rcases mD.each_some H.out with ⟨l3, s3, ec, he, hA, hH⟩ | ⟨l3, s3, hA, hH⟩
 ·as_aux_lemma =>
   have HE := Aside0.mk he; have HA := Aside0.mk hA; have HB := Aside0.mk hH; clear he hA hH H
   go_wp2_with (first | (go_at_call 84; (with_reducible refine (pack_Each.calls k s2 l3 s3 ec _ HA.out).mono ?_); rintro e w6 ⟨v3, rfl, ho, hb⟩; have K_w6 := Aside0.mk (mD.KB.step K_w5.out hb); have X_g_w6 := Aside0.mk (blk_below X_g_w5.out hb); have c_g_0_w6 := XW.cells1 (X_g_w6.out); have X_gm_w6 := Aside0.mk (blk_below X_gm_w5.out hb); obtain ⟨c_gm_0_w6, c_gm_1_w6, c_gm_2_w6, c_gm_3_w6, c_gm_4_w6, c_gm_5_w6, c_gm_6_w6, c_gm_7_w6, c_gm_8_w6, c_gm_9_w6⟩ := XW.cells10 (X_gm_w6.out); have z_g_0_w6 := XW.froz1 (X_g_w6.out); obtain ⟨z_gm_0_w6, z_gm_1_w6, z_gm_2_w6, z_gm_3_w6, z_gm_4_w6, z_gm_5_w6, z_gm_6_w6, z_gm_7_w6, z_gm_8_w6, z_gm_9_w6⟩ := XW.froz10 (X_gm_w6.out); obtain ⟨A3, c3, ev⟩ := Kd.R_slice ho; subst ev; have O_k_w6 : Aside0 (Kd.R (Kd.int .i64) 3 w6 w.heap.size (fun k => k ≠ g ∧ k ≠ gm) (.slice A3 l3.length c3) l3) := ⟨Kd.R_mono (Kd.R_types (Kd.R_types (Kd.R_lower ho K_w5.out.2.1) X_g_w6.out (by decide)) X_gm_w6.out (by decide)) (fun _ hk => ⟨hk.1.2, hk.2⟩)⟩; clear ho; clear hb) | (go_at_call 85; (with_reducible refine (mD.mustBad g s2 s3 ec HE.out _).mono ?_); rintro e wp ⟨rfl, hk⟩; have KP := Aside0.mk (mD.KB.trans K_w6.out hk); clear hk))
   exact ⟨rfl, mD.MP.bad KP.out HE.out HB.out⟩
 have HA3 := Aside0.mk hA; have H := Aside0.mk hH; clear hA hH
 go_upto_region 6 with (first | (go_at_call 84; (with_reducible refine (pack_Each.calls k s2 l3 s3 0 _ HA3.out).mono ?_); rintro e w6 ⟨v3, rfl, ho, hb⟩; have K_w6 := Aside0.mk (mD.KB.step K_w5.out hb); have X_g_w6 := Aside0.mk (blk_below X_g_w5.out hb); have c_g_0_w6 := XW.cells1 (X_g_w6.out); have X_gm_w6 := Aside0.mk (blk_below X_gm_w5.out hb); obtain ⟨c_gm_0_w6, c_gm_1_w6, c_gm_2_w6, c_gm_3_w6, c_gm_4_w6, c_gm_5_w6, c_gm_6_w6, c_gm_7_w6, c_gm_8_w6, c_gm_9_w6⟩ := XW.cells10 (X_gm_w6.out); have z_g_0_w6 := XW.froz1 (X_g_w6.out); obtain ⟨z_gm_0_w6, z_gm_1_w6, z_gm_2_w6, z_gm_3_w6, z_gm_4_w6, z_gm_5_w6, z_gm_6_w6, z_gm_7_w6, z_gm_8_w6, z_gm_9_w6⟩ := XW.froz10 (X_gm_w6.out); obtain ⟨A3, c3, ev⟩ := Kd.R_slice ho; subst ev; have O_k_w6 : Aside0 (Kd.R (Kd.int .i64) 3 w6 w.heap.size (fun k => k ≠ g ∧ k ≠ gm) (.slice A3 l3.length c3) l3) := ⟨Kd.R_mono (Kd.R_types (Kd.R_types (Kd.R_lower ho K_w5.out.2.1) X_g_w6.out (by decide)) X_gm_w6.out (by decide)) (fun _ hk => ⟨hk.1.2, hk.2⟩)⟩; clear ho; clear hb) | (go_at_call 85; (with_reducible refine (mD.mustOk g s2 s3 _ X_g_w6.out).mono ?_); rintro e w7 ⟨rfl, hx, hk⟩; have K_w7 := Aside0.mk (mD.KB.trans K_w6.out hk); have X_g_w7 : Aside0 (w7.heap[g]? = some (.cells #[.string s3] 119 (0, 0))) := ⟨hx⟩; have c_g_0_w7 := XW.cells1 (X_g_w7.out); have z_g_0_w7 := XW.froz1 (X_g_w7.out); have X_gm_w7 := Aside0.mk (mD.KB.blk hk X_gm_w6.out (blk_ne X_gm_w6.out X_g_w6.out (by decide))); obtain ⟨c_gm_0_w7, c_gm_1_w7, c_gm_2_w7, c_gm_3_w7, c_gm_4_w7, c_gm_5_w7, c_gm_6_w7, c_gm_7_w7, c_gm_8_w7, c_gm_9_w7⟩ := XW.cells10 (X_gm_w7.out); obtain ⟨z_gm_0_w7, z_gm_1_w7, z_gm_2_w7, z_gm_3_w7, z_gm_4_w7, z_gm_5_w7, z_gm_6_w7, z_gm_7_w7, z_gm_8_w7, z_gm_9_w7⟩ := XW.froz10 (X_gm_w7.out); have O_k_w7 := Aside0.mk (mD.KB.row hk O_k_w6.out (fun k hk => hk.1)); clear hx hk) | ((with_reducible refine gate_store (t := 50) (p := 29) rfl ?_); go_must (refine store_event (t := 50) (p := 29) (v := ?vo_4) (w1 := (w7.setCell ⟨gm, 2, none⟩ (.slice A3 l3.length c3))) ?hg ?ho ?hn ?hr ?_; (case ho => rfl); (case hg => rfl); (case hn => rfl); (case hr => first | (go_simp; done) | (go_simp; rfl)); intro w8 hw; have K_w8 : Aside0 (mD.KB w w8 g) := ⟨by rw [hw]; exact mD.KB.put (K_w7.out) (.inr GE_gm.out) 2 (.slice A3 l3.length c3)⟩; have X_g_w8 := Aside0.mk (XW.blk_eq hw (blk_far (X_g_w7.out) (p := ⟨gm, 2, none⟩) (blk_ne X_g_w7.out X_gm_w7.out (by decide)) (.slice A3 l3.length c3))); have c_g_0_w8 := XW.cells1 (X_g_w8.out); have z_g_0_w8 := XW.froz1 (X_g_w8.out); have X_gm_w8 := Aside0.mk (XW.blk_eq hw (blk_put (cs' := #[.int .i64 n1, .int .i64 n2, .slice A3 l3.length c3, .int .i64 0, .int .i64 0, .int .i64 0, .int .i64 0, .int .i64 0, .int .i64 0, .int .i64 0]) (X_gm_w7.out) 2 (.slice A3 l3.length c3) rfl)); obtain ⟨c_gm_0_w8, c_gm_1_w8, c_gm_2_w8, c_gm_3_w8, c_gm_4_w8, c_gm_5_w8, c_gm_6_w8, c_gm_7_w8, c_gm_8_w8, c_gm_9_w8⟩ := XW.cells10 (X_gm_w8.out); obtain ⟨z_gm_0_w8, z_gm_1_w8, z_gm_2_w8, z_gm_3_w8, z_gm_4_w8, z_gm_5_w8, z_gm_6_w8, z_gm_7_w8, z_gm_8_w8, z_gm_9_w8⟩ := XW.froz10 (X_gm_w8.out); have O_k_w8 : Aside0 (Kd.R (Kd.int .i64) 3 w8 w.heap.size (fun k => k ≠ g ∧ k ≠ gm) (.slice A3 l3.length c3) l3) := ⟨by rw [hw]; exact Kd.R_far (O_k_w7.out) (p := ⟨gm, 2, none⟩) (fun k hk => hk.2) (.slice A3 l3.length c3)⟩; clear hw)))
 try clear X_g_w5; try clear X_gm_w5; try clear K_w5; try clear z_g_0_w5 c_g_0_w5; try clear c_gm_0_w5 c_gm_1_w5 c_gm_2_w5 c_gm_3_w5 c_gm_4_w5 c_gm_5_w5 c_gm_6_w5 c_gm_7_w5 c_gm_8_w5 c_gm_9_w5; try clear z_gm_0_w5 z_gm_1_w5 z_gm_2_w5 z_gm_3_w5 z_gm_4_w5 z_gm_5_w5 z_gm_6_w5 z_gm_7_w5 z_gm_8_w5 z_gm_9_w5
 try clear O_k_w5
 try clear X_g_w6; try clear X_gm_w6; try clear K_w6; try clear z_g_0_w6 c_g_0_w6; try clear c_gm_0_w6 c_gm_1_w6 c_gm_2_w6 c_gm_3_w6 c_gm_4_w6 c_gm_5_w6 c_gm_6_w6 c_gm_7_w6 c_gm_8_w6 c_gm_9_w6; try clear z_gm_0_w6 z_gm_1_w6 z_gm_2_w6 z_gm_3_w6 z_gm_4_w6 z_gm_5_w6 z_gm_6_w6 z_gm_7_w6 z_gm_8_w6 z_gm_9_w6
 try clear O_k_w6
 try clear X_g_w7; try clear X_gm_w7; try clear K_w7; try clear z_g_0_w7 c_g_0_w7; try clear c_gm_0_w7 c_gm_1_w7 c_gm_2_w7 c_gm_3_w7 c_gm_4_w7 c_gm_5_w7 c_gm_6_w7 c_gm_7_w7 c_gm_8_w7 c_gm_9_w7; try clear z_gm_0_w7 z_gm_1_w7 z_gm_2_w7 z_gm_3_w7 z_gm_4_w7 z_gm_5_w7 z_gm_6_w7 z_gm_7_w7 z_gm_8_w7 z_gm_9_w7
 try clear O_k_w7
 rcases mD.num_some H.out with ⟨n4, s4, ec, he, hA, hH⟩ | ⟨n4, s4, hA, hH⟩
 ·as_aux_lemma =>
   have HE := Aside0.mk he; have HA := Aside0.mk hA; have HB := Aside0.mk hH; clear he hA hH H
   go_wp2_with (first | (go_at_call 83; (with_reducible refine (mD.numBad g s3 s4 n4 ec HA.out HE.out _ X_g_w8.out).mono ?_); rintro e wp ⟨rfl, hk⟩; have KP := Aside0.mk (mD.KB.trans K_w8.out hk); clear hk))
   exact ⟨rfl, mD.MP.bad KP.out HE.out HB.out⟩
 have HA4 := Aside0.mk hA; have H := Aside0.mk hH; clear hA hH
 go_upto_region 7 with (first | (go_at_call 83; (with_reducible refine (mD.numOk g s3 s4 n4 HA4.out _ X_g_w8.out).mono ?_); rintro e w9 ⟨rfl, hx, hk⟩; have K_w9 := Aside0.mk (mD.KB.trans K_w8.out hk); have X_g_w9 : Aside0 (w9.heap[g]? = some (.cells #[.string s4] 119 (0, 0))) := ⟨hx⟩; have c_g_0_w9 := XW.cells1 (X_g_w9.out); have z_g_0_w9 := XW.froz1 (X_g_w9.out); have X_gm_w9 := Aside0.mk (mD.KB.blk hk X_gm_w8.out (blk_ne X_gm_w8.out X_g_w8.out (by decide))); obtain ⟨c_gm_0_w9, c_gm_1_w9, c_gm_2_w9, c_gm_3_w9, c_gm_4_w9, c_gm_5_w9, c_gm_6_w9, c_gm_7_w9, c_gm_8_w9, c_gm_9_w9⟩ := XW.cells10 (X_gm_w9.out); obtain ⟨z_gm_0_w9, z_gm_1_w9, z_gm_2_w9, z_gm_3_w9, z_gm_4_w9, z_gm_5_w9, z_gm_6_w9, z_gm_7_w9, z_gm_8_w9, z_gm_9_w9⟩ := XW.froz10 (X_gm_w9.out); have O_k_w9 := Aside0.mk (mD.KB.row hk O_k_w8.out (fun k hk => hk.1)); clear hx hk) | ((with_reducible refine gate_store (t := 3) (p := 33) rfl ?_); go_must (refine store_event (t := 3) (p := 33) (v := ?vo_5) (w1 := (w9.setCell ⟨gm, 3, none⟩ (.int .i64 n4))) ?hg ?ho ?hn ?hr ?_; (case ho => rfl); (case hg => rfl); (case hn => rfl); (case hr => first | (go_simp; done) | (go_simp; rfl)); intro w10 hw; have K_w10 : Aside0 (mD.KB w w10 g) := ⟨by rw [hw]; exact mD.KB.put (K_w9.out) (.inr GE_gm.out) 3 (.int .i64 n4)⟩; have X_g_w10 := Aside0.mk (XW.blk_eq hw (blk_far (X_g_w9.out) (p := ⟨gm, 3, none⟩) (blk_ne X_g_w9.out X_gm_w9.out (by decide)) (.int .i64 n4))); have c_g_0_w10 := XW.cells1 (X_g_w10.out); have z_g_0_w10 := XW.froz1 (X_g_w10.out); have X_gm_w10 := Aside0.mk (XW.blk_eq hw (blk_put (cs' := #[.int .i64 n1, .int .i64 n2, .slice A3 l3.length c3, .int .i64 n4, .int .i64 0, .int .i64 0, .int .i64 0, .int .i64 0, .int .i64 0, .int .i64 0]) (X_gm_w9.out) 3 (.int .i64 n4) rfl)); obtain ⟨c_gm_0_w10, c_gm_1_w10, c_gm_2_w10, c_gm_3_w10, c_gm_4_w10, c_gm_5_w10, c_gm_6_w10, c_gm_7_w10, c_gm_8_w10, c_gm_9_w10⟩ := XW.cells10 (X_gm_w10.out); obtain ⟨z_gm_0_w10, z_gm_1_w10, z_gm_2_w10, z_gm_3_w10, z_gm_4_w10, z_gm_5_w10, z_gm_6_w10, z_gm_7_w10, z_gm_8_w10, z_gm_9_w10⟩ := XW.froz10 (X_gm_w10.out); have O_k_w10 : Aside0 (Kd.R (Kd.int .i64) 3 w10 w.heap.size (fun k => k ≠ g ∧ k ≠ gm) (.slice A3 l3.length c3) l3) := ⟨by rw [hw]; exact Kd.R_far (O_k_w9.out) (p := ⟨gm, 3, none⟩) (fun k hk => hk.2) (.int .i64 n4)⟩; clear hw)))
 try clear X_g_w8; try clear X_gm_w8; try clear K_w8; try clear z_g_0_w8 c_g_0_w8; try clear c_gm_0_w8 c_gm_1_w8 c_gm_2_w8 c_gm_3_w8 c_gm_4_w8 c_gm_5_w8 c_gm_6_w8 c_gm_7_w8 c_gm_8_w8 c_gm_9_w8; try clear z_gm_0_w8 z_gm_1_w8 z_gm_2_w8 z_gm_3_w8 z_gm_4_w8 z_gm_5_w8 z_gm_6_w8 z_gm_7_w8 z_gm_8_w8 z_gm_9_w8
 try clear O_k_w8
 try clear X_g_w9; try clear X_gm_w9; try clear K_w9; try clear z_g_0_w9 c_g_0_w9; try clear c_gm_0_w9 c_gm_1_w9 c_gm_2_w9 c_gm_3_w9 c_gm_4_w9 c_gm_5_w9 c_gm_6_w9 c_gm_7_w9 c_gm_8_w9 c_gm_9_w9; try clear z_gm_0_w9 z_gm_1_w9 z_gm_2_w9 z_gm_3_w9 z_gm_4_w9 z_gm_5_w9 z_gm_6_w9 z_gm_7_w9 z_gm_8_w9 z_gm_9_w9
 try clear O_k_w9
 by_cases k0 : n4 < 1
 ·have HB : Aside0 (mD.bad 2 = some r) := ⟨mD.kind0 k0 H.out⟩
  have d0 : decide (n4 < 1) = true := decide_eq_true k0
  clear k0 H
  as_aux_lemma =>
   go_wp2
   exact ⟨rfl, mD.MP.bad K_w10.out (by decide) HB.out⟩
 by_cases k8 : 8 < n4
 ·have HB : Aside0 (mD.bad 2 = some r) := ⟨mD.kind8 k0 k8 H.out⟩
  have d0 : decide (n4 < 1) = false := decide_eq_false k0
  have d1 : decide ((8 : Int) < n4) = true := decide_eq_true k8
  clear k0 k8 H
  as_aux_lemma =>
   go_wp2
   exact ⟨rfl, mD.MP.bad K_w10.out (by decide) HB.out⟩
 replace H := Aside0.mk (mD.kindK k0 k8 H.out)
 have d0 : decide (n4 < 1) = false := decide_eq_false k0
 have d1 : decide ((8 : Int) < n4) = false := decide_eq_false k8
 clear k0 k8
 go_upto_region 9 with (fail)
 clear d0 d1
 rcases mD.num_some H.out with ⟨n5, s5, ec, he, hA, hH⟩ | ⟨n5, s5, hA, hH⟩
 ·as_aux_lemma =>
   have HE := Aside0.mk he; have HA := Aside0.mk hA; have HB := Aside0.mk hH; clear he hA hH H
   go_wp2_with (first | (go_at_call 83; (with_reducible refine (mD.numBad g s4 s5 n5 ec HA.out HE.out _ X_g_w10.out).mono ?_); rintro e wp ⟨rfl, hk⟩; have KP := Aside0.mk (mD.KB.trans K_w10.out hk); clear hk))
   exact ⟨rfl, mD.MP.bad KP.out HE.out HB.out⟩
 have HA5 := Aside0.mk hA; have H := Aside0.mk hH; clear hA hH
 go_upto_region 10 with (first | (go_at_call 83; (with_reducible refine (mD.numOk g s4 s5 n5 HA5.out _ X_g_w10.out).mono ?_); rintro e w11 ⟨rfl, hx, hk⟩; have K_w11 := Aside0.mk (mD.KB.trans K_w10.out hk); have X_g_w11 : Aside0 (w11.heap[g]? = some (.cells #[.string s5] 119 (0, 0))) := ⟨hx⟩; have c_g_0_w11 := XW.cells1 (X_g_w11.out); have z_g_0_w11 := XW.froz1 (X_g_w11.out); have X_gm_w11 := Aside0.mk (mD.KB.blk hk X_gm_w10.out (blk_ne X_gm_w10.out X_g_w10.out (by decide))); obtain ⟨c_gm_0_w11, c_gm_1_w11, c_gm_2_w11, c_gm_3_w11, c_gm_4_w11, c_gm_5_w11, c_gm_6_w11, c_gm_7_w11, c_gm_8_w11, c_gm_9_w11⟩ := XW.cells10 (X_gm_w11.out); obtain ⟨z_gm_0_w11, z_gm_1_w11, z_gm_2_w11, z_gm_3_w11, z_gm_4_w11, z_gm_5_w11, z_gm_6_w11, z_gm_7_w11, z_gm_8_w11, z_gm_9_w11⟩ := XW.froz10 (X_gm_w11.out); have O_k_w11 := Aside0.mk (mD.KB.row hk O_k_w10.out (fun k hk => hk.1)); clear hx hk) | ((with_reducible refine gate_store (t := 3) (p := 48) rfl ?_); go_must (refine store_event (t := 3) (p := 48) (v := ?vo_6) (w1 := (w11.setCell ⟨gm, 4, none⟩ (.int .i64 n5))) ?hg ?ho ?hn ?hr ?_; (case ho => rfl); (case hg => rfl); (case hn => rfl); (case hr => first | (go_simp; done) | (go_simp; rfl)); intro w12 hw; have K_w12 : Aside0 (mD.KB w w12 g) := ⟨by rw [hw]; exact mD.KB.put (K_w11.out) (.inr GE_gm.out) 4 (.int .i64 n5)⟩; have X_g_w12 := Aside0.mk (XW.blk_eq hw (blk_far (X_g_w11.out) (p := ⟨gm, 4, none⟩) (blk_ne X_g_w11.out X_gm_w11.out (by decide)) (.int .i64 n5))); have c_g_0_w12 := XW.cells1 (X_g_w12.out); have z_g_0_w12 := XW.froz1 (X_g_w12.out); have X_gm_w12 := Aside0.mk (XW.blk_eq hw (blk_put (cs' := #[.int .i64 n1, .int .i64 n2, .slice A3 l3.length c3, .int .i64 n4, .int .i64 n5, .int .i64 0, .int .i64 0, .int .i64 0, .int .i64 0, .int .i64 0]) (X_gm_w11.out) 4 (.int .i64 n5) rfl)); obtain ⟨c_gm_0_w12, c_gm_1_w12, c_gm_2_w12, c_gm_3_w12, c_gm_4_w12, c_gm_5_w12, c_gm_6_w12, c_gm_7_w12, c_gm_8_w12, c_gm_9_w12⟩ := XW.cells10 (X_gm_w12.out); obtain ⟨z_gm_0_w12, z_gm_1_w12, z_gm_2_w12, z_gm_3_w12, z_gm_4_w12, z_gm_5_w12, z_gm_6_w12, z_gm_7_w12, z_gm_8_w12, z_gm_9_w12⟩ := XW.froz10 (X_gm_w12.out); have O_k_w12 : Aside0 (Kd.R (Kd.int .i64) 3 w12 w.heap.size (fun k => k ≠ g ∧ k ≠ gm) (.slice A3 l3.length c3) l3) := ⟨by rw [hw]; exact Kd.R_far (O_k_w11.out) (p := ⟨gm, 4, none⟩) (fun k hk => hk.2) (.int .i64 n5)⟩; clear hw)))
 try clear X_g_w10; try clear X_gm_w10; try clear K_w10; try clear z_g_0_w10 c_g_0_w10; try clear c_gm_0_w10 c_gm_1_w10 c_gm_2_w10 c_gm_3_w10 c_gm_4_w10 c_gm_5_w10 c_gm_6_w10 c_gm_7_w10 c_gm_8_w10 c_gm_9_w10; try clear z_gm_0_w10 z_gm_1_w10 z_gm_2_w10 z_gm_3_w10 z_gm_4_w10 z_gm_5_w10 z_gm_6_w10 z_gm_7_w10 z_gm_8_w10 z_gm_9_w10
 try clear O_k_w10
 try clear X_g_w11; try clear X_gm_w11; try clear K_w11; try clear z_g_0_w11 c_g_0_w11; try clear c_gm_0_w11 c_gm_1_w11 c_gm_2_w11 c_gm_3_w11 c_gm_4_w11 c_gm_5_w11 c_gm_6_w11 c_gm_7_w11 c_gm_8_w11 c_gm_9_w11; try clear z_gm_0_w11 z_gm_1_w11 z_gm_2_w11 z_gm_3_w11 z_gm_4_w11 z_gm_5_w11 z_gm_6_w11 z_gm_7_w11 z_gm_8_w11 z_gm_9_w11
 try clear O_k_w11
 have HS : Aside0 (∃ ib rb ub, mesg_has.f n4 = some (ib, rb, ub) ∧ ib = decide (n4 = 1 ∨ n4 = 6) ∧ rb = decide (n4 ≠ 6) ∧ ub = decide (n4 = 1)) := ⟨⟨_, _, _, mC.has_is n4, rfl, rfl, rfl⟩⟩
 by_cases k1 : n4 = 1
 ·subst k1
  have HS2 : Aside0 (mesg_has.f 1 = some (true, true, true)) := ⟨by decide⟩
  replace H := Aside0.mk (mD.tail1 H.out)
  clear HS
  go_upto_region 12 with (first | (go_at_call 42; (with_reducible refine (mesg_has.calls 1 true true true _ HS2.out).mono ?_); rintro e w13 ⟨rfl, nd, hq⟩; have hb : Below w12.heap.size w12 w13 := (by first | (rw [hq]; exact pw_below_drewN (Below.refl _ _) nd) | (rw [← hq]; exact pw_below_drewN (Below.refl _ _) nd)); clear hq; have K_w13 := Aside0.mk (mD.KB.step K_w12.out hb); have X_g_w13 := Aside0.mk (blk_below X_g_w12.out hb); have c_g_0_w13 := XW.cells1 (X_g_w13.out); have X_gm_w13 := Aside0.mk (blk_below X_gm_w12.out hb); obtain ⟨c_gm_0_w13, c_gm_1_w13, c_gm_2_w13, c_gm_3_w13, c_gm_4_w13, c_gm_5_w13, c_gm_6_w13, c_gm_7_w13, c_gm_8_w13, c_gm_9_w13⟩ := XW.cells10 (X_gm_w13.out); have z_g_0_w13 := XW.froz1 (X_g_w13.out); obtain ⟨z_gm_0_w13, z_gm_1_w13, z_gm_2_w13, z_gm_3_w13, z_gm_4_w13, z_gm_5_w13, z_gm_6_w13, z_gm_7_w13, z_gm_8_w13, z_gm_9_w13⟩ := XW.froz10 (X_gm_w13.out); have O_k_w13 := Aside0.mk (Kd.R_below O_k_w12.out hb); clear hb))
  try clear X_g_w12; try clear X_gm_w12; try clear K_w12; try clear z_g_0_w12 c_g_0_w12; try clear c_gm_0_w12 c_gm_1_w12 c_gm_2_w12 c_gm_3_w12 c_gm_4_w12 c_gm_5_w12 c_gm_6_w12 c_gm_7_w12 c_gm_8_w12 c_gm_9_w12; try clear z_gm_0_w12 z_gm_1_w12 z_gm_2_w12 z_gm_3_w12 z_gm_4_w12 z_gm_5_w12 z_gm_6_w12 z_gm_7_w12 z_gm_8_w12 z_gm_9_w12
  try clear O_k_w12
  clear HS2
  rcases mD.num_some H.out with ⟨n6, s6, ec, he, hA, hH⟩ | ⟨n6, s6, hA, hH⟩
  ·as_aux_lemma =>
    have HE := Aside0.mk he; have HA := Aside0.mk hA; have HB := Aside0.mk hH; clear he hA hH H
    go_wp2_with (first | (go_at_call 86; (with_reducible refine (mD.idBad1 g s5 s6 n6 ec HA.out HE.out _ X_g_w13.out).mono ?_); rintro e wp ⟨rfl, hk⟩; have KP := Aside0.mk (mD.KB.trans K_w13.out hk); clear hk))
    exact ⟨rfl, mD.MP.bad KP.out HE.out HB.out⟩
  have HA6 := Aside0.mk hA; have H := Aside0.mk hH; clear hA hH
  rcases mD.num_some H.out with ⟨n7, s7, ec, he, hA, hH⟩ | ⟨n7, s7, hA, hH⟩
  ·as_aux_lemma =>
    have HE := Aside0.mk he; have HA := Aside0.mk hA; have HB := Aside0.mk hH; clear he hA hH H
    go_wp2_with (first | (go_at_call 86; (with_reducible refine (mD.idBad2 g s5 s6 s7 n6 n7 ec HA6.out HA.out HE.out _ X_g_w13.out).mono ?_); rintro e wp ⟨rfl, hk⟩; have KP := Aside0.mk (mD.KB.trans K_w13.out hk); clear hk))
    exact ⟨rfl, mD.MP.bad KP.out HE.out HB.out⟩
  have HA7 := Aside0.mk hA; have H := Aside0.mk hH; clear hA hH
  go_upto_region 14 with (first | (go_at_call 86; (with_reducible refine (mD.idOk g s5 s6 s7 n6 n7 HA6.out HA7.out _ X_g_w13.out).mono ?_); rintro e w14 ⟨rfl, hx, hk⟩; have K_w14 := Aside0.mk (mD.KB.trans K_w13.out hk); have X_g_w14 : Aside0 (w14.heap[g]? = some (.cells #[.string s7] 119 (0, 0))) := ⟨hx⟩; have c_g_0_w14 := XW.cells1 (X_g_w14.out); have z_g_0_w14 := XW.froz1 (X_g_w14.out); have X_gm_w14 := Aside0.mk (mD.KB.blk hk X_gm_w13.out (blk_ne X_gm_w13.out X_g_w13.out (by decide))); obtain ⟨c_gm_0_w14, c_gm_1_w14, c_gm_2_w14, c_gm_3_w14, c_gm_4_w14, c_gm_5_w14, c_gm_6_w14, c_gm_7_w14, c_gm_8_w14, c_gm_9_w14⟩ := XW.cells10 (X_gm_w14.out); obtain ⟨z_gm_0_w14, z_gm_1_w14, z_gm_2_w14, z_gm_3_w14, z_gm_4_w14, z_gm_5_w14, z_gm_6_w14, z_gm_7_w14, z_gm_8_w14, z_gm_9_w14⟩ := XW.froz10 (X_gm_w14.out); have O_k_w14 := Aside0.mk (mD.KB.row hk O_k_w13.out (fun k hk => hk.1)); clear hx hk) | ((with_reducible refine gate_store (t := 52) (p := 61) rfl ?_); go_must (refine store_event (t := 52) (p := 61) (v := ?vo_7) (w1 := ((w14.setCell ⟨gm, 5, none⟩ (.int .i64 n6)).setCell ⟨gm, 6, none⟩ (.int .i64 n7))) ?hg ?ho ?hn ?hr ?_; (case ho => rfl); (case hg => rfl); (case hn => rfl); (case hr => first | (go_simp; done) | (go_simp; rfl)); intro w15 hw; have K_w15 : Aside0 (mD.KB w w15 g) := ⟨by rw [hw]; exact mD.KB.put (mD.KB.put (K_w14.out) (.inr GE_gm.out) 5 (.int .i64 n6)) (.inr GE_gm.out) 6 (.int .i64 n7)⟩; have X_g_w15 := Aside0.mk (XW.blk_eq hw (blk_far (blk_far (X_g_w14.out) (p := ⟨gm, 5, none⟩) (blk_ne X_g_w14.out X_gm_w14.out (by decide)) (.int .i64 n6)) (p := ⟨gm, 6, none⟩) (blk_ne X_g_w14.out X_gm_w14.out (by decide)) (.int .i64 n7))); have c_g_0_w15 := XW.cells1 (X_g_w15.out); have z_g_0_w15 := XW.froz1 (X_g_w15.out); have X_gm_w15 := Aside0.mk (XW.blk_eq hw (blk_put (cs' := #[.int .i64 n1, .int .i64 n2, .slice A3 l3.length c3, .int .i64 1, .int .i64 n5, .int .i64 n6, .int .i64 n7, .int .i64 0, .int .i64 0, .int .i64 0]) (blk_put (cs' := #[.int .i64 n1, .int .i64 n2, .slice A3 l3.length c3, .int .i64 1, .int .i64 n5, .int .i64 n6, .int .i64 0, .int .i64 0, .int .i64 0, .int .i64 0]) (X_gm_w14.out) 5 (.int .i64 n6) rfl) 6 (.int .i64 n7) rfl)); obtain ⟨c_gm_0_w15, c_gm_1_w15, c_gm_2_w15, c_gm_3_w15, c_gm_4_w15, c_gm_5_w15, c_gm_6_w15, c_gm_7_w15, c_gm_8_w15, c_gm_9_w15⟩ := XW.cells10 (X_gm_w15.out); obtain ⟨z_gm_0_w15, z_gm_1_w15, z_gm_2_w15, z_gm_3_w15, z_gm_4_w15, z_gm_5_w15, z_gm_6_w15, z_gm_7_w15, z_gm_8_w15, z_gm_9_w15⟩ := XW.froz10 (X_gm_w15.out); have O_k_w15 : Aside0 (Kd.R (Kd.int .i64) 3 w15 w.heap.size (fun k => k ≠ g ∧ k ≠ gm) (.slice A3 l3.length c3) l3) := ⟨by rw [hw]; exact Kd.R_far (Kd.R_far (O_k_w14.out) (p := ⟨gm, 5, none⟩) (fun k hk => hk.2) (.int .i64 n6)) (p := ⟨gm, 6, none⟩) (fun k hk => hk.2) (.int .i64 n7)⟩; clear hw)))
  try clear X_g_w13; try clear X_gm_w13; try clear K_w13; try clear z_g_0_w13 c_g_0_w13; try clear c_gm_0_w13 c_gm_1_w13 c_gm_2_w13 c_gm_3_w13 c_gm_4_w13 c_gm_5_w13 c_gm_6_w13 c_gm_7_w13 c_gm_8_w13 c_gm_9_w13; try clear z_gm_0_w13 z_gm_1_w13 z_gm_2_w13 z_gm_3_w13 z_gm_4_w13 z_gm_5_w13 z_gm_6_w13 z_gm_7_w13 z_gm_8_w13 z_gm_9_w13
  try clear O_k_w13
  try clear X_g_w14; try clear X_gm_w14; try clear K_w14; try clear z_g_0_w14 c_g_0_w14; try clear c_gm_0_w14 c_gm_1_w14 c_gm_2_w14 c_gm_3_w14 c_gm_4_w14 c_gm_5_w14 c_gm_6_w14 c_gm_7_w14 c_gm_8_w14 c_gm_9_w14; try clear z_gm_0_w14 z_gm_1_w14 z_gm_2_w14 z_gm_3_w14 z_gm_4_w14 z_gm_5_w14 z_gm_6_w14 z_gm_7_w14 z_gm_8_w14 z_gm_9_w14
  try clear O_k_w14
  rcases mD.num_some H.out with ⟨n8, s8, ec, he, hA, hH⟩ | ⟨n8, s8, hA, hH⟩
  ·as_aux_lemma =>
    have HE := Aside0.mk he; have HA := Aside0.mk hA; have HB := Aside0.mk hH; clear he hA hH H
    go_wp2_with (first | (go_at_call 86; (with_reducible refine (mD.idBad1 g s7 s8 n8 ec HA.out HE.out _ X_g_w15.out).mono ?_); rintro e wp ⟨rfl, hk⟩; have KP := Aside0.mk (mD.KB.trans K_w15.out hk); clear hk))
    exact ⟨rfl, mD.MP.bad KP.out HE.out HB.out⟩
  have HA8 := Aside0.mk hA; have H := Aside0.mk hH; clear hA hH
  rcases mD.num_some H.out with ⟨n9, s9, ec, he, hA, hH⟩ | ⟨n9, s9, hA, hH⟩
  ·as_aux_lemma =>
    have HE := Aside0.mk he; have HA := Aside0.mk hA; have HB := Aside0.mk hH; clear he hA hH H
    go_wp2_with (first | (go_at_call 86; (with_reducible refine (mD.idBad2 g s7 s8 s9 n8 n9 ec HA8.out HA.out HE.out _ X_g_w15.out).mono ?_); rintro e wp ⟨rfl, hk⟩; have KP := Aside0.mk (mD.KB.trans K_w15.out hk); clear hk))
    exact ⟨rfl, mD.MP.bad KP.out HE.out HB.out⟩
  have HA9 := Aside0.mk hA; have H := Aside0.mk hH; clear hA hH
  go_upto_region 16 with (first | (go_at_call 86; (with_reducible refine (mD.idOk g s7 s8 s9 n8 n9 HA8.out HA9.out _ X_g_w15.out).mono ?_); rintro e w16 ⟨rfl, hx, hk⟩; have K_w16 := Aside0.mk (mD.KB.trans K_w15.out hk); have X_g_w16 : Aside0 (w16.heap[g]? = some (.cells #[.string s9] 119 (0, 0))) := ⟨hx⟩; have c_g_0_w16 := XW.cells1 (X_g_w16.out); have z_g_0_w16 := XW.froz1 (X_g_w16.out); have X_gm_w16 := Aside0.mk (mD.KB.blk hk X_gm_w15.out (blk_ne X_gm_w15.out X_g_w15.out (by decide))); obtain ⟨c_gm_0_w16, c_gm_1_w16, c_gm_2_w16, c_gm_3_w16, c_gm_4_w16, c_gm_5_w16, c_gm_6_w16, c_gm_7_w16, c_gm_8_w16, c_gm_9_w16⟩ := XW.cells10 (X_gm_w16.out); obtain ⟨z_gm_0_w16, z_gm_1_w16, z_gm_2_w16, z_gm_3_w16, z_gm_4_w16, z_gm_5_w16, z_gm_6_w16, z_gm_7_w16, z_gm_8_w16, z_gm_9_w16⟩ := XW.froz10 (X_gm_w16.out); have O_k_w16 := Aside0.mk (mD.KB.row hk O_k_w15.out (fun k hk => hk.1)); clear hx hk) | ((with_reducible refine gate_store (t := 52) (p := 66) rfl ?_); go_must (refine store_event (t := 52) (p := 66) (v := ?vo_8) (w1 := ((w16.setCell ⟨gm, 7, none⟩ (.int .i64 n8)).setCell ⟨gm, 8, none⟩ (.int .i64 n9))) ?hg ?ho ?hn ?hr ?_; (case ho => rfl); (case hg => rfl); (case hn => rfl); (case hr => first | (go_simp; done) | (go_simp; rfl)); intro w17 hw; have K_w17 : Aside0 (mD.KB w w17 g) := ⟨by rw [hw]; exact mD.KB.put (mD.KB.put (K_w16.out) (.inr GE_gm.out) 7 (.int .i64 n8)) (.inr GE_gm.out) 8 (.int .i64 n9)⟩; have X_g_w17 := Aside0.mk (XW.blk_eq hw (blk_far (blk_far (X_g_w16.out) (p := ⟨gm, 7, none⟩) (blk_ne X_g_w16.out X_gm_w16.out (by decide)) (.int .i64 n8)) (p := ⟨gm, 8, none⟩) (blk_ne X_g_w16.out X_gm_w16.out (by decide)) (.int .i64 n9))); have c_g_0_w17 := XW.cells1 (X_g_w17.out); have z_g_0_w17 := XW.froz1 (X_g_w17.out); have X_gm_w17 := Aside0.mk (XW.blk_eq hw (blk_put (cs' := #[.int .i64 n1, .int .i64 n2, .slice A3 l3.length c3, .int .i64 1, .int .i64 n5, .int .i64 n6, .int .i64 n7, .int .i64 n8, .int .i64 n9, .int .i64 0]) (blk_put (cs' := #[.int .i64 n1, .int .i64 n2, .slice A3 l3.length c3, .int .i64 1, .int .i64 n5, .int .i64 n6, .int .i64 n7, .int .i64 n8, .int .i64 0, .int .i64 0]) (X_gm_w16.out) 7 (.int .i64 n8) rfl) 8 (.int .i64 n9) rfl)); obtain ⟨c_gm_0_w17, c_gm_1_w17, c_gm_2_w17, c_gm_3_w17, c_gm_4_w17, c_gm_5_w17, c_gm_6_w17, c_gm_7_w17, c_gm_8_w17, c_gm_9_w17⟩ := XW.cells10 (X_gm_w17.out); obtain ⟨z_gm_0_w17, z_gm_1_w17, z_gm_2_w17, z_gm_3_w17, z_gm_4_w17, z_gm_5_w17, z_gm_6_w17, z_gm_7_w17, z_gm_8_w17, z_gm_9_w17⟩ := XW.froz10 (X_gm_w17.out); have O_k_w17 : Aside0 (Kd.R (Kd.int .i64) 3 w17 w.heap.size (fun k => k ≠ g ∧ k ≠ gm) (.slice A3 l3.length c3) l3) := ⟨by rw [hw]; exact Kd.R_far (Kd.R_far (O_k_w16.out) (p := ⟨gm, 7, none⟩) (fun k hk => hk.2) (.int .i64 n8)) (p := ⟨gm, 8, none⟩) (fun k hk => hk.2) (.int .i64 n9)⟩; clear hw)))
  try clear X_g_w15; try clear X_gm_w15; try clear K_w15; try clear z_g_0_w15 c_g_0_w15; try clear c_gm_0_w15 c_gm_1_w15 c_gm_2_w15 c_gm_3_w15 c_gm_4_w15 c_gm_5_w15 c_gm_6_w15 c_gm_7_w15 c_gm_8_w15 c_gm_9_w15; try clear z_gm_0_w15 z_gm_1_w15 z_gm_2_w15 z_gm_3_w15 z_gm_4_w15 z_gm_5_w15 z_gm_6_w15 z_gm_7_w15 z_gm_8_w15 z_gm_9_w15
  try clear O_k_w15
  try clear X_g_w16; try clear X_gm_w16; try clear K_w16; try clear z_g_0_w16 c_g_0_w16; try clear c_gm_0_w16 c_gm_1_w16 c_gm_2_w16 c_gm_3_w16 c_gm_4_w16 c_gm_5_w16 c_gm_6_w16 c_gm_7_w16 c_gm_8_w16 c_gm_9_w16; try clear z_gm_0_w16 z_gm_1_w16 z_gm_2_w16 z_gm_3_w16 z_gm_4_w16 z_gm_5_w16 z_gm_6_w16 z_gm_7_w16 z_gm_8_w16 z_gm_9_w16
  try clear O_k_w16
  rcases mD.num_some H.out with ⟨n10, s10, ec, he, hA, hH⟩ | ⟨n10, s10, hA, hH⟩
  ·as_aux_lemma =>
    have HE := Aside0.mk he; have HA := Aside0.mk hA; have HB := Aside0.mk hH; clear he hA hH H
    go_wp2_with (first | (go_at_call 83; (with_reducible refine (mD.numBad g s9 s10 n10 ec HA.out HE.out _ X_g_w17.out).mono ?_); rintro e wp ⟨rfl, hk⟩; have KP := Aside0.mk (mD.KB.trans K_w17.out hk); clear hk))
    exact ⟨rfl, mD.MP.bad KP.out HE.out HB.out⟩
  have HA10 := Aside0.mk hA; have H := Aside0.mk hH; clear hA hH
  go_upto_region 17 with (first | (go_at_call 83; (with_reducible refine (mD.numOk g s9 s10 n10 HA10.out _ X_g_w17.out).mono ?_); rintro e w18 ⟨rfl, hx, hk⟩; have K_w18 := Aside0.mk (mD.KB.trans K_w17.out hk); have X_g_w18 : Aside0 (w18.heap[g]? = some (.cells #[.string s10] 119 (0, 0))) := ⟨hx⟩; have c_g_0_w18 := XW.cells1 (X_g_w18.out); have z_g_0_w18 := XW.froz1 (X_g_w18.out); have X_gm_w18 := Aside0.mk (mD.KB.blk hk X_gm_w17.out (blk_ne X_gm_w17.out X_g_w17.out (by decide))); obtain ⟨c_gm_0_w18, c_gm_1_w18, c_gm_2_w18, c_gm_3_w18, c_gm_4_w18, c_gm_5_w18, c_gm_6_w18, c_gm_7_w18, c_gm_8_w18, c_gm_9_w18⟩ := XW.cells10 (X_gm_w18.out); obtain ⟨z_gm_0_w18, z_gm_1_w18, z_gm_2_w18, z_gm_3_w18, z_gm_4_w18, z_gm_5_w18, z_gm_6_w18, z_gm_7_w18, z_gm_8_w18, z_gm_9_w18⟩ := XW.froz10 (X_gm_w18.out); have O_k_w18 := Aside0.mk (mD.KB.row hk O_k_w17.out (fun k hk => hk.1)); clear hx hk) | ((with_reducible refine gate_store (t := 3) (p := 71) rfl ?_); go_must (refine store_event (t := 3) (p := 71) (v := ?vo_9) (w1 := (w18.setCell ⟨gm, 9, none⟩ (.int .i64 n10))) ?hg ?ho ?hn ?hr ?_; (case ho => rfl); (case hg => rfl); (case hn => rfl); (case hr => first | (go_simp; done) | (go_simp; rfl)); intro w19 hw; have K_w19 : Aside0 (mD.KB w w19 g) := ⟨by rw [hw]; exact mD.KB.put (K_w18.out) (.inr GE_gm.out) 9 (.int .i64 n10)⟩; have X_g_w19 := Aside0.mk (XW.blk_eq hw (blk_far (X_g_w18.out) (p := ⟨gm, 9, none⟩) (blk_ne X_g_w18.out X_gm_w18.out (by decide)) (.int .i64 n10))); have c_g_0_w19 := XW.cells1 (X_g_w19.out); have z_g_0_w19 := XW.froz1 (X_g_w19.out); have X_gm_w19 := Aside0.mk (XW.blk_eq hw (blk_put (cs' := #[.int .i64 n1, .int .i64 n2, .slice A3 l3.length c3, .int .i64 1, .int .i64 n5, .int .i64 n6, .int .i64 n7, .int .i64 n8, .int .i64 n9, .int .i64 n10]) (X_gm_w18.out) 9 (.int .i64 n10) rfl)); obtain ⟨c_gm_0_w19, c_gm_1_w19, c_gm_2_w19, c_gm_3_w19, c_gm_4_w19, c_gm_5_w19, c_gm_6_w19, c_gm_7_w19, c_gm_8_w19, c_gm_9_w19⟩ := XW.cells10 (X_gm_w19.out); obtain ⟨z_gm_0_w19, z_gm_1_w19, z_gm_2_w19, z_gm_3_w19, z_gm_4_w19, z_gm_5_w19, z_gm_6_w19, z_gm_7_w19, z_gm_8_w19, z_gm_9_w19⟩ := XW.froz10 (X_gm_w19.out); have O_k_w19 : Aside0 (Kd.R (Kd.int .i64) 3 w19 w.heap.size (fun k => k ≠ g ∧ k ≠ gm) (.slice A3 l3.length c3) l3) := ⟨by rw [hw]; exact Kd.R_far (O_k_w18.out) (p := ⟨gm, 9, none⟩) (fun k hk => hk.2) (.int .i64 n10)⟩; clear hw)))
  try clear X_g_w17; try clear X_gm_w17; try clear K_w17; try clear z_g_0_w17 c_g_0_w17; try clear c_gm_0_w17 c_gm_1_w17 c_gm_2_w17 c_gm_3_w17 c_gm_4_w17 c_gm_5_w17 c_gm_6_w17 c_gm_7_w17 c_gm_8_w17 c_gm_9_w17; try clear z_gm_0_w17 z_gm_1_w17 z_gm_2_w17 z_gm_3_w17 z_gm_4_w17 z_gm_5_w17 z_gm_6_w17 z_gm_7_w17 z_gm_8_w17 z_gm_9_w17
  try clear O_k_w17
  try clear X_g_w18; try clear X_gm_w18; try clear K_w18; try clear z_g_0_w18 c_g_0_w18; try clear c_gm_0_w18 c_gm_1_w18 c_gm_2_w18 c_gm_3_w18 c_gm_4_w18 c_gm_5_w18 c_gm_6_w18 c_gm_7_w18 c_gm_8_w18 c_gm_9_w18; try clear z_gm_0_w18 z_gm_1_w18 z_gm_2_w18 z_gm_3_w18 z_gm_4_w18 z_gm_5_w18 z_gm_6_w18 z_gm_7_w18 z_gm_8_w18 z_gm_9_w18
  try clear O_k_w18
  rcases mD.fin_some H.out with ⟨hs, hH⟩ | ⟨hs, x, hx, hx0, hH⟩ | ⟨hs, hx, hH⟩
  ·as_aux_lemma =>
    have HB := Aside0.mk hH; have hs2 : (s10.toList != ([] : List UInt8)) = true := by simp only [bne, hs]; rfl
    clear hH H
    go_wp2
    exact ⟨rfl, mD.MP.bad K_w19.out (by decide) HB.out⟩
  ·as_aux_lemma =>
    have HB := Aside0.mk hH; have HX := Aside0.mk hx; have hs2 : (s10.toList != ([] : List UInt8)) = false := by simp only [bne, hs]; rfl
    have hxb : (x != 0) = true := bne_iff_ne.mpr hx0
    clear hx0
    clear hH hx H
    have hC := Kd.R_reads' O_k_w19.out
    have HC1 := Aside0.mk hC.2.1; have HC2 := Aside0.mk hC.2.2
    clear hC
    go_wp2_with (first | (go_at_call 40; (with_reducible refine (mC.calls n1 n2 A3 c3 l3 1 n5 n6 n7 n8 n9 n10 x _ HC2.out HC1.out HX.out).mono ?_); rintro e w20 ⟨rfl, hb⟩; have K_w20 := Aside0.mk (mD.KB.step K_w19.out hb); have X_g_w20 := Aside0.mk (blk_below X_g_w19.out hb); have c_g_0_w20 := XW.cells1 (X_g_w20.out); have X_gm_w20 := Aside0.mk (blk_below X_gm_w19.out hb); obtain ⟨c_gm_0_w20, c_gm_1_w20, c_gm_2_w20, c_gm_3_w20, c_gm_4_w20, c_gm_5_w20, c_gm_6_w20, c_gm_7_w20, c_gm_8_w20, c_gm_9_w20⟩ := XW.cells10 (X_gm_w20.out); have z_g_0_w20 := XW.froz1 (X_g_w20.out); obtain ⟨z_gm_0_w20, z_gm_1_w20, z_gm_2_w20, z_gm_3_w20, z_gm_4_w20, z_gm_5_w20, z_gm_6_w20, z_gm_7_w20, z_gm_8_w20, z_gm_9_w20⟩ := XW.froz10 (X_gm_w20.out); have O_k_w20 := Aside0.mk (Kd.R_below O_k_w19.out hb); clear hb))
    exact ⟨rfl, mD.MP.bad K_w20.out (by decide) HB.out⟩
  have HB := Aside0.mk hH; have HX := Aside0.mk hx; have hs2 : (s10.toList != ([] : List UInt8)) = false := by simp only [bne, hs]; rfl
  clear hH hx H
  have hC := Kd.R_reads' O_k_w19.out
  have HC1 := Aside0.mk hC.2.1; have HC2 := Aside0.mk hC.2.2
  clear hC
  go_wp2_with (first | (go_at_call 40; (with_reducible refine (mC.calls n1 n2 A3 c3 l3 1 n5 n6 n7 n8 n9 n10 0 _ HC2.out HC1.out HX.out).mono ?_); rintro e w20 ⟨rfl, hb⟩; have K_w20 := Aside0.mk (mD.KB.step K_w19.out hb); have X_g_w20 := Aside0.mk (blk_below X_g_w19.out hb); have c_g_0_w20 := XW.cells1 (X_g_w20.out); have X_gm_w20 := Aside0.mk (blk_below X_gm_w19.out hb); obtain ⟨c_gm_0_w20, c_gm_1_w20, c_gm_2_w20, c_gm_3_w20, c_gm_4_w20, c_gm_5_w20, c_gm_6_w20, c_gm_7_w20, c_gm_8_w20, c_gm_9_w20⟩ := XW.cells10 (X_gm_w20.out); have z_g_0_w20 := XW.froz1 (X_g_w20.out); obtain ⟨z_gm_0_w20, z_gm_1_w20, z_gm_2_w20, z_gm_3_w20, z_gm_4_w20, z_gm_5_w20, z_gm_6_w20, z_gm_7_w20, z_gm_8_w20, z_gm_9_w20⟩ := XW.froz10 (X_gm_w20.out); have O_k_w20 := Aside0.mk (Kd.R_below O_k_w19.out hb); clear hb) | ((with_reducible refine gate_store (t := 56) (p := 2) rfl ?_); go_must (refine store_event (t := 56) (p := 2) (v := ?vo_10) (w1 := ((((((((((w20.setCell ⟨gm, 0, none⟩ (.int .i64 n1)).setCell ⟨gm, 1, none⟩ (.int .i64 n2)).setCell ⟨gm, 2, none⟩ (.slice A3 l3.length c3)).setCell ⟨gm, 3, none⟩ (.int .i64 1)).setCell ⟨gm, 4, none⟩ (.int .i64 n5)).setCell ⟨gm, 5, none⟩ (.int .i64 n6)).setCell ⟨gm, 6, none⟩ (.int .i64 n7)).setCell ⟨gm, 7, none⟩ (.int .i64 n8)).setCell ⟨gm, 8, none⟩ (.int .i64 n9)).setCell ⟨gm, 9, none⟩ (.int .i64 n10))) ?hg ?ho ?hn ?hr ?_; (case ho => rfl); (case hg => rfl); (case hn => rfl); (case hr => first | (go_simp; done) | (go_simp; rfl)); intro w21 hw; have K_w21 : Aside0 (mD.KB w w21 g) := ⟨by rw [hw]; exact mD.KB.put (mD.KB.put (mD.KB.put (mD.KB.put (mD.KB.put (mD.KB.put (mD.KB.put (mD.KB.put (mD.KB.put (mD.KB.put (K_w20.out) (.inr GE_gm.out) 0 (.int .i64 n1)) (.inr GE_gm.out) 1 (.int .i64 n2)) (.inr GE_gm.out) 2 (.slice A3 l3.length c3)) (.inr GE_gm.out) 3 (.int .i64 1)) (.inr GE_gm.out) 4 (.int .i64 n5)) (.inr GE_gm.out) 5 (.int .i64 n6)) (.inr GE_gm.out) 6 (.int .i64 n7)) (.inr GE_gm.out) 7 (.int .i64 n8)) (.inr GE_gm.out) 8 (.int .i64 n9)) (.inr GE_gm.out) 9 (.int .i64 n10)⟩; have X_g_w21 := Aside0.mk (XW.blk_eq hw (blk_far (blk_far (blk_far (blk_far (blk_far (blk_far (blk_far (blk_far (blk_far (blk_far (X_g_w20.out) (p := ⟨gm, 0, none⟩) (blk_ne X_g_w20.out X_gm_w20.out (by decide)) (.int .i64 n1)) (p := ⟨gm, 1, none⟩) (blk_ne X_g_w20.out X_gm_w20.out (by decide)) (.int .i64 n2)) (p := ⟨gm, 2, none⟩) (blk_ne X_g_w20.out X_gm_w20.out (by decide)) (.slice A3 l3.length c3)) (p := ⟨gm, 3, none⟩) (blk_ne X_g_w20.out X_gm_w20.out (by decide)) (.int .i64 1)) (p := ⟨gm, 4, none⟩) (blk_ne X_g_w20.out X_gm_w20.out (by decide)) (.int .i64 n5)) (p := ⟨gm, 5, none⟩) (blk_ne X_g_w20.out X_gm_w20.out (by decide)) (.int .i64 n6)) (p := ⟨gm, 6, none⟩) (blk_ne X_g_w20.out X_gm_w20.out (by decide)) (.int .i64 n7)) (p := ⟨gm, 7, none⟩) (blk_ne X_g_w20.out X_gm_w20.out (by decide)) (.int .i64 n8)) (p := ⟨gm, 8, none⟩) (blk_ne X_g_w20.out X_gm_w20.out (by decide)) (.int .i64 n9)) (p := ⟨gm, 9, none⟩) (blk_ne X_g_w20.out X_gm_w20.out (by decide)) (.int .i64 n10))); have c_g_0_w21 := XW.cells1 (X_g_w21.out); have z_g_0_w21 := XW.froz1 (X_g_w21.out); have X_gm_w21 := Aside0.mk (XW.blk_eq hw (blk_put (cs' := #[.int .i64 n1, .int .i64 n2, .slice A3 l3.length c3, .int .i64 1, .int .i64 n5, .int .i64 n6, .int .i64 n7, .int .i64 n8, .int .i64 n9, .int .i64 n10]) (blk_put (cs' := #[.int .i64 n1, .int .i64 n2, .slice A3 l3.length c3, .int .i64 1, .int .i64 n5, .int .i64 n6, .int .i64 n7, .int .i64 n8, .int .i64 n9, .int .i64 n10]) (blk_put (cs' := #[.int .i64 n1, .int .i64 n2, .slice A3 l3.length c3, .int .i64 1, .int .i64 n5, .int .i64 n6, .int .i64 n7, .int .i64 n8, .int .i64 n9, .int .i64 n10]) (blk_put (cs' := #[.int .i64 n1, .int .i64 n2, .slice A3 l3.length c3, .int .i64 1, .int .i64 n5, .int .i64 n6, .int .i64 n7, .int .i64 n8, .int .i64 n9, .int .i64 n10]) (blk_put (cs' := #[.int .i64 n1, .int .i64 n2, .slice A3 l3.length c3, .int .i64 1, .int .i64 n5, .int .i64 n6, .int .i64 n7, .int .i64 n8, .int .i64 n9, .int .i64 n10]) (blk_put (cs' := #[.int .i64 n1, .int .i64 n2, .slice A3 l3.length c3, .int .i64 1, .int .i64 n5, .int .i64 n6, .int .i64 n7, .int .i64 n8, .int .i64 n9, .int .i64 n10]) (blk_put (cs' := #[.int .i64 n1, .int .i64 n2, .slice A3 l3.length c3, .int .i64 1, .int .i64 n5, .int .i64 n6, .int .i64 n7, .int .i64 n8, .int .i64 n9, .int .i64 n10]) (blk_put (cs' := #[.int .i64 n1, .int .i64 n2, .slice A3 l3.length c3, .int .i64 1, .int .i64 n5, .int .i64 n6, .int .i64 n7, .int .i64 n8, .int .i64 n9, .int .i64 n10]) (blk_put (cs' := #[.int .i64 n1, .int .i64 n2, .slice A3 l3.length c3, .int .i64 1, .int .i64 n5, .int .i64 n6, .int .i64 n7, .int .i64 n8, .int .i64 n9, .int .i64 n10]) (blk_put (cs' := #[.int .i64 n1, .int .i64 n2, .slice A3 l3.length c3, .int .i64 1, .int .i64 n5, .int .i64 n6, .int .i64 n7, .int .i64 n8, .int .i64 n9, .int .i64 n10]) (X_gm_w20.out) 0 (.int .i64 n1) rfl) 1 (.int .i64 n2) rfl) 2 (.slice A3 l3.length c3) rfl) 3 (.int .i64 1) rfl) 4 (.int .i64 n5) rfl) 5 (.int .i64 n6) rfl) 6 (.int .i64 n7) rfl) 7 (.int .i64 n8) rfl) 8 (.int .i64 n9) rfl) 9 (.int .i64 n10) rfl)); obtain ⟨c_gm_0_w21, c_gm_1_w21, c_gm_2_w21, c_gm_3_w21, c_gm_4_w21, c_gm_5_w21, c_gm_6_w21, c_gm_7_w21, c_gm_8_w21, c_gm_9_w21⟩ := XW.cells10 (X_gm_w21.out); obtain ⟨z_gm_0_w21, z_gm_1_w21, z_gm_2_w21, z_gm_3_w21, z_gm_4_w21, z_gm_5_w21, z_gm_6_w21, z_gm_7_w21, z_gm_8_w21, z_gm_9_w21⟩ := XW.froz10 (X_gm_w21.out); have O_k_w21 : Aside0 (Kd.R (Kd.int .i64) 3 w21 w.heap.size (fun k => k ≠ g ∧ k ≠ gm) (.slice A3 l3.length c3) l3) := ⟨by rw [hw]; exact Kd.R_far (Kd.R_far (Kd.R_far (Kd.R_far (Kd.R_far (Kd.R_far (Kd.R_far (Kd.R_far (Kd.R_far (Kd.R_far (O_k_w20.out) (p := ⟨gm, 0, none⟩) (fun k hk => hk.2) (.int .i64 n1)) (p := ⟨gm, 1, none⟩) (fun k hk => hk.2) (.int .i64 n2)) (p := ⟨gm, 2, none⟩) (fun k hk => hk.2) (.slice A3 l3.length c3)) (p := ⟨gm, 3, none⟩) (fun k hk => hk.2) (.int .i64 1)) (p := ⟨gm, 4, none⟩) (fun k hk => hk.2) (.int .i64 n5)) (p := ⟨gm, 5, none⟩) (fun k hk => hk.2) (.int .i64 n6)) (p := ⟨gm, 6, none⟩) (fun k hk => hk.2) (.int .i64 n7)) (p := ⟨gm, 7, none⟩) (fun k hk => hk.2) (.int .i64 n8)) (p := ⟨gm, 8, none⟩) (fun k hk => hk.2) (.int .i64 n9)) (p := ⟨gm, 9, none⟩) (fun k hk => hk.2) (.int .i64 n10)⟩; clear hw)))
  refine bodyPost_ret (results_cell_row rfl _ _ gm 56 #[.int .i64 n1, .int .i64 n2, .slice A3 l3.length c3, .int .i64 1, .int .i64 n5, .int .i64 n6, .int .i64 n7, .int .i64 n8, .int .i64 n9, .int .i64 n10] (0, 0) _ rfl X_gm_w21.out Tryz.underlying56 rfl (by kernel_rfl)) rfl ?_
  obtain rfl := Option.some.inj HB.out
  exact ⟨K_w21.out, .inl ⟨rfl, A3, c3, rfl, Kd.R_mono O_k_w21.out (fun _ _ => trivial)⟩⟩
 by_cases k6 : n4 = 6
 ·subst k6
  have HS2 : Aside0 (mesg_has.f 6 = some (true, false, false)) := ⟨by decide⟩
  replace H := Aside0.mk (mD.tail6 H.out)
  clear HS
  go_upto_region 12 with (first | (go_at_call 42; (with_reducible refine (mesg_has.calls 6 true false false _ HS2.out).mono ?_); rintro e w13 ⟨rfl, nd, hq⟩; have hb : Below w12.heap.size w12 w13 := (by first | (rw [hq]; exact pw_below_drewN (Below.refl _ _) nd) | (rw [← hq]; exact pw_below_drewN (Below.refl _ _) nd)); clear hq; have K_w13 := Aside0.mk (mD.KB.step K_w12.out hb); have X_g_w13 := Aside0.mk (blk_below X_g_w12.out hb); have c_g_0_w13 := XW.cells1 (X_g_w13.out); have X_gm_w13 := Aside0.mk (blk_below X_gm_w12.out hb); obtain ⟨c_gm_0_w13, c_gm_1_w13, c_gm_2_w13, c_gm_3_w13, c_gm_4_w13, c_gm_5_w13, c_gm_6_w13, c_gm_7_w13, c_gm_8_w13, c_gm_9_w13⟩ := XW.cells10 (X_gm_w13.out); have z_g_0_w13 := XW.froz1 (X_g_w13.out); obtain ⟨z_gm_0_w13, z_gm_1_w13, z_gm_2_w13, z_gm_3_w13, z_gm_4_w13, z_gm_5_w13, z_gm_6_w13, z_gm_7_w13, z_gm_8_w13, z_gm_9_w13⟩ := XW.froz10 (X_gm_w13.out); have O_k_w13 := Aside0.mk (Kd.R_below O_k_w12.out hb); clear hb))
  try clear X_g_w12; try clear X_gm_w12; try clear K_w12; try clear z_g_0_w12 c_g_0_w12; try clear c_gm_0_w12 c_gm_1_w12 c_gm_2_w12 c_gm_3_w12 c_gm_4_w12 c_gm_5_w12 c_gm_6_w12 c_gm_7_w12 c_gm_8_w12 c_gm_9_w12; try clear z_gm_0_w12 z_gm_1_w12 z_gm_2_w12 z_gm_3_w12 z_gm_4_w12 z_gm_5_w12 z_gm_6_w12 z_gm_7_w12 z_gm_8_w12 z_gm_9_w12
  try clear O_k_w12
  clear HS2
  rcases mD.num_some H.out with ⟨n6, s6, ec, he, hA, hH⟩ | ⟨n6, s6, hA, hH⟩
  ·as_aux_lemma =>
    have HE := Aside0.mk he; have HA := Aside0.mk hA; have HB := Aside0.mk hH; clear he hA hH H
    go_wp2_with (first | (go_at_call 86; (with_reducible refine (mD.idBad1 g s5 s6 n6 ec HA.out HE.out _ X_g_w13.out).mono ?_); rintro e wp ⟨rfl, hk⟩; have KP := Aside0.mk (mD.KB.trans K_w13.out hk); clear hk))
    exact ⟨rfl, mD.MP.bad KP.out HE.out HB.out⟩
  have HA6 := Aside0.mk hA; have H := Aside0.mk hH; clear hA hH
  rcases mD.num_some H.out with ⟨n7, s7, ec, he, hA, hH⟩ | ⟨n7, s7, hA, hH⟩
  ·as_aux_lemma =>
    have HE := Aside0.mk he; have HA := Aside0.mk hA; have HB := Aside0.mk hH; clear he hA hH H
    go_wp2_with (first | (go_at_call 86; (with_reducible refine (mD.idBad2 g s5 s6 s7 n6 n7 ec HA6.out HA.out HE.out _ X_g_w13.out).mono ?_); rintro e wp ⟨rfl, hk⟩; have KP := Aside0.mk (mD.KB.trans K_w13.out hk); clear hk))
    exact ⟨rfl, mD.MP.bad KP.out HE.out HB.out⟩
  have HA7 := Aside0.mk hA; have H := Aside0.mk hH; clear hA hH
  go_upto_region 17 with (first | (go_at_call 86; (with_reducible refine (mD.idOk g s5 s6 s7 n6 n7 HA6.out HA7.out _ X_g_w13.out).mono ?_); rintro e w14 ⟨rfl, hx, hk⟩; have K_w14 := Aside0.mk (mD.KB.trans K_w13.out hk); have X_g_w14 : Aside0 (w14.heap[g]? = some (.cells #[.string s7] 119 (0, 0))) := ⟨hx⟩; have c_g_0_w14 := XW.cells1 (X_g_w14.out); have z_g_0_w14 := XW.froz1 (X_g_w14.out); have X_gm_w14 := Aside0.mk (mD.KB.blk hk X_gm_w13.out (blk_ne X_gm_w13.out X_g_w13.out (by decide))); obtain ⟨c_gm_0_w14, c_gm_1_w14, c_gm_2_w14, c_gm_3_w14, c_gm_4_w14, c_gm_5_w14, c_gm_6_w14, c_gm_7_w14, c_gm_8_w14, c_gm_9_w14⟩ := XW.cells10 (X_gm_w14.out); obtain ⟨z_gm_0_w14, z_gm_1_w14, z_gm_2_w14, z_gm_3_w14, z_gm_4_w14, z_gm_5_w14, z_gm_6_w14, z_gm_7_w14, z_gm_8_w14, z_gm_9_w14⟩ := XW.froz10 (X_gm_w14.out); have O_k_w14 := Aside0.mk (mD.KB.row hk O_k_w13.out (fun k hk => hk.1)); clear hx hk) | ((with_reducible refine gate_store (t := 52) (p := 61) rfl ?_); go_must (refine store_event (t := 52) (p := 61) (v := ?vo_11) (w1 := ((w14.setCell ⟨gm, 5, none⟩ (.int .i64 n6)).setCell ⟨gm, 6, none⟩ (.int .i64 n7))) ?hg ?ho ?hn ?hr ?_; (case ho => rfl); (case hg => rfl); (case hn => rfl); (case hr => first | (go_simp; done) | (go_simp; rfl)); intro w15 hw; have K_w15 : Aside0 (mD.KB w w15 g) := ⟨by rw [hw]; exact mD.KB.put (mD.KB.put (K_w14.out) (.inr GE_gm.out) 5 (.int .i64 n6)) (.inr GE_gm.out) 6 (.int .i64 n7)⟩; have X_g_w15 := Aside0.mk (XW.blk_eq hw (blk_far (blk_far (X_g_w14.out) (p := ⟨gm, 5, none⟩) (blk_ne X_g_w14.out X_gm_w14.out (by decide)) (.int .i64 n6)) (p := ⟨gm, 6, none⟩) (blk_ne X_g_w14.out X_gm_w14.out (by decide)) (.int .i64 n7))); have c_g_0_w15 := XW.cells1 (X_g_w15.out); have z_g_0_w15 := XW.froz1 (X_g_w15.out); have X_gm_w15 := Aside0.mk (XW.blk_eq hw (blk_put (cs' := #[.int .i64 n1, .int .i64 n2, .slice A3 l3.length c3, .int .i64 6, .int .i64 n5, .int .i64 n6, .int .i64 n7, .int .i64 0, .int .i64 0, .int .i64 0]) (blk_put (cs' := #[.int .i64 n1, .int .i64 n2, .slice A3 l3.length c3, .int .i64 6, .int .i64 n5, .int .i64 n6, .int .i64 0, .int .i64 0, .int .i64 0, .int .i64 0]) (X_gm_w14.out) 5 (.int .i64 n6) rfl) 6 (.int .i64 n7) rfl)); obtain ⟨c_gm_0_w15, c_gm_1_w15, c_gm_2_w15, c_gm_3_w15, c_gm_4_w15, c_gm_5_w15, c_gm_6_w15, c_gm_7_w15, c_gm_8_w15, c_gm_9_w15⟩ := XW.cells10 (X_gm_w15.out); obtain ⟨z_gm_0_w15, z_gm_1_w15, z_gm_2_w15, z_gm_3_w15, z_gm_4_w15, z_gm_5_w15, z_gm_6_w15, z_gm_7_w15, z_gm_8_w15, z_gm_9_w15⟩ := XW.froz10 (X_gm_w15.out); have O_k_w15 : Aside0 (Kd.R (Kd.int .i64) 3 w15 w.heap.size (fun k => k ≠ g ∧ k ≠ gm) (.slice A3 l3.length c3) l3) := ⟨by rw [hw]; exact Kd.R_far (Kd.R_far (O_k_w14.out) (p := ⟨gm, 5, none⟩) (fun k hk => hk.2) (.int .i64 n6)) (p := ⟨gm, 6, none⟩) (fun k hk => hk.2) (.int .i64 n7)⟩; clear hw)))
  try clear X_g_w13; try clear X_gm_w13; try clear K_w13; try clear z_g_0_w13 c_g_0_w13; try clear c_gm_0_w13 c_gm_1_w13 c_gm_2_w13 c_gm_3_w13 c_gm_4_w13 c_gm_5_w13 c_gm_6_w13 c_gm_7_w13 c_gm_8_w13 c_gm_9_w13; try clear z_gm_0_w13 z_gm_1_w13 z_gm_2_w13 z_gm_3_w13 z_gm_4_w13 z_gm_5_w13 z_gm_6_w13 z_gm_7_w13 z_gm_8_w13 z_gm_9_w13
  try clear O_k_w13
  try clear X_g_w14; try clear X_gm_w14; try clear K_w14; try clear z_g_0_w14 c_g_0_w14; try clear c_gm_0_w14 c_gm_1_w14 c_gm_2_w14 c_gm_3_w14 c_gm_4_w14 c_gm_5_w14 c_gm_6_w14 c_gm_7_w14 c_gm_8_w14 c_gm_9_w14; try clear z_gm_0_w14 z_gm_1_w14 z_gm_2_w14 z_gm_3_w14 z_gm_4_w14 z_gm_5_w14 z_gm_6_w14 z_gm_7_w14 z_gm_8_w14 z_gm_9_w14
  try clear O_k_w14
  rcases mD.fin_some H.out with ⟨hs, hH⟩ | ⟨hs, x, hx, hx0, hH⟩ | ⟨hs, hx, hH⟩
  ·as_aux_lemma =>
    have HB := Aside0.mk hH; have hs2 : (s7.toList != ([] : List UInt8)) = true := by simp only [bne, hs]; rfl
    clear hH H
    go_wp2
    exact ⟨rfl, mD.MP.bad K_w15.out (by decide) HB.out⟩
  ·as_aux_lemma =>
    have HB := Aside0.mk hH; have HX := Aside0.mk hx; have hs2 : (s7.toList != ([] : List UInt8)) = false := by simp only [bne, hs]; rfl
    have hxb : (x != 0) = true := bne_iff_ne.mpr hx0
    clear hx0
    clear hH hx H
    have hC := Kd.R_reads' O_k_w15.out
    have HC1 := Aside0.mk hC.2.1; have HC2 := Aside0.mk hC.2.2
    clear hC
    go_wp2_with (first | (go_at_call 40; (with_reducible refine (mC.calls n1 n2 A3 c3 l3 6 n5 n6 n7 0 0 0 x _ HC2.out HC1.out HX.out).mono ?_); rintro e w16 ⟨rfl, hb⟩; have K_w16 := Aside0.mk (mD.KB.step K_w15.out hb); have X_g_w16 := Aside0.mk (blk_below X_g_w15.out hb); have c_g_0_w16 := XW.cells1 (X_g_w16.out); have X_gm_w16 := Aside0.mk (blk_below X_gm_w15.out hb); obtain ⟨c_gm_0_w16, c_gm_1_w16, c_gm_2_w16, c_gm_3_w16, c_gm_4_w16, c_gm_5_w16, c_gm_6_w16, c_gm_7_w16, c_gm_8_w16, c_gm_9_w16⟩ := XW.cells10 (X_gm_w16.out); have z_g_0_w16 := XW.froz1 (X_g_w16.out); obtain ⟨z_gm_0_w16, z_gm_1_w16, z_gm_2_w16, z_gm_3_w16, z_gm_4_w16, z_gm_5_w16, z_gm_6_w16, z_gm_7_w16, z_gm_8_w16, z_gm_9_w16⟩ := XW.froz10 (X_gm_w16.out); have O_k_w16 := Aside0.mk (Kd.R_below O_k_w15.out hb); clear hb))
    exact ⟨rfl, mD.MP.bad K_w16.out (by decide) HB.out⟩
  have HB := Aside0.mk hH; have HX := Aside0.mk hx; have hs2 : (s7.toList != ([] : List UInt8)) = false := by simp only [bne, hs]; rfl
  clear hH hx H
  have hC := Kd.R_reads' O_k_w15.out
  have HC1 := Aside0.mk hC.2.1; have HC2 := Aside0.mk hC.2.2
  clear hC
  go_wp2_with (first | (go_at_call 40; (with_reducible refine (mC.calls n1 n2 A3 c3 l3 6 n5 n6 n7 0 0 0 0 _ HC2.out HC1.out HX.out).mono ?_); rintro e w16 ⟨rfl, hb⟩; have K_w16 := Aside0.mk (mD.KB.step K_w15.out hb); have X_g_w16 := Aside0.mk (blk_below X_g_w15.out hb); have c_g_0_w16 := XW.cells1 (X_g_w16.out); have X_gm_w16 := Aside0.mk (blk_below X_gm_w15.out hb); obtain ⟨c_gm_0_w16, c_gm_1_w16, c_gm_2_w16, c_gm_3_w16, c_gm_4_w16, c_gm_5_w16, c_gm_6_w16, c_gm_7_w16, c_gm_8_w16, c_gm_9_w16⟩ := XW.cells10 (X_gm_w16.out); have z_g_0_w16 := XW.froz1 (X_g_w16.out); obtain ⟨z_gm_0_w16, z_gm_1_w16, z_gm_2_w16, z_gm_3_w16, z_gm_4_w16, z_gm_5_w16, z_gm_6_w16, z_gm_7_w16, z_gm_8_w16, z_gm_9_w16⟩ := XW.froz10 (X_gm_w16.out); have O_k_w16 := Aside0.mk (Kd.R_below O_k_w15.out hb); clear hb) | ((with_reducible refine gate_store (t := 56) (p := 2) rfl ?_); go_must (refine store_event (t := 56) (p := 2) (v := ?vo_12) (w1 := ((((((((((w16.setCell ⟨gm, 0, none⟩ (.int .i64 n1)).setCell ⟨gm, 1, none⟩ (.int .i64 n2)).setCell ⟨gm, 2, none⟩ (.slice A3 l3.length c3)).setCell ⟨gm, 3, none⟩ (.int .i64 6)).setCell ⟨gm, 4, none⟩ (.int .i64 n5)).setCell ⟨gm, 5, none⟩ (.int .i64 n6)).setCell ⟨gm, 6, none⟩ (.int .i64 n7)).setCell ⟨gm, 7, none⟩ (.int .i64 0)).setCell ⟨gm, 8, none⟩ (.int .i64 0)).setCell ⟨gm, 9, none⟩ (.int .i64 0))) ?hg ?ho ?hn ?hr ?_; (case ho => rfl); (case hg => rfl); (case hn => rfl); (case hr => first | (go_simp; done) | (go_simp; rfl)); intro w17 hw; have K_w17 : Aside0 (mD.KB w w17 g) := ⟨by rw [hw]; exact mD.KB.put (mD.KB.put (mD.KB.put (mD.KB.put (mD.KB.put (mD.KB.put (mD.KB.put (mD.KB.put (mD.KB.put (mD.KB.put (K_w16.out) (.inr GE_gm.out) 0 (.int .i64 n1)) (.inr GE_gm.out) 1 (.int .i64 n2)) (.inr GE_gm.out) 2 (.slice A3 l3.length c3)) (.inr GE_gm.out) 3 (.int .i64 6)) (.inr GE_gm.out) 4 (.int .i64 n5)) (.inr GE_gm.out) 5 (.int .i64 n6)) (.inr GE_gm.out) 6 (.int .i64 n7)) (.inr GE_gm.out) 7 (.int .i64 0)) (.inr GE_gm.out) 8 (.int .i64 0)) (.inr GE_gm.out) 9 (.int .i64 0)⟩; have X_g_w17 := Aside0.mk (XW.blk_eq hw (blk_far (blk_far (blk_far (blk_far (blk_far (blk_far (blk_far (blk_far (blk_far (blk_far (X_g_w16.out) (p := ⟨gm, 0, none⟩) (blk_ne X_g_w16.out X_gm_w16.out (by decide)) (.int .i64 n1)) (p := ⟨gm, 1, none⟩) (blk_ne X_g_w16.out X_gm_w16.out (by decide)) (.int .i64 n2)) (p := ⟨gm, 2, none⟩) (blk_ne X_g_w16.out X_gm_w16.out (by decide)) (.slice A3 l3.length c3)) (p := ⟨gm, 3, none⟩) (blk_ne X_g_w16.out X_gm_w16.out (by decide)) (.int .i64 6)) (p := ⟨gm, 4, none⟩) (blk_ne X_g_w16.out X_gm_w16.out (by decide)) (.int .i64 n5)) (p := ⟨gm, 5, none⟩) (blk_ne X_g_w16.out X_gm_w16.out (by decide)) (.int .i64 n6)) (p := ⟨gm, 6, none⟩) (blk_ne X_g_w16.out X_gm_w16.out (by decide)) (.int .i64 n7)) (p := ⟨gm, 7, none⟩) (blk_ne X_g_w16.out X_gm_w16.out (by decide)) (.int .i64 0)) (p := ⟨gm, 8, none⟩) (blk_ne X_g_w16.out X_gm_w16.out (by decide)) (.int .i64 0)) (p := ⟨gm, 9, none⟩) (blk_ne X_g_w16.out X_gm_w16.out (by decide)) (.int .i64 0))); have c_g_0_w17 := XW.cells1 (X_g_w17.out); have z_g_0_w17 := XW.froz1 (X_g_w17.out); have X_gm_w17 := Aside0.mk (XW.blk_eq hw (blk_put (cs' := #[.int .i64 n1, .int .i64 n2, .slice A3 l3.length c3, .int .i64 6, .int .i64 n5, .int .i64 n6, .int .i64 n7, .int .i64 0, .int .i64 0, .int .i64 0]) (blk_put (cs' := #[.int .i64 n1, .int .i64 n2, .slice A3 l3.length c3, .int .i64 6, .int .i64 n5, .int .i64 n6, .int .i64 n7, .int .i64 0, .int .i64 0, .int .i64 0]) (blk_put (cs' := #[.int .i64 n1, .int .i64 n2, .slice A3 l3.length c3, .int .i64 6, .int .i64 n5, .int .i64 n6, .int .i64 n7, .int .i64 0, .int .i64 0, .int .i64 0]) (blk_put (cs' := #[.int .i64 n1, .int .i64 n2, .slice A3 l3.length c3, .int .i64 6, .int .i64 n5, .int .i64 n6, .int .i64 n7, .int .i64 0, .int .i64 0, .int .i64 0]) (blk_put (cs' := #[.int .i64 n1, .int .i64 n2, .slice A3 l3.length c3, .int .i64 6, .int .i64 n5, .int .i64 n6, .int .i64 n7, .int .i64 0, .int .i64 0, .int .i64 0]) (blk_put (cs' := #[.int .i64 n1, .int .i64 n2, .slice A3 l3.length c3, .int .i64 6, .int .i64 n5, .int .i64 n6, .int .i64 n7, .int .i64 0, .int .i64 0, .int .i64 0]) (blk_put (cs' := #[.int .i64 n1, .int .i64 n2, .slice A3 l3.length c3, .int .i64 6, .int .i64 n5, .int .i64 n6, .int .i64 n7, .int .i64 0, .int .i64 0, .int .i64 0]) (blk_put (cs' := #[.int .i64 n1, .int .i64 n2, .slice A3 l3.length c3, .int .i64 6, .int .i64 n5, .int .i64 n6, .int .i64 n7, .int .i64 0, .int .i64 0, .int .i64 0]) (blk_put (cs' := #[.int .i64 n1, .int .i64 n2, .slice A3 l3.length c3, .int .i64 6, .int .i64 n5, .int .i64 n6, .int .i64 n7, .int .i64 0, .int .i64 0, .int .i64 0]) (blk_put (cs' := #[.int .i64 n1, .int .i64 n2, .slice A3 l3.length c3, .int .i64 6, .int .i64 n5, .int .i64 n6, .int .i64 n7, .int .i64 0, .int .i64 0, .int .i64 0]) (X_gm_w16.out) 0 (.int .i64 n1) rfl) 1 (.int .i64 n2) rfl) 2 (.slice A3 l3.length c3) rfl) 3 (.int .i64 6) rfl) 4 (.int .i64 n5) rfl) 5 (.int .i64 n6) rfl) 6 (.int .i64 n7) rfl) 7 (.int .i64 0) rfl) 8 (.int .i64 0) rfl) 9 (.int .i64 0) rfl)); obtain ⟨c_gm_0_w17, c_gm_1_w17, c_gm_2_w17, c_gm_3_w17, c_gm_4_w17, c_gm_5_w17, c_gm_6_w17, c_gm_7_w17, c_gm_8_w17, c_gm_9_w17⟩ := XW.cells10 (X_gm_w17.out); obtain ⟨z_gm_0_w17, z_gm_1_w17, z_gm_2_w17, z_gm_3_w17, z_gm_4_w17, z_gm_5_w17, z_gm_6_w17, z_gm_7_w17, z_gm_8_w17, z_gm_9_w17⟩ := XW.froz10 (X_gm_w17.out); have O_k_w17 : Aside0 (Kd.R (Kd.int .i64) 3 w17 w.heap.size (fun k => k ≠ g ∧ k ≠ gm) (.slice A3 l3.length c3) l3) := ⟨by rw [hw]; exact Kd.R_far (Kd.R_far (Kd.R_far (Kd.R_far (Kd.R_far (Kd.R_far (Kd.R_far (Kd.R_far (Kd.R_far (Kd.R_far (O_k_w16.out) (p := ⟨gm, 0, none⟩) (fun k hk => hk.2) (.int .i64 n1)) (p := ⟨gm, 1, none⟩) (fun k hk => hk.2) (.int .i64 n2)) (p := ⟨gm, 2, none⟩) (fun k hk => hk.2) (.slice A3 l3.length c3)) (p := ⟨gm, 3, none⟩) (fun k hk => hk.2) (.int .i64 6)) (p := ⟨gm, 4, none⟩) (fun k hk => hk.2) (.int .i64 n5)) (p := ⟨gm, 5, none⟩) (fun k hk => hk.2) (.int .i64 n6)) (p := ⟨gm, 6, none⟩) (fun k hk => hk.2) (.int .i64 n7)) (p := ⟨gm, 7, none⟩) (fun k hk => hk.2) (.int .i64 0)) (p := ⟨gm, 8, none⟩) (fun k hk => hk.2) (.int .i64 0)) (p := ⟨gm, 9, none⟩) (fun k hk => hk.2) (.int .i64 0)⟩; clear hw)))
  refine bodyPost_ret (results_cell_row rfl _ _ gm 56 #[.int .i64 n1, .int .i64 n2, .slice A3 l3.length c3, .int .i64 6, .int .i64 n5, .int .i64 n6, .int .i64 n7, .int .i64 0, .int .i64 0, .int .i64 0] (0, 0) _ rfl X_gm_w17.out Tryz.underlying56 rfl (by kernel_rfl)) rfl ?_
  obtain rfl := Option.some.inj HB.out
  exact ⟨K_w17.out, .inl ⟨rfl, A3, c3, rfl, Kd.R_mono O_k_w17.out (fun _ _ => trivial)⟩⟩
 have HS2 : Aside0 (mesg_has.f n4 = some (false, true, false)) := ⟨by rw [mC.has_is, decide_eq_false (by omega), decide_eq_true k6, decide_eq_false k1]⟩
 replace H := Aside0.mk (mD.tailO k1 k6 H.out)
 clear k1 k6
 clear HS
 go_upto_region 14 with (first | (go_at_call 42; (with_reducible refine (mesg_has.calls n4 false true false _ HS2.out).mono ?_); rintro e w13 ⟨rfl, nd, hq⟩; have hb : Below w12.heap.size w12 w13 := (by first | (rw [hq]; exact pw_below_drewN (Below.refl _ _) nd) | (rw [← hq]; exact pw_below_drewN (Below.refl _ _) nd)); clear hq; have K_w13 := Aside0.mk (mD.KB.step K_w12.out hb); have X_g_w13 := Aside0.mk (blk_below X_g_w12.out hb); have c_g_0_w13 := XW.cells1 (X_g_w13.out); have X_gm_w13 := Aside0.mk (blk_below X_gm_w12.out hb); obtain ⟨c_gm_0_w13, c_gm_1_w13, c_gm_2_w13, c_gm_3_w13, c_gm_4_w13, c_gm_5_w13, c_gm_6_w13, c_gm_7_w13, c_gm_8_w13, c_gm_9_w13⟩ := XW.cells10 (X_gm_w13.out); have z_g_0_w13 := XW.froz1 (X_g_w13.out); obtain ⟨z_gm_0_w13, z_gm_1_w13, z_gm_2_w13, z_gm_3_w13, z_gm_4_w13, z_gm_5_w13, z_gm_6_w13, z_gm_7_w13, z_gm_8_w13, z_gm_9_w13⟩ := XW.froz10 (X_gm_w13.out); have O_k_w13 := Aside0.mk (Kd.R_below O_k_w12.out hb); clear hb))
 try clear X_g_w12; try clear X_gm_w12; try clear K_w12; try clear z_g_0_w12 c_g_0_w12; try clear c_gm_0_w12 c_gm_1_w12 c_gm_2_w12 c_gm_3_w12 c_gm_4_w12 c_gm_5_w12 c_gm_6_w12 c_gm_7_w12 c_gm_8_w12 c_gm_9_w12; try clear z_gm_0_w12 z_gm_1_w12 z_gm_2_w12 z_gm_3_w12 z_gm_4_w12 z_gm_5_w12 z_gm_6_w12 z_gm_7_w12 z_gm_8_w12 z_gm_9_w12
 try clear O_k_w12
 clear HS2
 rcases mD.num_some H.out with ⟨n6, s6, ec, he, hA, hH⟩ | ⟨n6, s6, hA, hH⟩
 ·as_aux_lemma =>
   have HE := Aside0.mk he; have HA := Aside0.mk hA; have HB := Aside0.mk hH; clear he hA hH H
   go_wp2_with (first | (go_at_call 86; (with_reducible refine (mD.idBad1 g s5 s6 n6 ec HA.out HE.out _ X_g_w13.out).mono ?_); rintro e wp ⟨rfl, hk⟩; have KP := Aside0.mk (mD.KB.trans K_w13.out hk); clear hk))
   exact ⟨rfl, mD.MP.bad KP.out HE.out HB.out⟩
 have HA6 := Aside0.mk hA; have H := Aside0.mk hH; clear hA hH
 rcases mD.num_some H.out with ⟨n7, s7, ec, he, hA, hH⟩ | ⟨n7, s7, hA, hH⟩
 ·as_aux_lemma =>
   have HE := Aside0.mk he; have HA := Aside0.mk hA; have HB := Aside0.mk hH; clear he hA hH H
   go_wp2_with (first | (go_at_call 86; (with_reducible refine (mD.idBad2 g s5 s6 s7 n6 n7 ec HA6.out HA.out HE.out _ X_g_w13.out).mono ?_); rintro e wp ⟨rfl, hk⟩; have KP := Aside0.mk (mD.KB.trans K_w13.out hk); clear hk))
   exact ⟨rfl, mD.MP.bad KP.out HE.out HB.out⟩
 have HA7 := Aside0.mk hA; have H := Aside0.mk hH; clear hA hH
 go_upto_region 17 with (first | (go_at_call 86; (with_reducible refine (mD.idOk g s5 s6 s7 n6 n7 HA6.out HA7.out _ X_g_w13.out).mono ?_); rintro e w14 ⟨rfl, hx, hk⟩; have K_w14 := Aside0.mk (mD.KB.trans K_w13.out hk); have X_g_w14 : Aside0 (w14.heap[g]? = some (.cells #[.string s7] 119 (0, 0))) := ⟨hx⟩; have c_g_0_w14 := XW.cells1 (X_g_w14.out); have z_g_0_w14 := XW.froz1 (X_g_w14.out); have X_gm_w14 := Aside0.mk (mD.KB.blk hk X_gm_w13.out (blk_ne X_gm_w13.out X_g_w13.out (by decide))); obtain ⟨c_gm_0_w14, c_gm_1_w14, c_gm_2_w14, c_gm_3_w14, c_gm_4_w14, c_gm_5_w14, c_gm_6_w14, c_gm_7_w14, c_gm_8_w14, c_gm_9_w14⟩ := XW.cells10 (X_gm_w14.out); obtain ⟨z_gm_0_w14, z_gm_1_w14, z_gm_2_w14, z_gm_3_w14, z_gm_4_w14, z_gm_5_w14, z_gm_6_w14, z_gm_7_w14, z_gm_8_w14, z_gm_9_w14⟩ := XW.froz10 (X_gm_w14.out); have O_k_w14 := Aside0.mk (mD.KB.row hk O_k_w13.out (fun k hk => hk.1)); clear hx hk) | ((with_reducible refine gate_store (t := 52) (p := 66) rfl ?_); go_must (refine store_event (t := 52) (p := 66) (v := ?vo_13) (w1 := ((w14.setCell ⟨gm, 7, none⟩ (.int .i64 n6)).setCell ⟨gm, 8, none⟩ (.int .i64 n7))) ?hg ?ho ?hn ?hr ?_; (case ho => rfl); (case hg => rfl); (case hn => rfl); (case hr => first | (go_simp; done) | (go_simp; rfl)); intro w15 hw; have K_w15 : Aside0 (mD.KB w w15 g) := ⟨by rw [hw]; exact mD.KB.put (mD.KB.put (K_w14.out) (.inr GE_gm.out) 7 (.int .i64 n6)) (.inr GE_gm.out) 8 (.int .i64 n7)⟩; have X_g_w15 := Aside0.mk (XW.blk_eq hw (blk_far (blk_far (X_g_w14.out) (p := ⟨gm, 7, none⟩) (blk_ne X_g_w14.out X_gm_w14.out (by decide)) (.int .i64 n6)) (p := ⟨gm, 8, none⟩) (blk_ne X_g_w14.out X_gm_w14.out (by decide)) (.int .i64 n7))); have c_g_0_w15 := XW.cells1 (X_g_w15.out); have z_g_0_w15 := XW.froz1 (X_g_w15.out); have X_gm_w15 := Aside0.mk (XW.blk_eq hw (blk_put (cs' := #[.int .i64 n1, .int .i64 n2, .slice A3 l3.length c3, .int .i64 n4, .int .i64 n5, .int .i64 0, .int .i64 0, .int .i64 n6, .int .i64 n7, .int .i64 0]) (blk_put (cs' := #[.int .i64 n1, .int .i64 n2, .slice A3 l3.length c3, .int .i64 n4, .int .i64 n5, .int .i64 0, .int .i64 0, .int .i64 n6, .int .i64 0, .int .i64 0]) (X_gm_w14.out) 7 (.int .i64 n6) rfl) 8 (.int .i64 n7) rfl)); obtain ⟨c_gm_0_w15, c_gm_1_w15, c_gm_2_w15, c_gm_3_w15, c_gm_4_w15, c_gm_5_w15, c_gm_6_w15, c_gm_7_w15, c_gm_8_w15, c_gm_9_w15⟩ := XW.cells10 (X_gm_w15.out); obtain ⟨z_gm_0_w15, z_gm_1_w15, z_gm_2_w15, z_gm_3_w15, z_gm_4_w15, z_gm_5_w15, z_gm_6_w15, z_gm_7_w15, z_gm_8_w15, z_gm_9_w15⟩ := XW.froz10 (X_gm_w15.out); have O_k_w15 : Aside0 (Kd.R (Kd.int .i64) 3 w15 w.heap.size (fun k => k ≠ g ∧ k ≠ gm) (.slice A3 l3.length c3) l3) := ⟨by rw [hw]; exact Kd.R_far (Kd.R_far (O_k_w14.out) (p := ⟨gm, 7, none⟩) (fun k hk => hk.2) (.int .i64 n6)) (p := ⟨gm, 8, none⟩) (fun k hk => hk.2) (.int .i64 n7)⟩; clear hw)))
 try clear X_g_w13; try clear X_gm_w13; try clear K_w13; try clear z_g_0_w13 c_g_0_w13; try clear c_gm_0_w13 c_gm_1_w13 c_gm_2_w13 c_gm_3_w13 c_gm_4_w13 c_gm_5_w13 c_gm_6_w13 c_gm_7_w13 c_gm_8_w13 c_gm_9_w13; try clear z_gm_0_w13 z_gm_1_w13 z_gm_2_w13 z_gm_3_w13 z_gm_4_w13 z_gm_5_w13 z_gm_6_w13 z_gm_7_w13 z_gm_8_w13 z_gm_9_w13
 try clear O_k_w13
 try clear X_g_w14; try clear X_gm_w14; try clear K_w14; try clear z_g_0_w14 c_g_0_w14; try clear c_gm_0_w14 c_gm_1_w14 c_gm_2_w14 c_gm_3_w14 c_gm_4_w14 c_gm_5_w14 c_gm_6_w14 c_gm_7_w14 c_gm_8_w14 c_gm_9_w14; try clear z_gm_0_w14 z_gm_1_w14 z_gm_2_w14 z_gm_3_w14 z_gm_4_w14 z_gm_5_w14 z_gm_6_w14 z_gm_7_w14 z_gm_8_w14 z_gm_9_w14
 try clear O_k_w14
 rcases mD.fin_some H.out with ⟨hs, hH⟩ | ⟨hs, x, hx, hx0, hH⟩ | ⟨hs, hx, hH⟩
 ·as_aux_lemma =>
   have HB := Aside0.mk hH; have hs2 : (s7.toList != ([] : List UInt8)) = true := by simp only [bne, hs]; rfl
   clear hH H
   go_wp2
   exact ⟨rfl, mD.MP.bad K_w15.out (by decide) HB.out⟩
 ·as_aux_lemma =>
   have HB := Aside0.mk hH; have HX := Aside0.mk hx; have hs2 : (s7.toList != ([] : List UInt8)) = false := by simp only [bne, hs]; rfl
   have hxb : (x != 0) = true := bne_iff_ne.mpr hx0
   clear hx0
   clear hH hx H
   have hC := Kd.R_reads' O_k_w15.out
   have HC1 := Aside0.mk hC.2.1; have HC2 := Aside0.mk hC.2.2
   clear hC
   go_wp2_with (first | (go_at_call 40; (with_reducible refine (mC.calls n1 n2 A3 c3 l3 n4 n5 0 0 n6 n7 0 x _ HC2.out HC1.out HX.out).mono ?_); rintro e w16 ⟨rfl, hb⟩; have K_w16 := Aside0.mk (mD.KB.step K_w15.out hb); have X_g_w16 := Aside0.mk (blk_below X_g_w15.out hb); have c_g_0_w16 := XW.cells1 (X_g_w16.out); have X_gm_w16 := Aside0.mk (blk_below X_gm_w15.out hb); obtain ⟨c_gm_0_w16, c_gm_1_w16, c_gm_2_w16, c_gm_3_w16, c_gm_4_w16, c_gm_5_w16, c_gm_6_w16, c_gm_7_w16, c_gm_8_w16, c_gm_9_w16⟩ := XW.cells10 (X_gm_w16.out); have z_g_0_w16 := XW.froz1 (X_g_w16.out); obtain ⟨z_gm_0_w16, z_gm_1_w16, z_gm_2_w16, z_gm_3_w16, z_gm_4_w16, z_gm_5_w16, z_gm_6_w16, z_gm_7_w16, z_gm_8_w16, z_gm_9_w16⟩ := XW.froz10 (X_gm_w16.out); have O_k_w16 := Aside0.mk (Kd.R_below O_k_w15.out hb); clear hb))
   exact ⟨rfl, mD.MP.bad K_w16.out (by decide) HB.out⟩
 have HB := Aside0.mk hH; have HX := Aside0.mk hx; have hs2 : (s7.toList != ([] : List UInt8)) = false := by simp only [bne, hs]; rfl
 clear hH hx H
 have hC := Kd.R_reads' O_k_w15.out
 have HC1 := Aside0.mk hC.2.1; have HC2 := Aside0.mk hC.2.2
 clear hC
 go_wp2_with (first | (go_at_call 40; (with_reducible refine (mC.calls n1 n2 A3 c3 l3 n4 n5 0 0 n6 n7 0 0 _ HC2.out HC1.out HX.out).mono ?_); rintro e w16 ⟨rfl, hb⟩; have K_w16 := Aside0.mk (mD.KB.step K_w15.out hb); have X_g_w16 := Aside0.mk (blk_below X_g_w15.out hb); have c_g_0_w16 := XW.cells1 (X_g_w16.out); have X_gm_w16 := Aside0.mk (blk_below X_gm_w15.out hb); obtain ⟨c_gm_0_w16, c_gm_1_w16, c_gm_2_w16, c_gm_3_w16, c_gm_4_w16, c_gm_5_w16, c_gm_6_w16, c_gm_7_w16, c_gm_8_w16, c_gm_9_w16⟩ := XW.cells10 (X_gm_w16.out); have z_g_0_w16 := XW.froz1 (X_g_w16.out); obtain ⟨z_gm_0_w16, z_gm_1_w16, z_gm_2_w16, z_gm_3_w16, z_gm_4_w16, z_gm_5_w16, z_gm_6_w16, z_gm_7_w16, z_gm_8_w16, z_gm_9_w16⟩ := XW.froz10 (X_gm_w16.out); have O_k_w16 := Aside0.mk (Kd.R_below O_k_w15.out hb); clear hb) | ((with_reducible refine gate_store (t := 56) (p := 2) rfl ?_); go_must (refine store_event (t := 56) (p := 2) (v := ?vo_14) (w1 := ((((((((((w16.setCell ⟨gm, 0, none⟩ (.int .i64 n1)).setCell ⟨gm, 1, none⟩ (.int .i64 n2)).setCell ⟨gm, 2, none⟩ (.slice A3 l3.length c3)).setCell ⟨gm, 3, none⟩ (.int .i64 n4)).setCell ⟨gm, 4, none⟩ (.int .i64 n5)).setCell ⟨gm, 5, none⟩ (.int .i64 0)).setCell ⟨gm, 6, none⟩ (.int .i64 0)).setCell ⟨gm, 7, none⟩ (.int .i64 n6)).setCell ⟨gm, 8, none⟩ (.int .i64 n7)).setCell ⟨gm, 9, none⟩ (.int .i64 0))) ?hg ?ho ?hn ?hr ?_; (case ho => rfl); (case hg => rfl); (case hn => rfl); (case hr => first | (go_simp; done) | (go_simp; rfl)); intro w17 hw; have K_w17 : Aside0 (mD.KB w w17 g) := ⟨by rw [hw]; exact mD.KB.put (mD.KB.put (mD.KB.put (mD.KB.put (mD.KB.put (mD.KB.put (mD.KB.put (mD.KB.put (mD.KB.put (mD.KB.put (K_w16.out) (.inr GE_gm.out) 0 (.int .i64 n1)) (.inr GE_gm.out) 1 (.int .i64 n2)) (.inr GE_gm.out) 2 (.slice A3 l3.length c3)) (.inr GE_gm.out) 3 (.int .i64 n4)) (.inr GE_gm.out) 4 (.int .i64 n5)) (.inr GE_gm.out) 5 (.int .i64 0)) (.inr GE_gm.out) 6 (.int .i64 0)) (.inr GE_gm.out) 7 (.int .i64 n6)) (.inr GE_gm.out) 8 (.int .i64 n7)) (.inr GE_gm.out) 9 (.int .i64 0)⟩; have X_g_w17 := Aside0.mk (XW.blk_eq hw (blk_far (blk_far (blk_far (blk_far (blk_far (blk_far (blk_far (blk_far (blk_far (blk_far (X_g_w16.out) (p := ⟨gm, 0, none⟩) (blk_ne X_g_w16.out X_gm_w16.out (by decide)) (.int .i64 n1)) (p := ⟨gm, 1, none⟩) (blk_ne X_g_w16.out X_gm_w16.out (by decide)) (.int .i64 n2)) (p := ⟨gm, 2, none⟩) (blk_ne X_g_w16.out X_gm_w16.out (by decide)) (.slice A3 l3.length c3)) (p := ⟨gm, 3, none⟩) (blk_ne X_g_w16.out X_gm_w16.out (by decide)) (.int .i64 n4)) (p := ⟨gm, 4, none⟩) (blk_ne X_g_w16.out X_gm_w16.out (by decide)) (.int .i64 n5)) (p := ⟨gm, 5, none⟩) (blk_ne X_g_w16.out X_gm_w16.out (by decide)) (.int .i64 0)) (p := ⟨gm, 6, none⟩) (blk_ne X_g_w16.out X_gm_w16.out (by decide)) (.int .i64 0)) (p := ⟨gm, 7, none⟩) (blk_ne X_g_w16.out X_gm_w16.out (by decide)) (.int .i64 n6)) (p := ⟨gm, 8, none⟩) (blk_ne X_g_w16.out X_gm_w16.out (by decide)) (.int .i64 n7)) (p := ⟨gm, 9, none⟩) (blk_ne X_g_w16.out X_gm_w16.out (by decide)) (.int .i64 0))); have c_g_0_w17 := XW.cells1 (X_g_w17.out); have z_g_0_w17 := XW.froz1 (X_g_w17.out); have X_gm_w17 := Aside0.mk (XW.blk_eq hw (blk_put (cs' := #[.int .i64 n1, .int .i64 n2, .slice A3 l3.length c3, .int .i64 n4, .int .i64 n5, .int .i64 0, .int .i64 0, .int .i64 n6, .int .i64 n7, .int .i64 0]) (blk_put (cs' := #[.int .i64 n1, .int .i64 n2, .slice A3 l3.length c3, .int .i64 n4, .int .i64 n5, .int .i64 0, .int .i64 0, .int .i64 n6, .int .i64 n7, .int .i64 0]) (blk_put (cs' := #[.int .i64 n1, .int .i64 n2, .slice A3 l3.length c3, .int .i64 n4, .int .i64 n5, .int .i64 0, .int .i64 0, .int .i64 n6, .int .i64 n7, .int .i64 0]) (blk_put (cs' := #[.int .i64 n1, .int .i64 n2, .slice A3 l3.length c3, .int .i64 n4, .int .i64 n5, .int .i64 0, .int .i64 0, .int .i64 n6, .int .i64 n7, .int .i64 0]) (blk_put (cs' := #[.int .i64 n1, .int .i64 n2, .slice A3 l3.length c3, .int .i64 n4, .int .i64 n5, .int .i64 0, .int .i64 0, .int .i64 n6, .int .i64 n7, .int .i64 0]) (blk_put (cs' := #[.int .i64 n1, .int .i64 n2, .slice A3 l3.length c3, .int .i64 n4, .int .i64 n5, .int .i64 0, .int .i64 0, .int .i64 n6, .int .i64 n7, .int .i64 0]) (blk_put (cs' := #[.int .i64 n1, .int .i64 n2, .slice A3 l3.length c3, .int .i64 n4, .int .i64 n5, .int .i64 0, .int .i64 0, .int .i64 n6, .int .i64 n7, .int .i64 0]) (blk_put (cs' := #[.int .i64 n1, .int .i64 n2, .slice A3 l3.length c3, .int .i64 n4, .int .i64 n5, .int .i64 0, .int .i64 0, .int .i64 n6, .int .i64 n7, .int .i64 0]) (blk_put (cs' := #[.int .i64 n1, .int .i64 n2, .slice A3 l3.length c3, .int .i64 n4, .int .i64 n5, .int .i64 0, .int .i64 0, .int .i64 n6, .int .i64 n7, .int .i64 0]) (blk_put (cs' := #[.int .i64 n1, .int .i64 n2, .slice A3 l3.length c3, .int .i64 n4, .int .i64 n5, .int .i64 0, .int .i64 0, .int .i64 n6, .int .i64 n7, .int .i64 0]) (X_gm_w16.out) 0 (.int .i64 n1) rfl) 1 (.int .i64 n2) rfl) 2 (.slice A3 l3.length c3) rfl) 3 (.int .i64 n4) rfl) 4 (.int .i64 n5) rfl) 5 (.int .i64 0) rfl) 6 (.int .i64 0) rfl) 7 (.int .i64 n6) rfl) 8 (.int .i64 n7) rfl) 9 (.int .i64 0) rfl)); obtain ⟨c_gm_0_w17, c_gm_1_w17, c_gm_2_w17, c_gm_3_w17, c_gm_4_w17, c_gm_5_w17, c_gm_6_w17, c_gm_7_w17, c_gm_8_w17, c_gm_9_w17⟩ := XW.cells10 (X_gm_w17.out); obtain ⟨z_gm_0_w17, z_gm_1_w17, z_gm_2_w17, z_gm_3_w17, z_gm_4_w17, z_gm_5_w17, z_gm_6_w17, z_gm_7_w17, z_gm_8_w17, z_gm_9_w17⟩ := XW.froz10 (X_gm_w17.out); have O_k_w17 : Aside0 (Kd.R (Kd.int .i64) 3 w17 w.heap.size (fun k => k ≠ g ∧ k ≠ gm) (.slice A3 l3.length c3) l3) := ⟨by rw [hw]; exact Kd.R_far (Kd.R_far (Kd.R_far (Kd.R_far (Kd.R_far (Kd.R_far (Kd.R_far (Kd.R_far (Kd.R_far (Kd.R_far (O_k_w16.out) (p := ⟨gm, 0, none⟩) (fun k hk => hk.2) (.int .i64 n1)) (p := ⟨gm, 1, none⟩) (fun k hk => hk.2) (.int .i64 n2)) (p := ⟨gm, 2, none⟩) (fun k hk => hk.2) (.slice A3 l3.length c3)) (p := ⟨gm, 3, none⟩) (fun k hk => hk.2) (.int .i64 n4)) (p := ⟨gm, 4, none⟩) (fun k hk => hk.2) (.int .i64 n5)) (p := ⟨gm, 5, none⟩) (fun k hk => hk.2) (.int .i64 0)) (p := ⟨gm, 6, none⟩) (fun k hk => hk.2) (.int .i64 0)) (p := ⟨gm, 7, none⟩) (fun k hk => hk.2) (.int .i64 n6)) (p := ⟨gm, 8, none⟩) (fun k hk => hk.2) (.int .i64 n7)) (p := ⟨gm, 9, none⟩) (fun k hk => hk.2) (.int .i64 0)⟩; clear hw)))
 refine bodyPost_ret (results_cell_row rfl _ _ gm 56 #[.int .i64 n1, .int .i64 n2, .slice A3 l3.length c3, .int .i64 n4, .int .i64 n5, .int .i64 0, .int .i64 0, .int .i64 n6, .int .i64 n7, .int .i64 0] (0, 0) _ rfl X_gm_w17.out Tryz.underlying56 rfl (by kernel_rfl)) rfl ?_
 obtain rfl := Option.some.inj HB.out
 exact ⟨K_w17.out, .inl ⟨rfl, A3, c3, rfl, Kd.R_mono O_k_w17.out (fun _ _ => trivial)⟩⟩
def mD.CP (w w' : World) (gm ge : Nat) (ec : Int) : Prop := w'.heap[gm]? = some (.cells #[.int .i64 0, .int .i64 0, .slice none 0 0, .int .i64 0, .int .i64 0, .int .i64 0, .int .i64 0, .int .i64 0, .int .i64 0, .int .i64 0] 56 (0, 0)) ∧ w'.heap[ge]? = some (.cells #[.int .i64 ec] 46 (0, 0)) ∧ ∀ (w0 : World), w0.heap.size ≤ gm → w0.heap.size ≤ ge → Below w0.heap.size w0 w → Below w0.heap.size w0 w'
set_option maxHeartbeats 4000000 in
set_option maxRecDepth 100000 in
theorem mD.catch_panicking (gm ge : Nat) (ec : Int) (w : World) (hm : w.heap[gm]? = some (.cells #[.int .i64 0, .int .i64 0, .slice none 0 0, .int .i64 0, .int .i64 0, .int .i64 0, .int .i64 0, .int .i64 0, .int .i64 0, .int .i64 0] 56 (0, 0))) (he : w.heap[ge]? = some (.cells #[.int .i64 0] 46 (0, 0))) :
  CallsD Tryz.prog 38 #[.pointer (some ⟨gm, 0, none⟩), .pointer (some ⟨ge, 0, none⟩)] (.panicking ({ v := .iface 46 (.int .i64 ec), recovered := false } :: [])) w fun e u' w' =>
   e = .returned (.tuple #[]) ∧ u' = .panicking ({ v := .iface 46 (.int .i64 ec), recovered := true } :: []) ∧ mD.CP w w' gm ge ec := by
 have hu28 := Tryz.underlying56
 have hu31 := Tryz.underlying46
 have hne : ¬ ge = gm := blk_ne he hm (by decide)
 have hne' : ¬ gm = ge := fun h => hne h.symm
 have c_gm_0 : w.cell? ⟨gm, 0, none⟩ = some (.int .i64 0) := (blk_cell hm 0).trans rfl; have z_gm_0 := blk_frozen hm 0; have c_gm_1 : w.cell? ⟨gm, 1, none⟩ = some (.int .i64 0) := (blk_cell hm 1).trans rfl; have z_gm_1 := blk_frozen hm 1; have c_gm_2 : w.cell? ⟨gm, 2, none⟩ = some (.slice none 0 0) := (blk_cell hm 2).trans rfl; have z_gm_2 := blk_frozen hm 2; have c_gm_3 : w.cell? ⟨gm, 3, none⟩ = some (.int .i64 0) := (blk_cell hm 3).trans rfl; have z_gm_3 := blk_frozen hm 3; have c_gm_4 : w.cell? ⟨gm, 4, none⟩ = some (.int .i64 0) := (blk_cell hm 4).trans rfl; have z_gm_4 := blk_frozen hm 4; have c_gm_5 : w.cell? ⟨gm, 5, none⟩ = some (.int .i64 0) := (blk_cell hm 5).trans rfl; have z_gm_5 := blk_frozen hm 5; have c_gm_6 : w.cell? ⟨gm, 6, none⟩ = some (.int .i64 0) := (blk_cell hm 6).trans rfl; have z_gm_6 := blk_frozen hm 6; have c_gm_7 : w.cell? ⟨gm, 7, none⟩ = some (.int .i64 0) := (blk_cell hm 7).trans rfl; have z_gm_7 := blk_frozen hm 7; have c_gm_8 : w.cell? ⟨gm, 8, none⟩ = some (.int .i64 0) := (blk_cell hm 8).trans rfl; have z_gm_8 := blk_frozen hm 8; have c_gm_9 : w.cell? ⟨gm, 9, none⟩ = some (.int .i64 0) := (blk_cell hm 9).trans rfl; have z_gm_9 := blk_frozen hm 9; have c_ge_0 : w.cell? ⟨ge, 0, none⟩ = some (.int .i64 0) := (blk_cell he 0).trans rfl; have z_ge_0 := blk_frozen he 0
 have hta : ∀ (v : Value) (w : World), (Instr.typeAssert (.iface 46 v) 20 46 false).run Tryz.prog w = .ok v w := fun v w => by kernel_rfl
 have XM := Aside0.mk hm; have XE := Aside0.mk he
 clear hm he
 refine callsD_of_wpS Tryz.func38 rfl fun c₀ cs hu => ?_
 apply wpS_seq
 apply wpS_region
 simp [wpOpsS, go_sem, recoverD, hu, Tryz.ntmps38, Exit.thenS]
 refine wpS_of_wp ?_
 rw [show (#[Value.pointer (some { block := gm, off := 0 }), Value.pointer (some { block := ge, off := 0 })] ++ ((Array.replicate 7 undef).setIfInBounds 1 (Value.iface 46 (Value.int IntKind.i64 ec))).setIfInBounds 0 (Value.iface 46 (Value.int IntKind.i64 ec))) = #[Value.pointer (some { block := gm, off := 0 }), Value.pointer (some { block := ge, off := 0 }), Value.iface 46 (Value.int IntKind.i64 ec), Value.iface 46 (Value.int IntKind.i64 ec), undef, undef, undef, undef, undef] from rfl]
 go_upto_region 2 with (fail)
 go_big_region
 refine ⟨rfl, _, rfl, .tuple #[], results_none rfl _ _ _, rfl, rfl, ⟨blk_drew (blk_far (blk_put (cs' := #[.int .i64 0, .int .i64 0, .slice none 0 0, .int .i64 0, .int .i64 0, .int .i64 0, .int .i64 0, .int .i64 0, .int .i64 0, .int .i64 0]) (blk_put (cs' := #[.int .i64 0, .int .i64 0, .slice none 0 0, .int .i64 0, .int .i64 0, .int .i64 0, .int .i64 0, .int .i64 0, .int .i64 0, .int .i64 0]) (blk_put (cs' := #[.int .i64 0, .int .i64 0, .slice none 0 0, .int .i64 0, .int .i64 0, .int .i64 0, .int .i64 0, .int .i64 0, .int .i64 0, .int .i64 0]) (blk_put (cs' := #[.int .i64 0, .int .i64 0, .slice none 0 0, .int .i64 0, .int .i64 0, .int .i64 0, .int .i64 0, .int .i64 0, .int .i64 0, .int .i64 0]) (blk_put (cs' := #[.int .i64 0, .int .i64 0, .slice none 0 0, .int .i64 0, .int .i64 0, .int .i64 0, .int .i64 0, .int .i64 0, .int .i64 0, .int .i64 0]) (blk_put (cs' := #[.int .i64 0, .int .i64 0, .slice none 0 0, .int .i64 0, .int .i64 0, .int .i64 0, .int .i64 0, .int .i64 0, .int .i64 0, .int .i64 0]) (blk_put (cs' := #[.int .i64 0, .int .i64 0, .slice none 0 0, .int .i64 0, .int .i64 0, .int .i64 0, .int .i64 0, .int .i64 0, .int .i64 0, .int .i64 0]) (blk_put (cs' := #[.int .i64 0, .int .i64 0, .slice none 0 0, .int .i64 0, .int .i64 0, .int .i64 0, .int .i64 0, .int .i64 0, .int .i64 0, .int .i64 0]) (blk_put (cs' := #[.int .i64 0, .int .i64 0, .slice none 0 0, .int .i64 0, .int .i64 0, .int .i64 0, .int .i64 0, .int .i64 0, .int .i64 0, .int .i64 0]) (blk_put (cs' := #[.int .i64 0, .int .i64 0, .slice none 0 0, .int .i64 0, .int .i64 0, .int .i64 0, .int .i64 0, .int .i64 0, .int .i64 0, .int .i64 0]) (XM.out) 0 (.int .i64 0) rfl) 1 (.int .i64 0) rfl) 2 (.slice none 0 0) rfl) 3 (.int .i64 0) rfl) 4 (.int .i64 0) rfl) 5 (.int .i64 0) rfl) 6 (.int .i64 0) rfl) 7 (.int .i64 0) rfl) 8 (.int .i64 0) rfl) 9 (.int .i64 0) rfl) (p := ⟨ge, 0, none⟩) hne' (.int .i64 ec)), blk_drew (blk_put (cs' := #[.int .i64 ec]) (blk_far (blk_far (blk_far (blk_far (blk_far (blk_far (blk_far (blk_far (blk_far (blk_far (XE.out) (p := ⟨gm, 0, none⟩) hne (.int .i64 0)) (p := ⟨gm, 1, none⟩) hne (.int .i64 0)) (p := ⟨gm, 2, none⟩) hne (.slice none 0 0)) (p := ⟨gm, 3, none⟩) hne (.int .i64 0)) (p := ⟨gm, 4, none⟩) hne (.int .i64 0)) (p := ⟨gm, 5, none⟩) hne (.int .i64 0)) (p := ⟨gm, 6, none⟩) hne (.int .i64 0)) (p := ⟨gm, 7, none⟩) hne (.int .i64 0)) (p := ⟨gm, 8, none⟩) hne (.int .i64 0)) (p := ⟨gm, 9, none⟩) hne (.int .i64 0)) 0 (.int .i64 ec) rfl), fun w0 hg hg' h => below_drew1 (below_set (j := 0) (below_set (j := 9) (below_set (j := 8) (below_set (j := 7) (below_set (j := 6) (below_set (j := 5) (below_set (j := 4) (below_set (j := 3) (below_set (j := 2) (below_set (j := 1) (below_set (j := 0) (h) hg) hg) hg) hg) hg) hg) hg) hg) hg) hg) hg')⟩⟩
set_option maxHeartbeats 4000000 in
set_option maxRecDepth 100000 in
theorem mD.catch_idle (gm ge : Nat) (w : World) :
  CallsD Tryz.prog 38 #[.pointer (some ⟨gm, 0, none⟩), .pointer (some ⟨ge, 0, none⟩)] .returning w fun e u' w' => e = .returned (.tuple #[]) ∧ u' = .returning ∧ w' = w := by
 refine callsD_of_wpS Tryz.func38 rfl fun c₀ cs hu => ?_
 apply wpS_seq
 apply wpS_region
 simp [wpOpsS, go_sem, recoverD, hu, Tryz.ntmps38, Exit.thenS]
 refine wpS_of_wp ?_
 rw [show (#[Value.pointer (some { block := gm, off := 0 }), Value.pointer (some { block := ge, off := 0 })] ++ ((Array.replicate 7 undef).setIfInBounds 1 Value.nilIface).setIfInBounds 0 Value.nilIface) = #[Value.pointer (some { block := gm, off := 0 }), Value.pointer (some { block := ge, off := 0 }), Value.nilIface, Value.nilIface, undef, undef, undef, undef, undef] from rfl]
 go_wp2
 cases c₀
 simp_all [bodyPostS, results, Tryz.results38]
set_option maxHeartbeats 4000000 in
set_option maxRecDepth 100000 in
theorem mD.res (gm ge : Nat) (tmps : Array Value) (cs : Array Value) (ec : Int) (w : World) (h2 : tmps[2]?.getD undef = .pointer (some ⟨gm, 0, none⟩)) (h3 : tmps[3]?.getD undef = .pointer (some ⟨ge, 0, none⟩)) (hm : w.heap[gm]? = some (.cells cs 56 (0, 0))) (hs : cs.size = 10) (he : w.cell? ⟨ge, 0, none⟩ = some (.int .i64 ec)) : (results Tryz.f18 tmps).run Tryz.prog w = .ok (.tuple #[.agg cs, .int .i64 ec]) w := by
 have hu31 := Tryz.underlying46
 have h1 := run_loadVar_row (P := Tryz.prog) w gm 56 56 cs (0, 0) _ hm Tryz.underlying56 rfl (by rw [hs]; kernel_rfl)
 have h4 : (loadVar 46 ⟨ge, 0, none⟩).run Tryz.prog w = .ok (.int .i64 ec) w := by simp [go_sem, he, hu31]
 simp [results, Tryz.results18, h2, h3, asAddr, h1, h4]
set_option maxHeartbeats 4000000 in
set_option maxRecDepth 100000 in
theorem mD.calls (k : Nat) (a0 : ByteArray) (r1 r2 : Int) (r3 : List Int) (r4 r5 r6 r7 r8 r9 r10 r11 : Int) (w : World) (h : mD.f k a0 = some (r1, r2, r3, r4, r5, r6, r7, r8, r9, r10, r11)) :
  Calls Tryz.prog 18 #[.string a0] w fun e w' => ∃ v0_ : Value, e = .returned (.tuple #[.agg #[.int .i64 r1, .int .i64 r2, v0_, .int .i64 r4, .int .i64 r5, .int .i64 r6, .int .i64 r7, .int .i64 r8, .int .i64 r9, .int .i64 r10], .int .i64 r11]) ∧ Kd.R (Kd.int .i64) 3 w' w.heap.size (fun _ => True) v0_ r3 ∧ Below w.heap.size w w' := by
 have hu24 := Tryz.underlying52
 have hu26 := Tryz.underlying54
 have hu28 := Tryz.underlying56
 have hu82 := Tryz.underlying119
 have hmf : ∀ (fn : Fn) (first cap : Array Value) (w : World), (Instr.makeFunc fn first cap).run Tryz.prog w = .ok (.func fn first cap) w := fun _ _ _ _ => rfl
 have B_w := Aside0.mk (Below.refl w.heap.size w)
 have H := Aside0.mk h
 clear h
 go_enter_defers Tryz.func18, Tryz.ntmps18
 go_wp2_with (first | ((with_reducible refine gate_dst (N := 2) rfl ?_); (try (refine gate_guard (by rfl) ?_; dsimp only)); refine box_event ?hg (N := 2) ?hd (cs := #[.int .i64 0, .int .i64 0, .slice none 0 0, .int .i64 0, .int .i64 0, .int .i64 0, .int .i64 0, .int .i64 0, .int .i64 0, .int .i64 0]) (t := 56) ?hr ?_; (case hd => rfl); (case hg => rfl); (case hr => first | (go_simp; done) | (go_simp; rfl)); intro gm hg_gm w1 hbox hb; have B_w1 := Aside0.mk (below_step B_w.out hb); have GE_gm : Aside0 (w.heap.size ≤ gm) := ⟨by rw [hg_gm]; exact below_size B_w.out⟩; have X_gm_w1 : Aside0 (w1.heap[gm]? = some (.cells #[.int .i64 0, .int .i64 0, .slice none 0 0, .int .i64 0, .int .i64 0, .int .i64 0, .int .i64 0, .int .i64 0, .int .i64 0, .int .i64 0] 56 (0, 0))) := ⟨hbox⟩; obtain ⟨c_gm_0_w1, c_gm_1_w1, c_gm_2_w1, c_gm_3_w1, c_gm_4_w1, c_gm_5_w1, c_gm_6_w1, c_gm_7_w1, c_gm_8_w1, c_gm_9_w1⟩ := XW.cells10 (X_gm_w1.out); obtain ⟨z_gm_0_w1, z_gm_1_w1, z_gm_2_w1, z_gm_3_w1, z_gm_4_w1, z_gm_5_w1, z_gm_6_w1, z_gm_7_w1, z_gm_8_w1, z_gm_9_w1⟩ := XW.froz10 (X_gm_w1.out); clear hb hbox hg_gm) | ((with_reducible refine gate_dst (N := 3) rfl ?_); (try (refine gate_guard (by rfl) ?_; dsimp only)); refine box_event ?hg (N := 3) ?hd (cs := #[.int .i64 0]) (t := 46) ?hr ?_; (case hd => rfl); (case hg => rfl); (case hr => first | (go_simp; done) | (go_simp; rfl)); intro ge hg_ge w2 hbox hb; have B_w2 := Aside0.mk (below_step B_w1.out hb); have GE_ge : Aside0 (w.heap.size ≤ ge) := ⟨by rw [hg_ge]; exact below_size B_w1.out⟩; have X_gm_w2 := Aside0.mk (blk_below X_gm_w1.out hb); obtain ⟨c_gm_0_w2, c_gm_1_w2, c_gm_2_w2, c_gm_3_w2, c_gm_4_w2, c_gm_5_w2, c_gm_6_w2, c_gm_7_w2, c_gm_8_w2, c_gm_9_w2⟩ := XW.cells10 (X_gm_w2.out); have X_ge_w2 : Aside0 (w2.heap[ge]? = some (.cells #[.int .i64 0] 46 (0, 0))) := ⟨hbox⟩; have c_ge_0_w2 := XW.cells1 (X_ge_w2.out); have z_ge_0_w2 := XW.froz1 (X_ge_w2.out); clear hb hbox hg_ge) | ((with_reducible refine gate_dst (N := 8) rfl ?_); (try (refine gate_guard (by rfl) ?_; dsimp only)); refine box_event ?hg (N := 8) ?hd (cs := #[.string a0]) (t := 119) ?hr ?_; (case hd => rfl); (case hg => rfl); (case hr => first | (go_simp; done) | (go_simp; rfl)); intro g hg_g w3 hbox hb; have B_w3 := Aside0.mk (below_step B_w2.out hb); have GE_g : Aside0 (w.heap.size ≤ g) := ⟨by rw [hg_g]; exact below_size B_w2.out⟩; have X_gm_w3 := Aside0.mk (blk_below X_gm_w2.out hb); obtain ⟨c_gm_0_w3, c_gm_1_w3, c_gm_2_w3, c_gm_3_w3, c_gm_4_w3, c_gm_5_w3, c_gm_6_w3, c_gm_7_w3, c_gm_8_w3, c_gm_9_w3⟩ := XW.cells10 (X_gm_w3.out); have X_ge_w3 := Aside0.mk (blk_below X_ge_w2.out hb); have c_ge_0_w3 := XW.cells1 (X_ge_w3.out); have X_g_w3 : Aside0 (w3.heap[g]? = some (.cells #[.string a0] 119 (0, 0))) := ⟨hbox⟩; have c_g_0_w3 := XW.cells1 (X_g_w3.out); have z_g_0_w3 := XW.froz1 (X_g_w3.out); clear hb hbox hg_g))
 go_at_call 39
 refine (mD.msg k g a0 _ H.out _ X_g_w3.out).mono ?_
 rintro e w4 hMP
 rcases mD.MP.cases hMP with ⟨hk, ⟨h0, A, c, rfl, ho⟩ | ⟨ec, hec, hb, rfl⟩⟩
 ·
  have B_w4 := Aside0.mk (mD.KB.below hk B_w3.out GE_g.out B_w3.out.size)
  have X_gm_w4 : Aside0 (w4.heap[gm]? = some (.cells #[.int .i64 0, .int .i64 0, .slice none 0 0, .int .i64 0, .int .i64 0, .int .i64 0, .int .i64 0, .int .i64 0, .int .i64 0, .int .i64 0] 56 (0, 0))) := ⟨mD.KB.blk hk X_gm_w3.out (blk_ne X_gm_w3.out X_g_w3.out (by decide))⟩
  obtain ⟨c_gm_0_w4, c_gm_1_w4, c_gm_2_w4, c_gm_3_w4, c_gm_4_w4, c_gm_5_w4, c_gm_6_w4, c_gm_7_w4, c_gm_8_w4, c_gm_9_w4⟩ := XW.cells10 (X_gm_w4.out); obtain ⟨z_gm_0_w4, z_gm_1_w4, z_gm_2_w4, z_gm_3_w4, z_gm_4_w4, z_gm_5_w4, z_gm_6_w4, z_gm_7_w4, z_gm_8_w4, z_gm_9_w4⟩ := XW.froz10 (X_gm_w4.out)
  have X_ge_w4 : Aside0 (w4.heap[ge]? = some (.cells #[.int .i64 0] 46 (0, 0))) := ⟨mD.KB.blk hk X_ge_w3.out (blk_ne X_ge_w3.out X_g_w3.out (by decide))⟩
  have c_ge_0_w4 := XW.cells1 (X_ge_w4.out); have z_ge_0_w4 := XW.froz1 (X_ge_w4.out)
  clear hk hMP
  subst h0
  have HO := Aside0.mk (Kd.R_mono (Kd.R_types (Kd.R_types (Kd.R_lower ho B_w3.out.size) X_gm_w4.out (by decide)) X_ge_w4.out (by decide)) (ok' := fun k => k ≠ gm ∧ k ≠ ge) (fun _ hk => ⟨hk.1.2, hk.2⟩))
  clear ho
  go_wp2_with (first | ((with_reducible refine gate_store (t := 56) (p := 2) rfl ?_); go_must (refine store_event (t := 56) (p := 2) (v := ?vo_w5) (w1 := ((((((((((w4.setCell ⟨gm, 0, none⟩ (.int .i64 r1)).setCell ⟨gm, 1, none⟩ (.int .i64 r2)).setCell ⟨gm, 2, none⟩ (.slice A r3.length c)).setCell ⟨gm, 3, none⟩ (.int .i64 r4)).setCell ⟨gm, 4, none⟩ (.int .i64 r5)).setCell ⟨gm, 5, none⟩ (.int .i64 r6)).setCell ⟨gm, 6, none⟩ (.int .i64 r7)).setCell ⟨gm, 7, none⟩ (.int .i64 r8)).setCell ⟨gm, 8, none⟩ (.int .i64 r9)).setCell ⟨gm, 9, none⟩ (.int .i64 r10))) ?hg ?ho ?hn ?hr ?_; (case ho => rfl); (case hg => rfl); (case hn => rfl); (case hr => first | (go_simp; done) | (go_simp; rfl)); intro w5 hw; have B_w5 : Aside0 (Below w.heap.size w w5) := ⟨by rw [hw]; exact below_set (j := 9) (below_set (j := 8) (below_set (j := 7) (below_set (j := 6) (below_set (j := 5) (below_set (j := 4) (below_set (j := 3) (below_set (j := 2) (below_set (j := 1) (below_set (j := 0) (B_w4.out) GE_gm.out) GE_gm.out) GE_gm.out) GE_gm.out) GE_gm.out) GE_gm.out) GE_gm.out) GE_gm.out) GE_gm.out) GE_gm.out⟩; have X_gm_w5 : Aside0 (w5.heap[gm]? = some (.cells #[.int .i64 r1, .int .i64 r2, .slice A r3.length c, .int .i64 r4, .int .i64 r5, .int .i64 r6, .int .i64 r7, .int .i64 r8, .int .i64 r9, .int .i64 r10] 56 (0, 0))) := ⟨by rw [hw]; exact blk_put (cs' := #[.int .i64 r1, .int .i64 r2, .slice A r3.length c, .int .i64 r4, .int .i64 r5, .int .i64 r6, .int .i64 r7, .int .i64 r8, .int .i64 r9, .int .i64 r10]) (blk_put (cs' := #[.int .i64 r1, .int .i64 r2, .slice A r3.length c, .int .i64 r4, .int .i64 r5, .int .i64 r6, .int .i64 r7, .int .i64 r8, .int .i64 r9, .int .i64 0]) (blk_put (cs' := #[.int .i64 r1, .int .i64 r2, .slice A r3.length c, .int .i64 r4, .int .i64 r5, .int .i64 r6, .int .i64 r7, .int .i64 r8, .int .i64 0, .int .i64 0]) (blk_put (cs' := #[.int .i64 r1, .int .i64 r2, .slice A r3.length c, .int .i64 r4, .int .i64 r5, .int .i64 r6, .int .i64 r7, .int .i64 0, .int .i64 0, .int .i64 0]) (blk_put (cs' := #[.int .i64 r1, .int .i64 r2, .slice A r3.length c, .int .i64 r4, .int .i64 r5, .int .i64 r6, .int .i64 0, .int .i64 0, .int .i64 0, .int .i64 0]) (blk_put (cs' := #[.int .i64 r1, .int .i64 r2, .slice A r3.length c, .int .i64 r4, .int .i64 r5, .int .i64 0, .int .i64 0, .int .i64 0, .int .i64 0, .int .i64 0]) (blk_put (cs' := #[.int .i64 r1, .int .i64 r2, .slice A r3.length c, .int .i64 r4, .int .i64 0, .int .i64 0, .int .i64 0, .int .i64 0, .int .i64 0, .int .i64 0]) (blk_put (cs' := #[.int .i64 r1, .int .i64 r2, .slice A r3.length c, .int .i64 0, .int .i64 0, .int .i64 0, .int .i64 0, .int .i64 0, .int .i64 0, .int .i64 0]) (blk_put (cs' := #[.int .i64 r1, .int .i64 r2, .slice none 0 0, .int .i64 0, .int .i64 0, .int .i64 0, .int .i64 0, .int .i64 0, .int .i64 0, .int .i64 0]) (blk_put (cs' := #[.int .i64 r1, .int .i64 0, .slice none 0 0, .int .i64 0, .int .i64 0, .int .i64 0, .int .i64 0, .int .i64 0, .int .i64 0, .int .i64 0]) (X_gm_w4.out) 0 (.int .i64 r1) rfl) 1 (.int .i64 r2) rfl) 2 (.slice A r3.length c) rfl) 3 (.int .i64 r4) rfl) 4 (.int .i64 r5) rfl) 5 (.int .i64 r6) rfl) 6 (.int .i64 r7) rfl) 7 (.int .i64 r8) rfl) 8 (.int .i64 r9) rfl) 9 (.int .i64 r10) rfl⟩; obtain ⟨c_gm_0_w5, c_gm_1_w5, c_gm_2_w5, c_gm_3_w5, c_gm_4_w5, c_gm_5_w5, c_gm_6_w5, c_gm_7_w5, c_gm_8_w5, c_gm_9_w5⟩ := XW.cells10 (X_gm_w5.out); obtain ⟨z_gm_0_w5, z_gm_1_w5, z_gm_2_w5, z_gm_3_w5, z_gm_4_w5, z_gm_5_w5, z_gm_6_w5, z_gm_7_w5, z_gm_8_w5, z_gm_9_w5⟩ := XW.froz10 (X_gm_w5.out); have X_ge_w5 : Aside0 (w5.heap[ge]? = some (.cells #[.int .i64 0] 46 (0, 0))) := ⟨by rw [hw]; exact blk_far (blk_far (blk_far (blk_far (blk_far (blk_far (blk_far (blk_far (blk_far (blk_far (X_ge_w4.out) (p := ⟨gm, 0, none⟩) (blk_ne X_ge_w4.out X_gm_w4.out (by decide)) (.int .i64 r1)) (p := ⟨gm, 1, none⟩) (blk_ne X_ge_w4.out X_gm_w4.out (by decide)) (.int .i64 r2)) (p := ⟨gm, 2, none⟩) (blk_ne X_ge_w4.out X_gm_w4.out (by decide)) (.slice A r3.length c)) (p := ⟨gm, 3, none⟩) (blk_ne X_ge_w4.out X_gm_w4.out (by decide)) (.int .i64 r4)) (p := ⟨gm, 4, none⟩) (blk_ne X_ge_w4.out X_gm_w4.out (by decide)) (.int .i64 r5)) (p := ⟨gm, 5, none⟩) (blk_ne X_ge_w4.out X_gm_w4.out (by decide)) (.int .i64 r6)) (p := ⟨gm, 6, none⟩) (blk_ne X_ge_w4.out X_gm_w4.out (by decide)) (.int .i64 r7)) (p := ⟨gm, 7, none⟩) (blk_ne X_ge_w4.out X_gm_w4.out (by decide)) (.int .i64 r8)) (p := ⟨gm, 8, none⟩) (blk_ne X_ge_w4.out X_gm_w4.out (by decide)) (.int .i64 r9)) (p := ⟨gm, 9, none⟩) (blk_ne X_ge_w4.out X_gm_w4.out (by decide)) (.int .i64 r10)⟩; have c_ge_0_w5 := XW.cells1 (X_ge_w5.out); have z_ge_0_w5 := XW.froz1 (X_ge_w5.out); have HO5 : Aside0 (∀ i, i ≠ gm → w5.heap[i]? = w4.heap[i]?) := ⟨fun i hi => by rw [hw]; exact (Below.heap_setCell _ ⟨gm, 9, none⟩ _ i hi).trans ((Below.heap_setCell _ ⟨gm, 8, none⟩ _ i hi).trans ((Below.heap_setCell _ ⟨gm, 7, none⟩ _ i hi).trans ((Below.heap_setCell _ ⟨gm, 6, none⟩ _ i hi).trans ((Below.heap_setCell _ ⟨gm, 5, none⟩ _ i hi).trans ((Below.heap_setCell _ ⟨gm, 4, none⟩ _ i hi).trans ((Below.heap_setCell _ ⟨gm, 3, none⟩ _ i hi).trans ((Below.heap_setCell _ ⟨gm, 2, none⟩ _ i hi).trans ((Below.heap_setCell _ ⟨gm, 1, none⟩ _ i hi).trans ((Below.heap_setCell _ ⟨gm, 0, none⟩ _ i hi))))))))))⟩; clear hw)) | ((with_reducible refine gate_store (t := 46) (p := 3) rfl ?_); go_must (refine store_event (t := 46) (p := 3) (v := ?vo_w6) (w1 := (w5.setCell ⟨ge, 0, none⟩ (.int .i64 0))) ?hg ?ho ?hn ?hr ?_; (case ho => rfl); (case hg => rfl); (case hn => rfl); (case hr => first | (go_simp; done) | (go_simp; rfl)); intro w6 hw; have B_w6 : Aside0 (Below w.heap.size w w6) := ⟨by rw [hw]; exact below_set (j := 0) (B_w5.out) GE_ge.out⟩; have X_gm_w6 : Aside0 (w6.heap[gm]? = some (.cells #[.int .i64 r1, .int .i64 r2, .slice A r3.length c, .int .i64 r4, .int .i64 r5, .int .i64 r6, .int .i64 r7, .int .i64 r8, .int .i64 r9, .int .i64 r10] 56 (0, 0))) := ⟨by rw [hw]; exact blk_far (X_gm_w5.out) (p := ⟨ge, 0, none⟩) (blk_ne X_gm_w5.out X_ge_w5.out (by decide)) (.int .i64 0)⟩; obtain ⟨c_gm_0_w6, c_gm_1_w6, c_gm_2_w6, c_gm_3_w6, c_gm_4_w6, c_gm_5_w6, c_gm_6_w6, c_gm_7_w6, c_gm_8_w6, c_gm_9_w6⟩ := XW.cells10 (X_gm_w6.out); obtain ⟨z_gm_0_w6, z_gm_1_w6, z_gm_2_w6, z_gm_3_w6, z_gm_4_w6, z_gm_5_w6, z_gm_6_w6, z_gm_7_w6, z_gm_8_w6, z_gm_9_w6⟩ := XW.froz10 (X_gm_w6.out); have X_ge_w6 : Aside0 (w6.heap[ge]? = some (.cells #[.int .i64 0] 46 (0, 0))) := ⟨by rw [hw]; exact blk_put (cs' := #[.int .i64 0]) (X_ge_w5.out) 0 (.int .i64 0) rfl⟩; have c_ge_0_w6 := XW.cells1 (X_ge_w6.out); have z_ge_0_w6 := XW.froz1 (X_ge_w6.out); have HO6 : Aside0 (∀ i, i ≠ ge → w6.heap[i]? = w5.heap[i]?) := ⟨fun i hi => by rw [hw]; exact Below.heap_setCell _ ⟨ge, 0, none⟩ _ i hi⟩; clear hw)))
  refine leaves_cons (f := 38) (args := #[.pointer (some ⟨gm, 0, none⟩), .pointer (some ⟨ge, 0, none⟩)]) (by simp) (by simp [go_sem]) ?_
  refine (mD.catch_idle gm ge _).mono ?_
  rintro e u' w'' ⟨rfl, rfl, rfl⟩
  exact ⟨_, mD.res gm ge _ _ _ _ rfl rfl X_gm_w6.out rfl ((blk_cell X_ge_w6.out 0).trans rfl), _, rfl, Kd.R_mono (Kd.R_step HO.out (fun k hk _ => (HO6.out k hk.2).trans (HO5.out k hk.1))) (fun _ _ => trivial), B_w6.out⟩
 ·
  have B_w4 := Aside0.mk (mD.KB.below hk B_w3.out GE_g.out B_w3.out.size)
  have X_gm_w4 : Aside0 (w4.heap[gm]? = some (.cells #[.int .i64 0, .int .i64 0, .slice none 0 0, .int .i64 0, .int .i64 0, .int .i64 0, .int .i64 0, .int .i64 0, .int .i64 0, .int .i64 0] 56 (0, 0))) := ⟨mD.KB.blk hk X_gm_w3.out (blk_ne X_gm_w3.out X_g_w3.out (by decide))⟩
  obtain ⟨c_gm_0_w4, c_gm_1_w4, c_gm_2_w4, c_gm_3_w4, c_gm_4_w4, c_gm_5_w4, c_gm_6_w4, c_gm_7_w4, c_gm_8_w4, c_gm_9_w4⟩ := XW.cells10 (X_gm_w4.out); obtain ⟨z_gm_0_w4, z_gm_1_w4, z_gm_2_w4, z_gm_3_w4, z_gm_4_w4, z_gm_5_w4, z_gm_6_w4, z_gm_7_w4, z_gm_8_w4, z_gm_9_w4⟩ := XW.froz10 (X_gm_w4.out)
  have X_ge_w4 : Aside0 (w4.heap[ge]? = some (.cells #[.int .i64 0] 46 (0, 0))) := ⟨mD.KB.blk hk X_ge_w3.out (blk_ne X_ge_w3.out X_g_w3.out (by decide))⟩
  have c_ge_0_w4 := XW.cells1 (X_ge_w4.out); have z_ge_0_w4 := XW.froz1 (X_ge_w4.out)
  clear hk hMP
  go_wp2
  refine leaves_cons (f := 38) (args := #[.pointer (some ⟨gm, 0, none⟩), .pointer (some ⟨ge, 0, none⟩)]) (by simp) (by simp [go_sem]) ?_
  refine (mD.catch_panicking gm ge ec _ X_gm_w4.out X_ge_w4.out).mono ?_
  rintro e u' w'' ⟨rfl, rfl, hC⟩
  simp only [mD.bad, Option.some.injEq, Prod.mk.injEq] at hb
  obtain ⟨rfl, rfl, rfl, rfl, rfl, rfl, rfl, rfl, rfl, rfl, rfl⟩ := hb
  exact ⟨_, mD.res gm ge _ _ _ _ rfl rfl hC.1 rfl ((blk_cell hC.2.1 0).trans rfl), _, rfl, Kd.R_nil _ _ _ _ _, hC.2.2 w GE_gm.out GE_ge.out B_w4.out⟩
def duetref03_Texts.l0 : Nat → List ByteArray → List ByteArray → Int → Option (Bool)
 | 0, _, _, _ => none
 | k + 1, x0, x1, x5 => if x5 < (x0.length : Int) then (if 0 ≤ x5 then (if x5 < (x1.length : Int) then (if (rdOf ByteArray.empty x0 x5).toList = (rdOf ByteArray.empty x1 x5).toList then (duetref03_Texts.l0 k x0 x1 (wrap64 (x5 + 1))) else (some false)) else (none)) else (none)) else (some true)
def duetref03_Texts.f (k : Nat) (l0 : List ByteArray) (l1 : List ByteArray) : Option (Bool) := if (l0.length : Int) = (l1.length : Int) then (duetref03_Texts.l0 k l0 l1 0) else (some false)
theorem duetref03_Texts.mono_l : ∀ k, (∀ y0 y1 y2, LeO (duetref03_Texts.l0 k y0 y1 y2) (duetref03_Texts.l0 (k + 1) y0 y1 y2))
 | 0 => fun _ _ _ r h => by simp [duetref03_Texts.l0] at h
 | k + 1 => by
  have ih0 := duetref03_Texts.mono_l k
  ·intro y0 y1 y2
   unfold duetref03_Texts.l0
   repeat' first
   | (with_reducible exact ih0 _ _ _)
   | (with_reducible exact LeO.refl _)
   | (with_reducible exact LeO.none _)
   | (with_reducible refine LeO.ite ?_ ?_)
   | (with_reducible refine LeO.bind ?_ (fun _ => ?_))
   | exact ih0 _ _ _
   | exact LeO.none _
   | refine LeO.ite ?_ ?_
   | refine LeO.bind ?_ (fun _ => ?_)
theorem duetref03_Texts.mono : ∀ a0 a1 k, LeO (duetref03_Texts.f k a0 a1) (duetref03_Texts.f (k + 1) a0 a1) := by
 intro a0 a1 k
 have ih0 := duetref03_Texts.mono_l k
 unfold duetref03_Texts.f
 repeat' first
   | (with_reducible exact ih0 _ _ _)
   | (with_reducible exact LeO.refl _)
   | (with_reducible exact LeO.none _)
   | (with_reducible refine LeO.ite ?_ ?_)
   | (with_reducible refine LeO.bind ?_ (fun _ => ?_))
   | exact ih0 _ _ _
   | exact LeO.none _
   | refine LeO.ite ?_ ?_
   | refine LeO.bind ?_ (fun _ => ?_)
set_option maxHeartbeats 8000000 in
set_option maxRecDepth 100000 in
theorem duetref03_Texts.calls (k : Nat) (A0 : Option Addr) (c0 : Nat) (l0 : List ByteArray) (A1 : Option Addr) (c1 : Nat) (l1 : List ByteArray) (r : Bool) (w : World) (hr0 : Kd.C Kd.string w A0 l0.length l0) (hc0 : l0.length ≤ c0) (hr1 : Kd.C Kd.string w A1 l1.length l1) (hc1 : l1.length ≤ c1) (h : duetref03_Texts.f k l0 l1 = some r) :
  Calls Tryz.prog 17 #[.slice A0 l0.length c0, .slice A1 l1.length c1] w fun e w' => e = .returned (.bool r) ∧ Drawn0 w w' := by
 have HR0 := Aside0.mk hr0
 have HC0 := Aside0.mk hc0
 clear hr0 hc0
 have HR1 := Aside0.mk hr1
 have HC1 := Aside0.mk hc1
 clear hr1 hc1
 have H : (if (l0.length : Int) = (l1.length : Int) then (duetref03_Texts.l0 k l0 l1 0) else (some false)) = some r := h
 clear h
 by_cases c3 : (l0.length : Int) = (l1.length : Int)
 ·rw [if_pos c3] at H
  have c3b0 : ((l0.length : Int) == (l1.length : Int)) = true := beq_iff_eq.mpr c3
  have c3b1 : ((l0.length : Int) != (l1.length : Int)) = false := bne_eq_false_iff_eq.mpr c3
  have c3b2 : (l0.length == l1.length) = true := by first | simpa using c3 | (simp at c3 ⊢; omega)
  clear c3
  have H' := Aside0.mk H
  clear H
  go_enter Tryz.func17, Tryz.ntmps17
  go_wp2
  repeat (go_quiet (fail); try go_wp2)
  go_loopg [5] k (fun kq v5 w' => ∃ (x5_1 : Int), v5 = .int .i64 x5_1 ∧ Aside0 (duetref03_Texts.l0 kq l0 l1 x5_1 = some r) ∧ Aside0 (kq ≤ k) ∧ Drawn0 w w')
  case atStart => exact ⟨(0), (by first | rfl | (simp; done) | (simp [*]; done)), H', ⟨Nat.le_refl _⟩, by repeat (first | exact Drawn0.refl _ | apply Drawn0.step)⟩
  case round =>
   clear H'
   try clear c1
   try clear p2
   try clear c3
   try clear c3b0
   try clear c3b1
   try clear c3b2
   obtain ⟨x5_1, rfl, HA, HK1, ⟨m1, rfl⟩⟩ := hrel
   cases gk with
   | zero => exact absurd HA.out (by simp [duetref03_Texts.l0])
   | succ k1 =>
    have H := HA.out
    clear HA
    simp only [duetref03_Texts.l0] at H
    by_cases c4 : x5_1 < (l0.length : Int)
    ·rw [if_pos c4] at H
     have c4b0 : decide (x5_1 < (l0.length : Int)) = true := decide_eq_true c4
     clear c4
     by_cases c5 : 0 ≤ x5_1
     ·rw [if_pos c5] at H
      have c5b0 : decide (0 ≤ x5_1) = true := decide_eq_true c5
      clear c5
      by_cases c6 : x5_1 < (l1.length : Int)
      ·rw [if_pos c6] at H
       have c6b0 : decide (x5_1 < (l1.length : Int)) = true := decide_eq_true c6
       clear c6
       by_cases c7 : (rdOf ByteArray.empty l0 x5_1).toList = (rdOf ByteArray.empty l1 x5_1).toList
       ·rw [if_pos c7] at H
        have c7b0 : ((rdOf ByteArray.empty l0 x5_1).toList == (rdOf ByteArray.empty l1 x5_1).toList) = true := beq_iff_eq.mpr c7
        have c7b1 : ((rdOf ByteArray.empty l0 x5_1).toList != (rdOf ByteArray.empty l1 x5_1).toList) = false := bne_eq_false_iff_eq.mpr c7
        clear c7
        have H' := Aside0.mk H
        clear H
        have p191 : 0 ≤ (x5_1 : Int) := of_decide_eq_true (by first | (with_reducible assumption) | assumption)
        have q191 : x5_1 < (l0.length : Int) := of_decide_eq_true (by first | (with_reducible assumption) | assumption)
        obtain ⟨ad191, e191, hx191_0⟩ := Kd.at_string HR0.out x5_1 p191 q191
        cases e191
        replace p191 := eq_true p191
        replace q191 := eq_true q191
        have p192 : 0 ≤ (x5_1 : Int) := of_decide_eq_true (by first | (with_reducible assumption) | assumption)
        have q192 : x5_1 < (l1.length : Int) := of_decide_eq_true (by first | (with_reducible assumption) | assumption)
        obtain ⟨ad192, e192, hx192_0⟩ := Kd.at_string HR1.out x5_1 p192 q192
        cases e192
        replace p192 := eq_true p192
        replace q192 := eq_true q192
        go_wp2
        repeat (go_quiet (fail); try go_wp2)
        go_roundg k1
        case measure => have := HK1.out; omega
        case rel => exact ⟨(wrap64 (x5_1 + 1)), (by first | rfl | (simp; done) | (simp [*]; done)), H', ⟨by have := HK1.out; omega⟩, by repeat (first | exact Drawn0.refl _ | apply Drawn0.step)⟩
       ·rw [if_neg c7] at H
        have c7b0 : ((rdOf ByteArray.empty l0 x5_1).toList == (rdOf ByteArray.empty l1 x5_1).toList) = false := beq_eq_false_iff_ne.mpr c7
        have c7b1 : ((rdOf ByteArray.empty l0 x5_1).toList != (rdOf ByteArray.empty l1 x5_1).toList) = true := bne_iff_ne.mpr c7
        obtain rfl := Option.some.inj H
        have p191 : 0 ≤ (x5_1 : Int) := of_decide_eq_true (by first | (with_reducible assumption) | assumption)
        have q191 : x5_1 < (l0.length : Int) := of_decide_eq_true (by first | (with_reducible assumption) | assumption)
        obtain ⟨ad191, e191, hx191_0⟩ := Kd.at_string HR0.out x5_1 p191 q191
        cases e191
        replace p191 := eq_true p191
        replace q191 := eq_true q191
        have p192 : 0 ≤ (x5_1 : Int) := of_decide_eq_true (by first | (with_reducible assumption) | assumption)
        have q192 : x5_1 < (l1.length : Int) := of_decide_eq_true (by first | (with_reducible assumption) | assumption)
        obtain ⟨ad192, e192, hx192_0⟩ := Kd.at_string HR1.out x5_1 p192 q192
        cases e192
        replace p192 := eq_true p192
        replace q192 := eq_true q192
        go_wp2
        repeat (go_quiet (fail); try go_wp2)
        go_ret
        exact ⟨by first | rfl | (simp; done) | (simp [*]; done), by repeat (first | exact Drawn0.refl _ | apply Drawn0.step)⟩
      ·rw [if_neg c6] at H
       exact absurd H (by simp)
     ·rw [if_neg c5] at H
      exact absurd H (by simp)
    ·rw [if_neg c4] at H
     have c4b0 : decide (x5_1 < (l0.length : Int)) = false := decide_eq_false c4
     clear c4
     obtain rfl := Option.some.inj H
     go_wp2
     repeat (go_quiet (fail); try go_wp2)
     go_ret
     exact ⟨by first | rfl | (simp; done) | (simp [*]; done), by repeat (first | exact Drawn0.refl _ | apply Drawn0.step)⟩
 ·rw [if_neg c3] at H
  have c3b0 : ((l0.length : Int) == (l1.length : Int)) = false := beq_eq_false_iff_ne.mpr c3
  have c3b1 : ((l0.length : Int) != (l1.length : Int)) = true := bne_iff_ne.mpr c3
  have c3b2 : (l0.length == l1.length) = false := by first | simpa using c3 | (simp at c3 ⊢; omega)
  obtain rfl := Option.some.inj H
  go_enter Tryz.func17, Tryz.ntmps17
  go_wp2
  repeat (go_quiet (fail); try go_wp2)
  go_ret
  exact ⟨by first | rfl | (simp; done) | (simp [*]; done), by repeat (first | exact Drawn0.refl _ | apply Drawn0.step)⟩
theorem duetref03_Texts.at (k : Nat) (A0 : Option Addr) (c0 : Nat) (n0 : Nat) (l0 : List ByteArray) (A1 : Option Addr) (c1 : Nat) (n1 : Nat) (l1 : List ByteArray) (r : Bool) (w : World) (hr0 : Kd.C Kd.string w A0 n0 l0) (hc0 : n0 ≤ c0) (hr1 : Kd.C Kd.string w A1 n1 l1) (hc1 : n1 ≤ c1) (h : duetref03_Texts.f k l0 l1 = some r) :
  Calls Tryz.prog 17 #[.slice A0 n0 c0, .slice A1 n1 c1] w fun e w' => e = .returned (.bool r) ∧ Drawn0 w w' := by
 obtain rfl : l0.length = n0 := Kd.C_len hr0
 obtain rfl : l1.length = n1 := Kd.C_len hr1
 exact duetref03_Texts.calls k A0 c0 l0 A1 c1 l1 r w hr0 hc0 hr1 hc1 h
end Go.Proofs.YtphdjpfdelpecaaGreatDoor.PTopf
