/- Small lemmas that the functions' proofs of this seat use beside the printed words. Conditions: none beyond those that each lemma states. -/
import Derived.Test.YtphdjpfdelpecaaGreatDoorWMore
import Derived.Test.YtphdjpfdelpecaaGreatDoorWAt
import Derived.WalkSpells
import Derived.WalkLawsBesides
import Derived.StillTailTactics
namespace Go.Proofs.YtphdjpfdelpecaaGreatDoor.XW
open Go.RowKit Go.Proofs.YtphdjpfdelpecaaGreatDoorW.PrintWords Go.Proofs.YtphdjpfdelpecaaGreatDoorW.PrintLast Go.Proofs.YtphdjpfdelpecaaGreatDoorW.PrintMore
set_option linter.unusedVariables false
set_option linter.unusedSimpArgs false
theorem bt_extract (s : ByteArray) (a b : Nat) (i : Int) (h0 : 0 ≤ i) (hb : b ≤ s.size) (hi : i.toNat + a < b) : bt (s.extract a b) i = bt s (i + a) := by
  unfold bt
  have e : (i + (a : Int)).toNat = a + i.toNat := by omega
  rw [dif_pos (by rw [ByteArray.size_extract]; omega), dif_pos (by rw [e]; omega)]
  simp only [e]
  rw [ByteArray.getElem_extract]
theorem wraps_i64 (n : Int) (h₀ : 0 ≤ n) (h₁ : n < 2 ^ 63) : IntKind.i64.wrap n = n := by rw [IntKind.wrap_i64]; omega
theorem or_byte (n c : Int) (h0 : 0 ≤ n) (h1 : n < 36028797018963968) (h2 : 0 ≤ c) (h3 : c ≤ 255) : bits .or .i64 (n * 256) c = n * 256 + c :=
  bits_join .i64 63 (by decide) wraps_i64 8 (n * 256) c (by omega) (by omega) (by omega) h2 (by omega) (by omega)
theorem toList_size (s : ByteArray) : s.toList.length = s.size := by
  rw [ByteArray.toList_eq, data_length]
theorem pos_of_toList {s : ByteArray} (h : ¬ s.toList = []) : 0 < s.size := by
  rcases Nat.eq_zero_or_pos s.size with h0 | h0
  · exact absurd (List.eq_nil_of_length_eq_zero (by rw [toList_size]; exact h0)) h
  · exact h0
theorem blk_lt' {w : World} {g : Nat} {o : Obj} (h : w.heap[g]? = some o) : g < w.heap.size := (Array.getElem?_eq_some_iff.1 h).1
theorem blkm_set {w : World} {g : Nat} {t : TypeId} {cs : Array Value} {m : Nat × Nat} (h : w.heap[g]? = some (.cells cs t m)) (i : Nat) (u : Value) : (w.setCell ⟨g, i, none⟩ u).heap[g]? = some (.cells (cs.setIfInBounds i u) t m) := by
  simp [World.setCell, Array.getElem?_modify, h]
theorem setCells_rowm {g : Nat} {e : TypeId} {m : Nat × Nat} : ∀ (vs : List Value) (o : Nat) (w : World) (cur : Array Value), w.heap[g]? = some (.cells cur e m) → o + vs.length ≤ cur.size →
    ∃ cur', (w.setCells g o vs).heap[g]? = some (.cells cur' e m) ∧ cur'.size = cur.size ∧ cur'.toList = cur.toList.take o ++ vs ++ cur.toList.drop (o + vs.length)
  | [], o, w, cur, h, _ => ⟨cur, h, rfl, by simp⟩
  | v :: r, o, w, cur, h, hl => by
    have h2 := blkm_set h o v
    simp only [List.length_cons] at hl
    obtain ⟨cur', h3, h4, h5⟩ := setCells_rowm r (o + 1) (w.setCell ⟨g, o, none⟩ v) _ h2 (by simp; omega)
    refine ⟨cur', h3, by rw [h4]; simp, ?_⟩
    rw [h5, Array.toList_setIfInBounds]
    have ho : o < cur.toList.length := by rw [Array.length_toList]; omega
    rw [List.take_set, List.drop_set_of_lt (by omega)]
    simp only [List.length_cons]
    rw [show o + 1 + r.length = o + (r.length + 1) by omega]
    congr 1
    rw [List.take_succ_eq_append_getElem ho, List.set_append_right _ _ (by rw [List.length_take]; omega)]
    have ho' : o < cur.size := by omega
    simp [Nat.min_eq_left (Nat.le_of_lt ho')]
def BRow (w : World) (base e : Nat) (v : Value) (xs : List Int) : Prop :=
  ∃ g cap cur m, v = .slice (some ⟨g, 0, none⟩) xs.length cap ∧ base ≤ g ∧ w.heap[g]? = some (.cells cur e m) ∧ (∀ j, j < cap → ¬ (m.1 ≤ j ∧ j < m.2)) ∧ xs.length ≤ cap ∧ cap ≤ maxLen ∧ cur.size = cap ∧ cur.toList.take xs.length = nums .u8 xs
theorem BRow.below {w w1 : World} {base e : Nat} {v : Value} {xs : List Int} (h : BRow w base e v xs) (hb : Below w.heap.size w w1) : BRow w1 base e v xs := by
  obtain ⟨g, cap, cur, m, hv, hg, hh, r⟩ := h
  exact ⟨g, cap, cur, m, hv, hg, (hb.block g (blk_lt' hh)).trans hh, r⟩
theorem BRow.slice {w : World} {base e : Nat} {v : Value} {xs : List Int} (h : BRow w base e v xs) : ∃ A c, v = .slice A xs.length c := by
  obtain ⟨g, cap, cur, m, hv, _⟩ := h
  exact ⟨_, cap, hv⟩
theorem brow_bytes (W : World) (base e : Nat) (s : ByteArray) (hb : base ≤ W.heap.size) (hs : s.size ≤ maxLen) : BRow (Lib.bytesWorld W e s) base e (.slice (some ⟨W.heap.size, 0, none⟩) s.size (grownCap W s.size 0 e)) (bytesOf s) := by
  have hge := grownCap_ge W s.size 0 e
  have hsz : (Lib.bytesCells W e s).size = grownCap W s.size 0 e := by
    simp [Lib.bytesCells]
    have : s.data.size = s.size := rfl
    omega
  refine ⟨W.heap.size, _, _, _, by rw [bytesOf_length], hb, Lib.bytesWorld_at_new W e s, fun j hj => by rw [hsz]; simp only; omega, by rw [bytesOf_length]; exact hge, grownCap_le_maxLen W s.size 0 e hs, hsz, ?_⟩
  rw [bytesOf_length]
  have h1 : (Lib.bytesCells W e s).toList = nums .u8 (bytesOf s) ++ List.replicate (grownCap W s.size 0 e - s.size) (.int .u8 0) := by
    simp [Lib.bytesCells, nums, bytesOf]
  rw [h1, List.take_left' (by rw [nums_length, bytesOf_length])]
theorem strCells_nums (s : ByteArray) : Lib.strCells s = nums .u8 (bytesOf s) := by
  simp [Lib.strCells, nums, bytesOf]
theorem BRow.cells {w : World} {e : Nat} {g : Nat} {cur : Array Value} {m : Nat × Nat} {xs : List Int} (hh : w.heap[g]? = some (.cells cur e m)) (ht : cur.toList.take xs.length = nums .u8 xs) (i : Nat) (hi : i < xs.length) : w.cell? ⟨g, 0 + i, none⟩ = some (.int .u8 (xs.getD i 0)) := by
  rw [cell_of_row w g _ cur e m hh, ← Array.getElem?_toList, Nat.zero_add]
  have h1 : (cur.toList.take xs.length)[i]? = (nums .u8 xs)[i]? := by rw [ht]
  rw [List.getElem?_take, if_pos hi] at h1
  rw [h1]
  simp [nums, List.getElem?_eq_getElem hi, List.getD_eq_getElem?_getD]
theorem BRow.string {P : Program} {w : World} {base e' src dst e : Nat} {v : Value} {xs : List Int} (hs : P.underlying src = some (.slice e)) (he : P.underlying e = some (.int .u8)) (hd : P.underlying dst = some .string)
    (h : BRow w base e' v xs) : (convert src dst v).run P w = .ok (.string (strOfNums xs)) w := by
  obtain ⟨g, cap, cur, m, rfl, hg, hh, _, _, _, _, ht⟩ := h
  exact run_convert_bytes_arg w src e hs he g 0 _ cap xs rfl (fun i hi => BRow.cells hh ht i hi) dst hd
theorem brow_append {P : Program} (w : World) (base : Nat) (t u ty e : TypeId) (i : TypeInfo) (ht : P.underlying t = some (.slice e)) (hu : P.underlying u = some .string) (hi : P.info? e = some i) (hz : i.zero = some (.int .u8 0))
    (hsize : i.size = 1) (hby : i.bytes = 1) (v : Value) (xs : List Int) (hown : BRow w base e v xs) (s : ByteArray) (hbytes : xs.length + s.size ≤ 140737488355328) (hbase : base ≤ w.heap.size) :
    ∃ v' w', (Builtin.append_ #[t, u] ty #[v, .string s]).run P w = .ok v' w' ∧ BRow w' base e v' (xs ++ bytesOf s) ∧ w.grownBy w' v.ownBlock := by
  obtain ⟨g, cap, cur, m, rfl, hg, hh, hm, hl, hcm, hcs, htk⟩ := hown
  by_cases hroom : xs.length + s.size ≤ cap
  · have hf := Lib.run_firstCells_string (P := P) w 1 s
    have hst := run_storeCells_cells (P := P) g xs.length (Lib.strCells s) 0 w
      (fun j hj => by rw [cell_of_row w g _ cur e m hh]; rw [Lib.strCells_length] at hj; simp; omega)
      (fun j hj => by
        rw [Lib.strCells_length] at hj
        have := hm (xs.length + 0 + j) (by omega)
        simp only [World.frozen?, hh]
        simp only [Bool.and_eq_false_iff, decide_eq_false_iff_not]
        omega)
      (Lib.strCells_oneCell s)
    simp only [Nat.add_zero] at hst
    obtain ⟨cur', h3, h4, h5⟩ := setCells_rowm (Lib.strCells s) xs.length w cur hh (by rw [Lib.strCells_length]; omega)
    obtain ⟨s1, s2, s3, s4⟩ := setCells_same g (Lib.strCells s) xs.length w
    refine ⟨.slice (some ⟨g, 0, none⟩) (xs.length + s.size) cap, w.setCells g xs.length (Lib.strCells s), ?_, ⟨g, cap, cur', m, by rw [List.length_append, bytesOf_length], hg, h3, hm, by rw [List.length_append, bytesOf_length]; exact hroom, hcm, by rw [h4, hcs], ?_⟩,
      ⟨s1, s2, s3, by rw [s4]; exact Nat.le_refl _, fun k _ hk => setCells_far _ _ k (fun he => hk (by rw [he]; simp [Value.ownBlock]))⟩⟩
    · simp [Builtin.append_, run_underlying ht, run_underlying hu, sizeOf, typeInfo, hi, hsize, Builtin.lenOf, hroom, hf, Addr.add_lit, hst]
    · rw [h5, htk, nums_append, strCells_nums]
      exact List.take_left' (by rw [← nums_append, nums_length])
  · have hr := Lib.run_append_grow_string (P := P) w t u ty e i (.int .u8 0) ht hu hi hz ⟨g, 0, none⟩ xs.length cap (nums .u8 xs) (by rw [hsize, nums_length, Nat.mul_one])
      (fun j x hj => by
        have hjl : j < xs.length := by
          rcases Nat.lt_or_ge j xs.length with h | h
          · exact h
          · rw [List.getElem?_eq_none (by rw [nums_length]; exact h)] at hj; cases hj
        rw [add_plain]
        have := BRow.cells hh htk j hjl
        rw [Nat.zero_add] at this
        rw [this]
        simp [nums, List.getElem?_eq_getElem hjl] at hj
        subst hj
        simp [List.getD_eq_getElem?_getD, List.getElem?_eq_getElem hjl]) s (by omega) (by omega) (by rw [hby]; exact growslice_fits (by omega) (by omega))
    have hge := grownCap_ge w (xs.length + s.size) cap e
    refine ⟨_, _, hr, ⟨w.heap.size, _, _, (0, 0), by rw [List.length_append, bytesOf_length], hbase, heap_alloc_new w.drew _, fun j _ => by simp, by rw [List.length_append, bytesOf_length]; exact hge, grownCap_le_maxLen w _ cap e (by simp only [maxLen]; omega), ?_, ?_⟩,
      ⟨rfl, rfl, rfl, by simp, fun k hk _ => heap_alloc_old w.drew _ hk⟩⟩
    · have hz1 : (Value.int IntKind.u8 0).cells.size = 1 := rfl
      simp only [Array.size_append, List.size_toArray, size_zeroCells, hz1, nums_length, Lib.strCells_length]
      omega
    · simp only [Array.toList_append, strCells_nums, ← nums_append]
      exact List.take_left' (by rw [nums_length])
theorem wp_brow_append {P : Program} {w0 W : World} {ops : Array Oper} {rest : List Oper} {o : Oper} {a : Act} {Q : Exit → Act → World → Prop} (hgd : o.guard = none) (sl x : Operand) (t u : TypeId)
    (ho : o.op = .call { callee := .builtin .append, args := #[sl, x], argTypes := #[t, u] }) (e : TypeId) (ht : P.underlying t = some (.slice e)) (hu : P.underlying u = some .string)
    (hinfo : (P.info? e).map (fun i => (i.zero, i.size, i.bytes)) = some (some (.int .u8 0), 1, 1)) (v : Value) (xs : List Int) (hs : a.eval sl = v) (hown : BRow W w0.heap.size e v xs) (s : ByteArray) (hx : a.eval x = .string s)
    (hbytes : xs.length + s.size ≤ 140737488355328) (HB : Below w0.heap.size w0 W)
    (h : ∀ v' w', BRow w' w0.heap.size e v' (xs ++ bytesOf s) → Below w0.heap.size w0 w' → wpList P ops Q rest (a.put o.dst v') w') : wpList P ops Q (o :: rest) a W := by
  obtain ⟨i, hi, hzz⟩ := Option.map_eq_some_iff.1 hinfo
  simp only [Prod.mk.injEq] at hzz
  obtain ⟨hz, hsize, hby⟩ := hzz
  obtain ⟨v', w', hr, h2, h3⟩ := brow_append (P := P) W w0.heap.size t u o.type e i ht hu hi hz hsize hby v xs hown s hbytes HB.size
  refine wpList_plain hgd fun K hK => ?_
  unfold Oper.wp execOp
  simp only [ho, resolve, invoke, builtin, Sem.run_bind, Sem.run_pure, Result.andThen_ok, List.map_toArray, List.map_cons, List.map_nil, hs, hx, hr]
  refine hK _ _ (h v' w' h2 (HB.grown h3 HB.size (fun k hk => ?_)))
  obtain ⟨g, cap, cur, m, rfl, hg, _⟩ := hown
  simp [Value.ownBlock] at hk
  omega
theorem cells1 {w : World} {g t : Nat} {v0 : Value} (h : w.heap[g]? = some (.cells #[v0] t (0, 0))) : w.cell? ⟨g, 0, none⟩ = some v0 := (blk_cell h 0).trans rfl
theorem froz1 {w : World} {g t : Nat} {v0 : Value} (h : w.heap[g]? = some (.cells #[v0] t (0, 0))) : w.frozen? ⟨g, 0, none⟩ = false := blk_frozen h 0
theorem cells2 {w : World} {g t : Nat} {v0 v1 : Value} (h : w.heap[g]? = some (.cells #[v0, v1] t (0, 0))) : w.cell? ⟨g, 0, none⟩ = some v0 ∧ w.cell? ⟨g, 1, none⟩ = some v1 := ⟨(blk_cell h 0).trans rfl, (blk_cell h 1).trans rfl⟩
theorem froz2 {w : World} {g t : Nat} {v0 v1 : Value} (h : w.heap[g]? = some (.cells #[v0, v1] t (0, 0))) : w.frozen? ⟨g, 0, none⟩ = false ∧ w.frozen? ⟨g, 1, none⟩ = false := ⟨blk_frozen h 0, blk_frozen h 1⟩
theorem cells7 {w : World} {g t : Nat} {v0 v1 v2 v3 v4 v5 v6 : Value} (h : w.heap[g]? = some (.cells #[v0, v1, v2, v3, v4, v5, v6] t (0, 0))) : w.cell? ⟨g, 0, none⟩ = some v0 ∧ w.cell? ⟨g, 1, none⟩ = some v1 ∧ w.cell? ⟨g, 2, none⟩ = some v2 ∧ w.cell? ⟨g, 3, none⟩ = some v3 ∧ w.cell? ⟨g, 4, none⟩ = some v4 ∧ w.cell? ⟨g, 5, none⟩ = some v5 ∧ w.cell? ⟨g, 6, none⟩ = some v6 := ⟨(blk_cell h 0).trans rfl, (blk_cell h 1).trans rfl, (blk_cell h 2).trans rfl, (blk_cell h 3).trans rfl, (blk_cell h 4).trans rfl, (blk_cell h 5).trans rfl, (blk_cell h 6).trans rfl⟩
theorem cells10 {w : World} {g t : Nat} {v0 v1 v2 v3 v4 v5 v6 v7 v8 v9 : Value} (h : w.heap[g]? = some (.cells #[v0, v1, v2, v3, v4, v5, v6, v7, v8, v9] t (0, 0))) : w.cell? ⟨g, 0, none⟩ = some v0 ∧ w.cell? ⟨g, 1, none⟩ = some v1 ∧ w.cell? ⟨g, 2, none⟩ = some v2 ∧ w.cell? ⟨g, 3, none⟩ = some v3 ∧ w.cell? ⟨g, 4, none⟩ = some v4 ∧ w.cell? ⟨g, 5, none⟩ = some v5 ∧ w.cell? ⟨g, 6, none⟩ = some v6 ∧ w.cell? ⟨g, 7, none⟩ = some v7 ∧ w.cell? ⟨g, 8, none⟩ = some v8 ∧ w.cell? ⟨g, 9, none⟩ = some v9 := ⟨(blk_cell h 0).trans rfl, (blk_cell h 1).trans rfl, (blk_cell h 2).trans rfl, (blk_cell h 3).trans rfl, (blk_cell h 4).trans rfl, (blk_cell h 5).trans rfl, (blk_cell h 6).trans rfl, (blk_cell h 7).trans rfl, (blk_cell h 8).trans rfl, (blk_cell h 9).trans rfl⟩
theorem froz10 {w : World} {g t : Nat} {v0 v1 v2 v3 v4 v5 v6 v7 v8 v9 : Value} (h : w.heap[g]? = some (.cells #[v0, v1, v2, v3, v4, v5, v6, v7, v8, v9] t (0, 0))) : w.frozen? ⟨g, 0, none⟩ = false ∧ w.frozen? ⟨g, 1, none⟩ = false ∧ w.frozen? ⟨g, 2, none⟩ = false ∧ w.frozen? ⟨g, 3, none⟩ = false ∧ w.frozen? ⟨g, 4, none⟩ = false ∧ w.frozen? ⟨g, 5, none⟩ = false ∧ w.frozen? ⟨g, 6, none⟩ = false ∧ w.frozen? ⟨g, 7, none⟩ = false ∧ w.frozen? ⟨g, 8, none⟩ = false ∧ w.frozen? ⟨g, 9, none⟩ = false := ⟨blk_frozen h 0, blk_frozen h 1, blk_frozen h 2, blk_frozen h 3, blk_frozen h 4, blk_frozen h 5, blk_frozen h 6, blk_frozen h 7, blk_frozen h 8, blk_frozen h 9⟩
theorem cells4 {w : World} {g t : Nat} {v0 v1 v2 v3 : Value} (h : w.heap[g]? = some (.cells #[v0, v1, v2, v3] t (0, 0))) : w.cell? ⟨g, 0, none⟩ = some v0 ∧ w.cell? ⟨g, 1, none⟩ = some v1 ∧ w.cell? ⟨g, 2, none⟩ = some v2 ∧ w.cell? ⟨g, 3, none⟩ = some v3 := ⟨(blk_cell h 0).trans rfl, (blk_cell h 1).trans rfl, (blk_cell h 2).trans rfl, (blk_cell h 3).trans rfl⟩
theorem froz4 {w : World} {g t : Nat} {v0 v1 v2 v3 : Value} (h : w.heap[g]? = some (.cells #[v0, v1, v2, v3] t (0, 0))) : w.frozen? ⟨g, 0, none⟩ = false ∧ w.frozen? ⟨g, 1, none⟩ = false ∧ w.frozen? ⟨g, 2, none⟩ = false ∧ w.frozen? ⟨g, 3, none⟩ = false := ⟨blk_frozen h 0, blk_frozen h 1, blk_frozen h 2, blk_frozen h 3⟩
theorem blk_eq {w w1 : World} {g : Nat} {o : Obj} (hw : w = w1) (h : w1.heap[g]? = some o) : w.heap[g]? = some o := by rw [hw]; exact h
end Go.Proofs.YtphdjpfdelpecaaGreatDoor.XW
