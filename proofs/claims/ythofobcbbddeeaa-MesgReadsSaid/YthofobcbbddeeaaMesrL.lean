/- What the functions of layer 4 (mesg), of its reference and those of layer 1 that they call answer, as plain facts on numbers, lists and bytes. Conditions: none beyond those that each lemma states. -/
import Derived.Test.YthofobcbbddeeaaPMesrx11
import Derived.Test.YthofobcbbddeeaaXW
namespace Go.Proofs.Ythofobcbbddeeaa.MesrL
open Go.RowKit Go.Proofs.Ythofobcbbddeeaa.PMesr Go.Proofs.YthofobcbbddeeaaW.PrintWords Go.Proofs.YthofobcbbddeeaaW.PrintLast Go.Proofs.YthofobcbbddeeaaW.PrintMore Go.Proofs.Ythofobcbbddeeaa.XW
set_option linter.unusedVariables false
set_option linter.unusedSimpArgs false

theorem size_str (xs : List Int) : (strOfNums xs).size = xs.length := by
  show (strOfNums xs).data.size = _
  simp [strOfNums]
theorem bt_str (xs : List Int) (hx : ∀ x ∈ xs, 0 ≤ x ∧ x ≤ 255) (i : Int) : bt (strOfNums xs) i = rd xs i := by
  unfold bt rd
  split
  · rename_i h
    have hl : i.toNat < xs.length := by rw [size_str] at h; exact h
    have hm := hx _ (List.getElem_mem hl)
    simp only [List.getD_eq_getElem?_getD, List.getElem?_eq_getElem hl, Option.getD_some]
    show (((strOfNums xs).data[i.toNat]'h).toNat : Int) = _
    simp [strOfNums]
    omega
  · rename_i h
    rw [size_str] at h
    simp [List.getD_eq_getElem?_getD, List.getElem?_eq_none (show xs.length ≤ i.toNat by omega)]
theorem bt_app (a b : ByteArray) (i : Int) (h0 : 0 ≤ i) : bt (a ++ b) i = if i < a.size then bt a i else bt b (i - a.size) := by
  unfold bt
  by_cases h : i < a.size
  · rw [if_pos h, dif_pos (by rw [ByteArray.size_append]; omega), dif_pos (by omega), ByteArray.getElem_append_left (by omega)]
  · rw [if_neg h]
    by_cases h2 : i.toNat < (a ++ b).size
    · have h3 : i.toNat < a.size + b.size := by rw [ByteArray.size_append] at h2; exact h2
      rw [dif_pos h2, dif_pos (by omega), ByteArray.getElem_append_right (by omega)]
      have e : (i - (a.size : Int)).toNat = i.toNat - a.size := by omega
      simp only [e]
    · have h3 : ¬ i.toNat < a.size + b.size := by rw [ByteArray.size_append] at h2; exact h2
      rw [dif_neg h2, dif_neg (by omega)]
theorem ext_bt (a b : ByteArray) (hs : a.size = b.size) (h : ∀ i : Nat, i < a.size → bt a i = bt b i) : a = b := by
  apply ByteArray.ext
  apply Array.ext
  · exact hs
  · intro i h1 h2
    have h1' : i < a.size := h1
    have h2' : i < b.size := h2
    have := h i h1'
    unfold bt at this
    simp only [Int.toNat_natCast] at this
    rw [dif_pos h1', dif_pos h2'] at this
    have h3 : (a[i]'h1').toNat = (b[i]'h2').toNat := by omega
    exact UInt8.toNat_inj.mp h3
theorem toList_inj {a b : ByteArray} (h : a.toList = b.toList) : a = b := by
  rw [ByteArray.toList_eq, ByteArray.toList_eq] at h
  apply ByteArray.ext
  apply Array.ext'
  exact h
theorem toList_iff {a b : ByteArray} : a.toList = b.toList ↔ a = b := ⟨toList_inj, fun h => by rw [h]⟩
theorem toList_empty {a : ByteArray} : a.toList = [] ↔ a.size = 0 := by
  rw [← toList_size]
  exact ⟨fun h => by rw [h]; rfl, fun h => List.eq_nil_of_length_eq_zero h⟩
theorem app_extract_right (a b : ByteArray) : (a ++ b).extract a.size (a ++ b).size = b := by
  apply ext_bt
  · rw [ByteArray.size_extract, ByteArray.size_append]; omega
  · intro i hi
    rw [ByteArray.size_extract, ByteArray.size_append] at hi
    rw [bt_extract _ _ _ _ (by omega) (Nat.le_refl _) (by rw [ByteArray.size_append]; omega), bt_app _ _ _ (by omega), if_neg (by omega)]
    congr 1
    omega
/-- A number's bytes. -/
def numB (n : Int) : List Int := if n < 248 then [n % 256] else if n > 16777215 then [251, n / 16777216 % 256, n / 65536 % 256, n / 256 % 256, n % 256] else if n > 65535 then [250, n / 65536 % 256, n / 256 % 256, n % 256] else if n > 255 then [249, n / 256 % 256, n % 256] else [248, n % 256]
def S (n : Int) : ByteArray := strOfNums (numB n)
def Cl (n : Int) : Prop := 0 ≤ n ∧ n ≤ 4294967295
instance (n : Int) : Decidable (Cl n) := inferInstanceAs (Decidable (0 ≤ n ∧ n ≤ 4294967295))
theorem numB_range (n : Int) : ∀ x ∈ numB n, 0 ≤ x ∧ x ≤ 255 := by
  intro x hx
  unfold numB at hx
  repeat' split at hx
  all_goals
    simp only [List.mem_cons, List.not_mem_nil, or_false] at hx
    omega
theorem S_size (n : Int) : (S n).size = (numB n).length := size_str _
theorem bt_S (n i : Int) : bt (S n) i = rd (numB n) i := bt_str _ (numB_range n) i
theorem str_app (a b : List Int) : strOfNums a ++ strOfNums b = strOfNums (a ++ b) := by
  apply ByteArray.ext
  simp [strOfNums]
theorem ref_len (x : Int) (r : List Int) (hr : r.length ≤ 3) : ((x :: r).length : Int) ≤ 4 ∧ 0 < ((x :: r).length : Int) := by
  simp only [List.length_cons]; omega
theorem ref_hw (m : Int) (h0 : 0 < m) (h1 : m ≤ 4) : (wrap64 (247 + m)) % 256 = 247 + m := by unfold wrap64; omega
theorem ref_hz (m : Int) (x : Int) (r : List Int) (hr : r.length ≤ 3) : (strOfNums [m]).size + (strOfNums (x :: r)).size ≤ 9223372036854775807 := by
  rw [size_str, size_str]
  simp only [List.length_cons, List.length_nil]
  omega
theorem ref_stop (k : Nat) (x : Int) (r : List Int) (hr : r.length ≤ 3) (hx : x ≠ 0) : duetref01_Num.l0 (k + 1) (x :: r) = some (strOfNums ((247 + ((x :: r).length : Int)) :: x :: r), 0) := by
  obtain ⟨hl, hp⟩ := ref_len x r hr
  simp only [duetref01_Num.l0]
  rw [if_pos hp, if_neg (show ¬ rd (x :: r) 0 = 0 from hx)]
  rw [Option.bind_some, ref_hw _ hp hl, if_pos (ref_hz _ x r hr), str_app, List.cons_append, List.nil_append]
theorem ref_skip (k : Nat) (r : List Int) (hr : 0 < r.length) : duetref01_Num.l0 (k + 1) (0 :: r) = duetref01_Num.l0 k r := by
  simp only [duetref01_Num.l0]
  rw [if_pos (by simp only [List.length_cons]; omega), if_pos (show rd (0 :: r) 0 = 0 from rfl), if_pos (by simp only [List.length_cons]; omega), show (1 : Int).toNat = 1 from rfl, List.drop_succ_cons, List.drop_zero]
theorem ref_ok (k : Nat) (n : Int) (h : Cl n) : duetref01_Num.f (k + 6) n = some (S n, 0) := by
  obtain ⟨h0, h1⟩ := h
  unfold duetref01_Num.f
  rw [if_neg (by omega), show decide (n > 4294967295) = false from decide_eq_false (by omega)]
  simp only [duetref01_Num.j0]
  unfold S numB
  rw [if_neg (show ¬ (false = true) by decide)]
  by_cases c : n < 248
  · rw [if_pos c, if_pos c]
  · rw [if_neg c, if_neg c]
    have e3 : (wrap64 (Int.tdiv n 16777216)) % 256 = n / 16777216 % 256 := by
      rw [Int.tdiv_eq_ediv_of_nonneg h0]; unfold wrap64; omega
    have e2 : (Int.tmod (wrap64 (Int.tdiv n 65536)) 256) % 256 = n / 65536 % 256 := by
      rw [Int.tdiv_eq_ediv_of_nonneg h0, show wrap64 (n / 65536) = n / 65536 by unfold wrap64; omega, Int.tmod_eq_emod_of_nonneg (by omega)]; omega
    have e1 : (Int.tmod (wrap64 (Int.tdiv n 256)) 256) % 256 = n / 256 % 256 := by
      rw [Int.tdiv_eq_ediv_of_nonneg h0, show wrap64 (n / 256) = n / 256 by unfold wrap64; omega, Int.tmod_eq_emod_of_nonneg (by omega)]; omega
    have e0 : (Int.tmod n 256) % 256 = n % 256 := by
      rw [Int.tmod_eq_emod_of_nonneg h0]; omega
    rw [e3, e2, e1, e0]
    by_cases c1 : n > 16777215
    · rw [if_pos c1, ref_stop _ _ _ (by simp) (by omega)]; simp
    · rw [if_neg c1, show n / 16777216 % 256 = 0 by omega, ref_skip _ _ (by simp)]
      by_cases c2 : n > 65535
      · rw [if_pos c2, ref_stop _ _ _ (by simp) (by omega)]; simp
      · rw [if_neg c2, show n / 65536 % 256 = 0 by omega, ref_skip _ _ (by simp)]
        by_cases c3 : n > 255
        · rw [if_pos c3, ref_stop _ _ _ (by simp) (by omega)]; simp
        · rw [if_neg c3, show n / 256 % 256 = 0 by omega, ref_skip _ _ (by simp), ref_stop _ _ _ (by simp) (by omega)]; simp
/-! ### Take -/
theorem split_at (s : ByteArray) (m : Nat) (h : m ≤ s.size) : s = s.extract 0 m ++ s.extract m s.size := by
  apply ext_bt
  · rw [ByteArray.size_append, ByteArray.size_extract, ByteArray.size_extract]; omega
  · intro i hi
    rw [bt_app _ _ _ (by omega), ByteArray.size_extract]
    by_cases c : i < m
    · rw [if_pos (by omega), bt_extract _ _ _ _ (by omega) (by omega) (by omega)]; congr 1
    · rw [if_neg (by omega), bt_extract _ _ _ _ (by omega) (Nat.le_refl _) (by omega)]; congr 1; omega
theorem extract_two (s : ByteArray) (k : Nat) (h : k + 1 ≤ s.size) : (s.extract 1 s.size).extract k (s.extract 1 s.size).size = s.extract (k + 1) s.size := by
  apply ext_bt
  · simp only [ByteArray.size_extract]; omega
  · intro i hi
    simp only [ByteArray.size_extract] at hi
    rw [bt_extract _ _ _ _ (by omega) (Nat.le_refl _) (by rw [ByteArray.size_extract]; omega), bt_extract _ _ _ _ (by omega) (Nat.le_refl _) (by omega), bt_extract _ _ _ _ (by omega) (Nat.le_refl _) (by omega)]
    congr 1
theorem width_is (n : Int) (k : Nat) (h : pack_width.f n = some (k : Int)) : (k = 4 ∧ n > 16777215) ∨ (k = 3 ∧ 65535 < n ∧ n ≤ 16777215) ∨ (k = 2 ∧ 255 < n ∧ n ≤ 65535) ∨ (k = 1 ∧ n ≤ 255) := by
  unfold pack_width.f at h
  repeat' split at h
  all_goals
    simp only [Option.some.injEq] at h
    omega
theorem width_le (n : Int) : ∃ k : Nat, pack_width.f n = some (k : Int) ∧ 1 ≤ k ∧ k ≤ 4 := by
  unfold pack_width.f
  repeat' split
  · exact ⟨4, rfl, by decide, by decide⟩
  · exact ⟨3, rfl, by decide, by decide⟩
  · exact ⟨2, rfl, by decide, by decide⟩
  · exact ⟨1, rfl, by decide, by decide⟩
theorem take_small (s : ByteArray) (hs : 0 < s.size) (h : bt s 0 ≤ 247) : pack_Take.f s = some (bt s 0, s.extract 1 s.size, 0) := by
  unfold pack_Take.f
  rw [if_neg (by rw [toList_empty]; omega), if_pos h]
theorem take_none (s : ByteArray) (hs : s.size = 0) : pack_Take.f s = some (0, ⟨#[]⟩, 3) := by
  unfold pack_Take.f
  rw [if_pos (by rw [toList_empty]; omega)]
theorem take_far (s : ByteArray) (hs : 0 < s.size) (h : 251 < bt s 0) : pack_Take.f s = some (0, ⟨#[]⟩, 2) := by
  unfold pack_Take.f
  rw [if_neg (by rw [toList_empty]; omega), if_neg (by omega), if_pos h]
theorem take_short (s : ByteArray) (k : Nat) (hs : 0 < s.size) (h : bt s 0 = 247 + k) (hk1 : 1 ≤ k) (hk : k ≤ 4) (hl : s.size < k + 1) : pack_Take.f s = some (0, ⟨#[]⟩, 3) := by
  unfold pack_Take.f
  rw [if_neg (by rw [toList_empty]; omega), if_neg (by omega), if_neg (by omega), if_pos (by omega)]
theorem take_big (s : ByteArray) (k : Nat) (h : bt s 0 = 247 + k) (hk1 : 1 ≤ k) (hk : k ≤ 4) (hl : k + 1 ≤ s.size) :
    pack_Take.f s = if 248 ≤ pack_Take.num s k ∧ pack_width.f (pack_Take.num s k) = some (k : Int) then some (pack_Take.num s k, s.extract (k + 1) s.size, 0) else some (0, ⟨#[]⟩, 2) := by
  unfold pack_Take.f
  rw [if_neg (by rw [toList_empty]; omega), if_neg (by omega), if_neg (by omega), if_neg (by omega), show bt s 0 - 247 = (k : Int) by omega, Int.toNat_natCast]
  by_cases c : pack_Take.num s k < 248
  · rw [if_pos c, if_neg (fun hh => absurd hh.1 (by omega))]
  · rw [if_neg c]
    obtain ⟨q, hq, _, _⟩ := width_le (pack_Take.num s k)
    rw [hq, Option.bind_some]
    by_cases e : (q : Int) = (k : Int)
    · rw [if_pos e, if_pos ⟨by omega, by rw [e]⟩, extract_two s k hl]
    · rw [if_neg e, if_neg (fun hh => e (Option.some.inj hh.2))]
theorem num4 (s : ByteArray) : pack_Take.num s 1 = bt s 1 ∧ pack_Take.num s 2 = 256 * bt s 1 + bt s 2 ∧ pack_Take.num s 3 = 256 * (256 * bt s 1 + bt s 2) + bt s 3 ∧ pack_Take.num s 4 = 256 * (256 * (256 * bt s 1 + bt s 2) + bt s 3) + bt s 4 := by
  have h1 : pack_Take.num s 1 = bt s 1 := by simp [pack_Take.num]
  have h2 : pack_Take.num s 2 = 256 * bt s 1 + bt s 2 := by rw [pack_Take.num, h1]; rfl
  have h3 : pack_Take.num s 3 = 256 * (256 * bt s 1 + bt s 2) + bt s 3 := by rw [pack_Take.num, h2]; rfl
  have h4 : pack_Take.num s 4 = 256 * (256 * (256 * bt s 1 + bt s 2) + bt s 3) + bt s 4 := by rw [pack_Take.num, h3]; rfl
  exact ⟨h1, h2, h3, h4⟩
theorem num_cl (s : ByteArray) (k : Nat) (hk : k ≤ 4) : Cl (pack_Take.num s k) := by
  obtain ⟨h1, h2, h3, h4⟩ := num4 s
  have b1 := bt_range s 1
  have b2 := bt_range s 2
  have b3 := bt_range s 3
  have b4 := bt_range s 4
  unfold Cl
  match k, hk with
  | 0, _ => simp [pack_Take.num]
  | 1, _ => omega
  | 2, _ => omega
  | 3, _ => omega
  | 4, _ => omega
/-- What is read, written. -/
theorem S_of_num (s : ByteArray) (k : Nat) (h : bt s 0 = 247 + k) (hk1 : 1 ≤ k) (hk : k ≤ 4) (hl : k + 1 ≤ s.size) (h248 : 248 ≤ pack_Take.num s k) (hw : pack_width.f (pack_Take.num s k) = some (k : Int)) :
    S (pack_Take.num s k) = s.extract 0 (k + 1) := by
  obtain ⟨h1, h2, h3, h4⟩ := num4 s
  have b1 := bt_range s 1
  have b2 := bt_range s 2
  have b3 := bt_range s 3
  have b4 := bt_range s 4
  have key : ∀ (l : List Int), numB (pack_Take.num s k) = l → l.length = k + 1 → (∀ i : Nat, i < k + 1 → l.getD i 0 = bt s i) → S (pack_Take.num s k) = s.extract 0 (k + 1) := by
    intro l e1 e2 e3
    apply ext_bt
    · rw [S_size, e1, e2, ByteArray.size_extract]; omega
    · intro i hi
      rw [S_size, e1, e2] at hi
      rw [bt_S, e1, bt_extract _ _ _ _ (by omega) hl (by omega), rd, Int.toNat_natCast, e3 i hi]
      congr 1
  rcases width_is _ _ hw with ⟨rfl, c⟩ | ⟨rfl, c⟩ | ⟨rfl, c⟩ | ⟨rfl, c⟩
  · refine key _ (by unfold numB; rw [if_neg (by omega), if_pos c]) rfl (fun i hi => ?_)
    rw [h4]
    match i, hi with
    | 0, _ => simp; omega
    | 1, _ => simp; omega
    | 2, _ => simp; omega
    | 3, _ => simp; omega
    | 4, _ => simp; omega
  · refine key _ (by unfold numB; rw [if_neg (by omega), if_neg (by omega), if_pos c.1]) rfl (fun i hi => ?_)
    rw [h3]
    match i, hi with
    | 0, _ => simp; omega
    | 1, _ => simp; omega
    | 2, _ => simp; omega
    | 3, _ => simp; omega
  · refine key _ (by unfold numB; rw [if_neg (by omega), if_neg (by omega), if_neg (by omega), if_pos c.1]) rfl (fun i hi => ?_)
    rw [h2]
    match i, hi with
    | 0, _ => simp; omega
    | 1, _ => simp; omega
    | 2, _ => simp; omega
  · refine key _ (by unfold numB; rw [if_neg (by omega), if_neg (by omega), if_neg (by omega), if_neg (by omega)]) rfl (fun i hi => ?_)
    rw [h1]
    match i, hi with
    | 0, _ => simp; omega
    | 1, _ => simp; omega
/-- Every text: what Take answers. -/
theorem take_cases (s : ByteArray) : (∃ n r, Cl n ∧ s = S n ++ r ∧ pack_Take.f s = some (n, r, 0)) ∨ (∃ e, (e = 2 ∨ e = 3) ∧ pack_Take.f s = some (0, ⟨#[]⟩, e)) := by
  rcases Nat.eq_zero_or_pos s.size with h0 | h0
  · exact .inr ⟨3, .inr rfl, take_none s h0⟩
  have hb := bt_range s 0
  by_cases c1 : bt s 0 ≤ 247
  · refine .inl ⟨_, _, ⟨hb.1, by omega⟩, ?_, take_small s h0 c1⟩
    have hn : numB (bt s 0) = [bt s 0] := by unfold numB; rw [if_pos (by omega)]; congr 1; omega
    have : S (bt s 0) = s.extract 0 1 := by
      apply ext_bt
      · rw [S_size, hn, ByteArray.size_extract]; simp; omega
      · intro i hi
        rw [S_size, hn] at hi
        have : i = 0 := by simpa using hi
        subst this
        rw [bt_S, hn, bt_extract _ _ _ _ (by omega) (by omega) (by omega)]
        rfl
    rw [this]
    exact split_at s 1 h0
  by_cases c2 : 251 < bt s 0
  · exact .inr ⟨2, .inl rfl, take_far s h0 c2⟩
  obtain ⟨k, hk⟩ : ∃ k : Nat, bt s 0 = 247 + k := ⟨(bt s 0 - 247).toNat, by omega⟩
  by_cases c3 : s.size < k + 1
  · exact .inr ⟨3, .inr rfl, take_short s k h0 hk (by omega) (by omega) c3⟩
  have hb := take_big s k hk (by omega) (by omega) (by omega)
  by_cases c4 : 248 ≤ pack_Take.num s k ∧ pack_width.f (pack_Take.num s k) = some (k : Int)
  · rw [if_pos c4] at hb
    refine .inl ⟨_, _, num_cl s k (by omega), ?_, hb⟩
    rw [S_of_num s k hk (by omega) (by omega) (by omega) c4.1 c4.2]
    exact split_at s (k + 1) (by omega)
  · rw [if_neg c4] at hb
    exact .inr ⟨2, .inl rfl, hb⟩

theorem bt_Sapp (n : Int) (b : ByteArray) (i : Int) (h0 : 0 ≤ i) (h1 : i < (numB n).length) : bt (S n ++ b) i = rd (numB n) i := by
  rw [bt_app _ _ _ h0, S_size, if_pos h1, bt_S]
theorem numB_cases (n : Int) (h : Cl n) : (n < 248 ∧ numB n = [n]) ∨ ∃ k : Nat, 248 ≤ n ∧ 1 ≤ k ∧ k ≤ 4 ∧ pack_width.f n = some (k : Int) ∧ (numB n).length = k + 1 ∧ rd (numB n) 0 = 247 + k ∧
    (k = 1 → n = rd (numB n) 1) ∧ (k = 2 → n = 256 * rd (numB n) 1 + rd (numB n) 2) ∧ (k = 3 → n = 256 * (256 * rd (numB n) 1 + rd (numB n) 2) + rd (numB n) 3) ∧ (k = 4 → n = 256 * (256 * (256 * rd (numB n) 1 + rd (numB n) 2) + rd (numB n) 3) + rd (numB n) 4) := by
  obtain ⟨h0, h1⟩ := h
  unfold numB pack_width.f
  by_cases c : n < 248
  · refine .inl ⟨c, ?_⟩
    rw [if_pos c]
    congr 1
    omega
  · rw [if_neg c]
    refine .inr ?_
    by_cases c1 : n > 16777215
    · rw [if_pos c1, if_pos c1]
      refine ⟨4, by omega, by decide, by decide, rfl, rfl, rfl, by omega, by omega, by omega, fun _ => ?_⟩
      show n = 256 * (256 * (256 * (n / 16777216 % 256) + n / 65536 % 256) + n / 256 % 256) + n % 256
      omega
    · rw [if_neg c1, if_neg c1]
      by_cases c2 : n > 65535
      · rw [if_pos c2, if_pos c2]
        refine ⟨3, by omega, by decide, by decide, rfl, rfl, rfl, by omega, by omega, fun _ => ?_, by omega⟩
        show n = 256 * (256 * (n / 65536 % 256) + n / 256 % 256) + n % 256
        omega
      · rw [if_neg c2, if_neg c2]
        by_cases c3 : n > 255
        · rw [if_pos c3, if_pos c3]
          refine ⟨2, by omega, by decide, by decide, rfl, rfl, rfl, by omega, fun _ => ?_, by omega, by omega⟩
          show n = 256 * (n / 256 % 256) + n % 256
          omega
        · rw [if_neg c3, if_neg c3]
          refine ⟨1, by omega, by decide, by decide, rfl, rfl, rfl, fun _ => ?_, by omega, by omega, by omega⟩
          show n = n % 256
          omega
/-- What is written is read, whatever is behind it. -/
theorem take_S (n : Int) (b : ByteArray) (h : Cl n) : pack_Take.f (S n ++ b) = some (n, b, 0) := by
  rcases numB_cases n h with ⟨c, e⟩ | ⟨k, h248, hk1, hk, hw, hl, hr, q1, q2, q3, q4⟩
  · have hb : bt (S n ++ b) 0 = n := by rw [bt_Sapp n b 0 (by omega) (by rw [e]; simp), e]; rfl
    have hs : (S n).size = 1 := by rw [S_size, e]; rfl
    rw [take_small _ (by rw [ByteArray.size_append]; omega) (by omega), hb]
    have := app_extract_right (S n) b
    rw [hs] at this
    rw [this]
  · have hb : bt (S n ++ b) 0 = 247 + k := by rw [bt_Sapp n b 0 (by omega) (by omega), hr]
    have hs : (S n).size = k + 1 := by rw [S_size, hl]
    have hnum : pack_Take.num (S n ++ b) k = n := by
      obtain ⟨n1, n2, n3, n4⟩ := num4 (S n ++ b)
      match k, hk1, hk with
      | 1, _, _ => rw [n1, bt_Sapp n b 1 (by omega) (by omega)]; exact (q1 rfl).symm
      | 2, _, _ => rw [n2, bt_Sapp n b 1 (by omega) (by omega), bt_Sapp n b 2 (by omega) (by omega)]; exact (q2 rfl).symm
      | 3, _, _ => rw [n3, bt_Sapp n b 1 (by omega) (by omega), bt_Sapp n b 2 (by omega) (by omega), bt_Sapp n b 3 (by omega) (by omega)]; exact (q3 rfl).symm
      | 4, _, _ => rw [n4, bt_Sapp n b 1 (by omega) (by omega), bt_Sapp n b 2 (by omega) (by omega), bt_Sapp n b 3 (by omega) (by omega), bt_Sapp n b 4 (by omega) (by omega)]; exact (q4 rfl).symm
    rw [take_big _ k hb hk1 hk (by rw [ByteArray.size_append]; omega), hnum, if_pos ⟨h248, hw⟩]
    have := app_extract_right (S n) b
    rw [hs] at this
    rw [this]
/-! ### the reference's Take -/
theorem ref_take_loop (s : ByteArray) (kk : Nat) (hk1 : 1 ≤ kk) (hk : kk ≤ 4) (h : bt s 0 = 247 + kk) (hl : kk + 1 ≤ s.size) (K : Nat) (hK : 6 ≤ K) : ∀ (d j : Nat), j + d = kk →
    duetref01_Take.l0 (K + d + 1) s kk (pack_Take.num s j) ((j : Int) + 1) = pack_Take.f s := by
  intro d
  induction d with
  | zero =>
    intro j hj
    have hj : j = kk := by omega
    subst hj
    simp only [duetref01_Take.l0]
    obtain ⟨K, rfl⟩ : ∃ q, K = q + 6 := ⟨K - 6, by omega⟩
    rw [if_neg (by omega), Nat.add_zero, ref_ok _ _ (num_cl s j hk), Option.bind_some]
    have e1 : wrap64 (1 + (j : Int)) = (j : Int) + 1 := by unfold wrap64; omega
    have e2 : ((j : Int) + 1).toNat = j + 1 := by omega
    rw [e1, if_pos (by omega), if_pos (by omega), e2, take_big s j h hk1 hk hl]
    simp only [toList_iff]
    by_cases c : 248 ≤ pack_Take.num s j ∧ pack_width.f (pack_Take.num s j) = some (j : Int)
    · rw [if_pos c, if_pos (S_of_num s j h hk1 hk hl c.1 c.2)]
    · rw [if_neg c, if_neg]
      intro e
      have hsz : (numB (pack_Take.num s j)).length = j + 1 := by
        rw [← S_size, e, ByteArray.size_extract]; omega
      rcases numB_cases _ (num_cl s j hk) with ⟨_, e3⟩ | ⟨k, h248, _, _, hw, hl2, _⟩
      · rw [e3] at hsz; simp at hsz; omega
      · exact c ⟨h248, by rw [hw, show k = j by omega]⟩
  | succ d ih =>
    intro j hj
    have ihj := ih (j + 1) (by omega)
    have b := bt_range s ((j : Int) + 1)
    have hc := num_cl s j (by omega)
    unfold Cl at hc
    rw [show K + (d + 1) + 1 = (K + d + 1) + 1 by omega]
    simp only [duetref01_Take.l0]
    rw [if_pos (by omega), if_pos (by omega), if_pos (by omega)]
    rw [show wrap64 ((wrap64 (256 * pack_Take.num s j)) + (wrap64 (bt s ((j : Int) + 1)))) = pack_Take.num s (j + 1) by simp only [pack_Take.num]; unfold wrap64; omega]
    rw [show wrap64 ((j : Int) + 1 + 1) = ((j + 1 : Nat) : Int) + 1 by unfold wrap64; omega]
    exact ihj
theorem ref_take (s : ByteArray) (K : Nat) (hK : 12 ≤ K) : duetref01_Take.f K s = pack_Take.f s := by
  unfold duetref01_Take.f
  rcases Nat.eq_zero_or_pos s.size with h0 | h0
  · rw [if_pos (toList_empty.mpr h0), take_none s h0]
  rw [if_neg (by rw [toList_empty]; omega), if_pos (by omega)]
  have hb := bt_range s 0
  rw [show wrap64 (bt s 0) = bt s 0 by unfold wrap64; omega]
  by_cases c1 : bt s 0 < 248
  · rw [if_pos c1, if_pos (by omega), take_small s h0 (by omega)]
  rw [if_neg c1, show wrap64 (bt s 0 - 247) = bt s 0 - 247 by unfold wrap64; omega]
  by_cases c2 : bt s 0 - 247 > 4
  · rw [if_pos c2, take_far s h0 (by omega)]
  rw [if_neg c2, show wrap64 (1 + (bt s 0 - 247)) = 1 + (bt s 0 - 247) by unfold wrap64; omega]
  obtain ⟨k, hk⟩ : ∃ k : Nat, bt s 0 = 247 + k := ⟨(bt s 0 - 247).toNat, by omega⟩
  by_cases c3 : (s.size : Int) < 1 + (bt s 0 - 247)
  · rw [if_pos c3, take_short s k h0 hk (by omega) (by omega) (by omega)]
  · rw [if_neg c3]
    have := ref_take_loop s k (by omega) (by omega) hk (by omega) (K - k - 1) (by omega) k 0 (by omega)
    rw [show K - k - 1 + k + 1 = K by omega] at this
    rw [show bt s 0 - 247 = (k : Int) by omega]
    exact this

/-! ### Text, Cut, List, Each -/
def body : List Int → ByteArray
  | [] => ⟨#[]⟩
  | n :: l => S n ++ body l
theorem app_assoc (a b c : ByteArray) : a ++ b ++ c = a ++ (b ++ c) := ByteArray.append_assoc
theorem app_nil (a : ByteArray) : a ++ (⟨#[]⟩ : ByteArray) = a := by
  apply ByteArray.ext
  simp
theorem nil_app (a : ByteArray) : (⟨#[]⟩ : ByteArray) ++ a = a := by
  apply ByteArray.ext
  simp
theorem rd_drop (l : List Int) (j : Nat) (h : j < l.length) : l.drop j = rd l j :: l.drop (j + 1) := by
  rw [List.drop_eq_getElem_cons h]
  simp [rd, List.getD_eq_getElem?_getD, List.getElem?_eq_getElem h]
/-- So many numbers, one behind the other. -/
def each : Nat → ByteArray → List Int → List Int × ByteArray × Int
  | 0, s, acc => (acc, s, 0)
  | d + 1, s, acc => if ((pack_Take.f s).getD (0, ⟨#[]⟩, 0)).2.2 = 0 then each d ((pack_Take.f s).getD (0, ⟨#[]⟩, 0)).2.1 (acc ++ [((pack_Take.f s).getD (0, ⟨#[]⟩, 0)).1]) else ([], ⟨#[]⟩, ((pack_Take.f s).getD (0, ⟨#[]⟩, 0)).2.2)
def eachF (s : ByteArray) : List Int × ByteArray × Int :=
  if ((pack_Take.f s).getD (0, ⟨#[]⟩, 0)).2.2 = 0 then (if ((pack_Take.f s).getD (0, ⟨#[]⟩, 0)).1 > 1000 then ([], ⟨#[]⟩, 2) else each ((pack_Take.f s).getD (0, ⟨#[]⟩, 0)).1.toNat ((pack_Take.f s).getD (0, ⟨#[]⟩, 0)).2.1 []) else ([], ⟨#[]⟩, ((pack_Take.f s).getD (0, ⟨#[]⟩, 0)).2.2)
theorem each_loop (n : Int) (hn : n ≤ 1000) : ∀ (d : Nat) (K : Nat) (s : ByteArray) (acc : List Int), (acc.length : Int) + d = n → d + 1 < K → pack_Each.l0 K s n 0 acc = some (each d s acc) := by
  intro d
  induction d with
  | zero =>
    intro K s acc h hK
    obtain ⟨K, rfl⟩ : ∃ q, K = q + 1 := ⟨K - 1, by omega⟩
    simp only [pack_Each.l0]
    rw [if_pos trivial, if_neg (by omega)]
    rfl
  | succ d ih =>
    intro K s acc h hK
    obtain ⟨K, rfl⟩ : ∃ q, K = q + 1 := ⟨K - 1, by omega⟩
    simp only [pack_Each.l0]
    rw [if_pos trivial, if_pos (by omega)]
    rcases take_cases s with ⟨m, r, hm, hs, ht⟩ | ⟨e, he, ht⟩
    · rw [ht, Option.bind_some, if_pos (by omega), ih K r _ (by simp only [List.length_append, List.length_cons, List.length_nil]; omega) (by omega)]
      simp only [each, ht, Option.getD_some, if_pos]
    · rw [ht, Option.bind_some, if_pos (by omega)]
      obtain ⟨K, rfl⟩ : ∃ q, K = q + 1 := ⟨K - 1, by omega⟩
      simp only [pack_Each.l0]
      have : ¬ e = 0 := by omega
      rw [if_neg this]
      simp only [each, ht, Option.getD_some, if_neg this]
theorem each_is (s : ByteArray) (K : Nat) (hK : 1010 ≤ K) : pack_Each.f K s = some (eachF s) := by
  unfold pack_Each.f eachF
  obtain ⟨K, rfl⟩ : ∃ q, K = q + 2 := ⟨K - 2, by omega⟩
  rcases take_cases s with ⟨m, r, hm, hs, ht⟩ | ⟨e, he, ht⟩
  · rw [ht, Option.bind_some, if_pos rfl]
    simp only [Option.getD_some, pack_Each.j0, pack_Each.j1, if_pos]
    unfold Cl at hm
    by_cases c : m > 1000
    · rw [show decide (m > 1000) = true from decide_eq_true c, if_pos rfl, if_pos c]
      obtain ⟨K, rfl⟩ : ∃ q, K = q + 1 := ⟨K - 1, by omega⟩
      simp only [pack_Each.l0]
      rw [if_neg (by decide)]
    · rw [show decide (m > 1000) = false from decide_eq_false c, if_neg (by decide), if_neg c]
      exact each_loop m (by omega) m.toNat K r [] (by simp; omega) (by omega)
  · have : ¬ e = 0 := by omega
    rw [ht, Option.bind_some, if_neg this]
    simp only [Option.getD_some, pack_Each.j0, pack_Each.j1, if_neg this]
    obtain ⟨K, rfl⟩ : ∃ q, K = q + 1 := ⟨K - 1, by omega⟩
    simp only [pack_Each.l0]
    rw [if_neg (by decide), if_neg this]
theorem ref_each_loop (n : Int) (hn : n ≤ 1000) : ∀ (d : Nat) (K : Nat) (s : ByteArray) (acc : List Int), (acc.length : Int) + d = n → d + 13 < K → duetref01_Each.l0 K n s acc acc.length = some (each d s acc) := by
  intro d
  induction d with
  | zero =>
    intro K s acc h hK
    obtain ⟨K, rfl⟩ : ∃ q, K = q + 1 := ⟨K - 1, by omega⟩
    simp only [duetref01_Each.l0]
    rw [if_neg (by omega)]
    rfl
  | succ d ih =>
    intro K s acc h hK
    obtain ⟨K, rfl⟩ : ∃ q, K = q + 1 := ⟨K - 1, by omega⟩
    simp only [duetref01_Each.l0]
    rw [if_pos (by omega), ref_take s K (by omega)]
    rcases take_cases s with ⟨m, r, hm, hs, ht⟩ | ⟨e, he, ht⟩
    · rw [ht, Option.bind_some, if_pos rfl, if_pos (by omega), show wrap64 ((acc.length : Int) + 1) = ((acc ++ [m]).length : Int) by simp only [List.length_append, List.length_cons, List.length_nil]; unfold wrap64; omega,
        ih K r _ (by simp only [List.length_append, List.length_cons, List.length_nil]; omega) (by omega)]
      simp only [each, ht, Option.getD_some, if_pos]
    · have : ¬ e = 0 := by omega
      rw [ht, Option.bind_some, if_neg this]
      simp only [each, ht, Option.getD_some, if_neg this]
theorem ref_each (s : ByteArray) (K : Nat) (hK : 1020 ≤ K) : duetref01_Each.f K s = some (eachF s) := by
  unfold duetref01_Each.f eachF
  rw [ref_take s K (by omega)]
  rcases take_cases s with ⟨m, r, hm, hs, ht⟩ | ⟨e, he, ht⟩
  · rw [ht, Option.bind_some, if_pos rfl]
    simp only [Option.getD_some, if_pos]
    unfold Cl at hm
    by_cases c : m > 1000
    · rw [if_pos c, if_pos c]
    · rw [if_neg c, if_neg c]
      exact ref_each_loop m (by omega) m.toNat K r [] (by simp; omega) (by omega)
  · have : ¬ e = 0 := by omega
    rw [ht, Option.bind_some, if_neg this]
    simp only [Option.getD_some, if_neg this]
/-! ### Same; the closed call -/
theorem same_loop (a b : List Int) (h : a.length = b.length) (hb : a.length ≤ 140737488351232) : ∀ (d j K : Nat), j + d = a.length → d < K → duetref01_Same.l0 K a b j = some (decide (a.drop j = b.drop j)) := by
  intro d
  induction d with
  | zero =>
    intro j K hj hK
    obtain ⟨K, rfl⟩ : ∃ q, K = q + 1 := ⟨K - 1, by omega⟩
    simp only [duetref01_Same.l0]
    rw [if_neg (by omega), List.drop_eq_nil_of_le (by omega), List.drop_eq_nil_of_le (by omega)]
    rfl
  | succ d ih =>
    intro j K hj hK
    obtain ⟨K, rfl⟩ : ∃ q, K = q + 1 := ⟨K - 1, by omega⟩
    simp only [duetref01_Same.l0]
    rw [if_pos (by omega), if_pos (by omega), if_pos (by omega), rd_drop a j (by omega), rd_drop b j (by omega)]
    by_cases c : rd a j = rd b j
    · rw [if_pos c, show wrap64 ((j : Int) + 1) = ((j + 1 : Nat) : Int) by unfold wrap64; omega, ih (j + 1) K (by omega) (by omega)]
      congr 1
      simp [c]
    · rw [if_neg c]
      congr 1
      simp [c]
theorem same_is (a b : List Int) (K : Nat) (hb : a.length ≤ 140737488351232) (hK : a.length < K) : duetref01_Same.f K a b = some (decide (a = b)) := by
  unfold duetref01_Same.f
  by_cases c : (a.length : Int) = b.length
  · rw [if_pos c]
    exact same_loop a b (by omega) hb a.length 0 K (by omega) (by omega)
  · rw [if_neg c]
    congr 1
    symm
    exact decide_eq_false (fun h => c (by rw [h]))
theorem each_body (b : ByteArray) : ∀ (l acc : List Int), (∀ n ∈ l, Cl n) → each l.length (body l ++ b) acc = (acc ++ l, b, 0)
  | [], acc, _ => by simp only [List.length_nil, each, body, nil_app, List.append_nil]
  | n :: l, acc, h => by
    simp only [List.length_cons, each, body]
    rw [app_assoc, take_S n _ (h n List.mem_cons_self)]
    simp only [Option.getD_some, if_pos]
    rw [each_body b l _ (fun m hm => h m (List.mem_cons_of_mem _ hm))]
    simp
theorem eachF_S (l : List Int) (b : ByteArray) (hl : l.length ≤ 1000) (h : ∀ n ∈ l, Cl n) : eachF (S l.length ++ body l ++ b) = (l, b, 0) := by
  unfold eachF
  rw [app_assoc, take_S _ _ ⟨by omega, by omega⟩]
  simp only [Option.getD_some, if_pos, Int.toNat_natCast]
  rw [if_neg (by omega), each_body b l [] h, List.nil_append]
theorem each_inv : ∀ (d : Nat) (s : ByteArray) (acc : List Int), (∃ l r, l.length = d ∧ (∀ n ∈ l, Cl n) ∧ s = body l ++ r ∧ each d s acc = (acc ++ l, r, 0)) ∨ (∃ e, e ≠ 0 ∧ each d s acc = ([], ⟨#[]⟩, e))
  | 0, s, acc => .inl ⟨[], s, rfl, (fun n hn => by cases hn), by rw [body, nil_app], by simp [each]⟩
  | d + 1, s, acc => by
    simp only [each]
    rcases take_cases s with ⟨n, r, hn, hs, ht⟩ | ⟨e, he, ht⟩
    · simp only [ht, Option.getD_some, if_pos]
      rcases each_inv d r (acc ++ [n]) with ⟨l, r2, h1, h2, h3, h4⟩ | ⟨e, he, h⟩
      · refine .inl ⟨n :: l, r2, by rw [List.length_cons, h1], fun m hm => ?_, by rw [body, app_assoc, ← h3]; exact hs, by rw [h4]; simp⟩
        rcases List.mem_cons.mp hm with rfl | hm
        · exact hn
        · exact h2 m hm
      · exact .inr ⟨e, he, h⟩
    · have : ¬ e = 0 := by omega
      simp only [ht, Option.getD_some, if_neg this]
      exact .inr ⟨e, this, rfl⟩
theorem eachF_cases (s : ByteArray) : (∃ l r, l.length ≤ 1000 ∧ (∀ n ∈ l, Cl n) ∧ s = S l.length ++ body l ++ r ∧ eachF s = (l, r, 0)) ∨ (∃ e, e ≠ 0 ∧ eachF s = ([], ⟨#[]⟩, e)) := by
  unfold eachF
  rcases take_cases s with ⟨n, r, hn, hs, ht⟩ | ⟨e, he, ht⟩
  · simp only [ht, Option.getD_some, if_pos]
    unfold Cl at hn
    by_cases c : n > 1000
    · exact .inr ⟨2, by decide, by rw [if_pos c]⟩
    · rw [if_neg c]
      rcases each_inv n.toNat r [] with ⟨l, r2, h1, h2, h3, h4⟩ | ⟨e, he, h⟩
      · refine .inl ⟨l, r2, by omega, h2, ?_, by rw [h4, List.nil_append]⟩
        rw [show (l.length : Int) = n by omega, app_assoc, ← h3]
        exact hs
      · exact .inr ⟨e, he, h⟩
  · have : ¬ e = 0 := by omega
    simp only [ht, Option.getD_some, if_neg this]
    exact .inr ⟨e, this, rfl⟩
theorem eachF_len (s : ByteArray) : (eachF s).1.length ≤ 1000 := by
  rcases eachF_cases s with ⟨l, r, h1, _, _, h⟩ | ⟨e, _, h⟩
  · rw [h]; exact h1
  · rw [h]; simp


/-- A message that may be. -/
abbrev Ok (a0 a1 : Int) (l : List Int) (a3 a4 a5 a6 a7 a8 a9 : Int) : Prop := mesg_Check.bad8 a0 a1 l a3 a4 a5 a6 a7 a8 a9 = false
section
variable {a0 a1 : Int} {l : List Int} {a3 a4 a5 a6 a7 a8 a9 : Int}
theorem check_ok (h : Ok a0 a1 l a3 a4 a5 a6 a7 a8 a9) : mesg_Check.f a0 a1 l a3 a4 a5 a6 a7 a8 a9 = some 0 := by
  unfold mesg_Check.f
  rw [show mesg_Check.bad8 a0 a1 l a3 a4 a5 a6 a7 a8 a9 = false from h]
  rfl
theorem check_no (h : ¬ Ok a0 a1 l a3 a4 a5 a6 a7 a8 a9) : mesg_Check.f a0 a1 l a3 a4 a5 a6 a7 a8 a9 = some 1 := by
  unfold mesg_Check.f
  rw [show mesg_Check.bad8 a0 a1 l a3 a4 a5 a6 a7 a8 a9 = true from by cases hb : mesg_Check.bad8 a0 a1 l a3 a4 a5 a6 a7 a8 a9 with | true => rfl | false => exact absurd hb h]
  rfl
theorem clk_is (n : Int) (h : mesg_Check.clk n = true) : Cl n := by
  unfold mesg_Check.clk at h
  simpa [Cl] using h
theorem mayb_cl {t s n : Int} (hn : n ≤ 16) (h : mesg_Check.mayb t s n = true) : Cl t ∧ Cl s := by
  unfold mesg_Check.mayb at h
  simp only [Bool.and_eq_true, decide_eq_true_eq] at h
  exact ⟨⟨by omega, by omega⟩, ⟨by omega, by omega⟩⟩
theorem ok_all (h : Ok a0 a1 l a3 a4 a5 a6 a7 a8 a9) : (1 ≤ l.length ∧ l.length ≤ 16 ∧ 0 ≤ a0 ∧ a0 < 16) ∧ Cl a1 ∧ (∀ n ∈ l, Cl n) ∧ (1 ≤ a3 ∧ a3 ≤ 8) ∧ Cl a4 ∧ (Cl a5 ∧ Cl a6 ∧ Cl a7 ∧ Cl a8 ∧ Cl a9) ∧ (¬ (a3 = 1 ∨ a3 = 6) → a5 = 0 ∧ a6 = 0) ∧ (a3 = 6 → a7 = 0 ∧ a8 = 0) ∧ (a3 ≠ 1 → a9 = 0) := by
  unfold Ok mesg_Check.bad8 at h
  simp only [Bool.or_eq_false_iff] at h
  obtain ⟨h1, h2, h3, h4, h5, h6, h7, h8⟩ := h
  have z : Cl 0 := ⟨by decide, by decide⟩
  simp only [mesg_Check.b1, Bool.or_eq_false_iff, decide_eq_false_iff_not] at h1
  have hn : (l.length : Int) ≤ 16 := by omega
  simp only [mesg_Check.b2, Bool.or_eq_false_iff, decide_eq_false_iff_not, Bool.not_eq_false'] at h2
  simp only [mesg_Check.b4, Bool.or_eq_false_iff, decide_eq_false_iff_not, Bool.not_eq_false'] at h4
  have h9 : ∀ n ∈ l, Cl n := fun n hn => by
    unfold mesg_Check.anyb at h3
    rw [List.any_eq_false] at h3
    have := h3 n hn
    simp only [Bool.not_eq_true', Bool.not_eq_false] at this
    exact clk_is n this
  have h5' : (Cl a5 ∧ Cl a6) ∧ (¬ (a3 = 1 ∨ a3 = 6) → a5 = 0 ∧ a6 = 0) := by
    unfold mesg_Check.b5 at h5
    by_cases c : a3 = 1 ∨ a3 = 6
    · rw [if_pos c] at h5
      simp only [Bool.or_eq_false_iff, Bool.not_eq_false'] at h5
      exact ⟨mayb_cl hn h5.1, fun hc => absurd c hc⟩
    · rw [if_neg c] at h5
      simp only [Bool.not_eq_false', Bool.and_eq_true, beq_iff_eq] at h5
      obtain ⟨rfl, rfl⟩ := h5
      exact ⟨⟨z, z⟩, fun _ => ⟨rfl, rfl⟩⟩
  have h8' : Cl a7 ∧ Cl a8 := by
    unfold mesg_Check.b8 at h8
    by_cases c : a7 = 0 ∧ a8 = 0
    · obtain ⟨rfl, rfl⟩ := c
      exact ⟨z, z⟩
    · rw [if_neg c] at h8
      simp only [Bool.or_eq_false_iff, Bool.not_eq_false'] at h8
      exact mayb_cl hn h8.1
  have h7' : a3 = 6 → a7 = 0 ∧ a8 = 0 := fun c => by
    unfold mesg_Check.b7 at h7
    rw [if_pos c] at h7
    simpa using h7
  have h6' : Cl a9 ∧ (a3 ≠ 1 → a9 = 0) := by
    unfold mesg_Check.b6 at h6
    by_cases c : a3 = 1
    · rw [if_pos c] at h6
      simp only [Bool.not_eq_false', mesg_Check.runeb, Bool.and_eq_true, decide_eq_true_eq] at h6
      exact ⟨⟨by omega, by omega⟩, fun hc => absurd c hc⟩
    · rw [if_neg c] at h6
      have : a9 = 0 := by simpa using h6
      subst this
      exact ⟨z, fun _ => rfl⟩
  exact ⟨by omega, clk_is _ h2.2.1, h9, by omega, clk_is _ h4.2.2, ⟨h5'.1.1, h5'.1.2, h8'.1, h8'.2, h6'.1⟩, h5'.2, h7', h6'.2⟩
end
/-- What is written behind the kind and the epoch. -/
def tailB (a3 a5 a6 a7 a8 a9 : Int) : ByteArray :=
  if a3 = 1 then S a5 ++ (S a6 ++ (S a7 ++ (S a8 ++ (S a9 ++ (⟨#[]⟩ : ByteArray))))) else if a3 = 6 then S a5 ++ (S a6 ++ (⟨#[]⟩ : ByteArray)) else S a7 ++ (S a8 ++ (⟨#[]⟩ : ByteArray))
/-- A message's bytes. -/
def enc (a0 a1 : Int) (l : List Int) (a3 a4 a5 a6 a7 a8 a9 : Int) : ByteArray := S a0 ++ (S a1 ++ (S l.length ++ body l ++ (S a3 ++ (S a4 ++ tailB a3 a5 a6 a7 a8 a9))))
theorem two (a b : Int) : body [a, b] = S a ++ S b := by rw [body, body, body, app_nil]
theorem one (a : Int) : body [a] = S a := by rw [body, body, app_nil]
section
variable {a0 a1 : Int} {l : List Int} {a3 a4 a5 a6 a7 a8 a9 : Int}
end
theorem num_S (n : Int) (b : ByteArray) (hn : Cl n) (c : Int → ByteArray → Option (Int × Int × List Int × Int × Int × Int × Int × Int × Int × Int × Int)) : mesg_Decode.num (S n ++ b) c = c n b := by
  unfold mesg_Decode.num
  rw [take_S n b hn, Option.bind_some]
  exact if_pos rfl
section
variable {a0 a1 : Int} {l : List Int} {a3 a4 a5 a6 a7 a8 a9 : Int}
theorem decode_enc (h : Ok a0 a1 l a3 a4 a5 a6 a7 a8 a9) (K : Nat) (hK : 1010 ≤ K) : mesg_Decode.f K (enc a0 a1 l a3 a4 a5 a6 a7 a8 a9) = some (a0, a1, l, a3, a4, a5, a6, a7, a8, a9, 0) := by
  obtain ⟨hl, c1, cl, hk, c4, ⟨c5, c6, c7, c8, c9⟩, z5, z7, z9⟩ := ok_all h
  have c0 : Cl a0 := ⟨by omega, by omega⟩
  have c3 : Cl a3 := ⟨by omega, by omega⟩
  have hfin : mesg_Decode.fin (⟨#[]⟩ : ByteArray) a0 a1 l a3 a4 a5 a6 a7 a8 a9 = some (a0, a1, l, a3, a4, a5, a6, a7, a8, a9, 0) := by
    unfold mesg_Decode.fin
    rw [if_pos (by rw [toList_empty]; rfl), check_ok h, Option.bind_some, if_pos rfl]
  unfold mesg_Decode.f enc
  rw [num_S _ _ c0, num_S _ _ c1, each_is _ K hK, Option.bind_some, eachF_S l _ (by omega) cl]
  simp only
  rw [if_pos trivial]
  unfold mesg_Decode.kind
  rw [num_S _ _ c3, if_neg (by omega), if_neg (by omega), num_S _ _ c4]
  unfold mesg_Decode.tail tailB
  by_cases k1 : a3 = 1
  · rw [if_pos k1, if_pos k1]
    unfold mesg_Decode.ids
    rw [num_S _ _ c5, num_S _ _ c6]
    try dsimp only
    rw [num_S _ _ c7, num_S _ _ c8]
    try dsimp only
    rw [num_S _ _ c9]
    exact hfin
  · rw [if_neg k1, if_neg k1]
    by_cases k6 : a3 = 6
    · rw [if_pos k6, if_pos k6]
      unfold mesg_Decode.ids
      rw [num_S _ _ c5, num_S _ _ c6]
      obtain ⟨rfl, rfl⟩ := z7 k6
      obtain rfl := z9 k1
      exact hfin
    · rw [if_neg k6, if_neg k6]
      unfold mesg_Decode.ids
      rw [num_S _ _ c7, num_S _ _ c8]
      obtain ⟨rfl, rfl⟩ := z5 (by omega)
      obtain rfl := z9 k1
      exact hfin
end
/-- What any bytes are read as. -/
theorem num_any (s : ByteArray) (c : Int → ByteArray → Option (Int × Int × List Int × Int × Int × Int × Int × Int × Int × Int × Int)) : (∃ n b, Cl n ∧ s = S n ++ b ∧ mesg_Decode.num s c = c n b) ∨ (∃ e, e ≠ 0 ∧ mesg_Decode.num s c = mesg_Decode.bad e) := by
  rcases take_cases s with ⟨n, r, hn, hs, ht⟩ | ⟨e, he, ht⟩
  · exact .inl ⟨n, r, hn, hs, by rw [hs]; exact num_S n r hn c⟩
  · have h0 : e ≠ 0 := by omega
    refine .inr ⟨e, h0, ?_⟩
    unfold mesg_Decode.num
    rw [ht, Option.bind_some]
    exact if_neg h0
theorem decode_any (s : ByteArray) (K : Nat) (hK : 1010 ≤ K) : (∃ a0 a1 l a3 a4 a5 a6 a7 a8 a9, Ok a0 a1 l a3 a4 a5 a6 a7 a8 a9 ∧ s = enc a0 a1 l a3 a4 a5 a6 a7 a8 a9) ∨ (∃ e, e ≠ 0 ∧ mesg_Decode.f K s = mesg_Decode.bad e) := by
  have hfin : ∀ (b : ByteArray) (a0 a1 : Int) (l : List Int) (a3 a4 a5 a6 a7 a8 a9 : Int), (b = (⟨#[]⟩ : ByteArray) ∧ Ok a0 a1 l a3 a4 a5 a6 a7 a8 a9) ∨ mesg_Decode.fin b a0 a1 l a3 a4 a5 a6 a7 a8 a9 = mesg_Decode.bad 2 := by
    intro b a0 a1 l a3 a4 a5 a6 a7 a8 a9
    unfold mesg_Decode.fin
    by_cases hb : b.toList = ([] : List UInt8)
    · rw [if_pos hb]
      by_cases ho : Ok a0 a1 l a3 a4 a5 a6 a7 a8 a9
      · refine .inl ⟨?_, ho⟩
        apply toList_inj
        rw [hb, (toList_empty (a := (⟨#[]⟩ : ByteArray))).mpr rfl]
      · exact .inr (by rw [check_no ho, Option.bind_some, if_neg (by decide)])
    · exact .inr (by rw [if_neg hb])
  unfold mesg_Decode.f
  rcases num_any s _ with ⟨a0, s1, c0, rfl, h⟩ | ⟨e, he, h⟩
  · rw [h]; clear h
    rcases num_any s1 _ with ⟨a1, s2, c1, rfl, h⟩ | ⟨e, he, h⟩
    · rw [h]; clear h
      rw [each_is _ K hK, Option.bind_some]
      rcases eachF_cases s2 with ⟨l, s3, hl, cl, rfl, h⟩ | ⟨e, he, h⟩
      · rw [h]; clear h
        simp only
        rw [if_pos trivial]
        unfold mesg_Decode.kind
        rcases num_any s3 _ with ⟨a3, s4, c3, rfl, h⟩ | ⟨e, he, h⟩
        · rw [h]; clear h
          by_cases k0 : a3 < 1
          · exact .inr ⟨2, by decide, by rw [if_pos k0]⟩
          rw [if_neg k0]
          by_cases k8 : 8 < a3
          · exact .inr ⟨2, by decide, by rw [if_pos k8]⟩
          rw [if_neg k8]
          rcases num_any s4 _ with ⟨a4, s5, c4, rfl, h⟩ | ⟨e, he, h⟩
          · rw [h]; clear h
            unfold mesg_Decode.tail mesg_Decode.ids
            by_cases k1 : a3 = 1
            · rw [if_pos k1]
              rcases num_any s5 _ with ⟨a5, s6, c5, rfl, h⟩ | ⟨e, he, h⟩
              · rw [h]; clear h
                rcases num_any s6 _ with ⟨a6, s7, c6, rfl, h⟩ | ⟨e, he, h⟩
                · rw [h]; clear h
                  try dsimp only
                  rcases num_any s7 _ with ⟨a7, s8, c7, rfl, h⟩ | ⟨e, he, h⟩
                  · rw [h]; clear h
                    rcases num_any s8 _ with ⟨a8, s9, c8, rfl, h⟩ | ⟨e, he, h⟩
                    · rw [h]; clear h
                      try dsimp only
                      rcases num_any s9 _ with ⟨a9, s10, c9, rfl, h⟩ | ⟨e, he, h⟩
                      · rw [h]; clear h
                        rcases hfin s10 a0 a1 l a3 a4 a5 a6 a7 a8 a9 with ⟨rfl, ho⟩ | h
                        · exact .inl ⟨a0, a1, l, a3, a4, a5, a6, a7, a8, a9, ho, by unfold enc tailB; rw [if_pos k1]⟩
                        · exact .inr ⟨2, by decide, h⟩
                      · exact .inr ⟨e, he, h⟩
                    · exact .inr ⟨e, he, h⟩
                  · exact .inr ⟨e, he, h⟩
                · exact .inr ⟨e, he, h⟩
              · exact .inr ⟨e, he, h⟩
            · rw [if_neg k1]
              by_cases k6 : a3 = 6
              · rw [if_pos k6]
                rcases num_any s5 _ with ⟨a5, s6, c5, rfl, h⟩ | ⟨e, he, h⟩
                · rw [h]; clear h
                  rcases num_any s6 _ with ⟨a6, s7, c6, rfl, h⟩ | ⟨e, he, h⟩
                  · rw [h]; clear h
                    try dsimp only
                    rcases hfin s7 a0 a1 l a3 a4 a5 a6 0 0 0 with ⟨rfl, ho⟩ | h
                    · exact .inl ⟨a0, a1, l, a3, a4, a5, a6, 0, 0, 0, ho, by unfold enc tailB; rw [if_neg k1, if_pos k6]⟩
                    · exact .inr ⟨2, by decide, h⟩
                  · exact .inr ⟨e, he, h⟩
                · exact .inr ⟨e, he, h⟩
              · rw [if_neg k6]
                rcases num_any s5 _ with ⟨a7, s6, c7, rfl, h⟩ | ⟨e, he, h⟩
                · rw [h]; clear h
                  rcases num_any s6 _ with ⟨a8, s7, c8, rfl, h⟩ | ⟨e, he, h⟩
                  · rw [h]; clear h
                    try dsimp only
                    rcases hfin s7 a0 a1 l a3 a4 0 0 a7 a8 0 with ⟨rfl, ho⟩ | h
                    · exact .inl ⟨a0, a1, l, a3, a4, 0, 0, a7, a8, 0, ho, by unfold enc tailB; rw [if_neg k1, if_neg k6]⟩
                    · exact .inr ⟨2, by decide, h⟩
                  · exact .inr ⟨e, he, h⟩
                · exact .inr ⟨e, he, h⟩
          · exact .inr ⟨e, he, h⟩
        · exact .inr ⟨e, he, h⟩
      · refine .inr ⟨e, he, ?_⟩
        rw [h]
        exact if_neg he
    · exact .inr ⟨e, he, h⟩
  · exact .inr ⟨e, he, h⟩
theorem same_msg (a0 a1 : Int) (l : List Int) (a3 a4 a5 a6 a7 a8 a9 b0 b1 : Int) (m : List Int) (b3 b4 b5 b6 b7 b8 b9 : Int) (hl : l.length ≤ 140737488351232) (K : Nat) (hK : l.length < K) :
    ∃ r : Bool, duetref04_Same.f K a0 a1 l a3 a4 a5 a6 a7 a8 a9 b0 b1 m b3 b4 b5 b6 b7 b8 b9 = some r ∧ (r = true ↔ (a0 = b0 ∧ a1 = b1 ∧ l = m ∧ a3 = b3 ∧ a4 = b4 ∧ a5 = b5 ∧ a6 = b6 ∧ a7 = b7 ∧ a8 = b8 ∧ a9 = b9)) := by
  unfold duetref04_Same.f
  by_cases h0 : a0 = b0
  · rw [if_pos h0]
    by_cases h1 : a1 = b1
    · rw [if_pos h1]
      by_cases h2 : (a3 == b3 && (a4 == b4 && ((a5 == b5 && (a6 == b6)) && ((a7 == b7 && (a8 == b8)) && (a9 == b9))))) = true
      · rw [if_pos h2, same_is l m K hl hK, Option.bind_some]
        simp only [Bool.and_eq_true, beq_iff_eq] at h2
        refine ⟨_, rfl, ?_⟩
        rw [decide_eq_true_eq]
        exact ⟨fun h => ⟨h0, h1, h, h2.1, h2.2.1, h2.2.2.1.1, h2.2.2.1.2, h2.2.2.2.1.1, h2.2.2.2.1.2, h2.2.2.2.2⟩, fun h => h.2.2.1⟩
      · rw [if_neg h2]
        refine ⟨_, rfl, fun h => (by cases h), ?_⟩
        rintro ⟨_, _, _, rfl, rfl, rfl, rfl, rfl, rfl, rfl⟩
        simp at h2
    · rw [if_neg h1]
      exact ⟨_, rfl, fun h => (by cases h), fun h => absurd h.2.1 h1⟩
  · rw [if_neg h0]
    exact ⟨_, rfl, fun h => (by cases h), fun h => absurd h.1 h0⟩
section
variable {a0 a1 : Int} {l : List Int} {a3 a4 a5 a6 a7 a8 a9 : Int}
end
/-- The reference's answers. -/
theorem ref_op (a0 n a3 a4 a5 a6 a7 a8 a9 : Int) (a1 : Int) (l : List Int) (hn : n = l.length) : duetref04_op.opb a3 a4 a5 a6 a7 a8 a9 a0 n = !(mesg_Check.b4 a0 a1 l a3 a4 a5 a6 a7 a8 a9 || (mesg_Check.b5 a0 a1 l a3 a4 a5 a6 a7 a8 a9 || (mesg_Check.b6 a0 a1 l a3 a4 a5 a6 a7 a8 a9 || (mesg_Check.b7 a0 a1 l a3 a4 a5 a6 a7 a8 a9 || mesg_Check.b8 a0 a1 l a3 a4 a5 a6 a7 a8 a9)))) := by
  subst hn
  unfold duetref04_op.opb mesg_Check.b4 mesg_Check.b5 mesg_Check.b6 mesg_Check.b7 mesg_Check.b8
  have hz2 : (a7 = 0 ∧ a8 = 0) = ((a7 == 0 && a8 == 0) = true) := by simp
  have hlt : decide (a7 < a5) = !decide (a5 ≤ a7) := by by_cases h : a5 ≤ a7 <;> simp [h] <;> omega
  have hz : (a7 == 0 && a8 == 0) = true → mesg_Check.mayb a7 a8 (l.length : Int) = false := fun h => by
    simp only [Bool.and_eq_true, beq_iff_eq] at h
    rw [h.1, h.2]; rfl
  have hg : decide (a3 = 1 ∧ a5 ≤ a7) = (decide (a3 = 1) && decide (a5 ≤ a7)) := Bool.decide_and _ _
  simp only [bne, hz2, hlt, hg]
  clear hz2 hlt hg
  generalize mesg_Check.mayb a5 a6 (l.length : Int) = p
  generalize mesg_Check.mayb a7 a8 (l.length : Int) = q at *
  generalize mesg_Check.clk a4 = c
  generalize mesg_Check.runeb a9 = u
  generalize (a7 == 0 && a8 == 0) = z at *
  generalize (a5 == 0 && a6 == 0) = x
  generalize (a6 == a0) = e
  generalize (a9 == 0) = y
  generalize decide (a5 ≤ a7) = g
  have hk : a3 = 1 ∨ (a3 = 2 ∨ a3 = 3 ∨ a3 = 4 ∨ a3 = 7 ∨ a3 = 8) ∨ a3 = 5 ∨ a3 = 6 ∨ (a3 < 1 ∨ 8 < a3) := by omega
  rcases hk with rfl | (rfl | rfl | rfl | rfl | rfl) | rfl | rfl | hk
  case inr.inr.inr.inr =>
    rw [if_neg (show ¬ a3 = 1 by omega), if_neg (show ¬ (a3 = 2 ∨ a3 = 3 ∨ a3 = 4 ∨ a3 = 7 ∨ a3 = 8) by omega), if_neg (show ¬ a3 = 5 by omega), if_neg (show ¬ a3 = 6 by omega)]
    rcases hk with h | h
    · rw [decide_eq_true h]; simp
    · rw [decide_eq_true h]; simp
  all_goals
    revert hz
    revert p q c u z x e y g
    decide
theorem ref_clk (x : Int) : duetref04_clock.f x = some (mesg_Check.clk x) := duetref04_op.clk_is x
theorem ref_check_loop (a0 a1 : Int) (l : List Int) (a3 a4 a5 a6 a7 a8 a9 : Int) (hl : l.length ≤ 1000) : ∀ (d j K : Nat), j + d = l.length → duetref04_Check.l0 (K + d + 1) l.length j a0 a1 l a3 a4 a5 a6 a7 a8 a9 = some (if mesg_Check.anyb (l.drop j) then 1 else 0) := by
  intro d
  induction d with
  | zero =>
    intro j K hj
    rw [Nat.add_zero]
    simp only [duetref04_Check.l0]
    rw [if_neg (by omega), List.drop_of_length_le (by omega)]
    rfl
  | succ d ih =>
    intro j K hj
    rw [show K + (d + 1) + 1 = (K + d + 1) + 1 by omega]
    have ihj := ih (j + 1) K (by omega)
    generalize K + d + 1 = q at *
    simp only [duetref04_Check.l0]
    rw [if_pos (by omega), if_pos (by omega), if_pos (by omega), ref_clk, Option.bind_some, rd_drop l j (by omega)]
    unfold mesg_Check.anyb at ihj ⊢
    rw [List.any_cons]
    cases hc : mesg_Check.clk (rd l j) with
    | true =>
      rw [if_pos rfl, show wrap64 ((j : Int) + 1) = ((j + 1 : Nat) : Int) by unfold wrap64; omega, ihj]
      rfl
    | false => rfl
theorem ref_check (a0 a1 : Int) (l : List Int) (a3 a4 a5 a6 a7 a8 a9 : Int) (hl : l.length ≤ 140737488351232) (K : Nat) (hK : 20 ≤ K) : duetref04_Check.f K a0 a1 l a3 a4 a5 a6 a7 a8 a9 = mesg_Check.f a0 a1 l a3 a4 a5 a6 a7 a8 a9 := by
  unfold mesg_Check.f mesg_Check.bad8
  have hj1 : ∀ q, duetref04_Check.j0 (q + 1) l.length true a0 a1 l a3 a4 a5 a6 a7 a8 a9 = some 1 := fun q => by simp only [duetref04_Check.j0]; rw [if_pos trivial]
  obtain ⟨q, rfl⟩ : ∃ q, K = q + 1 := ⟨K - 1, by omega⟩
  unfold duetref04_Check.f
  have hb1 : ∀ h : mesg_Check.b1 a0 a1 l a3 a4 a5 a6 a7 a8 a9 = true, (some (if (mesg_Check.b1 a0 a1 l a3 a4 a5 a6 a7 a8 a9 || (mesg_Check.b2 a0 a1 l a3 a4 a5 a6 a7 a8 a9 || (mesg_Check.anyb l || (mesg_Check.b4 a0 a1 l a3 a4 a5 a6 a7 a8 a9 || (mesg_Check.b5 a0 a1 l a3 a4 a5 a6 a7 a8 a9 || (mesg_Check.b6 a0 a1 l a3 a4 a5 a6 a7 a8 a9 || (mesg_Check.b7 a0 a1 l a3 a4 a5 a6 a7 a8 a9 || mesg_Check.b8 a0 a1 l a3 a4 a5 a6 a7 a8 a9))))))) = true then (1 : Int) else 0)) = some 1 := fun h => by rw [h, Bool.true_or, if_pos rfl]
  by_cases c1 : (l.length : Int) < 1
  · rw [if_pos c1, hj1, hb1 (by simp [mesg_Check.b1, c1])]
  rw [if_neg c1]
  by_cases c2 : (l.length : Int) > 16
  · rw [if_pos c2, hj1, hb1 (by unfold mesg_Check.b1; rw [decide_eq_true (show 16 < (l.length : Int) from c2)]; simp)]
  rw [if_neg c2]
  by_cases c3 : a0 < 0
  · rw [if_pos c3, hj1, hb1 (by unfold mesg_Check.b1; rw [decide_eq_true c3]; simp)]
  rw [if_neg c3]
  by_cases c4 : a0 ≥ (l.length : Int)
  · rw [if_pos c4, hj1, hb1 (by unfold mesg_Check.b1; rw [decide_eq_true (show (l.length : Int) ≤ a0 from c4)]; simp)]
  rw [if_neg c4]
  have h1 : mesg_Check.b1 a0 a1 l a3 a4 a5 a6 a7 a8 a9 = false := by
    unfold mesg_Check.b1
    rw [decide_eq_false c1, decide_eq_false (show ¬ 16 < (l.length : Int) by omega), decide_eq_false c3, decide_eq_false (show ¬ (l.length : Int) ≤ a0 by omega)]
    rfl
  rw [h1, Bool.false_or]
  have hb2 : ∀ h : mesg_Check.b2 a0 a1 l a3 a4 a5 a6 a7 a8 a9 = true, (some (if (mesg_Check.b2 a0 a1 l a3 a4 a5 a6 a7 a8 a9 || (mesg_Check.anyb l || (mesg_Check.b4 a0 a1 l a3 a4 a5 a6 a7 a8 a9 || (mesg_Check.b5 a0 a1 l a3 a4 a5 a6 a7 a8 a9 || (mesg_Check.b6 a0 a1 l a3 a4 a5 a6 a7 a8 a9 || (mesg_Check.b7 a0 a1 l a3 a4 a5 a6 a7 a8 a9 || mesg_Check.b8 a0 a1 l a3 a4 a5 a6 a7 a8 a9)))))) = true then (1 : Int) else 0)) = some 1 := fun h => by rw [h, Bool.true_or, if_pos rfl]
  by_cases c5 : a1 < 1
  · rw [if_pos c5, hj1, hb2 (by unfold mesg_Check.b2; rw [decide_eq_true c5]; simp)]
  rw [if_neg c5, ref_clk, Option.bind_some]
  cases hc : mesg_Check.clk a1 with
  | false => rw [if_neg (by decide), hj1, hb2 (by unfold mesg_Check.b2; rw [hc]; simp)]
  | true =>
    rw [if_pos rfl, if_pos (by omega), if_pos (by omega)]
    by_cases c6 : rd l a0 = wrap64 (a1 - 1)
    · have h2 : mesg_Check.b2 a0 a1 l a3 a4 a5 a6 a7 a8 a9 = false := by
        unfold mesg_Check.b2
        rw [decide_eq_false c5, hc, c6]
        simp
      rw [if_pos c6, h2, Bool.false_or]
      have e : ∀ b : Bool, duetref04_Check.j0 (q + 1) l.length (!b) a0 a1 l a3 a4 a5 a6 a7 a8 a9 = some (if (mesg_Check.anyb l || !b) = true then (1 : Int) else 0) := by
        intro b
        cases b with
        | false => rw [Bool.not_false, hj1, Bool.or_true, if_pos rfl]
        | true =>
          have hloop := ref_check_loop a0 a1 l a3 a4 a5 a6 a7 a8 a9 (by omega) l.length 0 (q - l.length - 1) (by omega)
          rw [show q - l.length - 1 + l.length + 1 = q by omega, List.drop_zero] at hloop
          simp only [duetref04_Check.j0]
          rw [Bool.not_true, if_neg (by decide), Bool.or_false]
          exact hloop
      unfold duetref04_op.f
      rw [Option.bind_some, e, ref_op a0 l.length a3 a4 a5 a6 a7 a8 a9 a1 l rfl, Bool.not_not]
    · rw [if_neg c6, hj1, hb2 (by unfold mesg_Check.b2; rw [bne_iff_ne.mpr c6]; simp)]
section
variable {a0 a1 : Int} {l : List Int} {a3 a4 a5 a6 a7 a8 a9 : Int}
end
theorem bind_self {x : Option (Int × ByteArray × Int)} : (x.bind fun b => some (b.1, b.2.1, b.2.2)) = x := by cases x <;> rfl
theorem ref_num0 (K : Nat) (hK : 12 ≤ K) (s : ByteArray) : duetref04_reader_num.f K s 0 = pack_Take.f s := by
  unfold duetref04_reader_num.f
  rw [if_pos rfl, ref_take s K hK, bind_self]
theorem ref_numE (K : Nat) (s : ByteArray) (e : Int) (he : e ≠ 0) : duetref04_reader_num.f K s e = some (0, s, e) := by
  unfold duetref04_reader_num.f
  rw [if_neg he]
theorem ref_idE (K : Nat) (s : ByteArray) (e : Int) (he : e ≠ 0) : duetref04_reader_id.f K s e = some (0, 0, s, e) := by
  unfold duetref04_reader_id.f
  rw [ref_numE K s e he, Option.bind_some, ref_numE K _ _ he, Option.bind_some]
theorem take_any (s : ByteArray) : ∃ n r e, pack_Take.f s = some (n, r, e) := by
  rcases take_cases s with ⟨n, r, _, _, h⟩ | ⟨e, _, h⟩
  · exact ⟨n, r, 0, h⟩
  · exact ⟨0, ⟨#[]⟩, e, h⟩
theorem sim (K : Nat) (hK : 12 ≤ K) (s : ByteArray) (c : Int → ByteArray → Option (Int × Int × List Int × Int × Int × Int × Int × Int × Int × Int × Int)) (g : Int × ByteArray × Int → Option (Int × Int × List Int × Int × Int × Int × Int × Int × Int × Int × Int))
    (h0 : ∀ n r, g (n, r, 0) = c n r) (he : ∀ n r e, e ≠ 0 → g (n, r, e) = mesg_Decode.bad e) : (duetref04_reader_num.f K s 0).bind g = mesg_Decode.num s c := by
  unfold mesg_Decode.num
  rw [ref_num0 K hK]
  obtain ⟨n, r, e, h⟩ := take_any s
  rw [h, Option.bind_some, Option.bind_some]
  by_cases h2 : e = 0
  · subst h2; rw [if_pos rfl]; exact h0 n r
  · rw [if_neg h2]; exact he n r e h2
theorem sim2 (K : Nat) (hK : 12 ≤ K) (s : ByteArray) (c : Int → Int → ByteArray → Option (Int × Int × List Int × Int × Int × Int × Int × Int × Int × Int × Int)) (g : Int × Int × ByteArray × Int → Option (Int × Int × List Int × Int × Int × Int × Int × Int × Int × Int × Int))
    (h0 : ∀ a b r, g (a, b, r, 0) = c a b r) (he : ∀ a b r e, e ≠ 0 → g (a, b, r, e) = mesg_Decode.bad e) : (duetref04_reader_id.f K s 0).bind g = mesg_Decode.ids s c := by
  unfold mesg_Decode.ids duetref04_reader_id.f
  rw [Option.bind_assoc]
  refine sim K hK s _ _ (fun n r => ?_) (fun n r e h => ?_)
  · simp only
    rw [Option.bind_assoc]
    refine sim K hK r _ _ (fun m t => ?_) (fun m t e h => ?_)
    · rw [Option.bind_some]; exact h0 n m t
    · rw [Option.bind_some]; exact he n m t e h
  · simp only
    rw [ref_numE K r e h, Option.bind_some, Option.bind_some]
    exact he n 0 r e h
theorem ref_finE (K : Nat) (a0 a1 : Int) (l : List Int) (a3 a4 a5 a6 a7 a8 a9 : Int) (s : ByteArray) (e : Int) (he : e ≠ 0) : duetref04_Decode.fin K a0 a1 l a3 a4 a5 a6 a7 a8 a9 s e = mesg_Decode.bad e := by
  unfold duetref04_Decode.fin
  rw [if_neg he]
  rfl
theorem ref_fin0 (K : Nat) (hK : 20 ≤ K) (a0 a1 : Int) (l : List Int) (hl : l.length ≤ 140737488351232) (a3 a4 a5 a6 a7 a8 a9 : Int) (s : ByteArray) : duetref04_Decode.fin K a0 a1 l a3 a4 a5 a6 a7 a8 a9 s 0 = mesg_Decode.fin s a0 a1 l a3 a4 a5 a6 a7 a8 a9 := by
  unfold duetref04_Decode.fin mesg_Decode.fin
  rw [if_pos rfl, ref_check _ _ _ _ _ _ _ _ _ _ hl K hK]
  rfl
theorem ref_tailE (K : Nat) (a0 a1 : Int) (l : List Int) (a3 a4 : Int) (s : ByteArray) (e : Int) (he : e ≠ 0) : duetref04_Decode.tail K a0 a1 l a3 a4 s e = mesg_Decode.bad e := by
  unfold duetref04_Decode.tail
  by_cases k1 : a3 = 1
  · rw [if_pos k1, ref_idE K s e he, Option.bind_some]
    simp only
    rw [ref_idE K s e he, Option.bind_some]
    simp only
    rw [ref_numE K s e he, Option.bind_some]
    exact ref_finE K _ _ _ _ _ _ _ _ _ _ _ _ he
  · rw [if_neg k1]
    by_cases k6 : a3 = 6
    · rw [if_pos k6, ref_idE K s e he, Option.bind_some]
      exact ref_finE K _ _ _ _ _ _ _ _ _ _ _ _ he
    · rw [if_neg k6, ref_idE K s e he, Option.bind_some]
      exact ref_finE K _ _ _ _ _ _ _ _ _ _ _ _ he
theorem ref_tail0 (K : Nat) (hK : 20 ≤ K) (a0 a1 : Int) (l : List Int) (hl : l.length ≤ 140737488351232) (a3 a4 : Int) (s : ByteArray) : duetref04_Decode.tail K a0 a1 l a3 a4 s 0 = mesg_Decode.tail a0 a1 l a3 a4 s := by
  unfold duetref04_Decode.tail mesg_Decode.tail
  by_cases k1 : a3 = 1
  · rw [if_pos k1, if_pos k1]
    refine sim2 K (by omega) s _ _ (fun a b r => ?_) (fun a b r e h => ?_)
    · refine sim2 K (by omega) r _ _ (fun c d t => ?_) (fun c d t e h => ?_)
      · refine sim K (by omega) t _ _ (fun q u => ?_) (fun q u e h => ?_)
        · exact ref_fin0 K hK _ _ _ hl _ _ _ _ _ _ _ _
        · exact ref_finE K _ _ _ _ _ _ _ _ _ _ _ _ h
      · simp only
        rw [ref_numE K t e h, Option.bind_some]
        exact ref_finE K _ _ _ _ _ _ _ _ _ _ _ _ h
    · simp only
      rw [ref_idE K r e h, Option.bind_some]
      simp only
      rw [ref_numE K r e h, Option.bind_some]
      exact ref_finE K _ _ _ _ _ _ _ _ _ _ _ _ h
  · rw [if_neg k1, if_neg k1]
    by_cases k6 : a3 = 6
    · rw [if_pos k6, if_pos k6]
      refine sim2 K (by omega) s _ _ (fun a b r => ?_) (fun a b r e h => ?_)
      · exact ref_fin0 K hK _ _ _ hl _ _ _ _ _ _ _ _
      · exact ref_finE K _ _ _ _ _ _ _ _ _ _ _ _ h
    · rw [if_neg k6, if_neg k6]
      refine sim2 K (by omega) s _ _ (fun a b r => ?_) (fun a b r e h => ?_)
      · exact ref_fin0 K hK _ _ _ hl _ _ _ _ _ _ _ _
      · exact ref_finE K _ _ _ _ _ _ _ _ _ _ _ _ h
theorem ref_midE (K : Nat) (a0 a1 : Int) (l : List Int) (s : ByteArray) (e : Int) (he : e ≠ 0) : duetref04_Decode.mid K a0 a1 l s e = mesg_Decode.bad e := by
  unfold duetref04_Decode.mid
  rw [ref_numE K s e he, Option.bind_some]
  simp only
  rw [duetref04_Decode.kerr4 he, ref_numE K s e he, Option.bind_some]
  exact ref_tailE K _ _ _ _ _ _ _ he
theorem ref_mid0 (K : Nat) (hK : 20 ≤ K) (a0 a1 : Int) (l : List Int) (hl : l.length ≤ 140737488351232) (s : ByteArray) : duetref04_Decode.mid K a0 a1 l s 0 = mesg_Decode.kind s a0 a1 l := by
  unfold duetref04_Decode.mid mesg_Decode.kind
  refine sim K (by omega) s _ _ (fun n r => ?_) (fun n r e h => ?_)
  · simp only
    by_cases k0 : n < 1
    · rw [if_pos k0, duetref04_Decode.kerr1 k0, ref_numE K r 2 (by decide), Option.bind_some]
      exact ref_tailE K _ _ _ _ _ _ _ (show (2 : Int) ≠ 0 by decide)
    · rw [if_neg k0]
      by_cases k8 : 8 < n
      · rw [if_pos k8, duetref04_Decode.kerr2 k0 k8, ref_numE K r 2 (by decide), Option.bind_some]
        exact ref_tailE K _ _ _ _ _ _ _ (show (2 : Int) ≠ 0 by decide)
      · rw [if_neg k8, duetref04_Decode.kerr3 k0 k8]
        refine sim K (by omega) r _ _ (fun m t => ?_) (fun m t e h => ?_)
        · exact ref_tail0 K hK _ _ _ hl _ _ _
        · exact ref_tailE K _ _ _ _ _ _ _ h
  · simp only
    rw [duetref04_Decode.kerr4 h, ref_numE K r e h, Option.bind_some]
    exact ref_tailE K _ _ _ _ _ _ _ h
theorem ref_decode (K : Nat) (hK : 1100 ≤ K) (s : ByteArray) : duetref04_Decode.f K s = mesg_Decode.f K s := by
  unfold duetref04_Decode.f mesg_Decode.f
  refine sim K (by omega) s _ _ (fun n r => ?_) (fun n r e h => ?_)
  · refine sim K (by omega) r _ _ (fun m t => ?_) (fun m t e h => ?_)
    · simp only
      rw [if_pos trivial, ref_each t K (by omega), each_is t K (by omega), Option.bind_some, Option.bind_some]
      have hl := eachF_len t
      by_cases h : (eachF t).2.2 = 0
      · rw [if_pos h, h]
        exact ref_mid0 K (by omega) _ _ _ (by omega) _
      · rw [if_neg h]
        exact ref_midE K _ _ _ _ _ h
    · simp only
      rw [if_neg h]
      exact ref_midE K _ _ _ _ _ h
  · simp only
    rw [ref_numE K r e h, Option.bind_some]
    simp only
    rw [if_neg h]
    exact ref_midE K _ _ _ _ _ h

end Go.Proofs.Ythofobcbbddeeaa.MesrL
