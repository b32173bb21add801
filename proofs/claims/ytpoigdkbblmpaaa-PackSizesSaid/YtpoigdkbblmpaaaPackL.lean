/- What the functions of layer 1 (pack) and of its reference answer, as plain facts on numbers, lists and bytes. Conditions: none beyond those that each lemma states. -/
import Derived.Test.YtpoigdkbblmpaaaPPackx
import Derived.Test.YtpoigdkbblmpaaaXW
namespace Go.Proofs.Ytpoigdkbblmpaaa.PackL
open Go.RowKit Go.Proofs.Ytpoigdkbblmpaaa.PPack Go.Proofs.YtpoigdkbblmpaaaW.PrintWords Go.Proofs.YtpoigdkbblmpaaaW.PrintLast Go.Proofs.YtpoigdkbblmpaaaW.PrintMore Go.Proofs.Ytpoigdkbblmpaaa.XW
set_option linter.unusedVariables false
set_option linter.unusedSimpArgs false

theorem size_str (xs : List Int) : (strOfNums xs).size = xs.length := by
  show (strOfNums xs).data.size = _
  simp [strOfNums]
theorem bt_str (xs : List Int) (hx : ∀ x ∈ xs, 0 ≤ x ∧ x ≤ 255) (i : Int) : bt (strOfNums xs) i = rd xs i := by
  unfold bt rd
  split
  · rename_i h
    have hl : i.toNat < xs.length := by rw [size_str] at h; exact h
    have hm := hx _ (List.getElem_mem hl)
    simp only [List.getD_eq_getElem?_getD, List.getElem?_eq_getElem hl, Option.getD_some]
    show (((strOfNums xs).data[i.toNat]'h).toNat : Int) = _
    simp [strOfNums]
    omega
  · rename_i h
    rw [size_str] at h
    simp [List.getD_eq_getElem?_getD, List.getElem?_eq_none (show xs.length ≤ i.toNat by omega)]
theorem bt_app (a b : ByteArray) (i : Int) (h0 : 0 ≤ i) : bt (a ++ b) i = if i < a.size then bt a i else bt b (i - a.size) := by
  unfold bt
  by_cases h : i < a.size
  · rw [if_pos h, dif_pos (by rw [ByteArray.size_append]; omega), dif_pos (by omega), ByteArray.getElem_append_left (by omega)]
  · rw [if_neg h]
    by_cases h2 : i.toNat < (a ++ b).size
    · have h3 : i.toNat < a.size + b.size := by rw [ByteArray.size_append] at h2; exact h2
      rw [dif_pos h2, dif_pos (by omega), ByteArray.getElem_append_right (by omega)]
      have e : (i - (a.size : Int)).toNat = i.toNat - a.size := by omega
      simp only [e]
    · have h3 : ¬ i.toNat < a.size + b.size := by rw [ByteArray.size_append] at h2; exact h2
      rw [dif_neg h2, dif_neg (by omega)]
theorem ext_bt (a b : ByteArray) (hs : a.size = b.size) (h : ∀ i : Nat, i < a.size → bt a i = bt b i) : a = b := by
  apply ByteArray.ext
  apply Array.ext
  · exact hs
  · intro i h1 h2
    have h1' : i < a.size := h1
    have h2' : i < b.size := h2
    have := h i h1'
    unfold bt at this
    simp only [Int.toNat_natCast] at this
    rw [dif_pos h1', dif_pos h2'] at this
    have h3 : (a[i]'h1').toNat = (b[i]'h2').toNat := by omega
    exact UInt8.toNat_inj.mp h3
theorem toList_inj {a b : ByteArray} (h : a.toList = b.toList) : a = b := by
  rw [ByteArray.toList_eq, ByteArray.toList_eq] at h
  apply ByteArray.ext
  apply Array.ext'
  exact h
theorem toList_iff {a b : ByteArray} : a.toList = b.toList ↔ a = b := ⟨toList_inj, fun h => by rw [h]⟩
theorem toList_empty {a : ByteArray} : a.toList = [] ↔ a.size = 0 := by
  rw [← toList_size]
  exact ⟨fun h => by rw [h]; rfl, fun h => List.eq_nil_of_length_eq_zero h⟩
theorem app_extract_right (a b : ByteArray) : (a ++ b).extract a.size (a ++ b).size = b := by
  apply ext_bt
  · rw [ByteArray.size_extract, ByteArray.size_append]; omega
  · intro i hi
    rw [ByteArray.size_extract, ByteArray.size_append] at hi
    rw [bt_extract _ _ _ _ (by omega) (Nat.le_refl _) (by rw [ByteArray.size_append]; omega), bt_app _ _ _ (by omega), if_neg (by omega)]
    congr 1
    omega
theorem app_extract_left (a b : ByteArray) : (a ++ b).extract 0 a.size = a := by
  apply ext_bt
  · rw [ByteArray.size_extract, ByteArray.size_append]; omega
  · intro i hi
    rw [ByteArray.size_extract, ByteArray.size_append] at hi
    rw [bt_extract _ _ _ _ (by omega) (by rw [ByteArray.size_append]; omega) (by omega), bt_app _ _ _ (by omega), if_pos (by omega)]
    congr 1

/-- A number's bytes. -/
def numB (n : Int) : List Int := if n < 248 then [n % 256] else if n > 16777215 then [251, n / 16777216 % 256, n / 65536 % 256, n / 256 % 256, n % 256] else if n > 65535 then [250, n / 65536 % 256, n / 256 % 256, n % 256] else if n > 255 then [249, n / 256 % 256, n % 256] else [248, n % 256]
def S (n : Int) : ByteArray := strOfNums (numB n)
def Cl (n : Int) : Prop := 0 ≤ n ∧ n ≤ 4294967295
instance (n : Int) : Decidable (Cl n) := inferInstanceAs (Decidable (0 ≤ n ∧ n ≤ 4294967295))
theorem numB_range (n : Int) : ∀ x ∈ numB n, 0 ≤ x ∧ x ≤ 255 := by
  intro x hx
  unfold numB at hx
  repeat' split at hx
  all_goals
    simp only [List.mem_cons, List.not_mem_nil, or_false] at hx
    omega
theorem S_size (n : Int) : (S n).size = (numB n).length := size_str _
theorem bt_S (n i : Int) : bt (S n) i = rd (numB n) i := bt_str _ (numB_range n) i
theorem numB_len (n : Int) : 1 ≤ (numB n).length ∧ (numB n).length ≤ 5 := by
  unfold numB
  repeat' split
  all_goals simp

theorem str_app (a b : List Int) : strOfNums a ++ strOfNums b = strOfNums (a ++ b) := by
  apply ByteArray.ext
  simp [strOfNums]
theorem num_ok (k : Nat) (n : Int) (h : Cl n) : pack_Num.f (k + 1) n = some (S n, 0) := by
  obtain ⟨h0, h1⟩ := h
  unfold pack_Num.f
  rw [if_neg (by omega), show decide (n > 4294967295) = false from decide_eq_false (by omega)]
  simp only [pack_Num.j0]
  unfold S numB
  rw [if_neg (show ¬ (false = true) by decide)]
  by_cases c : n < 248
  · rw [if_pos c, if_pos c]
  · rw [if_neg c, if_neg c]
    unfold pack_width.f
    by_cases c1 : n > 16777215
    · rw [if_pos c1, if_pos c1]; simp [show wrap64 251 = 251 by unfold wrap64; omega]
    · rw [if_neg c1, if_neg c1]
      by_cases c2 : n > 65535
      · rw [if_pos c2, if_pos c2]; simp [show wrap64 250 = 250 by unfold wrap64; omega]
      · rw [if_neg c2, if_neg c2]
        by_cases c3 : n > 255
        · rw [if_pos c3, if_pos c3]; simp [show wrap64 249 = 249 by unfold wrap64; omega]
        · rw [if_neg c3, if_neg c3]; simp [show wrap64 248 = 248 by unfold wrap64; omega]
theorem num_no (k : Nat) (n : Int) (h : ¬ Cl n) : pack_Num.f (k + 1) n = some (⟨#[]⟩, 1) := by
  unfold pack_Num.f
  unfold Cl at h
  by_cases c : n < 0
  · rw [if_pos c]; rfl
  · rw [if_neg c, show decide (n > 4294967295) = true from decide_eq_true (by omega)]; rfl
theorem ref_len (x : Int) (r : List Int) (hr : r.length ≤ 3) : ((x :: r).length : Int) ≤ 4 ∧ 0 < ((x :: r).length : Int) := by
  simp only [List.length_cons]; omega
theorem ref_hw (m : Int) (h0 : 0 < m) (h1 : m ≤ 4) : (wrap64 (247 + m)) % 256 = 247 + m := by unfold wrap64; omega
theorem ref_hz (m : Int) (x : Int) (r : List Int) (hr : r.length ≤ 3) : (strOfNums [m]).size + (strOfNums (x :: r)).size ≤ 9223372036854775807 := by
  rw [size_str, size_str]
  simp only [List.length_cons, List.length_nil]
  omega
theorem ref_stop (k : Nat) (x : Int) (r : List Int) (hr : r.length ≤ 3) (hx : x ≠ 0) : duetref01_Num.l0 (k + 1) (x :: r) = some (strOfNums ((247 + ((x :: r).length : Int)) :: x :: r), 0) := by
  obtain ⟨hl, hp⟩ := ref_len x r hr
  simp only [duetref01_Num.l0]
  rw [if_pos hp, if_neg (show ¬ rd (x :: r) 0 = 0 from hx)]
  rw [Option.bind_some, ref_hw _ hp hl, if_pos (ref_hz _ x r hr), str_app, List.cons_append, List.nil_append]
theorem ref_skip (k : Nat) (r : List Int) (hr : 0 < r.length) : duetref01_Num.l0 (k + 1) (0 :: r) = duetref01_Num.l0 k r := by
  simp only [duetref01_Num.l0]
  rw [if_pos (by simp only [List.length_cons]; omega), if_pos (show rd (0 :: r) 0 = 0 from rfl), if_pos (by simp only [List.length_cons]; omega), show (1 : Int).toNat = 1 from rfl, List.drop_succ_cons, List.drop_zero]
theorem ref_ok (k : Nat) (n : Int) (h : Cl n) : duetref01_Num.f (k + 6) n = some (S n, 0) := by
  obtain ⟨h0, h1⟩ := h
  unfold duetref01_Num.f
  rw [if_neg (by omega), show decide (n > 4294967295) = false from decide_eq_false (by omega)]
  simp only [duetref01_Num.j0]
  unfold S numB
  rw [if_neg (show ¬ (false = true) by decide)]
  by_cases c : n < 248
  · rw [if_pos c, if_pos c]
  · rw [if_neg c, if_neg c]
    have e3 : (wrap64 (Int.tdiv n 16777216)) % 256 = n / 16777216 % 256 := by
      rw [Int.tdiv_eq_ediv_of_nonneg h0]; unfold wrap64; omega
    have e2 : (Int.tmod (wrap64 (Int.tdiv n 65536)) 256) % 256 = n / 65536 % 256 := by
      rw [Int.tdiv_eq_ediv_of_nonneg h0, show wrap64 (n / 65536) = n / 65536 by unfold wrap64; omega, Int.tmod_eq_emod_of_nonneg (by omega)]; omega
    have e1 : (Int.tmod (wrap64 (Int.tdiv n 256)) 256) % 256 = n / 256 % 256 := by
      rw [Int.tdiv_eq_ediv_of_nonneg h0, show wrap64 (n / 256) = n / 256 by unfold wrap64; omega, Int.tmod_eq_emod_of_nonneg (by omega)]; omega
    have e0 : (Int.tmod n 256) % 256 = n % 256 := by
      rw [Int.tmod_eq_emod_of_nonneg h0]; omega
    rw [e3, e2, e1, e0]
    by_cases c1 : n > 16777215
    · rw [if_pos c1, ref_stop _ _ _ (by simp) (by omega)]; simp
    · rw [if_neg c1, show n / 16777216 % 256 = 0 by omega, ref_skip _ _ (by simp)]
      by_cases c2 : n > 65535
      · rw [if_pos c2, ref_stop _ _ _ (by simp) (by omega)]; simp
      · rw [if_neg c2, show n / 65536 % 256 = 0 by omega, ref_skip _ _ (by simp)]
        by_cases c3 : n > 255
        · rw [if_pos c3, ref_stop _ _ _ (by simp) (by omega)]; simp
        · rw [if_neg c3, show n / 256 % 256 = 0 by omega, ref_skip _ _ (by simp), ref_stop _ _ _ (by simp) (by omega)]; simp
theorem ref_no (k : Nat) (n : Int) (h : ¬ Cl n) : duetref01_Num.f (k + 1) n = some (⟨#[]⟩, 1) := by
  unfold duetref01_Num.f
  unfold Cl at h
  by_cases c : n < 0
  · rw [if_pos c]; rfl
  · rw [if_neg c, show decide (n > 4294967295) = true from decide_eq_true (by omega)]; rfl

theorem num_okK (K : Nat) (hK : 1 ≤ K) (n : Int) (h : Cl n) : pack_Num.f K n = some (S n, 0) := by
  obtain ⟨k, rfl⟩ : ∃ k, K = k + 1 := ⟨K - 1, by omega⟩
  exact num_ok k n h
theorem num_noK (K : Nat) (hK : 1 ≤ K) (n : Int) (h : ¬ Cl n) : pack_Num.f K n = some (⟨#[]⟩, 1) := by
  obtain ⟨k, rfl⟩ : ∃ k, K = k + 1 := ⟨K - 1, by omega⟩
  exact num_no k n h
theorem ref_okK (K : Nat) (hK : 6 ≤ K) (n : Int) (h : Cl n) : duetref01_Num.f K n = some (S n, 0) := by
  obtain ⟨k, rfl⟩ : ∃ k, K = k + 6 := ⟨K - 6, by omega⟩
  exact ref_ok k n h
theorem ref_noK (K : Nat) (hK : 1 ≤ K) (n : Int) (h : ¬ Cl n) : duetref01_Num.f K n = some (⟨#[]⟩, 1) := by
  obtain ⟨k, rfl⟩ : ∃ k, K = k + 1 := ⟨K - 1, by omega⟩
  exact ref_no k n h
/-! ### Take -/
theorem split_at (s : ByteArray) (m : Nat) (h : m ≤ s.size) : s = s.extract 0 m ++ s.extract m s.size := by
  apply ext_bt
  · rw [ByteArray.size_append, ByteArray.size_extract, ByteArray.size_extract]; omega
  · intro i hi
    rw [bt_app _ _ _ (by omega), ByteArray.size_extract]
    by_cases c : i < m
    · rw [if_pos (by omega), bt_extract _ _ _ _ (by omega) (by omega) (by omega)]; congr 1
    · rw [if_neg (by omega), bt_extract _ _ _ _ (by omega) (Nat.le_refl _) (by omega)]; congr 1; omega
theorem extract_two (s : ByteArray) (k : Nat) (h : k + 1 ≤ s.size) : (s.extract 1 s.size).extract k (s.extract 1 s.size).size = s.extract (k + 1) s.size := by
  apply ext_bt
  · simp only [ByteArray.size_extract]; omega
  · intro i hi
    simp only [ByteArray.size_extract] at hi
    rw [bt_extract _ _ _ _ (by omega) (Nat.le_refl _) (by rw [ByteArray.size_extract]; omega), bt_extract _ _ _ _ (by omega) (Nat.le_refl _) (by omega), bt_extract _ _ _ _ (by omega) (Nat.le_refl _) (by omega)]
    congr 1
theorem width_is (n : Int) (k : Nat) (h : pack_width.f n = some (k : Int)) : (k = 4 ∧ n > 16777215) ∨ (k = 3 ∧ 65535 < n ∧ n ≤ 16777215) ∨ (k = 2 ∧ 255 < n ∧ n ≤ 65535) ∨ (k = 1 ∧ n ≤ 255) := by
  unfold pack_width.f at h
  repeat' split at h
  all_goals
    simp only [Option.some.injEq] at h
    omega
theorem width_le (n : Int) : ∃ k : Nat, pack_width.f n = some (k : Int) ∧ 1 ≤ k ∧ k ≤ 4 := by
  unfold pack_width.f
  repeat' split
  · exact ⟨4, rfl, by decide, by decide⟩
  · exact ⟨3, rfl, by decide, by decide⟩
  · exact ⟨2, rfl, by decide, by decide⟩
  · exact ⟨1, rfl, by decide, by decide⟩
theorem take_small (s : ByteArray) (hs : 0 < s.size) (h : bt s 0 ≤ 247) : pack_Take.f s = some (bt s 0, s.extract 1 s.size, 0) := by
  unfold pack_Take.f
  rw [if_neg (by rw [toList_empty]; omega), if_pos h]
theorem take_none (s : ByteArray) (hs : s.size = 0) : pack_Take.f s = some (0, ⟨#[]⟩, 3) := by
  unfold pack_Take.f
  rw [if_pos (by rw [toList_empty]; omega)]
theorem take_far (s : ByteArray) (hs : 0 < s.size) (h : 251 < bt s 0) : pack_Take.f s = some (0, ⟨#[]⟩, 2) := by
  unfold pack_Take.f
  rw [if_neg (by rw [toList_empty]; omega), if_neg (by omega), if_pos h]
theorem take_short (s : ByteArray) (k : Nat) (hs : 0 < s.size) (h : bt s 0 = 247 + k) (hk1 : 1 ≤ k) (hk : k ≤ 4) (hl : s.size < k + 1) : pack_Take.f s = some (0, ⟨#[]⟩, 3) := by
  unfold pack_Take.f
  rw [if_neg (by rw [toList_empty]; omega), if_neg (by omega), if_neg (by omega), if_pos (by omega)]
theorem take_big (s : ByteArray) (k : Nat) (h : bt s 0 = 247 + k) (hk1 : 1 ≤ k) (hk : k ≤ 4) (hl : k + 1 ≤ s.size) :
    pack_Take.f s = if 248 ≤ pack_Take.num s k ∧ pack_width.f (pack_Take.num s k) = some (k : Int) then some (pack_Take.num s k, s.extract (k + 1) s.size, 0) else some (0, ⟨#[]⟩, 2) := by
  unfold pack_Take.f
  rw [if_neg (by rw [toList_empty]; omega), if_neg (by omega), if_neg (by omega), if_neg (by omega), show bt s 0 - 247 = (k : Int) by omega, Int.toNat_natCast]
  by_cases c : pack_Take.num s k < 248
  · rw [if_pos c, if_neg (fun hh => absurd hh.1 (by omega))]
  · rw [if_neg c]
    obtain ⟨q, hq, _, _⟩ := width_le (pack_Take.num s k)
    rw [hq, Option.bind_some]
    by_cases e : (q : Int) = (k : Int)
    · rw [if_pos e, if_pos ⟨by omega, by rw [e]⟩, extract_two s k hl]
    · rw [if_neg e, if_neg (fun hh => e (Option.some.inj hh.2))]
theorem num4 (s : ByteArray) : pack_Take.num s 1 = bt s 1 ∧ pack_Take.num s 2 = 256 * bt s 1 + bt s 2 ∧ pack_Take.num s 3 = 256 * (256 * bt s 1 + bt s 2) + bt s 3 ∧ pack_Take.num s 4 = 256 * (256 * (256 * bt s 1 + bt s 2) + bt s 3) + bt s 4 := by
  have h1 : pack_Take.num s 1 = bt s 1 := by simp [pack_Take.num]
  have h2 : pack_Take.num s 2 = 256 * bt s 1 + bt s 2 := by rw [pack_Take.num, h1]; rfl
  have h3 : pack_Take.num s 3 = 256 * (256 * bt s 1 + bt s 2) + bt s 3 := by rw [pack_Take.num, h2]; rfl
  have h4 : pack_Take.num s 4 = 256 * (256 * (256 * bt s 1 + bt s 2) + bt s 3) + bt s 4 := by rw [pack_Take.num, h3]; rfl
  exact ⟨h1, h2, h3, h4⟩
theorem num_cl (s : ByteArray) (k : Nat) (hk : k ≤ 4) : Cl (pack_Take.num s k) := by
  obtain ⟨h1, h2, h3, h4⟩ := num4 s
  have b1 := bt_range s 1
  have b2 := bt_range s 2
  have b3 := bt_range s 3
  have b4 := bt_range s 4
  unfold Cl
  match k, hk with
  | 0, _ => simp [pack_Take.num]
  | 1, _ => omega
  | 2, _ => omega
  | 3, _ => omega
  | 4, _ => omega
/-- What is read, written. -/
theorem S_of_num (s : ByteArray) (k : Nat) (h : bt s 0 = 247 + k) (hk1 : 1 ≤ k) (hk : k ≤ 4) (hl : k + 1 ≤ s.size) (h248 : 248 ≤ pack_Take.num s k) (hw : pack_width.f (pack_Take.num s k) = some (k : Int)) :
    S (pack_Take.num s k) = s.extract 0 (k + 1) := by
  obtain ⟨h1, h2, h3, h4⟩ := num4 s
  have b1 := bt_range s 1
  have b2 := bt_range s 2
  have b3 := bt_range s 3
  have b4 := bt_range s 4
  have key : ∀ (l : List Int), numB (pack_Take.num s k) = l → l.length = k + 1 → (∀ i : Nat, i < k + 1 → l.getD i 0 = bt s i) → S (pack_Take.num s k) = s.extract 0 (k + 1) := by
    intro l e1 e2 e3
    apply ext_bt
    · rw [S_size, e1, e2, ByteArray.size_extract]; omega
    · intro i hi
      rw [S_size, e1, e2] at hi
      rw [bt_S, e1, bt_extract _ _ _ _ (by omega) hl (by omega), rd, Int.toNat_natCast, e3 i hi]
      congr 1
  rcases width_is _ _ hw with ⟨rfl, c⟩ | ⟨rfl, c⟩ | ⟨rfl, c⟩ | ⟨rfl, c⟩
  · refine key _ (by unfold numB; rw [if_neg (by omega), if_pos c]) rfl (fun i hi => ?_)
    rw [h4]
    match i, hi with
    | 0, _ => simp; omega
    | 1, _ => simp; omega
    | 2, _ => simp; omega
    | 3, _ => simp; omega
    | 4, _ => simp; omega
  · refine key _ (by unfold numB; rw [if_neg (by omega), if_neg (by omega), if_pos c.1]) rfl (fun i hi => ?_)
    rw [h3]
    match i, hi with
    | 0, _ => simp; omega
    | 1, _ => simp; omega
    | 2, _ => simp; omega
    | 3, _ => simp; omega
  · refine key _ (by unfold numB; rw [if_neg (by omega), if_neg (by omega), if_neg (by omega), if_pos c.1]) rfl (fun i hi => ?_)
    rw [h2]
    match i, hi with
    | 0, _ => simp; omega
    | 1, _ => simp; omega
    | 2, _ => simp; omega
  · refine key _ (by unfold numB; rw [if_neg (by omega), if_neg (by omega), if_neg (by omega), if_neg (by omega)]) rfl (fun i hi => ?_)
    rw [h1]
    match i, hi with
    | 0, _ => simp; omega
    | 1, _ => simp; omega
/-- Every text: what Take answers. -/
theorem take_cases (s : ByteArray) : (∃ n r, Cl n ∧ s = S n ++ r ∧ pack_Take.f s = some (n, r, 0)) ∨ (∃ e, (e = 2 ∨ e = 3) ∧ pack_Take.f s = some (0, ⟨#[]⟩, e)) := by
  rcases Nat.eq_zero_or_pos s.size with h0 | h0
  · exact .inr ⟨3, .inr rfl, take_none s h0⟩
  have hb := bt_range s 0
  by_cases c1 : bt s 0 ≤ 247
  · refine .inl ⟨_, _, ⟨hb.1, by omega⟩, ?_, take_small s h0 c1⟩
    have hn : numB (bt s 0) = [bt s 0] := by unfold numB; rw [if_pos (by omega)]; congr 1; omega
    have : S (bt s 0) = s.extract 0 1 := by
      apply ext_bt
      · rw [S_size, hn, ByteArray.size_extract]; simp; omega
      · intro i hi
        rw [S_size, hn] at hi
        have : i = 0 := by simpa using hi
        subst this
        rw [bt_S, hn, bt_extract _ _ _ _ (by omega) (by omega) (by omega)]
        rfl
    rw [this]
    exact split_at s 1 h0
  by_cases c2 : 251 < bt s 0
  · exact .inr ⟨2, .inl rfl, take_far s h0 c2⟩
  obtain ⟨k, hk⟩ : ∃ k : Nat, bt s 0 = 247 + k := ⟨(bt s 0 - 247).toNat, by omega⟩
  by_cases c3 : s.size < k + 1
  · exact .inr ⟨3, .inr rfl, take_short s k h0 hk (by omega) (by omega) c3⟩
  have hb := take_big s k hk (by omega) (by omega) (by omega)
  by_cases c4 : 248 ≤ pack_Take.num s k ∧ pack_width.f (pack_Take.num s k) = some (k : Int)
  · rw [if_pos c4] at hb
    refine .inl ⟨_, _, num_cl s k (by omega), ?_, hb⟩
    rw [S_of_num s k hk (by omega) (by omega) (by omega) c4.1 c4.2]
    exact split_at s (k + 1) (by omega)
  · rw [if_neg c4] at hb
    exact .inr ⟨2, .inl rfl, hb⟩

theorem bt_Sapp (n : Int) (b : ByteArray) (i : Int) (h0 : 0 ≤ i) (h1 : i < (numB n).length) : bt (S n ++ b) i = rd (numB n) i := by
  rw [bt_app _ _ _ h0, S_size, if_pos h1, bt_S]
theorem numB_cases (n : Int) (h : Cl n) : (n < 248 ∧ numB n = [n]) ∨ ∃ k : Nat, 248 ≤ n ∧ 1 ≤ k ∧ k ≤ 4 ∧ pack_width.f n = some (k : Int) ∧ (numB n).length = k + 1 ∧ rd (numB n) 0 = 247 + k ∧
    (k = 1 → n = rd (numB n) 1) ∧ (k = 2 → n = 256 * rd (numB n) 1 + rd (numB n) 2) ∧ (k = 3 → n = 256 * (256 * rd (numB n) 1 + rd (numB n) 2) + rd (numB n) 3) ∧ (k = 4 → n = 256 * (256 * (256 * rd (numB n) 1 + rd (numB n) 2) + rd (numB n) 3) + rd (numB n) 4) := by
  obtain ⟨h0, h1⟩ := h
  unfold numB pack_width.f
  by_cases c : n < 248
  · refine .inl ⟨c, ?_⟩
    rw [if_pos c]
    congr 1
    omega
  · rw [if_neg c]
    refine .inr ?_
    by_cases c1 : n > 16777215
    · rw [if_pos c1, if_pos c1]
      refine ⟨4, by omega, by decide, by decide, rfl, rfl, rfl, by omega, by omega, by omega, fun _ => ?_⟩
      show n = 256 * (256 * (256 * (n / 16777216 % 256) + n / 65536 % 256) + n / 256 % 256) + n % 256
      omega
    · rw [if_neg c1, if_neg c1]
      by_cases c2 : n > 65535
      · rw [if_pos c2, if_pos c2]
        refine ⟨3, by omega, by decide, by decide, rfl, rfl, rfl, by omega, by omega, fun _ => ?_, by omega⟩
        show n = 256 * (256 * (n / 65536 % 256) + n / 256 % 256) + n % 256
        omega
      · rw [if_neg c2, if_neg c2]
        by_cases c3 : n > 255
        · rw [if_pos c3, if_pos c3]
          refine ⟨2, by omega, by decide, by decide, rfl, rfl, rfl, by omega, fun _ => ?_, by omega, by omega⟩
          show n = 256 * (n / 256 % 256) + n % 256
          omega
        · rw [if_neg c3, if_neg c3]
          refine ⟨1, by omega, by decide, by decide, rfl, rfl, rfl, fun _ => ?_, by omega, by omega, by omega⟩
          show n = n % 256
          omega
/-- What is written is read, whatever is behind it. -/
theorem take_S (n : Int) (b : ByteArray) (h : Cl n) : pack_Take.f (S n ++ b) = some (n, b, 0) := by
  rcases numB_cases n h with ⟨c, e⟩ | ⟨k, h248, hk1, hk, hw, hl, hr, q1, q2, q3, q4⟩
  · have hb : bt (S n ++ b) 0 = n := by rw [bt_Sapp n b 0 (by omega) (by rw [e]; simp), e]; rfl
    have hs : (S n).size = 1 := by rw [S_size, e]; rfl
    rw [take_small _ (by rw [ByteArray.size_append]; omega) (by omega), hb]
    have := app_extract_right (S n) b
    rw [hs] at this
    rw [this]
  · have hb : bt (S n ++ b) 0 = 247 + k := by rw [bt_Sapp n b 0 (by omega) (by omega), hr]
    have hs : (S n).size = k + 1 := by rw [S_size, hl]
    have hnum : pack_Take.num (S n ++ b) k = n := by
      obtain ⟨n1, n2, n3, n4⟩ := num4 (S n ++ b)
      match k, hk1, hk with
      | 1, _, _ => rw [n1, bt_Sapp n b 1 (by omega) (by omega)]; exact (q1 rfl).symm
      | 2, _, _ => rw [n2, bt_Sapp n b 1 (by omega) (by omega), bt_Sapp n b 2 (by omega) (by omega)]; exact (q2 rfl).symm
      | 3, _, _ => rw [n3, bt_Sapp n b 1 (by omega) (by omega), bt_Sapp n b 2 (by omega) (by omega), bt_Sapp n b 3 (by omega) (by omega)]; exact (q3 rfl).symm
      | 4, _, _ => rw [n4, bt_Sapp n b 1 (by omega) (by omega), bt_Sapp n b 2 (by omega) (by omega), bt_Sapp n b 3 (by omega) (by omega), bt_Sapp n b 4 (by omega) (by omega)]; exact (q4 rfl).symm
    rw [take_big _ k hb hk1 hk (by rw [ByteArray.size_append]; omega), hnum, if_pos ⟨h248, hw⟩]
    have := app_extract_right (S n) b
    rw [hs] at this
    rw [this]
/-- Cut off it is not read. -/
theorem take_cut (n : Int) (c : Nat) (h : Cl n) (hc : c < (S n).size) : pack_Take.f ((S n).extract 0 c) = some (0, ⟨#[]⟩, 3) := by
  rcases Nat.eq_zero_or_pos c with h0 | h0
  · exact take_none _ (by rw [ByteArray.size_extract]; omega)
  rcases numB_cases n h with ⟨_, e⟩ | ⟨k, h248, hk1, hk, hw, hl, hr, _⟩
  · rw [S_size, e] at hc
    simp at hc
    omega
  · rw [S_size, hl] at hc
    have hz : ((S n).extract 0 c).size = c := by rw [ByteArray.size_extract, S_size, hl]; omega
    refine take_short _ k (by omega) ?_ hk1 hk (by omega)
    rw [bt_extract _ _ _ _ (by omega) (by rw [S_size, hl]; omega) (by omega), bt_S]
    exact hr
theorem S_inj (n m : Int) (hn : Cl n) (hm : Cl m) (a b : ByteArray) (h : S n ++ a = S m ++ b) : n = m ∧ a = b := by
  have h1 := take_S n a hn
  rw [h, take_S m b hm] at h1
  simp only [Option.some.injEq, Prod.mk.injEq] at h1
  exact ⟨h1.1.symm, h1.2.1.symm⟩
/-! ### the reference's Take -/
theorem ref_take_loop (s : ByteArray) (kk : Nat) (hk1 : 1 ≤ kk) (hk : kk ≤ 4) (h : bt s 0 = 247 + kk) (hl : kk + 1 ≤ s.size) (K : Nat) (hK : 6 ≤ K) : ∀ (d j : Nat), j + d = kk →
    duetref01_Take.l0 (K + d + 1) s kk (pack_Take.num s j) ((j : Int) + 1) = pack_Take.f s := by
  intro d
  induction d with
  | zero =>
    intro j hj
    have hj : j = kk := by omega
    subst hj
    simp only [duetref01_Take.l0]
    obtain ⟨K, rfl⟩ : ∃ q, K = q + 6 := ⟨K - 6, by omega⟩
    rw [if_neg (by omega), Nat.add_zero, ref_ok _ _ (num_cl s j hk), Option.bind_some]
    have e1 : wrap64 (1 + (j : Int)) = (j : Int) + 1 := by unfold wrap64; omega
    have e2 : ((j : Int) + 1).toNat = j + 1 := by omega
    rw [e1, if_pos (by omega), if_pos (by omega), e2, take_big s j h hk1 hk hl]
    simp only [toList_iff]
    by_cases c : 248 ≤ pack_Take.num s j ∧ pack_width.f (pack_Take.num s j) = some (j : Int)
    · rw [if_pos c, if_pos (S_of_num s j h hk1 hk hl c.1 c.2)]
    · rw [if_neg c, if_neg]
      intro e
      have hsz : (numB (pack_Take.num s j)).length = j + 1 := by
        rw [← S_size, e, ByteArray.size_extract]; omega
      rcases numB_cases _ (num_cl s j hk) with ⟨_, e3⟩ | ⟨k, h248, _, _, hw, hl2, _⟩
      · rw [e3] at hsz; simp at hsz; omega
      · exact c ⟨h248, by rw [hw, show k = j by omega]⟩
  | succ d ih =>
    intro j hj
    have ihj := ih (j + 1) (by omega)
    have b := bt_range s ((j : Int) + 1)
    have hc := num_cl s j (by omega)
    unfold Cl at hc
    rw [show K + (d + 1) + 1 = (K + d + 1) + 1 by omega]
    simp only [duetref01_Take.l0]
    rw [if_pos (by omega), if_pos (by omega), if_pos (by omega)]
    rw [show wrap64 ((wrap64 (256 * pack_Take.num s j)) + (wrap64 (bt s ((j : Int) + 1)))) = pack_Take.num s (j + 1) by simp only [pack_Take.num]; unfold wrap64; omega]
    rw [show wrap64 ((j : Int) + 1 + 1) = ((j + 1 : Nat) : Int) + 1 by unfold wrap64; omega]
    exact ihj
theorem ref_take (s : ByteArray) (K : Nat) (hK : 12 ≤ K) : duetref01_Take.f K s = pack_Take.f s := by
  unfold duetref01_Take.f
  rcases Nat.eq_zero_or_pos s.size with h0 | h0
  · rw [if_pos (toList_empty.mpr h0), take_none s h0]
  rw [if_neg (by rw [toList_empty]; omega), if_pos (by omega)]
  have hb := bt_range s 0
  rw [show wrap64 (bt s 0) = bt s 0 by unfold wrap64; omega]
  by_cases c1 : bt s 0 < 248
  · rw [if_pos c1, if_pos (by omega), take_small s h0 (by omega)]
  rw [if_neg c1, show wrap64 (bt s 0 - 247) = bt s 0 - 247 by unfold wrap64; omega]
  by_cases c2 : bt s 0 - 247 > 4
  · rw [if_pos c2, take_far s h0 (by omega)]
  rw [if_neg c2, show wrap64 (1 + (bt s 0 - 247)) = 1 + (bt s 0 - 247) by unfold wrap64; omega]
  obtain ⟨k, hk⟩ : ∃ k : Nat, bt s 0 = 247 + k := ⟨(bt s 0 - 247).toNat, by omega⟩
  by_cases c3 : (s.size : Int) < 1 + (bt s 0 - 247)
  · rw [if_pos c3, take_short s k h0 hk (by omega) (by omega) (by omega)]
  · rw [if_neg c3]
    have := ref_take_loop s k (by omega) (by omega) hk (by omega) (K - k - 1) (by omega) k 0 (by omega)
    rw [show K - k - 1 + k + 1 = K by omega] at this
    rw [show bt s 0 - 247 = (k : Int) by omega]
    exact this

/-! ### Text, Cut, List, Each -/
theorem text_is (k : Nat) (s : ByteArray) : pack_Text.f (k + 1) s = if (s.size : Int) > 65535 then some (⟨#[]⟩, 1) else some (S s.size ++ s, 0) := by
  unfold pack_Text.f
  by_cases c : (s.size : Int) > 65535
  · rw [if_pos c, if_pos c]
  · have hl := numB_len s.size
    rw [if_neg c, if_neg c, num_ok k _ ⟨by omega, by omega⟩, Option.bind_some, if_pos (by rw [S_size]; omega)]
theorem ref_text (k : Nat) (s : ByteArray) : duetref01_Text.f (k + 6) s = if (s.size : Int) > 65535 then some (⟨#[]⟩, 1) else some (S s.size ++ s, 0) := by
  unfold duetref01_Text.f
  by_cases c : (s.size : Int) > 65535
  · rw [if_pos c, if_pos c]
  · have hl := numB_len s.size
    rw [if_neg c, if_neg c, ref_ok k _ ⟨by omega, by omega⟩, Option.bind_some, if_pos (by rw [S_size]; omega)]
theorem ref_cut (s : ByteArray) (K : Nat) (hK : 12 ≤ K) : duetref01_Cut.f K s = pack_Cut.f s := by
  unfold duetref01_Cut.f pack_Cut.f
  rw [ref_take s K hK]
def body : List Int → ByteArray
  | [] => ⟨#[]⟩
  | n :: l => S n ++ body l
theorem app_assoc (a b c : ByteArray) : a ++ b ++ c = a ++ (b ++ c) := ByteArray.append_assoc
theorem app_nil (a : ByteArray) : a ++ (⟨#[]⟩ : ByteArray) = a := by
  apply ByteArray.ext
  simp
theorem nil_app (a : ByteArray) : (⟨#[]⟩ : ByteArray) ++ a = a := by
  apply ByteArray.ext
  simp
theorem str_bytes (s : ByteArray) : strOfNums (bytesOf s) = s := by
  apply ext_bt
  · rw [size_str, bytesOf_length]
  · intro i hi
    rw [bt_str, rd_bytesOf]
    intro x hx
    simp only [bytesOf, List.mem_map] at hx
    obtain ⟨b, _, rfl⟩ := hx
    have := b.toNat_lt
    omega
theorem str_more (b : List Int) (s : ByteArray) : strOfNums (b ++ bytesOf s) = strOfNums b ++ s := by
  rw [← str_app, str_bytes]
theorem body_size : ∀ l : List Int, (body l).size ≤ 5 * l.length
  | [] => Nat.le_refl 0
  | n :: l => by
    have h1 := body_size l
    have h2 := numB_len n
    rw [body, ByteArray.size_append, S_size, List.length_cons]
    omega
theorem go_ok : ∀ (l b : List Int), (∀ n ∈ l, Cl n) → b.length + 5 * l.length ≤ 140737488355328 → pack_List.go l b = some (strOfNums b ++ body l, 0)
  | [], b, _, _ => by simp only [pack_List.go, body, app_nil]
  | n :: l, b, h, hb => by
    have hn := h n List.mem_cons_self
    have hl := numB_len n
    simp only [List.length_cons] at hb
    simp only [pack_List.go]
    rw [num_ok 8 n hn, Option.bind_some, if_pos rfl, if_pos (by rw [S_size]; omega), go_ok l _ (fun m hm => h m (List.mem_cons_of_mem _ hm)) (by rw [List.length_append, bytesOf_length, S_size]; omega), str_more, body, app_assoc]
theorem go_no : ∀ (l b : List Int), ¬ (∀ n ∈ l, Cl n) → b.length + 5 * l.length ≤ 140737488355328 → pack_List.go l b = some (⟨#[]⟩, 1)
  | [], b, h, _ => absurd (fun n hn => by cases hn) h
  | n :: l, b, h, hb => by
    have hl := numB_len n
    simp only [List.length_cons] at hb
    simp only [pack_List.go]
    by_cases hn : Cl n
    · rw [num_ok 8 n hn, Option.bind_some, if_pos rfl, if_pos (by rw [S_size]; omega)]
      exact go_no l _ (fun hh => h (fun m hm => by
        rcases List.mem_cons.mp hm with rfl | hm
        · exact hn
        · exact hh m hm)) (by rw [List.length_append, bytesOf_length, S_size]; omega)
    · rw [num_no 8 n hn, Option.bind_some, if_neg (by decide)]
theorem list_far (l : List Int) (h : 1000 < l.length) : pack_List.f l = some (⟨#[]⟩, 1) := by
  unfold pack_List.f
  rw [if_pos (by omega)]
theorem list_ok (l : List Int) (h : l.length ≤ 1000) (hc : ∀ n ∈ l, Cl n) : pack_List.f l = some (S l.length ++ body l, 0) := by
  have hl := numB_len l.length
  unfold pack_List.f
  rw [if_neg (by omega), num_ok 8 _ ⟨by omega, by omega⟩, Option.bind_some, if_pos (by rw [S_size]; omega), go_ok l _ hc (by rw [bytesOf_length, S_size]; omega), str_bytes]
theorem list_no (l : List Int) (h : l.length ≤ 1000) (hc : ¬ ∀ n ∈ l, Cl n) : pack_List.f l = some (⟨#[]⟩, 1) := by
  have hl := numB_len l.length
  unfold pack_List.f
  rw [if_neg (by omega), num_ok 8 _ ⟨by omega, by omega⟩, Option.bind_some, if_pos (by rw [S_size]; omega), go_no l _ hc (by rw [bytesOf_length, S_size]; omega)]
theorem rd_drop (l : List Int) (j : Nat) (h : j < l.length) : l.drop j = rd l j :: l.drop (j + 1) := by
  rw [List.drop_eq_getElem_cons h]
  simp [rd, List.getD_eq_getElem?_getD, List.getElem?_eq_getElem h]
theorem ref_list_loop (l : List Int) (hl : l.length ≤ 1000) (K : Nat) (hK : 6 ≤ K) : ∀ (d j : Nat) (s : ByteArray), j + d = l.length → s.size + 5 * d ≤ 140737488355328 →
    duetref01_List.l0 (K + d + 1) l s j = if ∀ n ∈ l.drop j, Cl n then some (s ++ body (l.drop j), 0) else some (⟨#[]⟩, 1) := by
  intro d
  induction d with
  | zero =>
    intro j s hj hs
    simp only [duetref01_List.l0]
    rw [if_neg (by omega), List.drop_eq_nil_of_le (by omega), if_pos (fun n hn => by cases hn), body, app_nil]
  | succ d ih =>
    intro j s hj hs
    have hd := rd_drop l j (by omega)
    have hn := numB_len (rd l j)
    have ihj := fun s' h' => ih (j + 1) s' (by omega) h'
    rw [show K + (d + 1) + 1 = (K + d + 1) + 1 by omega]
    have hq : 6 ≤ K + d + 1 := by omega
    generalize K + d + 1 = q at *
    simp only [duetref01_List.l0]
    rw [if_pos (by omega), if_pos (by omega)]
    by_cases c : Cl (rd l j)
    · rw [ref_okK q hq _ c, Option.bind_some, if_pos rfl, if_pos (by rw [S_size]; omega), show wrap64 ((j : Int) + 1) = ((j + 1 : Nat) : Int) by unfold wrap64; omega,
        ihj _ (by rw [ByteArray.size_append, S_size]; omega), hd]
      by_cases c2 : ∀ n ∈ l.drop (j + 1), Cl n
      · rw [if_pos c2, if_pos (fun n hn => by
          rcases List.mem_cons.mp hn with rfl | hn
          · exact c
          · exact c2 n hn), body, app_assoc]
      · rw [if_neg c2, if_neg (fun hh => c2 (fun n hn => hh n (List.mem_cons_of_mem _ hn)))]
    · rw [ref_noK q (by omega) _ c, Option.bind_some, if_neg (by decide), hd, if_neg (fun hh => c (hh _ List.mem_cons_self))]
theorem ref_list (l : List Int) (K : Nat) (hK : l.length + 7 ≤ K) : duetref01_List.f K l = pack_List.f l := by
  unfold duetref01_List.f
  by_cases c : (l.length : Int) > 1000
  · rw [if_pos c, list_far l (by omega)]
  · rw [if_neg c]
    have hs := numB_len l.length
    have h1 : duetref01_Num.f K (l.length : Int) = some (S l.length, 0) := by
      rw [show K = (K - 6) + 6 by omega]
      exact ref_ok _ _ ⟨by omega, by omega⟩
    rw [h1, Option.bind_some]
    have := ref_list_loop l (by omega) (K - l.length - 1) (by omega) l.length 0 (S l.length) (by omega) (by rw [S_size]; omega)
    rw [show K - l.length - 1 + l.length + 1 = K by omega] at this
    refine (this : duetref01_List.l0 K l (S l.length) 0 = _).trans ?_
    rw [List.drop_zero]
    by_cases hc : ∀ n ∈ l, Cl n
    · rw [if_pos hc, list_ok l (by omega) hc]
    · rw [if_neg hc, list_no l (by omega) hc]
/-- So many numbers, one behind the other. -/
def each : Nat → ByteArray → List Int → List Int × ByteArray × Int
  | 0, s, acc => (acc, s, 0)
  | d + 1, s, acc => if ((pack_Take.f s).getD (0, ⟨#[]⟩, 0)).2.2 = 0 then each d ((pack_Take.f s).getD (0, ⟨#[]⟩, 0)).2.1 (acc ++ [((pack_Take.f s).getD (0, ⟨#[]⟩, 0)).1]) else ([], ⟨#[]⟩, ((pack_Take.f s).getD (0, ⟨#[]⟩, 0)).2.2)
def eachF (s : ByteArray) : List Int × ByteArray × Int :=
  if ((pack_Take.f s).getD (0, ⟨#[]⟩, 0)).2.2 = 0 then (if ((pack_Take.f s).getD (0, ⟨#[]⟩, 0)).1 > 1000 then ([], ⟨#[]⟩, 2) else each ((pack_Take.f s).getD (0, ⟨#[]⟩, 0)).1.toNat ((pack_Take.f s).getD (0, ⟨#[]⟩, 0)).2.1 []) else ([], ⟨#[]⟩, ((pack_Take.f s).getD (0, ⟨#[]⟩, 0)).2.2)
theorem each_loop (n : Int) (hn : n ≤ 1000) : ∀ (d : Nat) (K : Nat) (s : ByteArray) (acc : List Int), (acc.length : Int) + d = n → d + 1 < K → pack_Each.l0 K s n 0 acc = some (each d s acc) := by
  intro d
  induction d with
  | zero =>
    intro K s acc h hK
    obtain ⟨K, rfl⟩ : ∃ q, K = q + 1 := ⟨K - 1, by omega⟩
    simp only [pack_Each.l0]
    rw [if_pos trivial, if_neg (by omega)]
    rfl
  | succ d ih =>
    intro K s acc h hK
    obtain ⟨K, rfl⟩ : ∃ q, K = q + 1 := ⟨K - 1, by omega⟩
    simp only [pack_Each.l0]
    rw [if_pos trivial, if_pos (by omega)]
    rcases take_cases s with ⟨m, r, hm, hs, ht⟩ | ⟨e, he, ht⟩
    · rw [ht, Option.bind_some, if_pos (by omega), ih K r _ (by simp only [List.length_append, List.length_cons, List.length_nil]; omega) (by omega)]
      simp only [each, ht, Option.getD_some, if_pos]
    · rw [ht, Option.bind_some, if_pos (by omega)]
      obtain ⟨K, rfl⟩ : ∃ q, K = q + 1 := ⟨K - 1, by omega⟩
      simp only [pack_Each.l0]
      have : ¬ e = 0 := by omega
      rw [if_neg this]
      simp only [each, ht, Option.getD_some, if_neg this]
theorem each_is (s : ByteArray) (K : Nat) (hK : 1010 ≤ K) : pack_Each.f K s = some (eachF s) := by
  unfold pack_Each.f eachF
  obtain ⟨K, rfl⟩ : ∃ q, K = q + 2 := ⟨K - 2, by omega⟩
  rcases take_cases s with ⟨m, r, hm, hs, ht⟩ | ⟨e, he, ht⟩
  · rw [ht, Option.bind_some, if_pos rfl]
    simp only [Option.getD_some, pack_Each.j0, pack_Each.j1, if_pos]
    unfold Cl at hm
    by_cases c : m > 1000
    · rw [show decide (m > 1000) = true from decide_eq_true c, if_pos rfl, if_pos c]
      obtain ⟨K, rfl⟩ : ∃ q, K = q + 1 := ⟨K - 1, by omega⟩
      simp only [pack_Each.l0]
      rw [if_neg (by decide)]
    · rw [show decide (m > 1000) = false from decide_eq_false c, if_neg (by decide), if_neg c]
      exact each_loop m (by omega) m.toNat K r [] (by simp; omega) (by omega)
  · have : ¬ e = 0 := by omega
    rw [ht, Option.bind_some, if_neg this]
    simp only [Option.getD_some, pack_Each.j0, pack_Each.j1, if_neg this]
    obtain ⟨K, rfl⟩ : ∃ q, K = q + 1 := ⟨K - 1, by omega⟩
    simp only [pack_Each.l0]
    rw [if_neg (by decide), if_neg this]
theorem ref_each_loop (n : Int) (hn : n ≤ 1000) : ∀ (d : Nat) (K : Nat) (s : ByteArray) (acc : List Int), (acc.length : Int) + d = n → d + 13 < K → duetref01_Each.l0 K n s acc acc.length = some (each d s acc) := by
  intro d
  induction d with
  | zero =>
    intro K s acc h hK
    obtain ⟨K, rfl⟩ : ∃ q, K = q + 1 := ⟨K - 1, by omega⟩
    simp only [duetref01_Each.l0]
    rw [if_neg (by omega)]
    rfl
  | succ d ih =>
    intro K s acc h hK
    obtain ⟨K, rfl⟩ : ∃ q, K = q + 1 := ⟨K - 1, by omega⟩
    simp only [duetref01_Each.l0]
    rw [if_pos (by omega), ref_take s K (by omega)]
    rcases take_cases s with ⟨m, r, hm, hs, ht⟩ | ⟨e, he, ht⟩
    · rw [ht, Option.bind_some, if_pos rfl, if_pos (by omega), show wrap64 ((acc.length : Int) + 1) = ((acc ++ [m]).length : Int) by simp only [List.length_append, List.length_cons, List.length_nil]; unfold wrap64; omega,
        ih K r _ (by simp only [List.length_append, List.length_cons, List.length_nil]; omega) (by omega)]
      simp only [each, ht, Option.getD_some, if_pos]
    · have : ¬ e = 0 := by omega
      rw [ht, Option.bind_some, if_neg this]
      simp only [each, ht, Option.getD_some, if_neg this]
theorem ref_each (s : ByteArray) (K : Nat) (hK : 1020 ≤ K) : duetref01_Each.f K s = some (eachF s) := by
  unfold duetref01_Each.f eachF
  rw [ref_take s K (by omega)]
  rcases take_cases s with ⟨m, r, hm, hs, ht⟩ | ⟨e, he, ht⟩
  · rw [ht, Option.bind_some, if_pos rfl]
    simp only [Option.getD_some, if_pos]
    unfold Cl at hm
    by_cases c : m > 1000
    · rw [if_pos c, if_pos c]
    · rw [if_neg c, if_neg c]
      exact ref_each_loop m (by omega) m.toNat K r [] (by simp; omega) (by omega)
  · have : ¬ e = 0 := by omega
    rw [ht, Option.bind_some, if_neg this]
    simp only [Option.getD_some, if_neg this]
/-! ### Same; the closed call -/
theorem same_loop (a b : List Int) (h : a.length = b.length) (hb : a.length ≤ 140737488351232) : ∀ (d j K : Nat), j + d = a.length → d < K → duetref01_Same.l0 K a b j = some (decide (a.drop j = b.drop j)) := by
  intro d
  induction d with
  | zero =>
    intro j K hj hK
    obtain ⟨K, rfl⟩ : ∃ q, K = q + 1 := ⟨K - 1, by omega⟩
    simp only [duetref01_Same.l0]
    rw [if_neg (by omega), List.drop_eq_nil_of_le (by omega), List.drop_eq_nil_of_le (by omega)]
    rfl
  | succ d ih =>
    intro j K hj hK
    obtain ⟨K, rfl⟩ : ∃ q, K = q + 1 := ⟨K - 1, by omega⟩
    simp only [duetref01_Same.l0]
    rw [if_pos (by omega), if_pos (by omega), if_pos (by omega), rd_drop a j (by omega), rd_drop b j (by omega)]
    by_cases c : rd a j = rd b j
    · rw [if_pos c, show wrap64 ((j : Int) + 1) = ((j + 1 : Nat) : Int) by unfold wrap64; omega, ih (j + 1) K (by omega) (by omega)]
      congr 1
      simp [c]
    · rw [if_neg c]
      congr 1
      simp [c]
theorem same_is (a b : List Int) (K : Nat) (hb : a.length ≤ 140737488351232) (hK : a.length < K) : duetref01_Same.f K a b = some (decide (a = b)) := by
  unfold duetref01_Same.f
  by_cases c : (a.length : Int) = b.length
  · rw [if_pos c]
    exact same_loop a b (by omega) hb a.length 0 K (by omega) (by omega)
  · rw [if_neg c]
    congr 1
    symm
    exact decide_eq_false (fun h => c (by rw [h]))
theorem live_30 : duetlaw01_live.f 30 = some true := by decide +kernel
theorem live_is (K : Nat) (hK : 30 ≤ K) : duetlaw01_live.f K = some true := at_rounds duetlaw01_live.mono hK live_30

/-! ### what Cut and Each answer -/
theorem cut_S (s b : ByteArray) (h : s.size ≤ 65535) : pack_Cut.f (S s.size ++ s ++ b) = some (s, b, 0) := by
  unfold pack_Cut.f
  rw [app_assoc, take_S _ _ ⟨by omega, by omega⟩, Option.bind_some, if_pos rfl]
  simp only
  have hsz : (s ++ b).size = s.size + b.size := ByteArray.size_append
  rw [if_neg (by omega), if_neg (by omega), if_pos (by omega), if_pos (by omega), Int.toNat_natCast, app_extract_left, app_extract_right]
theorem cut_cases (s : ByteArray) : (∃ t r, t.size ≤ 65535 ∧ s = S t.size ++ t ++ r ∧ pack_Cut.f s = some (t, r, 0)) ∨ (∃ e, e ≠ 0 ∧ pack_Cut.f s = some (⟨#[]⟩, ⟨#[]⟩, e)) := by
  unfold pack_Cut.f
  rcases take_cases s with ⟨n, r, hn, hs, ht⟩ | ⟨e, he, ht⟩
  · rw [ht, Option.bind_some, if_pos rfl]
    unfold Cl at hn
    simp only
    by_cases c1 : n > 65535
    · exact .inr ⟨2, by decide, by rw [if_pos c1]⟩
    · by_cases c2 : n > (r.size : Int)
      · exact .inr ⟨3, by decide, by rw [if_neg c1, if_pos c2]⟩
      · rw [if_neg c1, if_neg c2, if_pos hn.1, if_pos (by omega)]
        have hz : (r.extract 0 n.toNat).size = n.toNat := by rw [ByteArray.size_extract]; omega
        refine .inl ⟨_, _, ?_, ?_, rfl⟩
        · rw [hz]; omega
        · rw [hz, show ((n.toNat : Nat) : Int) = n by omega, app_assoc, ← split_at r n.toNat (by omega)]
          exact hs
  · have : ¬ e = 0 := by omega
    exact .inr ⟨e, this, by rw [ht, Option.bind_some, if_neg this]⟩
theorem each_body (b : ByteArray) : ∀ (l acc : List Int), (∀ n ∈ l, Cl n) → each l.length (body l ++ b) acc = (acc ++ l, b, 0)
  | [], acc, _ => by simp only [List.length_nil, each, body, nil_app, List.append_nil]
  | n :: l, acc, h => by
    simp only [List.length_cons, each, body]
    rw [app_assoc, take_S n _ (h n List.mem_cons_self)]
    simp only [Option.getD_some, if_pos]
    rw [each_body b l _ (fun m hm => h m (List.mem_cons_of_mem _ hm))]
    simp
theorem eachF_S (l : List Int) (b : ByteArray) (hl : l.length ≤ 1000) (h : ∀ n ∈ l, Cl n) : eachF (S l.length ++ body l ++ b) = (l, b, 0) := by
  unfold eachF
  rw [app_assoc, take_S _ _ ⟨by omega, by omega⟩]
  simp only [Option.getD_some, if_pos, Int.toNat_natCast]
  rw [if_neg (by omega), each_body b l [] h, List.nil_append]
theorem each_inv : ∀ (d : Nat) (s : ByteArray) (acc : List Int), (∃ l r, l.length = d ∧ (∀ n ∈ l, Cl n) ∧ s = body l ++ r ∧ each d s acc = (acc ++ l, r, 0)) ∨ (∃ e, e ≠ 0 ∧ each d s acc = ([], ⟨#[]⟩, e))
  | 0, s, acc => .inl ⟨[], s, rfl, (fun n hn => by cases hn), by rw [body, nil_app], by simp [each]⟩
  | d + 1, s, acc => by
    simp only [each]
    rcases take_cases s with ⟨n, r, hn, hs, ht⟩ | ⟨e, he, ht⟩
    · simp only [ht, Option.getD_some, if_pos]
      rcases each_inv d r (acc ++ [n]) with ⟨l, r2, h1, h2, h3, h4⟩ | ⟨e, he, h⟩
      · refine .inl ⟨n :: l, r2, by rw [List.length_cons, h1], fun m hm => ?_, by rw [body, app_assoc, ← h3]; exact hs, by rw [h4]; simp⟩
        rcases List.mem_cons.mp hm with rfl | hm
        · exact hn
        · exact h2 m hm
      · exact .inr ⟨e, he, h⟩
    · have : ¬ e = 0 := by omega
      simp only [ht, Option.getD_some, if_neg this]
      exact .inr ⟨e, this, rfl⟩
theorem eachF_cases (s : ByteArray) : (∃ l r, l.length ≤ 1000 ∧ (∀ n ∈ l, Cl n) ∧ s = S l.length ++ body l ++ r ∧ eachF s = (l, r, 0)) ∨ (∃ e, e ≠ 0 ∧ eachF s = ([], ⟨#[]⟩, e)) := by
  unfold eachF
  rcases take_cases s with ⟨n, r, hn, hs, ht⟩ | ⟨e, he, ht⟩
  · simp only [ht, Option.getD_some, if_pos]
    unfold Cl at hn
    by_cases c : n > 1000
    · exact .inr ⟨2, by decide, by rw [if_pos c]⟩
    · rw [if_neg c]
      rcases each_inv n.toNat r [] with ⟨l, r2, h1, h2, h3, h4⟩ | ⟨e, he, h⟩
      · refine .inl ⟨l, r2, by omega, h2, ?_, by rw [h4, List.nil_append]⟩
        rw [show (l.length : Int) = n by omega, app_assoc, ← h3]
        exact hs
      · exact .inr ⟨e, he, h⟩
  · have : ¬ e = 0 := by omega
    simp only [ht, Option.getD_some, if_neg this]
    exact .inr ⟨e, this, rfl⟩
theorem eachF_len (s : ByteArray) : (eachF s).1.length ≤ 1000 := by
  rcases eachF_cases s with ⟨l, r, h1, _, _, h⟩ | ⟨e, _, h⟩
  · rw [h]; exact h1
  · rw [h]; simp

end Go.Proofs.Ytpoigdkbblmpaaa.PackL
