/- What the functions of layer 4 (mesg), of its reference and those of layer 1 that they call answer, as plain facts on numbers, lists and bytes. Conditions: none beyond those that each lemma states. -/
import Derived.Test.YtphdjpfdelpecaaGreatDoorPTopfx6
import Derived.Test.YtphdjpfdelpecaaGreatDoorPTopfx4
import Derived.Test.YtphdjpfdelpecaaGreatDoorXW
namespace Go.Proofs.YtphdjpfdelpecaaGreatDoor.MesfL
open Go.RowKit Go.Proofs.YtphdjpfdelpecaaGreatDoor.PTopf Go.Proofs.YtphdjpfdelpecaaGreatDoorW.PrintWords Go.Proofs.YtphdjpfdelpecaaGreatDoorW.PrintLast Go.Proofs.YtphdjpfdelpecaaGreatDoorW.PrintMore Go.Proofs.YtphdjpfdelpecaaGreatDoor.XW
set_option linter.unusedVariables false
set_option linter.unusedSimpArgs false
theorem size_str (xs : List Int) : (strOfNums xs).size = xs.length := by
 show (strOfNums xs).data.size = _
 simp [strOfNums]
theorem bt_str (xs : List Int) (hx : ∀ x ∈ xs, 0 ≤ x ∧ x ≤ 255) (i : Int) : bt (strOfNums xs) i = rd xs i := by
 unfold bt rd
 split
 ·rename_i h
  have hl : i.toNat < xs.length := by rw [size_str] at h; exact h
  have hm := hx _ (List.getElem_mem hl)
  simp only [List.getD_eq_getElem?_getD, List.getElem?_eq_getElem hl, Option.getD_some]
  show (((strOfNums xs).data[i.toNat]'h).toNat : Int) = _
  simp [strOfNums]
  omega
 ·rename_i h
  rw [size_str] at h
  simp [List.getD_eq_getElem?_getD, List.getElem?_eq_none (show xs.length ≤ i.toNat by omega)]
theorem bt_app (a b : ByteArray) (i : Int) (h0 : 0 ≤ i) : bt (a ++ b) i = if i < a.size then bt a i else bt b (i - a.size) := by
 unfold bt
 by_cases h : i < a.size
 ·rw [if_pos h, dif_pos (by rw [ByteArray.size_append]; omega), dif_pos (by omega), ByteArray.getElem_append_left (by omega)]
 ·rw [if_neg h]
  by_cases h2 : i.toNat < (a ++ b).size
  ·have h3 : i.toNat < a.size + b.size := by rw [ByteArray.size_append] at h2; exact h2
   rw [dif_pos h2, dif_pos (by omega), ByteArray.getElem_append_right (by omega)]
   have e : (i - (a.size : Int)).toNat = i.toNat - a.size := by omega
   simp only [e]
  ·have h3 : ¬ i.toNat < a.size + b.size := by rw [ByteArray.size_append] at h2; exact h2
   rw [dif_neg h2, dif_neg (by omega)]
theorem ext_bt (a b : ByteArray) (hs : a.size = b.size) (h : ∀ i : Nat, i < a.size → bt a i = bt b i) : a = b := by
 apply ByteArray.ext
 apply Array.ext
 ·exact hs
 ·intro i h1 h2
  have h1' : i < a.size := h1
  have h2' : i < b.size := h2
  have := h i h1'
  unfold bt at this
  simp only [Int.toNat_natCast] at this
  rw [dif_pos h1', dif_pos h2'] at this
  have h3 : (a[i]'h1').toNat = (b[i]'h2').toNat := by omega
  exact UInt8.toNat_inj.mp h3
theorem toList_inj {a b : ByteArray} (h : a.toList = b.toList) : a = b := by
 rw [ByteArray.toList_eq, ByteArray.toList_eq] at h
 apply ByteArray.ext
 apply Array.ext'
 exact h
theorem toList_empty {a : ByteArray} : a.toList = [] ↔ a.size = 0 := by
 rw [← toList_size]
 exact ⟨fun h => by rw [h]; rfl, fun h => List.eq_nil_of_length_eq_zero h⟩
theorem app_extract_right (a b : ByteArray) : (a ++ b).extract a.size (a ++ b).size = b := by
 apply ext_bt
 ·rw [ByteArray.size_extract, ByteArray.size_append]; omega
 ·intro i hi
  rw [ByteArray.size_extract, ByteArray.size_append] at hi
  rw [bt_extract _ _ _ _ (by omega) (Nat.le_refl _) (by rw [ByteArray.size_append]; omega), bt_app _ _ _ (by omega), if_neg (by omega)]
  congr 1
  omega
theorem app_extract_left (a b : ByteArray) : (a ++ b).extract 0 a.size = a := by
 apply ext_bt
 ·rw [ByteArray.size_extract, ByteArray.size_append]; omega
 ·intro i hi
  rw [ByteArray.size_extract, ByteArray.size_append] at hi
  rw [bt_extract _ _ _ _ (by omega) (by rw [ByteArray.size_append]; omega) (by omega), bt_app _ _ _ (by omega), if_pos (by omega)]
  congr 1
def numB (n : Int) : List Int := if n < 248 then [n % 256] else if n > 16777215 then [251, n / 16777216 % 256, n / 65536 % 256, n / 256 % 256, n % 256] else if n > 65535 then [250, n / 65536 % 256, n / 256 % 256, n % 256] else if n > 255 then [249, n / 256 % 256, n % 256] else [248, n % 256]
def S (n : Int) : ByteArray := strOfNums (numB n)
def Cl (n : Int) : Prop := 0 ≤ n ∧ n ≤ 4294967295
instance (n : Int) : Decidable (Cl n) := inferInstanceAs (Decidable (0 ≤ n ∧ n ≤ 4294967295))
theorem numB_range (n : Int) : ∀ x ∈ numB n, 0 ≤ x ∧ x ≤ 255 := by
 intro x hx
 unfold numB at hx
 repeat' split at hx
 all_goals
  simp only [List.mem_cons, List.not_mem_nil, or_false] at hx
  omega
theorem S_size (n : Int) : (S n).size = (numB n).length := size_str _
theorem bt_S (n i : Int) : bt (S n) i = rd (numB n) i := bt_str _ (numB_range n) i
theorem numB_len (n : Int) : 1 ≤ (numB n).length ∧ (numB n).length ≤ 5 := by
 unfold numB
 repeat' split
 all_goals simp
theorem str_app (a b : List Int) : strOfNums a ++ strOfNums b = strOfNums (a ++ b) := by
 apply ByteArray.ext
 simp [strOfNums]
theorem num_ok (k : Nat) (n : Int) (h : Cl n) : pack_Num.f (k + 1) n = some (S n, 0) := by
 obtain ⟨h0, h1⟩ := h
 unfold pack_Num.f
 rw [if_neg (by omega), show decide (n > 4294967295) = false from decide_eq_false (by omega)]
 simp only [pack_Num.j0]
 unfold S numB
 rw [if_neg (show ¬ (false = true) by decide)]
 by_cases c : n < 248
 ·rw [if_pos c, if_pos c]
 ·rw [if_neg c, if_neg c]
  unfold pack_width.f
  by_cases c1 : n > 16777215
  ·rw [if_pos c1, if_pos c1]; simp [show wrap64 251 = 251 by unfold wrap64; omega]
  ·rw [if_neg c1, if_neg c1]
   by_cases c2 : n > 65535
   ·rw [if_pos c2, if_pos c2]; simp [show wrap64 250 = 250 by unfold wrap64; omega]
   ·rw [if_neg c2, if_neg c2]
    by_cases c3 : n > 255
    ·rw [if_pos c3, if_pos c3]; simp [show wrap64 249 = 249 by unfold wrap64; omega]
    ·rw [if_neg c3, if_neg c3]; simp [show wrap64 248 = 248 by unfold wrap64; omega]
theorem num_okK (K : Nat) (hK : 1 ≤ K) (n : Int) (h : Cl n) : pack_Num.f K n = some (S n, 0) := by
 obtain ⟨k, rfl⟩ : ∃ k, K = k + 1 := ⟨K - 1, by omega⟩
 exact num_ok k n h
theorem split_at (s : ByteArray) (m : Nat) (h : m ≤ s.size) : s = s.extract 0 m ++ s.extract m s.size := by
 apply ext_bt
 ·rw [ByteArray.size_append, ByteArray.size_extract, ByteArray.size_extract]; omega
 ·intro i hi
  rw [bt_app _ _ _ (by omega), ByteArray.size_extract]
  by_cases c : i < m
  ·rw [if_pos (by omega), bt_extract _ _ _ _ (by omega) (by omega) (by omega)]; congr 1
  ·rw [if_neg (by omega), bt_extract _ _ _ _ (by omega) (Nat.le_refl _) (by omega)]; congr 1; omega
theorem extract_two (s : ByteArray) (k : Nat) (h : k + 1 ≤ s.size) : (s.extract 1 s.size).extract k (s.extract 1 s.size).size = s.extract (k + 1) s.size := by
 apply ext_bt
 ·simp only [ByteArray.size_extract]; omega
 ·intro i hi
  simp only [ByteArray.size_extract] at hi
  rw [bt_extract _ _ _ _ (by omega) (Nat.le_refl _) (by rw [ByteArray.size_extract]; omega), bt_extract _ _ _ _ (by omega) (Nat.le_refl _) (by omega), bt_extract _ _ _ _ (by omega) (Nat.le_refl _) (by omega)]
  congr 1
theorem width_is (n : Int) (k : Nat) (h : pack_width.f n = some (k : Int)) : (k = 4 ∧ n > 16777215) ∨ (k = 3 ∧ 65535 < n ∧ n ≤ 16777215) ∨ (k = 2 ∧ 255 < n ∧ n ≤ 65535) ∨ (k = 1 ∧ n ≤ 255) := by
 unfold pack_width.f at h
 repeat' split at h
 all_goals
  simp only [Option.some.injEq] at h
  omega
theorem width_le (n : Int) : ∃ k : Nat, pack_width.f n = some (k : Int) ∧ 1 ≤ k ∧ k ≤ 4 := by
 unfold pack_width.f
 repeat' split
 ·exact ⟨4, rfl, by decide, by decide⟩
 ·exact ⟨3, rfl, by decide, by decide⟩
 ·exact ⟨2, rfl, by decide, by decide⟩
 ·exact ⟨1, rfl, by decide, by decide⟩
theorem take_small (s : ByteArray) (hs : 0 < s.size) (h : bt s 0 ≤ 247) : pack_Take.f s = some (bt s 0, s.extract 1 s.size, 0) := by
 unfold pack_Take.f
 rw [if_neg (by rw [toList_empty]; omega), if_pos h]
theorem take_none (s : ByteArray) (hs : s.size = 0) : pack_Take.f s = some (0, ⟨#[]⟩, 3) := by
 unfold pack_Take.f
 rw [if_pos (by rw [toList_empty]; omega)]
theorem take_far (s : ByteArray) (hs : 0 < s.size) (h : 251 < bt s 0) : pack_Take.f s = some (0, ⟨#[]⟩, 2) := by
 unfold pack_Take.f
 rw [if_neg (by rw [toList_empty]; omega), if_neg (by omega), if_pos h]
theorem take_short (s : ByteArray) (k : Nat) (hs : 0 < s.size) (h : bt s 0 = 247 + k) (hk1 : 1 ≤ k) (hk : k ≤ 4) (hl : s.size < k + 1) : pack_Take.f s = some (0, ⟨#[]⟩, 3) := by
 unfold pack_Take.f
 rw [if_neg (by rw [toList_empty]; omega), if_neg (by omega), if_neg (by omega), if_pos (by omega)]
theorem take_big (s : ByteArray) (k : Nat) (h : bt s 0 = 247 + k) (hk1 : 1 ≤ k) (hk : k ≤ 4) (hl : k + 1 ≤ s.size) :
  pack_Take.f s = if 248 ≤ pack_Take.num s k ∧ pack_width.f (pack_Take.num s k) = some (k : Int) then some (pack_Take.num s k, s.extract (k + 1) s.size, 0) else some (0, ⟨#[]⟩, 2) := by
 unfold pack_Take.f
 rw [if_neg (by rw [toList_empty]; omega), if_neg (by omega), if_neg (by omega), if_neg (by omega), show bt s 0 - 247 = (k : Int) by omega, Int.toNat_natCast]
 by_cases c : pack_Take.num s k < 248
 ·rw [if_pos c, if_neg (fun hh => absurd hh.1 (by omega))]
 ·rw [if_neg c]
  obtain ⟨q, hq, _, _⟩ := width_le (pack_Take.num s k)
  rw [hq, Option.bind_some]
  by_cases e : (q : Int) = (k : Int)
  ·rw [if_pos e, if_pos ⟨by omega, by rw [e]⟩, extract_two s k hl]
  ·rw [if_neg e, if_neg (fun hh => e (Option.some.inj hh.2))]
theorem num4 (s : ByteArray) : pack_Take.num s 1 = bt s 1 ∧ pack_Take.num s 2 = 256 * bt s 1 + bt s 2 ∧ pack_Take.num s 3 = 256 * (256 * bt s 1 + bt s 2) + bt s 3 ∧ pack_Take.num s 4 = 256 * (256 * (256 * bt s 1 + bt s 2) + bt s 3) + bt s 4 := by
 have h1 : pack_Take.num s 1 = bt s 1 := by simp [pack_Take.num]
 have h2 : pack_Take.num s 2 = 256 * bt s 1 + bt s 2 := by rw [pack_Take.num, h1]; rfl
 have h3 : pack_Take.num s 3 = 256 * (256 * bt s 1 + bt s 2) + bt s 3 := by rw [pack_Take.num, h2]; rfl
 have h4 : pack_Take.num s 4 = 256 * (256 * (256 * bt s 1 + bt s 2) + bt s 3) + bt s 4 := by rw [pack_Take.num, h3]; rfl
 exact ⟨h1, h2, h3, h4⟩
theorem num_cl (s : ByteArray) (k : Nat) (hk : k ≤ 4) : Cl (pack_Take.num s k) := by
 obtain ⟨h1, h2, h3, h4⟩ := num4 s
 have b1 := bt_range s 1
 have b2 := bt_range s 2
 have b3 := bt_range s 3
 have b4 := bt_range s 4
 unfold Cl
 match k, hk with
 | 0, _ => simp [pack_Take.num]
 | 1, _ => omega
 | 2, _ => omega
 | 3, _ => omega
 | 4, _ => omega
theorem S_of_num (s : ByteArray) (k : Nat) (h : bt s 0 = 247 + k) (hk1 : 1 ≤ k) (hk : k ≤ 4) (hl : k + 1 ≤ s.size) (h248 : 248 ≤ pack_Take.num s k) (hw : pack_width.f (pack_Take.num s k) = some (k : Int)) :
  S (pack_Take.num s k) = s.extract 0 (k + 1) := by
 obtain ⟨h1, h2, h3, h4⟩ := num4 s
 have b1 := bt_range s 1
 have b2 := bt_range s 2
 have b3 := bt_range s 3
 have b4 := bt_range s 4
 have key : ∀ (l : List Int), numB (pack_Take.num s k) = l → l.length = k + 1 → (∀ i : Nat, i < k + 1 → l.getD i 0 = bt s i) → S (pack_Take.num s k) = s.extract 0 (k + 1) := by
  intro l e1 e2 e3
  apply ext_bt
  ·rw [S_size, e1, e2, ByteArray.size_extract]; omega
  ·intro i hi
   rw [S_size, e1, e2] at hi
   rw [bt_S, e1, bt_extract _ _ _ _ (by omega) hl (by omega), rd, Int.toNat_natCast, e3 i hi]
   congr 1
 rcases width_is _ _ hw with ⟨rfl, c⟩ | ⟨rfl, c⟩ | ⟨rfl, c⟩ | ⟨rfl, c⟩
 ·refine key _ (by unfold numB; rw [if_neg (by omega), if_pos c]) rfl (fun i hi => ?_)
  rw [h4]
  match i, hi with
  | 0, _ => simp; omega
  | 1, _ => simp; omega
  | 2, _ => simp; omega
  | 3, _ => simp; omega
  | 4, _ => simp; omega
 ·refine key _ (by unfold numB; rw [if_neg (by omega), if_neg (by omega), if_pos c.1]) rfl (fun i hi => ?_)
  rw [h3]
  match i, hi with
  | 0, _ => simp; omega
  | 1, _ => simp; omega
  | 2, _ => simp; omega
  | 3, _ => simp; omega
 ·refine key _ (by unfold numB; rw [if_neg (by omega), if_neg (by omega), if_neg (by omega), if_pos c.1]) rfl (fun i hi => ?_)
  rw [h2]
  match i, hi with
  | 0, _ => simp; omega
  | 1, _ => simp; omega
  | 2, _ => simp; omega
 ·refine key _ (by unfold numB; rw [if_neg (by omega), if_neg (by omega), if_neg (by omega), if_neg (by omega)]) rfl (fun i hi => ?_)
  rw [h1]
  match i, hi with
  | 0, _ => simp; omega
  | 1, _ => simp; omega
theorem take_cases (s : ByteArray) : (∃ n r, Cl n ∧ s = S n ++ r ∧ pack_Take.f s = some (n, r, 0)) ∨ (∃ e, (e = 2 ∨ e = 3) ∧ pack_Take.f s = some (0, ⟨#[]⟩, e)) := by
 rcases Nat.eq_zero_or_pos s.size with h0 | h0
 ·exact .inr ⟨3, .inr rfl, take_none s h0⟩
 have hb := bt_range s 0
 by_cases c1 : bt s 0 ≤ 247
 ·refine .inl ⟨_, _, ⟨hb.1, by omega⟩, ?_, take_small s h0 c1⟩
  have hn : numB (bt s 0) = [bt s 0] := by unfold numB; rw [if_pos (by omega)]; congr 1; omega
  have : S (bt s 0) = s.extract 0 1 := by
   apply ext_bt
   ·rw [S_size, hn, ByteArray.size_extract]; simp; omega
   ·intro i hi
    rw [S_size, hn] at hi
    have : i = 0 := by simpa using hi
    subst this
    rw [bt_S, hn, bt_extract _ _ _ _ (by omega) (by omega) (by omega)]
    rfl
  rw [this]
  exact split_at s 1 h0
 by_cases c2 : 251 < bt s 0
 ·exact .inr ⟨2, .inl rfl, take_far s h0 c2⟩
 obtain ⟨k, hk⟩ : ∃ k : Nat, bt s 0 = 247 + k := ⟨(bt s 0 - 247).toNat, by omega⟩
 by_cases c3 : s.size < k + 1
 ·exact .inr ⟨3, .inr rfl, take_short s k h0 hk (by omega) (by omega) c3⟩
 have hb := take_big s k hk (by omega) (by omega) (by omega)
 by_cases c4 : 248 ≤ pack_Take.num s k ∧ pack_width.f (pack_Take.num s k) = some (k : Int)
 ·rw [if_pos c4] at hb
  refine .inl ⟨_, _, num_cl s k (by omega), ?_, hb⟩
  rw [S_of_num s k hk (by omega) (by omega) (by omega) c4.1 c4.2]
  exact split_at s (k + 1) (by omega)
 ·rw [if_neg c4] at hb
  exact .inr ⟨2, .inl rfl, hb⟩
theorem bt_Sapp (n : Int) (b : ByteArray) (i : Int) (h0 : 0 ≤ i) (h1 : i < (numB n).length) : bt (S n ++ b) i = rd (numB n) i := by
 rw [bt_app _ _ _ h0, S_size, if_pos h1, bt_S]
theorem numB_cases (n : Int) (h : Cl n) : (n < 248 ∧ numB n = [n]) ∨ ∃ k : Nat, 248 ≤ n ∧ 1 ≤ k ∧ k ≤ 4 ∧ pack_width.f n = some (k : Int) ∧ (numB n).length = k + 1 ∧ rd (numB n) 0 = 247 + k ∧
  (k = 1 → n = rd (numB n) 1) ∧ (k = 2 → n = 256 * rd (numB n) 1 + rd (numB n) 2) ∧ (k = 3 → n = 256 * (256 * rd (numB n) 1 + rd (numB n) 2) + rd (numB n) 3) ∧ (k = 4 → n = 256 * (256 * (256 * rd (numB n) 1 + rd (numB n) 2) + rd (numB n) 3) + rd (numB n) 4) := by
 obtain ⟨h0, h1⟩ := h
 unfold numB pack_width.f
 by_cases c : n < 248
 ·refine .inl ⟨c, ?_⟩
  rw [if_pos c]
  congr 1
  omega
 ·rw [if_neg c]
  refine .inr ?_
  by_cases c1 : n > 16777215
  ·rw [if_pos c1, if_pos c1]
   refine ⟨4, by omega, by decide, by decide, rfl, rfl, rfl, by omega, by omega, by omega, fun _ => ?_⟩
   show n = 256 * (256 * (256 * (n / 16777216 % 256) + n / 65536 % 256) + n / 256 % 256) + n % 256
   omega
  ·rw [if_neg c1, if_neg c1]
   by_cases c2 : n > 65535
   ·rw [if_pos c2, if_pos c2]
    refine ⟨3, by omega, by decide, by decide, rfl, rfl, rfl, by omega, by omega, fun _ => ?_, by omega⟩
    show n = 256 * (256 * (n / 65536 % 256) + n / 256 % 256) + n % 256
    omega
   ·rw [if_neg c2, if_neg c2]
    by_cases c3 : n > 255
    ·rw [if_pos c3, if_pos c3]
     refine ⟨2, by omega, by decide, by decide, rfl, rfl, rfl, by omega, fun _ => ?_, by omega, by omega⟩
     show n = 256 * (n / 256 % 256) + n % 256
     omega
    ·rw [if_neg c3, if_neg c3]
     refine ⟨1, by omega, by decide, by decide, rfl, rfl, rfl, fun _ => ?_, by omega, by omega, by omega⟩
     show n = n % 256
     omega
theorem take_S (n : Int) (b : ByteArray) (h : Cl n) : pack_Take.f (S n ++ b) = some (n, b, 0) := by
 rcases numB_cases n h with ⟨c, e⟩ | ⟨k, h248, hk1, hk, hw, hl, hr, q1, q2, q3, q4⟩
 ·have hb : bt (S n ++ b) 0 = n := by rw [bt_Sapp n b 0 (by omega) (by rw [e]; simp), e]; rfl
  have hs : (S n).size = 1 := by rw [S_size, e]; rfl
  rw [take_small _ (by rw [ByteArray.size_append]; omega) (by omega), hb]
  have := app_extract_right (S n) b
  rw [hs] at this
  rw [this]
 ·have hb : bt (S n ++ b) 0 = 247 + k := by rw [bt_Sapp n b 0 (by omega) (by omega), hr]
  have hs : (S n).size = k + 1 := by rw [S_size, hl]
  have hnum : pack_Take.num (S n ++ b) k = n := by
   obtain ⟨n1, n2, n3, n4⟩ := num4 (S n ++ b)
   match k, hk1, hk with
   | 1, _, _ => rw [n1, bt_Sapp n b 1 (by omega) (by omega)]; exact (q1 rfl).symm
   | 2, _, _ => rw [n2, bt_Sapp n b 1 (by omega) (by omega), bt_Sapp n b 2 (by omega) (by omega)]; exact (q2 rfl).symm
   | 3, _, _ => rw [n3, bt_Sapp n b 1 (by omega) (by omega), bt_Sapp n b 2 (by omega) (by omega), bt_Sapp n b 3 (by omega) (by omega)]; exact (q3 rfl).symm
   | 4, _, _ => rw [n4, bt_Sapp n b 1 (by omega) (by omega), bt_Sapp n b 2 (by omega) (by omega), bt_Sapp n b 3 (by omega) (by omega), bt_Sapp n b 4 (by omega) (by omega)]; exact (q4 rfl).symm
  rw [take_big _ k hb hk1 hk (by rw [ByteArray.size_append]; omega), hnum, if_pos ⟨h248, hw⟩]
  have := app_extract_right (S n) b
  rw [hs] at this
  rw [this]
def body : List Int → ByteArray
 | [] => ⟨#[]⟩
 | n :: l => S n ++ body l
theorem app_assoc (a b c : ByteArray) : a ++ b ++ c = a ++ (b ++ c) := ByteArray.append_assoc
theorem app_nil (a : ByteArray) : a ++ (⟨#[]⟩ : ByteArray) = a := by
 apply ByteArray.ext
 simp
theorem nil_app (a : ByteArray) : (⟨#[]⟩ : ByteArray) ++ a = a := by
 apply ByteArray.ext
 simp
theorem str_bytes (s : ByteArray) : strOfNums (bytesOf s) = s := by
 apply ext_bt
 ·rw [size_str, bytesOf_length]
 ·intro i hi
  rw [bt_str, rd_bytesOf]
  intro x hx
  simp only [bytesOf, List.mem_map] at hx
  obtain ⟨b, _, rfl⟩ := hx
  have := b.toNat_lt
  omega
theorem str_more (b : List Int) (s : ByteArray) : strOfNums (b ++ bytesOf s) = strOfNums b ++ s := by
 rw [← str_app, str_bytes]
theorem body_size : ∀ l : List Int, (body l).size ≤ 5 * l.length
 | [] => Nat.le_refl 0
 | n :: l => by
  have h1 := body_size l
  have h2 := numB_len n
  rw [body, ByteArray.size_append, S_size, List.length_cons]
  omega
theorem go_ok : ∀ (l b : List Int), (∀ n ∈ l, Cl n) → b.length + 5 * l.length ≤ 140737488355328 → pack_List.go l b = some (strOfNums b ++ body l, 0)
 | [], b, _, _ => by simp only [pack_List.go, body, app_nil]
 | n :: l, b, h, hb => by
  have hn := h n List.mem_cons_self
  have hl := numB_len n
  simp only [List.length_cons] at hb
  simp only [pack_List.go]
  rw [num_ok 8 n hn, Option.bind_some, if_pos rfl, if_pos (by rw [S_size]; omega), go_ok l _ (fun m hm => h m (List.mem_cons_of_mem _ hm)) (by rw [List.length_append, bytesOf_length, S_size]; omega), str_more, body, app_assoc]
theorem list_ok (l : List Int) (h : l.length ≤ 1000) (hc : ∀ n ∈ l, Cl n) : pack_List.f l = some (S l.length ++ body l, 0) := by
 have hl := numB_len l.length
 unfold pack_List.f
 rw [if_neg (by omega), num_ok 8 _ ⟨by omega, by omega⟩, Option.bind_some, if_pos (by rw [S_size]; omega), go_ok l _ hc (by rw [bytesOf_length, S_size]; omega), str_bytes]
theorem rd_drop (l : List Int) (j : Nat) (h : j < l.length) : l.drop j = rd l j :: l.drop (j + 1) := by
 rw [List.drop_eq_getElem_cons h]
 simp [rd, List.getD_eq_getElem?_getD, List.getElem?_eq_getElem h]
def each : Nat → ByteArray → List Int → List Int × ByteArray × Int
 | 0, s, acc => (acc, s, 0)
 | d + 1, s, acc => if ((pack_Take.f s).getD (0, ⟨#[]⟩, 0)).2.2 = 0 then each d ((pack_Take.f s).getD (0, ⟨#[]⟩, 0)).2.1 (acc ++ [((pack_Take.f s).getD (0, ⟨#[]⟩, 0)).1]) else ([], ⟨#[]⟩, ((pack_Take.f s).getD (0, ⟨#[]⟩, 0)).2.2)
def eachF (s : ByteArray) : List Int × ByteArray × Int :=
 if ((pack_Take.f s).getD (0, ⟨#[]⟩, 0)).2.2 = 0 then (if ((pack_Take.f s).getD (0, ⟨#[]⟩, 0)).1 > 1000 then ([], ⟨#[]⟩, 2) else each ((pack_Take.f s).getD (0, ⟨#[]⟩, 0)).1.toNat ((pack_Take.f s).getD (0, ⟨#[]⟩, 0)).2.1 []) else ([], ⟨#[]⟩, ((pack_Take.f s).getD (0, ⟨#[]⟩, 0)).2.2)
theorem each_loop (n : Int) (hn : n ≤ 1000) : ∀ (d : Nat) (K : Nat) (s : ByteArray) (acc : List Int), (acc.length : Int) + d = n → d + 1 < K → pack_Each.l0 K s n 0 acc = some (each d s acc) := by
 intro d
 induction d with
 | zero =>
  intro K s acc h hK
  obtain ⟨K, rfl⟩ : ∃ q, K = q + 1 := ⟨K - 1, by omega⟩
  simp only [pack_Each.l0]
  rw [if_pos trivial, if_neg (by omega)]
  rfl
 | succ d ih =>
  intro K s acc h hK
  obtain ⟨K, rfl⟩ : ∃ q, K = q + 1 := ⟨K - 1, by omega⟩
  simp only [pack_Each.l0]
  rw [if_pos trivial, if_pos (by omega)]
  rcases take_cases s with ⟨m, r, hm, hs, ht⟩ | ⟨e, he, ht⟩
  ·rw [ht, Option.bind_some, if_pos (by omega), ih K r _ (by simp only [List.length_append, List.length_cons, List.length_nil]; omega) (by omega)]
   simp only [each, ht, Option.getD_some, if_pos]
  ·rw [ht, Option.bind_some, if_pos (by omega)]
   obtain ⟨K, rfl⟩ : ∃ q, K = q + 1 := ⟨K - 1, by omega⟩
   simp only [pack_Each.l0]
   have : ¬ e = 0 := by omega
   rw [if_neg this]
   simp only [each, ht, Option.getD_some, if_neg this]
theorem each_is (s : ByteArray) (K : Nat) (hK : 1010 ≤ K) : pack_Each.f K s = some (eachF s) := by
 unfold pack_Each.f eachF
 obtain ⟨K, rfl⟩ : ∃ q, K = q + 2 := ⟨K - 2, by omega⟩
 rcases take_cases s with ⟨m, r, hm, hs, ht⟩ | ⟨e, he, ht⟩
 ·rw [ht, Option.bind_some, if_pos rfl]
  simp only [Option.getD_some, pack_Each.j0, pack_Each.j1, if_pos]
  unfold Cl at hm
  by_cases c : m > 1000
  ·rw [show decide (m > 1000) = true from decide_eq_true c, if_pos rfl, if_pos c]
   obtain ⟨K, rfl⟩ : ∃ q, K = q + 1 := ⟨K - 1, by omega⟩
   simp only [pack_Each.l0]
   rw [if_neg (by decide)]
  ·rw [show decide (m > 1000) = false from decide_eq_false c, if_neg (by decide), if_neg c]
   exact each_loop m (by omega) m.toNat K r [] (by simp; omega) (by omega)
 ·have : ¬ e = 0 := by omega
  rw [ht, Option.bind_some, if_neg this]
  simp only [Option.getD_some, pack_Each.j0, pack_Each.j1, if_neg this]
  obtain ⟨K, rfl⟩ : ∃ q, K = q + 1 := ⟨K - 1, by omega⟩
  simp only [pack_Each.l0]
  rw [if_neg (by decide), if_neg this]
theorem each_body (b : ByteArray) : ∀ (l acc : List Int), (∀ n ∈ l, Cl n) → each l.length (body l ++ b) acc = (acc ++ l, b, 0)
 | [], acc, _ => by simp only [List.length_nil, each, body, nil_app, List.append_nil]
 | n :: l, acc, h => by
  simp only [List.length_cons, each, body]
  rw [app_assoc, take_S n _ (h n List.mem_cons_self)]
  simp only [Option.getD_some, if_pos]
  rw [each_body b l _ (fun m hm => h m (List.mem_cons_of_mem _ hm))]
  simp
theorem eachF_S (l : List Int) (b : ByteArray) (hl : l.length ≤ 1000) (h : ∀ n ∈ l, Cl n) : eachF (S l.length ++ body l ++ b) = (l, b, 0) := by
 unfold eachF
 rw [app_assoc, take_S _ _ ⟨by omega, by omega⟩]
 simp only [Option.getD_some, if_pos, Int.toNat_natCast]
 rw [if_neg (by omega), each_body b l [] h, List.nil_append]
theorem each_inv : ∀ (d : Nat) (s : ByteArray) (acc : List Int), (∃ l r, l.length = d ∧ (∀ n ∈ l, Cl n) ∧ s = body l ++ r ∧ each d s acc = (acc ++ l, r, 0)) ∨ (∃ e, e ≠ 0 ∧ each d s acc = ([], ⟨#[]⟩, e))
 | 0, s, acc => .inl ⟨[], s, rfl, (fun n hn => by cases hn), by rw [body, nil_app], by simp [each]⟩
 | d + 1, s, acc => by
  simp only [each]
  rcases take_cases s with ⟨n, r, hn, hs, ht⟩ | ⟨e, he, ht⟩
  ·simp only [ht, Option.getD_some, if_pos]
   rcases each_inv d r (acc ++ [n]) with ⟨l, r2, h1, h2, h3, h4⟩ | ⟨e, he, h⟩
   ·refine .inl ⟨n :: l, r2, by rw [List.length_cons, h1], fun m hm => ?_, by rw [body, app_assoc, ← h3]; exact hs, by rw [h4]; simp⟩
    rcases List.mem_cons.mp hm with rfl | hm
    ·exact hn
    ·exact h2 m hm
   ·exact .inr ⟨e, he, h⟩
  ·have : ¬ e = 0 := by omega
   simp only [ht, Option.getD_some, if_neg this]
   exact .inr ⟨e, this, rfl⟩
theorem eachF_cases (s : ByteArray) : (∃ l r, l.length ≤ 1000 ∧ (∀ n ∈ l, Cl n) ∧ s = S l.length ++ body l ++ r ∧ eachF s = (l, r, 0)) ∨ (∃ e, e ≠ 0 ∧ eachF s = ([], ⟨#[]⟩, e)) := by
 unfold eachF
 rcases take_cases s with ⟨n, r, hn, hs, ht⟩ | ⟨e, he, ht⟩
 ·simp only [ht, Option.getD_some, if_pos]
  unfold Cl at hn
  by_cases c : n > 1000
  ·exact .inr ⟨2, by decide, by rw [if_pos c]⟩
  ·rw [if_neg c]
   rcases each_inv n.toNat r [] with ⟨l, r2, h1, h2, h3, h4⟩ | ⟨e, he, h⟩
   ·refine .inl ⟨l, r2, by omega, h2, ?_, by rw [h4, List.nil_append]⟩
    rw [show (l.length : Int) = n by omega, app_assoc, ← h3]
    exact hs
   ·exact .inr ⟨e, he, h⟩
 ·have : ¬ e = 0 := by omega
  simp only [ht, Option.getD_some, if_neg this]
  exact .inr ⟨e, this, rfl⟩
abbrev Ok (a0 a1 : Int) (l : List Int) (a3 a4 a5 a6 a7 a8 a9 : Int) : Prop := mC.bad8 a0 a1 l a3 a4 a5 a6 a7 a8 a9 = false
section
variable {a0 a1 : Int} {l : List Int} {a3 a4 a5 a6 a7 a8 a9 : Int}
theorem check_ok (h : Ok a0 a1 l a3 a4 a5 a6 a7 a8 a9) : mC.f a0 a1 l a3 a4 a5 a6 a7 a8 a9 = some 0 := by
 unfold mC.f
 rw [show mC.bad8 a0 a1 l a3 a4 a5 a6 a7 a8 a9 = false from h]
 rfl
theorem check_no (h : ¬ Ok a0 a1 l a3 a4 a5 a6 a7 a8 a9) : mC.f a0 a1 l a3 a4 a5 a6 a7 a8 a9 = some 1 := by
 unfold mC.f
 rw [show mC.bad8 a0 a1 l a3 a4 a5 a6 a7 a8 a9 = true from by cases hb : mC.bad8 a0 a1 l a3 a4 a5 a6 a7 a8 a9 with | true => rfl | false => exact absurd hb h]
 rfl
theorem clk_is (n : Int) (h : mC.clk n = true) : Cl n := by
 unfold mC.clk at h
 simpa [Cl] using h
theorem mayb_cl {t s n : Int} (hn : n ≤ 16) (h : mC.mayb t s n = true) : Cl t ∧ Cl s := by
 unfold mC.mayb at h
 simp only [Bool.and_eq_true, decide_eq_true_eq] at h
 exact ⟨⟨by omega, by omega⟩, ⟨by omega, by omega⟩⟩
theorem ok_all (h : Ok a0 a1 l a3 a4 a5 a6 a7 a8 a9) : (1 ≤ l.length ∧ l.length ≤ 16 ∧ 0 ≤ a0 ∧ a0 < 16) ∧ Cl a1 ∧ (∀ n ∈ l, Cl n) ∧ (1 ≤ a3 ∧ a3 ≤ 8) ∧ Cl a4 ∧ (Cl a5 ∧ Cl a6 ∧ Cl a7 ∧ Cl a8 ∧ Cl a9) ∧ (¬ (a3 = 1 ∨ a3 = 6) → a5 = 0 ∧ a6 = 0) ∧ (a3 = 6 → a7 = 0 ∧ a8 = 0) ∧ (a3 ≠ 1 → a9 = 0) := by
 unfold Ok mC.bad8 at h
 simp only [Bool.or_eq_false_iff] at h
 obtain ⟨h1, h2, h3, h4, h5, h6, h7, h8⟩ := h
 have z : Cl 0 := ⟨by decide, by decide⟩
 simp only [mC.b1, Bool.or_eq_false_iff, decide_eq_false_iff_not] at h1
 have hn : (l.length : Int) ≤ 16 := by omega
 simp only [mC.b2, Bool.or_eq_false_iff, decide_eq_false_iff_not, Bool.not_eq_false'] at h2
 simp only [mC.b4, Bool.or_eq_false_iff, decide_eq_false_iff_not, Bool.not_eq_false'] at h4
 have h9 : ∀ n ∈ l, Cl n := fun n hn => by
  unfold mC.anyb at h3
  rw [List.any_eq_false] at h3
  have := h3 n hn
  simp only [Bool.not_eq_true', Bool.not_eq_false] at this
  exact clk_is n this
 have h5' : (Cl a5 ∧ Cl a6) ∧ (¬ (a3 = 1 ∨ a3 = 6) → a5 = 0 ∧ a6 = 0) := by
  unfold mC.b5 at h5
  by_cases c : a3 = 1 ∨ a3 = 6
  ·rw [if_pos c] at h5
   simp only [Bool.or_eq_false_iff, Bool.not_eq_false'] at h5
   exact ⟨mayb_cl hn h5.1, fun hc => absurd c hc⟩
  ·rw [if_neg c] at h5
   simp only [Bool.not_eq_false', Bool.and_eq_true, beq_iff_eq] at h5
   obtain ⟨rfl, rfl⟩ := h5
   exact ⟨⟨z, z⟩, fun _ => ⟨rfl, rfl⟩⟩
 have h8' : Cl a7 ∧ Cl a8 := by
  unfold mC.b8 at h8
  by_cases c : a7 = 0 ∧ a8 = 0
  ·obtain ⟨rfl, rfl⟩ := c
   exact ⟨z, z⟩
  ·rw [if_neg c] at h8
   simp only [Bool.or_eq_false_iff, Bool.not_eq_false'] at h8
   exact mayb_cl hn h8.1
 have h7' : a3 = 6 → a7 = 0 ∧ a8 = 0 := fun c => by
  unfold mC.b7 at h7
  rw [if_pos c] at h7
  simpa using h7
 have h6' : Cl a9 ∧ (a3 ≠ 1 → a9 = 0) := by
  unfold mC.b6 at h6
  by_cases c : a3 = 1
  ·rw [if_pos c] at h6
   simp only [Bool.not_eq_false', mC.runeb, Bool.and_eq_true, decide_eq_true_eq] at h6
   exact ⟨⟨by omega, by omega⟩, fun hc => absurd c hc⟩
  ·rw [if_neg c] at h6
   have : a9 = 0 := by simpa using h6
   subst this
   exact ⟨z, fun _ => rfl⟩
 exact ⟨by omega, clk_is _ h2.2.1, h9, by omega, clk_is _ h4.2.2, ⟨h5'.1.1, h5'.1.2, h8'.1, h8'.2, h6'.1⟩, h5'.2, h7', h6'.2⟩
end
theorem nums_loop (l : List Int) (hc : ∀ n ∈ l, Cl n) (hl : l.length ≤ 1000) : ∀ (d j K : Nat) (s : ByteArray), j + d = l.length → s.size + 5 * d ≤ 9223372036854775807 → 1 ≤ K → mN.l0 (K + d + 1) s l l.length j = some (s ++ body (l.drop j)) := by
 intro d
 induction d with
 | zero =>
  intro j K s hj hs hK
  rw [Nat.add_zero]
  simp only [mN.l0]
  rw [if_neg (by omega), List.drop_of_length_le (by omega), body, app_nil]
 | succ d ih =>
  intro j K s hj hs hK
  have hn : Cl (rd l j) := hc _ (by
   have : rd l j = l[j]'(by omega) := by simp [rd, List.getD_eq_getElem?_getD, List.getElem?_eq_getElem (show j < l.length by omega)]
   rw [this]; exact List.getElem_mem _)
  have hlen := numB_len (rd l j)
  rw [show K + (d + 1) + 1 = (K + d + 1) + 1 by omega]
  have ihj := ih (j + 1) K (s ++ S (rd l j)) (by omega) (by rw [ByteArray.size_append, S_size]; omega) hK
  have hq : 1 ≤ K + d + 1 := by omega
  generalize K + d + 1 = q at *
  simp only [mN.l0]
  rw [if_pos (by omega), if_pos (by omega), if_pos (by omega), num_okK q hq _ hn, Option.bind_some]
  simp only
  rw [if_pos (by rw [S_size]; omega), show wrap64 ((j : Int) + 1) = ((j + 1 : Nat) : Int) by unfold wrap64; omega, ihj, rd_drop l j (by omega), body, app_assoc]
theorem nums_is (l : List Int) (hc : ∀ n ∈ l, Cl n) (hl : l.length ≤ 1000) (K : Nat) (hK : l.length + 2 ≤ K) : mN.f K l = some (body l) := by
 have h := nums_loop l hc hl l.length 0 (K - l.length - 1) ⟨#[]⟩ (by omega) (by show 0 + _ ≤ _; omega) (by omega)
 rw [show K - l.length - 1 + l.length + 1 = K by omega, List.drop_zero, nil_app] at h
 exact h
def tailB (a3 a5 a6 a7 a8 a9 : Int) : ByteArray :=
 if a3 = 1 then S a5 ++ (S a6 ++ (S a7 ++ (S a8 ++ (S a9 ++ (⟨#[]⟩ : ByteArray))))) else if a3 = 6 then S a5 ++ (S a6 ++ (⟨#[]⟩ : ByteArray)) else S a7 ++ (S a8 ++ (⟨#[]⟩ : ByteArray))
def enc (a0 a1 : Int) (l : List Int) (a3 a4 a5 a6 a7 a8 a9 : Int) : ByteArray := S a0 ++ (S a1 ++ (S l.length ++ body l ++ (S a3 ++ (S a4 ++ tailB a3 a5 a6 a7 a8 a9))))
theorem S_len (n : Int) : 1 ≤ (S n).size ∧ (S n).size ≤ 5 := by rw [S_size]; exact numB_len n
theorem two (a b : Int) : body [a, b] = S a ++ S b := by rw [body, body, body, app_nil]
theorem one (a : Int) : body [a] = S a := by rw [body, body, app_nil]
section
variable {a0 a1 : Int} {l : List Int} {a3 a4 a5 a6 a7 a8 a9 : Int}
theorem encode_ok (h : Ok a0 a1 l a3 a4 a5 a6 a7 a8 a9) (K : Nat) (hK : 10 ≤ K) : mE.f K a0 a1 l a3 a4 a5 a6 a7 a8 a9 = some (enc a0 a1 l a3 a4 a5 a6 a7 a8 a9, 0) := by
 obtain ⟨hl, c1, cl, hk, c4, ⟨c5, c6, c7, c8, c9⟩, _, _, _⟩ := ok_all h
 have c0 : Cl a0 := ⟨by omega, by omega⟩
 have c3 : Cl a3 := ⟨by omega, by omega⟩
 have e2 : ∀ (x y : Int) (q : Nat), 9 ≤ q → Cl x → Cl y → mN.f q [x, y] = some (S x ++ S y) := fun x y q hq hx hy => by
  rw [← two]
  exact nums_is _ (fun n hn => by simp only [List.mem_cons, List.not_mem_nil, or_false] at hn; rcases hn with rfl | rfl <;> assumption) (by simp) _ (by simp only [List.length_cons, List.length_nil]; omega)
 have e1 : ∀ (x : Int) (q : Nat), 9 ≤ q → Cl x → mN.f q [x] = some (S x) := fun x q hq hx => by
  rw [← one]
  exact nums_is _ (fun n hn => by simp only [List.mem_cons, List.not_mem_nil, or_false] at hn; rcases hn with rfl; assumption) (by simp) _ (by simp only [List.length_cons, List.length_nil]; omega)
 have hb := body_size l
 have s0 := S_len a0; have s1 := S_len a1; have s3 := S_len a3; have s4 := S_len a4; have s5 := S_len a5; have s6 := S_len a6; have s7 := S_len a7; have s8 := S_len a8; have s9 := S_len a9; have sl := S_len l.length
 obtain ⟨q, rfl⟩ : ∃ q, K = q + 1 := ⟨K - 1, by omega⟩
 unfold mE.f enc tailB
 rw [check_ok h, Option.bind_some, if_pos rfl, list_ok l (by omega) cl, Option.bind_some, mC.has_is, Option.bind_some, e2 _ _ _ (by omega) c0 c1, Option.bind_some]
 simp only
 rw [if_pos (by simp only [ByteArray.size_append]; omega), e2 _ _ _ (by omega) c3 c4, Option.bind_some, if_pos (by simp only [ByteArray.size_append]; omega)]
 by_cases k1 : a3 = 1
 ·rw [if_pos (by simp [k1]), e2 _ _ _ (by omega) c5 c6, Option.bind_some, if_pos (by simp only [ByteArray.size_append]; omega)]
  simp only [mE.j0]
  rw [if_pos (by simp [k1]), e2 _ _ _ (by omega) c7 c8, Option.bind_some, if_pos (by simp only [ByteArray.size_append]; omega), if_pos (by simp [k1]), e1 _ _ (by omega) c9, Option.bind_some, if_pos (by simp only [ByteArray.size_append]; omega), if_pos k1]
  simp only [app_assoc, app_nil]
 ·by_cases k6 : a3 = 6
  ·rw [if_pos (by simp [k6]), e2 _ _ _ (by omega) c5 c6, Option.bind_some, if_pos (by simp only [ByteArray.size_append]; omega)]
   simp only [mE.j0]
   rw [if_neg (by simp [k6]), if_neg (by simp [k1]), if_neg k1, if_pos k6]
   simp only [app_assoc, app_nil]
  ·rw [if_neg (by simp [k1, k6])]
   simp only [mE.j0]
   rw [if_pos (by simp [k6]), e2 _ _ _ (by omega) c7 c8, Option.bind_some, if_pos (by simp only [ByteArray.size_append]; omega), if_neg (by simp [k1]), if_neg k1, if_neg k6]
   simp only [app_assoc, app_nil]
end
theorem num_S (n : Int) (b : ByteArray) (hn : Cl n) (c : Int → ByteArray → Option (Int × Int × List Int × Int × Int × Int × Int × Int × Int × Int × Int)) : mD.num (S n ++ b) c = c n b := by
 unfold mD.num
 rw [take_S n b hn, Option.bind_some]
 exact if_pos rfl
section
variable {a0 a1 : Int} {l : List Int} {a3 a4 a5 a6 a7 a8 a9 : Int}
theorem decode_enc (h : Ok a0 a1 l a3 a4 a5 a6 a7 a8 a9) (K : Nat) (hK : 1010 ≤ K) : mD.f K (enc a0 a1 l a3 a4 a5 a6 a7 a8 a9) = some (a0, a1, l, a3, a4, a5, a6, a7, a8, a9, 0) := by
 obtain ⟨hl, c1, cl, hk, c4, ⟨c5, c6, c7, c8, c9⟩, z5, z7, z9⟩ := ok_all h
 have c0 : Cl a0 := ⟨by omega, by omega⟩
 have c3 : Cl a3 := ⟨by omega, by omega⟩
 have hfin : mD.fin (⟨#[]⟩ : ByteArray) a0 a1 l a3 a4 a5 a6 a7 a8 a9 = some (a0, a1, l, a3, a4, a5, a6, a7, a8, a9, 0) := by
  unfold mD.fin
  rw [if_pos (by rw [toList_empty]; rfl), check_ok h, Option.bind_some, if_pos rfl]
 unfold mD.f enc
 rw [num_S _ _ c0, num_S _ _ c1, each_is _ K hK, Option.bind_some, eachF_S l _ (by omega) cl]
 simp only
 rw [if_pos trivial]
 unfold mD.kind
 rw [num_S _ _ c3, if_neg (by omega), if_neg (by omega), num_S _ _ c4]
 unfold mD.tail tailB
 by_cases k1 : a3 = 1
 ·rw [if_pos k1, if_pos k1]
  unfold mD.ids
  rw [num_S _ _ c5, num_S _ _ c6]
  try dsimp only
  rw [num_S _ _ c7, num_S _ _ c8]
  try dsimp only
  rw [num_S _ _ c9]
  exact hfin
 ·rw [if_neg k1, if_neg k1]
  by_cases k6 : a3 = 6
  ·rw [if_pos k6, if_pos k6]
   unfold mD.ids
   rw [num_S _ _ c5, num_S _ _ c6]
   obtain ⟨rfl, rfl⟩ := z7 k6
   obtain rfl := z9 k1
   exact hfin
  ·rw [if_neg k6, if_neg k6]
   unfold mD.ids
   rw [num_S _ _ c7, num_S _ _ c8]
   obtain ⟨rfl, rfl⟩ := z5 (by omega)
   obtain rfl := z9 k1
   exact hfin
end
theorem num_any (s : ByteArray) (c : Int → ByteArray → Option (Int × Int × List Int × Int × Int × Int × Int × Int × Int × Int × Int)) : (∃ n b, Cl n ∧ s = S n ++ b ∧ mD.num s c = c n b) ∨ (∃ e, e ≠ 0 ∧ mD.num s c = mD.bad e) := by
 rcases take_cases s with ⟨n, r, hn, hs, ht⟩ | ⟨e, he, ht⟩
 ·exact .inl ⟨n, r, hn, hs, by rw [hs]; exact num_S n r hn c⟩
 ·have h0 : e ≠ 0 := by omega
  refine .inr ⟨e, h0, ?_⟩
  unfold mD.num
  rw [ht, Option.bind_some]
  exact if_neg h0
theorem decode_any (s : ByteArray) (K : Nat) (hK : 1010 ≤ K) : (∃ a0 a1 l a3 a4 a5 a6 a7 a8 a9, Ok a0 a1 l a3 a4 a5 a6 a7 a8 a9 ∧ s = enc a0 a1 l a3 a4 a5 a6 a7 a8 a9) ∨ (∃ e, e ≠ 0 ∧ mD.f K s = mD.bad e) := by
 have hfin : ∀ (b : ByteArray) (a0 a1 : Int) (l : List Int) (a3 a4 a5 a6 a7 a8 a9 : Int), (b = (⟨#[]⟩ : ByteArray) ∧ Ok a0 a1 l a3 a4 a5 a6 a7 a8 a9) ∨ mD.fin b a0 a1 l a3 a4 a5 a6 a7 a8 a9 = mD.bad 2 := by
  intro b a0 a1 l a3 a4 a5 a6 a7 a8 a9
  unfold mD.fin
  by_cases hb : b.toList = ([] : List UInt8)
  ·rw [if_pos hb]
   by_cases ho : Ok a0 a1 l a3 a4 a5 a6 a7 a8 a9
   ·refine .inl ⟨?_, ho⟩
    apply toList_inj
    rw [hb, (toList_empty (a := (⟨#[]⟩ : ByteArray))).mpr rfl]
   ·exact .inr (by rw [check_no ho, Option.bind_some, if_neg (by decide)])
  ·exact .inr (by rw [if_neg hb])
 unfold mD.f
 rcases num_any s _ with ⟨a0, s1, c0, rfl, h⟩ | ⟨e, he, h⟩
 ·rw [h]; clear h
  rcases num_any s1 _ with ⟨a1, s2, c1, rfl, h⟩ | ⟨e, he, h⟩
  ·rw [h]; clear h
   rw [each_is _ K hK, Option.bind_some]
   rcases eachF_cases s2 with ⟨l, s3, hl, cl, rfl, h⟩ | ⟨e, he, h⟩
   ·rw [h]; clear h
    simp only
    rw [if_pos trivial]
    unfold mD.kind
    rcases num_any s3 _ with ⟨a3, s4, c3, rfl, h⟩ | ⟨e, he, h⟩
    ·rw [h]; clear h
     by_cases k0 : a3 < 1
     ·exact .inr ⟨2, by decide, by rw [if_pos k0]⟩
     rw [if_neg k0]
     by_cases k8 : 8 < a3
     ·exact .inr ⟨2, by decide, by rw [if_pos k8]⟩
     rw [if_neg k8]
     rcases num_any s4 _ with ⟨a4, s5, c4, rfl, h⟩ | ⟨e, he, h⟩
     ·rw [h]; clear h
      unfold mD.tail mD.ids
      by_cases k1 : a3 = 1
      ·rw [if_pos k1]
       rcases num_any s5 _ with ⟨a5, s6, c5, rfl, h⟩ | ⟨e, he, h⟩
       ·rw [h]; clear h
        rcases num_any s6 _ with ⟨a6, s7, c6, rfl, h⟩ | ⟨e, he, h⟩
        ·rw [h]; clear h
         try dsimp only
         rcases num_any s7 _ with ⟨a7, s8, c7, rfl, h⟩ | ⟨e, he, h⟩
         ·rw [h]; clear h
          rcases num_any s8 _ with ⟨a8, s9, c8, rfl, h⟩ | ⟨e, he, h⟩
          ·rw [h]; clear h
           try dsimp only
           rcases num_any s9 _ with ⟨a9, s10, c9, rfl, h⟩ | ⟨e, he, h⟩
           ·rw [h]; clear h
            rcases hfin s10 a0 a1 l a3 a4 a5 a6 a7 a8 a9 with ⟨rfl, ho⟩ | h
            ·exact .inl ⟨a0, a1, l, a3, a4, a5, a6, a7, a8, a9, ho, by unfold enc tailB; rw [if_pos k1]⟩
            ·exact .inr ⟨2, by decide, h⟩
           ·exact .inr ⟨e, he, h⟩
          ·exact .inr ⟨e, he, h⟩
         ·exact .inr ⟨e, he, h⟩
        ·exact .inr ⟨e, he, h⟩
       ·exact .inr ⟨e, he, h⟩
      ·rw [if_neg k1]
       by_cases k6 : a3 = 6
       ·rw [if_pos k6]
        rcases num_any s5 _ with ⟨a5, s6, c5, rfl, h⟩ | ⟨e, he, h⟩
        ·rw [h]; clear h
         rcases num_any s6 _ with ⟨a6, s7, c6, rfl, h⟩ | ⟨e, he, h⟩
         ·rw [h]; clear h
          try dsimp only
          rcases hfin s7 a0 a1 l a3 a4 a5 a6 0 0 0 with ⟨rfl, ho⟩ | h
          ·exact .inl ⟨a0, a1, l, a3, a4, a5, a6, 0, 0, 0, ho, by unfold enc tailB; rw [if_neg k1, if_pos k6]⟩
          ·exact .inr ⟨2, by decide, h⟩
         ·exact .inr ⟨e, he, h⟩
        ·exact .inr ⟨e, he, h⟩
       ·rw [if_neg k6]
        rcases num_any s5 _ with ⟨a7, s6, c7, rfl, h⟩ | ⟨e, he, h⟩
        ·rw [h]; clear h
         rcases num_any s6 _ with ⟨a8, s7, c8, rfl, h⟩ | ⟨e, he, h⟩
         ·rw [h]; clear h
          try dsimp only
          rcases hfin s7 a0 a1 l a3 a4 0 0 a7 a8 0 with ⟨rfl, ho⟩ | h
          ·exact .inl ⟨a0, a1, l, a3, a4, 0, 0, a7, a8, 0, ho, by unfold enc tailB; rw [if_neg k1, if_neg k6]⟩
          ·exact .inr ⟨2, by decide, h⟩
         ·exact .inr ⟨e, he, h⟩
        ·exact .inr ⟨e, he, h⟩
     ·exact .inr ⟨e, he, h⟩
    ·exact .inr ⟨e, he, h⟩
   ·refine .inr ⟨e, he, ?_⟩
    rw [h]
    exact if_neg he
  ·exact .inr ⟨e, he, h⟩
 ·exact .inr ⟨e, he, h⟩
theorem again (t : ByteArray) : ∃ (r1 r2 : Int) (r3 : List Int) (r4 r5 r6 r7 r8 r9 r10 r11 : Int), mD.f 1010 t = some (r1, r2, r3, r4, r5, r6, r7, r8, r9, r10, r11) ∧ (r11 = 0 → mE.f 1010 r1 r2 r3 r4 r5 r6 r7 r8 r9 r10 = some (t, 0)) := by
 rcases decode_any t 1010 (by omega) with ⟨a0, a1, l, a3, a4, a5, a6, a7, a8, a9, ho, rfl⟩ | ⟨e, he, hd⟩
 ·exact ⟨_, _, _, _, _, _, _, _, _, _, _, decode_enc ho _ (by omega), fun _ => encode_ok ho _ (by omega)⟩
 ·rw [hd]
  unfold mD.bad
  exact ⟨_, _, _, _, _, _, _, _, _, _, _, rfl, fun h => absurd h he⟩
end Go.Proofs.YtphdjpfdelpecaaGreatDoor.MesfL
