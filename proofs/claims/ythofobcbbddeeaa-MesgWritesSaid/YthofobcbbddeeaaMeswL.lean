/- What the functions of layer 4 (mesg), of its reference and those of layer 1 that they call answer, as plain facts on numbers, lists and bytes. Conditions: none beyond those that each lemma states. -/
import Derived.Test.YthofobcbbddeeaaPMeswx12
import Derived.Test.YthofobcbbddeeaaXW
namespace Go.Proofs.Ythofobcbbddeeaa.MeswL
open Go.RowKit Go.Proofs.Ythofobcbbddeeaa.PMesw Go.Proofs.YthofobcbbddeeaaW.PrintWords Go.Proofs.YthofobcbbddeeaaW.PrintLast Go.Proofs.YthofobcbbddeeaaW.PrintMore Go.Proofs.Ythofobcbbddeeaa.XW
set_option linter.unusedVariables false
set_option linter.unusedSimpArgs false

theorem size_str (xs : List Int) : (strOfNums xs).size = xs.length := by
  show (strOfNums xs).data.size = _
  simp [strOfNums]
theorem bt_str (xs : List Int) (hx : ∀ x ∈ xs, 0 ≤ x ∧ x ≤ 255) (i : Int) : bt (strOfNums xs) i = rd xs i := by
  unfold bt rd
  split
  · rename_i h
    have hl : i.toNat < xs.length := by rw [size_str] at h; exact h
    have hm := hx _ (List.getElem_mem hl)
    simp only [List.getD_eq_getElem?_getD, List.getElem?_eq_getElem hl, Option.getD_some]
    show (((strOfNums xs).data[i.toNat]'h).toNat : Int) = _
    simp [strOfNums]
    omega
  · rename_i h
    rw [size_str] at h
    simp [List.getD_eq_getElem?_getD, List.getElem?_eq_none (show xs.length ≤ i.toNat by omega)]
theorem ext_bt (a b : ByteArray) (hs : a.size = b.size) (h : ∀ i : Nat, i < a.size → bt a i = bt b i) : a = b := by
  apply ByteArray.ext
  apply Array.ext
  · exact hs
  · intro i h1 h2
    have h1' : i < a.size := h1
    have h2' : i < b.size := h2
    have := h i h1'
    unfold bt at this
    simp only [Int.toNat_natCast] at this
    rw [dif_pos h1', dif_pos h2'] at this
    have h3 : (a[i]'h1').toNat = (b[i]'h2').toNat := by omega
    exact UInt8.toNat_inj.mp h3
/-- A number's bytes. -/
def numB (n : Int) : List Int := if n < 248 then [n % 256] else if n > 16777215 then [251, n / 16777216 % 256, n / 65536 % 256, n / 256 % 256, n % 256] else if n > 65535 then [250, n / 65536 % 256, n / 256 % 256, n % 256] else if n > 255 then [249, n / 256 % 256, n % 256] else [248, n % 256]
def S (n : Int) : ByteArray := strOfNums (numB n)
def Cl (n : Int) : Prop := 0 ≤ n ∧ n ≤ 4294967295
instance (n : Int) : Decidable (Cl n) := inferInstanceAs (Decidable (0 ≤ n ∧ n ≤ 4294967295))
theorem S_size (n : Int) : (S n).size = (numB n).length := size_str _
theorem numB_len (n : Int) : 1 ≤ (numB n).length ∧ (numB n).length ≤ 5 := by
  unfold numB
  repeat' split
  all_goals simp

theorem str_app (a b : List Int) : strOfNums a ++ strOfNums b = strOfNums (a ++ b) := by
  apply ByteArray.ext
  simp [strOfNums]
theorem num_ok (k : Nat) (n : Int) (h : Cl n) : pack_Num.f (k + 1) n = some (S n, 0) := by
  obtain ⟨h0, h1⟩ := h
  unfold pack_Num.f
  rw [if_neg (by omega), show decide (n > 4294967295) = false from decide_eq_false (by omega)]
  simp only [pack_Num.j0]
  unfold S numB
  rw [if_neg (show ¬ (false = true) by decide)]
  by_cases c : n < 248
  · rw [if_pos c, if_pos c]
  · rw [if_neg c, if_neg c]
    unfold pack_width.f
    by_cases c1 : n > 16777215
    · rw [if_pos c1, if_pos c1]; simp [show wrap64 251 = 251 by unfold wrap64; omega]
    · rw [if_neg c1, if_neg c1]
      by_cases c2 : n > 65535
      · rw [if_pos c2, if_pos c2]; simp [show wrap64 250 = 250 by unfold wrap64; omega]
      · rw [if_neg c2, if_neg c2]
        by_cases c3 : n > 255
        · rw [if_pos c3, if_pos c3]; simp [show wrap64 249 = 249 by unfold wrap64; omega]
        · rw [if_neg c3, if_neg c3]; simp [show wrap64 248 = 248 by unfold wrap64; omega]
theorem num_no (k : Nat) (n : Int) (h : ¬ Cl n) : pack_Num.f (k + 1) n = some (⟨#[]⟩, 1) := by
  unfold pack_Num.f
  unfold Cl at h
  by_cases c : n < 0
  · rw [if_pos c]; rfl
  · rw [if_neg c, show decide (n > 4294967295) = true from decide_eq_true (by omega)]; rfl
theorem ref_len (x : Int) (r : List Int) (hr : r.length ≤ 3) : ((x :: r).length : Int) ≤ 4 ∧ 0 < ((x :: r).length : Int) := by
  simp only [List.length_cons]; omega
theorem ref_hw (m : Int) (h0 : 0 < m) (h1 : m ≤ 4) : (wrap64 (247 + m)) % 256 = 247 + m := by unfold wrap64; omega
theorem ref_hz (m : Int) (x : Int) (r : List Int) (hr : r.length ≤ 3) : (strOfNums [m]).size + (strOfNums (x :: r)).size ≤ 9223372036854775807 := by
  rw [size_str, size_str]
  simp only [List.length_cons, List.length_nil]
  omega
theorem ref_stop (k : Nat) (x : Int) (r : List Int) (hr : r.length ≤ 3) (hx : x ≠ 0) : duetref01_Num.l0 (k + 1) (x :: r) = some (strOfNums ((247 + ((x :: r).length : Int)) :: x :: r), 0) := by
  obtain ⟨hl, hp⟩ := ref_len x r hr
  simp only [duetref01_Num.l0]
  rw [if_pos hp, if_neg (show ¬ rd (x :: r) 0 = 0 from hx)]
  rw [Option.bind_some, ref_hw _ hp hl, if_pos (ref_hz _ x r hr), str_app, List.cons_append, List.nil_append]
theorem ref_skip (k : Nat) (r : List Int) (hr : 0 < r.length) : duetref01_Num.l0 (k + 1) (0 :: r) = duetref01_Num.l0 k r := by
  simp only [duetref01_Num.l0]
  rw [if_pos (by simp only [List.length_cons]; omega), if_pos (show rd (0 :: r) 0 = 0 from rfl), if_pos (by simp only [List.length_cons]; omega), show (1 : Int).toNat = 1 from rfl, List.drop_succ_cons, List.drop_zero]
theorem ref_ok (k : Nat) (n : Int) (h : Cl n) : duetref01_Num.f (k + 6) n = some (S n, 0) := by
  obtain ⟨h0, h1⟩ := h
  unfold duetref01_Num.f
  rw [if_neg (by omega), show decide (n > 4294967295) = false from decide_eq_false (by omega)]
  simp only [duetref01_Num.j0]
  unfold S numB
  rw [if_neg (show ¬ (false = true) by decide)]
  by_cases c : n < 248
  · rw [if_pos c, if_pos c]
  · rw [if_neg c, if_neg c]
    have e3 : (wrap64 (Int.tdiv n 16777216)) % 256 = n / 16777216 % 256 := by
      rw [Int.tdiv_eq_ediv_of_nonneg h0]; unfold wrap64; omega
    have e2 : (Int.tmod (wrap64 (Int.tdiv n 65536)) 256) % 256 = n / 65536 % 256 := by
      rw [Int.tdiv_eq_ediv_of_nonneg h0, show wrap64 (n / 65536) = n / 65536 by unfold wrap64; omega, Int.tmod_eq_emod_of_nonneg (by omega)]; omega
    have e1 : (Int.tmod (wrap64 (Int.tdiv n 256)) 256) % 256 = n / 256 % 256 := by
      rw [Int.tdiv_eq_ediv_of_nonneg h0, show wrap64 (n / 256) = n / 256 by unfold wrap64; omega, Int.tmod_eq_emod_of_nonneg (by omega)]; omega
    have e0 : (Int.tmod n 256) % 256 = n % 256 := by
      rw [Int.tmod_eq_emod_of_nonneg h0]; omega
    rw [e3, e2, e1, e0]
    by_cases c1 : n > 16777215
    · rw [if_pos c1, ref_stop _ _ _ (by simp) (by omega)]; simp
    · rw [if_neg c1, show n / 16777216 % 256 = 0 by omega, ref_skip _ _ (by simp)]
      by_cases c2 : n > 65535
      · rw [if_pos c2, ref_stop _ _ _ (by simp) (by omega)]; simp
      · rw [if_neg c2, show n / 65536 % 256 = 0 by omega, ref_skip _ _ (by simp)]
        by_cases c3 : n > 255
        · rw [if_pos c3, ref_stop _ _ _ (by simp) (by omega)]; simp
        · rw [if_neg c3, show n / 256 % 256 = 0 by omega, ref_skip _ _ (by simp), ref_stop _ _ _ (by simp) (by omega)]; simp
theorem ref_no (k : Nat) (n : Int) (h : ¬ Cl n) : duetref01_Num.f (k + 1) n = some (⟨#[]⟩, 1) := by
  unfold duetref01_Num.f
  unfold Cl at h
  by_cases c : n < 0
  · rw [if_pos c]; rfl
  · rw [if_neg c, show decide (n > 4294967295) = true from decide_eq_true (by omega)]; rfl

theorem num_okK (K : Nat) (hK : 1 ≤ K) (n : Int) (h : Cl n) : pack_Num.f K n = some (S n, 0) := by
  obtain ⟨k, rfl⟩ : ∃ k, K = k + 1 := ⟨K - 1, by omega⟩
  exact num_ok k n h
theorem ref_okK (K : Nat) (hK : 6 ≤ K) (n : Int) (h : Cl n) : duetref01_Num.f K n = some (S n, 0) := by
  obtain ⟨k, rfl⟩ : ∃ k, K = k + 6 := ⟨K - 6, by omega⟩
  exact ref_ok k n h
theorem ref_noK (K : Nat) (hK : 1 ≤ K) (n : Int) (h : ¬ Cl n) : duetref01_Num.f K n = some (⟨#[]⟩, 1) := by
  obtain ⟨k, rfl⟩ : ∃ k, K = k + 1 := ⟨K - 1, by omega⟩
  exact ref_no k n h
/-! ### the reference's Take -/
def body : List Int → ByteArray
  | [] => ⟨#[]⟩
  | n :: l => S n ++ body l
theorem app_assoc (a b c : ByteArray) : a ++ b ++ c = a ++ (b ++ c) := ByteArray.append_assoc
theorem app_nil (a : ByteArray) : a ++ (⟨#[]⟩ : ByteArray) = a := by
  apply ByteArray.ext
  simp
theorem nil_app (a : ByteArray) : (⟨#[]⟩ : ByteArray) ++ a = a := by
  apply ByteArray.ext
  simp
theorem str_bytes (s : ByteArray) : strOfNums (bytesOf s) = s := by
  apply ext_bt
  · rw [size_str, bytesOf_length]
  · intro i hi
    rw [bt_str, rd_bytesOf]
    intro x hx
    simp only [bytesOf, List.mem_map] at hx
    obtain ⟨b, _, rfl⟩ := hx
    have := b.toNat_lt
    omega
theorem str_more (b : List Int) (s : ByteArray) : strOfNums (b ++ bytesOf s) = strOfNums b ++ s := by
  rw [← str_app, str_bytes]
theorem body_size : ∀ l : List Int, (body l).size ≤ 5 * l.length
  | [] => Nat.le_refl 0
  | n :: l => by
    have h1 := body_size l
    have h2 := numB_len n
    rw [body, ByteArray.size_append, S_size, List.length_cons]
    omega
theorem go_ok : ∀ (l b : List Int), (∀ n ∈ l, Cl n) → b.length + 5 * l.length ≤ 140737488355328 → pack_List.go l b = some (strOfNums b ++ body l, 0)
  | [], b, _, _ => by simp only [pack_List.go, body, app_nil]
  | n :: l, b, h, hb => by
    have hn := h n List.mem_cons_self
    have hl := numB_len n
    simp only [List.length_cons] at hb
    simp only [pack_List.go]
    rw [num_ok 8 n hn, Option.bind_some, if_pos rfl, if_pos (by rw [S_size]; omega), go_ok l _ (fun m hm => h m (List.mem_cons_of_mem _ hm)) (by rw [List.length_append, bytesOf_length, S_size]; omega), str_more, body, app_assoc]
theorem go_no : ∀ (l b : List Int), ¬ (∀ n ∈ l, Cl n) → b.length + 5 * l.length ≤ 140737488355328 → pack_List.go l b = some (⟨#[]⟩, 1)
  | [], b, h, _ => absurd (fun n hn => by cases hn) h
  | n :: l, b, h, hb => by
    have hl := numB_len n
    simp only [List.length_cons] at hb
    simp only [pack_List.go]
    by_cases hn : Cl n
    · rw [num_ok 8 n hn, Option.bind_some, if_pos rfl, if_pos (by rw [S_size]; omega)]
      exact go_no l _ (fun hh => h (fun m hm => by
        rcases List.mem_cons.mp hm with rfl | hm
        · exact hn
        · exact hh m hm)) (by rw [List.length_append, bytesOf_length, S_size]; omega)
    · rw [num_no 8 n hn, Option.bind_some, if_neg (by decide)]
theorem list_far (l : List Int) (h : 1000 < l.length) : pack_List.f l = some (⟨#[]⟩, 1) := by
  unfold pack_List.f
  rw [if_pos (by omega)]
theorem list_ok (l : List Int) (h : l.length ≤ 1000) (hc : ∀ n ∈ l, Cl n) : pack_List.f l = some (S l.length ++ body l, 0) := by
  have hl := numB_len l.length
  unfold pack_List.f
  rw [if_neg (by omega), num_ok 8 _ ⟨by omega, by omega⟩, Option.bind_some, if_pos (by rw [S_size]; omega), go_ok l _ hc (by rw [bytesOf_length, S_size]; omega), str_bytes]
theorem list_no (l : List Int) (h : l.length ≤ 1000) (hc : ¬ ∀ n ∈ l, Cl n) : pack_List.f l = some (⟨#[]⟩, 1) := by
  have hl := numB_len l.length
  unfold pack_List.f
  rw [if_neg (by omega), num_ok 8 _ ⟨by omega, by omega⟩, Option.bind_some, if_pos (by rw [S_size]; omega), go_no l _ hc (by rw [bytesOf_length, S_size]; omega)]
theorem rd_drop (l : List Int) (j : Nat) (h : j < l.length) : l.drop j = rd l j :: l.drop (j + 1) := by
  rw [List.drop_eq_getElem_cons h]
  simp [rd, List.getD_eq_getElem?_getD, List.getElem?_eq_getElem h]
theorem ref_list_loop (l : List Int) (hl : l.length ≤ 1000) (K : Nat) (hK : 6 ≤ K) : ∀ (d j : Nat) (s : ByteArray), j + d = l.length → s.size + 5 * d ≤ 140737488355328 →
    duetref01_List.l0 (K + d + 1) l s j = if ∀ n ∈ l.drop j, Cl n then some (s ++ body (l.drop j), 0) else some (⟨#[]⟩, 1) := by
  intro d
  induction d with
  | zero =>
    intro j s hj hs
    simp only [duetref01_List.l0]
    rw [if_neg (by omega), List.drop_eq_nil_of_le (by omega), if_pos (fun n hn => by cases hn), body, app_nil]
  | succ d ih =>
    intro j s hj hs
    have hd := rd_drop l j (by omega)
    have hn := numB_len (rd l j)
    have ihj := fun s' h' => ih (j + 1) s' (by omega) h'
    rw [show K + (d + 1) + 1 = (K + d + 1) + 1 by omega]
    have hq : 6 ≤ K + d + 1 := by omega
    generalize K + d + 1 = q at *
    simp only [duetref01_List.l0]
    rw [if_pos (by omega), if_pos (by omega)]
    by_cases c : Cl (rd l j)
    · rw [ref_okK q hq _ c, Option.bind_some, if_pos rfl, if_pos (by rw [S_size]; omega), show wrap64 ((j : Int) + 1) = ((j + 1 : Nat) : Int) by unfold wrap64; omega,
        ihj _ (by rw [ByteArray.size_append, S_size]; omega), hd]
      by_cases c2 : ∀ n ∈ l.drop (j + 1), Cl n
      · rw [if_pos c2, if_pos (fun n hn => by
          rcases List.mem_cons.mp hn with rfl | hn
          · exact c
          · exact c2 n hn), body, app_assoc]
      · rw [if_neg c2, if_neg (fun hh => c2 (fun n hn => hh n (List.mem_cons_of_mem _ hn)))]
    · rw [ref_noK q (by omega) _ c, Option.bind_some, if_neg (by decide), hd, if_neg (fun hh => c (hh _ List.mem_cons_self))]
theorem ref_list (l : List Int) (K : Nat) (hK : l.length + 7 ≤ K) : duetref01_List.f K l = pack_List.f l := by
  unfold duetref01_List.f
  by_cases c : (l.length : Int) > 1000
  · rw [if_pos c, list_far l (by omega)]
  · rw [if_neg c]
    have hs := numB_len l.length
    have h1 : duetref01_Num.f K (l.length : Int) = some (S l.length, 0) := by
      rw [show K = (K - 6) + 6 by omega]
      exact ref_ok _ _ ⟨by omega, by omega⟩
    rw [h1, Option.bind_some]
    have := ref_list_loop l (by omega) (K - l.length - 1) (by omega) l.length 0 (S l.length) (by omega) (by rw [S_size]; omega)
    rw [show K - l.length - 1 + l.length + 1 = K by omega] at this
    refine (this : duetref01_List.l0 K l (S l.length) 0 = _).trans ?_
    rw [List.drop_zero]
    by_cases hc : ∀ n ∈ l, Cl n
    · rw [if_pos hc, list_ok l (by omega) hc]
    · rw [if_neg hc, list_no l (by omega) hc]
/-- So many numbers, one behind the other. -/
def each : Nat → ByteArray → List Int → List Int × ByteArray × Int
  | 0, s, acc => (acc, s, 0)
  | d + 1, s, acc => if ((pack_Take.f s).getD (0, ⟨#[]⟩, 0)).2.2 = 0 then each d ((pack_Take.f s).getD (0, ⟨#[]⟩, 0)).2.1 (acc ++ [((pack_Take.f s).getD (0, ⟨#[]⟩, 0)).1]) else ([], ⟨#[]⟩, ((pack_Take.f s).getD (0, ⟨#[]⟩, 0)).2.2)
theorem same_loop (a b : List Int) (h : a.length = b.length) (hb : a.length ≤ 140737488351232) : ∀ (d j K : Nat), j + d = a.length → d < K → duetref01_Same.l0 K a b j = some (decide (a.drop j = b.drop j)) := by
  intro d
  induction d with
  | zero =>
    intro j K hj hK
    obtain ⟨K, rfl⟩ : ∃ q, K = q + 1 := ⟨K - 1, by omega⟩
    simp only [duetref01_Same.l0]
    rw [if_neg (by omega), List.drop_eq_nil_of_le (by omega), List.drop_eq_nil_of_le (by omega)]
    rfl
  | succ d ih =>
    intro j K hj hK
    obtain ⟨K, rfl⟩ : ∃ q, K = q + 1 := ⟨K - 1, by omega⟩
    simp only [duetref01_Same.l0]
    rw [if_pos (by omega), if_pos (by omega), if_pos (by omega), rd_drop a j (by omega), rd_drop b j (by omega)]
    by_cases c : rd a j = rd b j
    · rw [if_pos c, show wrap64 ((j : Int) + 1) = ((j + 1 : Nat) : Int) by unfold wrap64; omega, ih (j + 1) K (by omega) (by omega)]
      congr 1
      simp [c]
    · rw [if_neg c]
      congr 1
      simp [c]
theorem same_is (a b : List Int) (K : Nat) (hb : a.length ≤ 140737488351232) (hK : a.length < K) : duetref01_Same.f K a b = some (decide (a = b)) := by
  unfold duetref01_Same.f
  by_cases c : (a.length : Int) = b.length
  · rw [if_pos c]
    exact same_loop a b (by omega) hb a.length 0 K (by omega) (by omega)
  · rw [if_neg c]
    congr 1
    symm
    exact decide_eq_false (fun h => c (by rw [h]))
/-- A message that may be. -/
abbrev Ok (a0 a1 : Int) (l : List Int) (a3 a4 a5 a6 a7 a8 a9 : Int) : Prop := mesg_Check.bad8 a0 a1 l a3 a4 a5 a6 a7 a8 a9 = false
section
variable {a0 a1 : Int} {l : List Int} {a3 a4 a5 a6 a7 a8 a9 : Int}
theorem check_ok (h : Ok a0 a1 l a3 a4 a5 a6 a7 a8 a9) : mesg_Check.f a0 a1 l a3 a4 a5 a6 a7 a8 a9 = some 0 := by
  unfold mesg_Check.f
  rw [show mesg_Check.bad8 a0 a1 l a3 a4 a5 a6 a7 a8 a9 = false from h]
  rfl
theorem check_no (h : ¬ Ok a0 a1 l a3 a4 a5 a6 a7 a8 a9) : mesg_Check.f a0 a1 l a3 a4 a5 a6 a7 a8 a9 = some 1 := by
  unfold mesg_Check.f
  rw [show mesg_Check.bad8 a0 a1 l a3 a4 a5 a6 a7 a8 a9 = true from by cases hb : mesg_Check.bad8 a0 a1 l a3 a4 a5 a6 a7 a8 a9 with | true => rfl | false => exact absurd hb h]
  rfl
theorem clk_is (n : Int) (h : mesg_Check.clk n = true) : Cl n := by
  unfold mesg_Check.clk at h
  simpa [Cl] using h
theorem mayb_cl {t s n : Int} (hn : n ≤ 16) (h : mesg_Check.mayb t s n = true) : Cl t ∧ Cl s := by
  unfold mesg_Check.mayb at h
  simp only [Bool.and_eq_true, decide_eq_true_eq] at h
  exact ⟨⟨by omega, by omega⟩, ⟨by omega, by omega⟩⟩
theorem ok_all (h : Ok a0 a1 l a3 a4 a5 a6 a7 a8 a9) : (1 ≤ l.length ∧ l.length ≤ 16 ∧ 0 ≤ a0 ∧ a0 < 16) ∧ Cl a1 ∧ (∀ n ∈ l, Cl n) ∧ (1 ≤ a3 ∧ a3 ≤ 8) ∧ Cl a4 ∧ (Cl a5 ∧ Cl a6 ∧ Cl a7 ∧ Cl a8 ∧ Cl a9) ∧ (¬ (a3 = 1 ∨ a3 = 6) → a5 = 0 ∧ a6 = 0) ∧ (a3 = 6 → a7 = 0 ∧ a8 = 0) ∧ (a3 ≠ 1 → a9 = 0) := by
  unfold Ok mesg_Check.bad8 at h
  simp only [Bool.or_eq_false_iff] at h
  obtain ⟨h1, h2, h3, h4, h5, h6, h7, h8⟩ := h
  have z : Cl 0 := ⟨by decide, by decide⟩
  simp only [mesg_Check.b1, Bool.or_eq_false_iff, decide_eq_false_iff_not] at h1
  have hn : (l.length : Int) ≤ 16 := by omega
  simp only [mesg_Check.b2, Bool.or_eq_false_iff, decide_eq_false_iff_not, Bool.not_eq_false'] at h2
  simp only [mesg_Check.b4, Bool.or_eq_false_iff, decide_eq_false_iff_not, Bool.not_eq_false'] at h4
  have h9 : ∀ n ∈ l, Cl n := fun n hn => by
    unfold mesg_Check.anyb at h3
    rw [List.any_eq_false] at h3
    have := h3 n hn
    simp only [Bool.not_eq_true', Bool.not_eq_false] at this
    exact clk_is n this
  have h5' : (Cl a5 ∧ Cl a6) ∧ (¬ (a3 = 1 ∨ a3 = 6) → a5 = 0 ∧ a6 = 0) := by
    unfold mesg_Check.b5 at h5
    by_cases c : a3 = 1 ∨ a3 = 6
    · rw [if_pos c] at h5
      simp only [Bool.or_eq_false_iff, Bool.not_eq_false'] at h5
      exact ⟨mayb_cl hn h5.1, fun hc => absurd c hc⟩
    · rw [if_neg c] at h5
      simp only [Bool.not_eq_false', Bool.and_eq_true, beq_iff_eq] at h5
      obtain ⟨rfl, rfl⟩ := h5
      exact ⟨⟨z, z⟩, fun _ => ⟨rfl, rfl⟩⟩
  have h8' : Cl a7 ∧ Cl a8 := by
    unfold mesg_Check.b8 at h8
    by_cases c : a7 = 0 ∧ a8 = 0
    · obtain ⟨rfl, rfl⟩ := c
      exact ⟨z, z⟩
    · rw [if_neg c] at h8
      simp only [Bool.or_eq_false_iff, Bool.not_eq_false'] at h8
      exact mayb_cl hn h8.1
  have h7' : a3 = 6 → a7 = 0 ∧ a8 = 0 := fun c => by
    unfold mesg_Check.b7 at h7
    rw [if_pos c] at h7
    simpa using h7
  have h6' : Cl a9 ∧ (a3 ≠ 1 → a9 = 0) := by
    unfold mesg_Check.b6 at h6
    by_cases c : a3 = 1
    · rw [if_pos c] at h6
      simp only [Bool.not_eq_false', mesg_Check.runeb, Bool.and_eq_true, decide_eq_true_eq] at h6
      exact ⟨⟨by omega, by omega⟩, fun hc => absurd c hc⟩
    · rw [if_neg c] at h6
      have : a9 = 0 := by simpa using h6
      subst this
      exact ⟨z, fun _ => rfl⟩
  exact ⟨by omega, clk_is _ h2.2.1, h9, by omega, clk_is _ h4.2.2, ⟨h5'.1.1, h5'.1.2, h8'.1, h8'.2, h6'.1⟩, h5'.2, h7', h6'.2⟩
end
theorem nums_loop (l : List Int) (hc : ∀ n ∈ l, Cl n) (hl : l.length ≤ 1000) : ∀ (d j K : Nat) (s : ByteArray), j + d = l.length → s.size + 5 * d ≤ 9223372036854775807 → 1 ≤ K → mesg_nums.l0 (K + d + 1) s l l.length j = some (s ++ body (l.drop j)) := by
  intro d
  induction d with
  | zero =>
    intro j K s hj hs hK
    rw [Nat.add_zero]
    simp only [mesg_nums.l0]
    rw [if_neg (by omega), List.drop_of_length_le (by omega), body, app_nil]
  | succ d ih =>
    intro j K s hj hs hK
    have hn : Cl (rd l j) := hc _ (by
      have : rd l j = l[j]'(by omega) := by simp [rd, List.getD_eq_getElem?_getD, List.getElem?_eq_getElem (show j < l.length by omega)]
      rw [this]; exact List.getElem_mem _)
    have hlen := numB_len (rd l j)
    rw [show K + (d + 1) + 1 = (K + d + 1) + 1 by omega]
    have ihj := ih (j + 1) K (s ++ S (rd l j)) (by omega) (by rw [ByteArray.size_append, S_size]; omega) hK
    have hq : 1 ≤ K + d + 1 := by omega
    generalize K + d + 1 = q at *
    simp only [mesg_nums.l0]
    rw [if_pos (by omega), if_pos (by omega), if_pos (by omega), num_okK q hq _ hn, Option.bind_some]
    simp only
    rw [if_pos (by rw [S_size]; omega), show wrap64 ((j : Int) + 1) = ((j + 1 : Nat) : Int) by unfold wrap64; omega, ihj, rd_drop l j (by omega), body, app_assoc]
theorem nums_is (l : List Int) (hc : ∀ n ∈ l, Cl n) (hl : l.length ≤ 1000) (K : Nat) (hK : l.length + 2 ≤ K) : mesg_nums.f K l = some (body l) := by
  have h := nums_loop l hc hl l.length 0 (K - l.length - 1) ⟨#[]⟩ (by omega) (by show 0 + _ ≤ _; omega) (by omega)
  rw [show K - l.length - 1 + l.length + 1 = K by omega, List.drop_zero, nil_app] at h
  exact h
/-- What is written behind the kind and the epoch. -/
def tailB (a3 a5 a6 a7 a8 a9 : Int) : ByteArray :=
  if a3 = 1 then S a5 ++ (S a6 ++ (S a7 ++ (S a8 ++ (S a9 ++ (⟨#[]⟩ : ByteArray))))) else if a3 = 6 then S a5 ++ (S a6 ++ (⟨#[]⟩ : ByteArray)) else S a7 ++ (S a8 ++ (⟨#[]⟩ : ByteArray))
/-- A message's bytes. -/
def enc (a0 a1 : Int) (l : List Int) (a3 a4 a5 a6 a7 a8 a9 : Int) : ByteArray := S a0 ++ (S a1 ++ (S l.length ++ body l ++ (S a3 ++ (S a4 ++ tailB a3 a5 a6 a7 a8 a9))))
theorem S_len (n : Int) : 1 ≤ (S n).size ∧ (S n).size ≤ 5 := by rw [S_size]; exact numB_len n
theorem two (a b : Int) : body [a, b] = S a ++ S b := by rw [body, body, body, app_nil]
theorem one (a : Int) : body [a] = S a := by rw [body, body, app_nil]
section
variable {a0 a1 : Int} {l : List Int} {a3 a4 a5 a6 a7 a8 a9 : Int}
theorem encode_ok (h : Ok a0 a1 l a3 a4 a5 a6 a7 a8 a9) (K : Nat) (hK : 10 ≤ K) : mesg_Encode.f K a0 a1 l a3 a4 a5 a6 a7 a8 a9 = some (enc a0 a1 l a3 a4 a5 a6 a7 a8 a9, 0) := by
  obtain ⟨hl, c1, cl, hk, c4, ⟨c5, c6, c7, c8, c9⟩, _, _, _⟩ := ok_all h
  have c0 : Cl a0 := ⟨by omega, by omega⟩
  have c3 : Cl a3 := ⟨by omega, by omega⟩
  have e2 : ∀ (x y : Int) (q : Nat), 9 ≤ q → Cl x → Cl y → mesg_nums.f q [x, y] = some (S x ++ S y) := fun x y q hq hx hy => by
    rw [← two]
    exact nums_is _ (fun n hn => by simp only [List.mem_cons, List.not_mem_nil, or_false] at hn; rcases hn with rfl | rfl <;> assumption) (by simp) _ (by simp only [List.length_cons, List.length_nil]; omega)
  have e1 : ∀ (x : Int) (q : Nat), 9 ≤ q → Cl x → mesg_nums.f q [x] = some (S x) := fun x q hq hx => by
    rw [← one]
    exact nums_is _ (fun n hn => by simp only [List.mem_cons, List.not_mem_nil, or_false] at hn; rcases hn with rfl; assumption) (by simp) _ (by simp only [List.length_cons, List.length_nil]; omega)
  have hb := body_size l
  have s0 := S_len a0; have s1 := S_len a1; have s3 := S_len a3; have s4 := S_len a4; have s5 := S_len a5; have s6 := S_len a6; have s7 := S_len a7; have s8 := S_len a8; have s9 := S_len a9; have sl := S_len l.length
  obtain ⟨q, rfl⟩ : ∃ q, K = q + 1 := ⟨K - 1, by omega⟩
  unfold mesg_Encode.f enc tailB
  rw [check_ok h, Option.bind_some, if_pos rfl, list_ok l (by omega) cl, Option.bind_some, mesg_Check.has_is, Option.bind_some, e2 _ _ _ (by omega) c0 c1, Option.bind_some]
  simp only
  rw [if_pos (by simp only [ByteArray.size_append]; omega), e2 _ _ _ (by omega) c3 c4, Option.bind_some, if_pos (by simp only [ByteArray.size_append]; omega)]
  by_cases k1 : a3 = 1
  · rw [if_pos (by simp [k1]), e2 _ _ _ (by omega) c5 c6, Option.bind_some, if_pos (by simp only [ByteArray.size_append]; omega)]
    simp only [mesg_Encode.j0]
    rw [if_pos (by simp [k1]), e2 _ _ _ (by omega) c7 c8, Option.bind_some, if_pos (by simp only [ByteArray.size_append]; omega), if_pos (by simp [k1]), e1 _ _ (by omega) c9, Option.bind_some, if_pos (by simp only [ByteArray.size_append]; omega), if_pos k1]
    simp only [app_assoc, app_nil]
  · by_cases k6 : a3 = 6
    · rw [if_pos (by simp [k6]), e2 _ _ _ (by omega) c5 c6, Option.bind_some, if_pos (by simp only [ByteArray.size_append]; omega)]
      simp only [mesg_Encode.j0]
      rw [if_neg (by simp [k6]), if_neg (by simp [k1]), if_neg k1, if_pos k6]
      simp only [app_assoc, app_nil]
    · rw [if_neg (by simp [k1, k6])]
      simp only [mesg_Encode.j0]
      rw [if_pos (by simp [k6]), e2 _ _ _ (by omega) c7 c8, Option.bind_some, if_pos (by simp only [ByteArray.size_append]; omega), if_neg (by simp [k1]), if_neg k1, if_neg k6]
      simp only [app_assoc, app_nil]
theorem encode_no (h : ¬ Ok a0 a1 l a3 a4 a5 a6 a7 a8 a9) (K : Nat) : mesg_Encode.f K a0 a1 l a3 a4 a5 a6 a7 a8 a9 = some (⟨#[]⟩, 1) := by
  unfold mesg_Encode.f
  rw [check_no h, Option.bind_some, if_neg (by decide)]
end
section
variable {a0 a1 : Int} {l : List Int} {a3 a4 a5 a6 a7 a8 a9 : Int}
end
theorem same_msg (a0 a1 : Int) (l : List Int) (a3 a4 a5 a6 a7 a8 a9 b0 b1 : Int) (m : List Int) (b3 b4 b5 b6 b7 b8 b9 : Int) (hl : l.length ≤ 140737488351232) (K : Nat) (hK : l.length < K) :
    ∃ r : Bool, duetref04_Same.f K a0 a1 l a3 a4 a5 a6 a7 a8 a9 b0 b1 m b3 b4 b5 b6 b7 b8 b9 = some r ∧ (r = true ↔ (a0 = b0 ∧ a1 = b1 ∧ l = m ∧ a3 = b3 ∧ a4 = b4 ∧ a5 = b5 ∧ a6 = b6 ∧ a7 = b7 ∧ a8 = b8 ∧ a9 = b9)) := by
  unfold duetref04_Same.f
  by_cases h0 : a0 = b0
  · rw [if_pos h0]
    by_cases h1 : a1 = b1
    · rw [if_pos h1]
      by_cases h2 : (a3 == b3 && (a4 == b4 && ((a5 == b5 && (a6 == b6)) && ((a7 == b7 && (a8 == b8)) && (a9 == b9))))) = true
      · rw [if_pos h2, same_is l m K hl hK, Option.bind_some]
        simp only [Bool.and_eq_true, beq_iff_eq] at h2
        refine ⟨_, rfl, ?_⟩
        rw [decide_eq_true_eq]
        exact ⟨fun h => ⟨h0, h1, h, h2.1, h2.2.1, h2.2.2.1.1, h2.2.2.1.2, h2.2.2.2.1.1, h2.2.2.2.1.2, h2.2.2.2.2⟩, fun h => h.2.2.1⟩
      · rw [if_neg h2]
        refine ⟨_, rfl, fun h => (by cases h), ?_⟩
        rintro ⟨_, _, _, rfl, rfl, rfl, rfl, rfl, rfl, rfl⟩
        simp at h2
    · rw [if_neg h1]
      exact ⟨_, rfl, fun h => (by cases h), fun h => absurd h.2.1 h1⟩
  · rw [if_neg h0]
    exact ⟨_, rfl, fun h => (by cases h), fun h => absurd h.1 h0⟩
section
variable {a0 a1 : Int} {l : List Int} {a3 a4 a5 a6 a7 a8 a9 : Int}
end
/-- The reference's answers. -/
theorem ref_op (a0 n a3 a4 a5 a6 a7 a8 a9 : Int) (a1 : Int) (l : List Int) (hn : n = l.length) : duetref04_op.opb a3 a4 a5 a6 a7 a8 a9 a0 n = !(mesg_Check.b4 a0 a1 l a3 a4 a5 a6 a7 a8 a9 || (mesg_Check.b5 a0 a1 l a3 a4 a5 a6 a7 a8 a9 || (mesg_Check.b6 a0 a1 l a3 a4 a5 a6 a7 a8 a9 || (mesg_Check.b7 a0 a1 l a3 a4 a5 a6 a7 a8 a9 || mesg_Check.b8 a0 a1 l a3 a4 a5 a6 a7 a8 a9)))) := by
  subst hn
  unfold duetref04_op.opb mesg_Check.b4 mesg_Check.b5 mesg_Check.b6 mesg_Check.b7 mesg_Check.b8
  have hz2 : (a7 = 0 ∧ a8 = 0) = ((a7 == 0 && a8 == 0) = true) := by simp
  have hlt : decide (a7 < a5) = !decide (a5 ≤ a7) := by by_cases h : a5 ≤ a7 <;> simp [h] <;> omega
  have hz : (a7 == 0 && a8 == 0) = true → mesg_Check.mayb a7 a8 (l.length : Int) = false := fun h => by
    simp only [Bool.and_eq_true, beq_iff_eq] at h
    rw [h.1, h.2]; rfl
  have hg : decide (a3 = 1 ∧ a5 ≤ a7) = (decide (a3 = 1) && decide (a5 ≤ a7)) := Bool.decide_and _ _
  simp only [bne, hz2, hlt, hg]
  clear hz2 hlt hg
  generalize mesg_Check.mayb a5 a6 (l.length : Int) = p
  generalize mesg_Check.mayb a7 a8 (l.length : Int) = q at *
  generalize mesg_Check.clk a4 = c
  generalize mesg_Check.runeb a9 = u
  generalize (a7 == 0 && a8 == 0) = z at *
  generalize (a5 == 0 && a6 == 0) = x
  generalize (a6 == a0) = e
  generalize (a9 == 0) = y
  generalize decide (a5 ≤ a7) = g
  have hk : a3 = 1 ∨ (a3 = 2 ∨ a3 = 3 ∨ a3 = 4 ∨ a3 = 7 ∨ a3 = 8) ∨ a3 = 5 ∨ a3 = 6 ∨ (a3 < 1 ∨ 8 < a3) := by omega
  rcases hk with rfl | (rfl | rfl | rfl | rfl | rfl) | rfl | rfl | hk
  case inr.inr.inr.inr =>
    rw [if_neg (show ¬ a3 = 1 by omega), if_neg (show ¬ (a3 = 2 ∨ a3 = 3 ∨ a3 = 4 ∨ a3 = 7 ∨ a3 = 8) by omega), if_neg (show ¬ a3 = 5 by omega), if_neg (show ¬ a3 = 6 by omega)]
    rcases hk with h | h
    · rw [decide_eq_true h]; simp
    · rw [decide_eq_true h]; simp
  all_goals
    revert hz
    revert p q c u z x e y g
    decide
theorem ref_clk (x : Int) : duetref04_clock.f x = some (mesg_Check.clk x) := duetref04_op.clk_is x
theorem ref_check_loop (a0 a1 : Int) (l : List Int) (a3 a4 a5 a6 a7 a8 a9 : Int) (hl : l.length ≤ 1000) : ∀ (d j K : Nat), j + d = l.length → duetref04_Check.l0 (K + d + 1) l.length j a0 a1 l a3 a4 a5 a6 a7 a8 a9 = some (if mesg_Check.anyb (l.drop j) then 1 else 0) := by
  intro d
  induction d with
  | zero =>
    intro j K hj
    rw [Nat.add_zero]
    simp only [duetref04_Check.l0]
    rw [if_neg (by omega), List.drop_of_length_le (by omega)]
    rfl
  | succ d ih =>
    intro j K hj
    rw [show K + (d + 1) + 1 = (K + d + 1) + 1 by omega]
    have ihj := ih (j + 1) K (by omega)
    generalize K + d + 1 = q at *
    simp only [duetref04_Check.l0]
    rw [if_pos (by omega), if_pos (by omega), if_pos (by omega), ref_clk, Option.bind_some, rd_drop l j (by omega)]
    unfold mesg_Check.anyb at ihj ⊢
    rw [List.any_cons]
    cases hc : mesg_Check.clk (rd l j) with
    | true =>
      rw [if_pos rfl, show wrap64 ((j : Int) + 1) = ((j + 1 : Nat) : Int) by unfold wrap64; omega, ihj]
      rfl
    | false => rfl
theorem ref_check (a0 a1 : Int) (l : List Int) (a3 a4 a5 a6 a7 a8 a9 : Int) (hl : l.length ≤ 140737488351232) (K : Nat) (hK : 20 ≤ K) : duetref04_Check.f K a0 a1 l a3 a4 a5 a6 a7 a8 a9 = mesg_Check.f a0 a1 l a3 a4 a5 a6 a7 a8 a9 := by
  unfold mesg_Check.f mesg_Check.bad8
  have hj1 : ∀ q, duetref04_Check.j0 (q + 1) l.length true a0 a1 l a3 a4 a5 a6 a7 a8 a9 = some 1 := fun q => by simp only [duetref04_Check.j0]; rw [if_pos trivial]
  obtain ⟨q, rfl⟩ : ∃ q, K = q + 1 := ⟨K - 1, by omega⟩
  unfold duetref04_Check.f
  have hb1 : ∀ h : mesg_Check.b1 a0 a1 l a3 a4 a5 a6 a7 a8 a9 = true, (some (if (mesg_Check.b1 a0 a1 l a3 a4 a5 a6 a7 a8 a9 || (mesg_Check.b2 a0 a1 l a3 a4 a5 a6 a7 a8 a9 || (mesg_Check.anyb l || (mesg_Check.b4 a0 a1 l a3 a4 a5 a6 a7 a8 a9 || (mesg_Check.b5 a0 a1 l a3 a4 a5 a6 a7 a8 a9 || (mesg_Check.b6 a0 a1 l a3 a4 a5 a6 a7 a8 a9 || (mesg_Check.b7 a0 a1 l a3 a4 a5 a6 a7 a8 a9 || mesg_Check.b8 a0 a1 l a3 a4 a5 a6 a7 a8 a9))))))) = true then (1 : Int) else 0)) = some 1 := fun h => by rw [h, Bool.true_or, if_pos rfl]
  by_cases c1 : (l.length : Int) < 1
  · rw [if_pos c1, hj1, hb1 (by simp [mesg_Check.b1, c1])]
  rw [if_neg c1]
  by_cases c2 : (l.length : Int) > 16
  · rw [if_pos c2, hj1, hb1 (by unfold mesg_Check.b1; rw [decide_eq_true (show 16 < (l.length : Int) from c2)]; simp)]
  rw [if_neg c2]
  by_cases c3 : a0 < 0
  · rw [if_pos c3, hj1, hb1 (by unfold mesg_Check.b1; rw [decide_eq_true c3]; simp)]
  rw [if_neg c3]
  by_cases c4 : a0 ≥ (l.length : Int)
  · rw [if_pos c4, hj1, hb1 (by unfold mesg_Check.b1; rw [decide_eq_true (show (l.length : Int) ≤ a0 from c4)]; simp)]
  rw [if_neg c4]
  have h1 : mesg_Check.b1 a0 a1 l a3 a4 a5 a6 a7 a8 a9 = false := by
    unfold mesg_Check.b1
    rw [decide_eq_false c1, decide_eq_false (show ¬ 16 < (l.length : Int) by omega), decide_eq_false c3, decide_eq_false (show ¬ (l.length : Int) ≤ a0 by omega)]
    rfl
  rw [h1, Bool.false_or]
  have hb2 : ∀ h : mesg_Check.b2 a0 a1 l a3 a4 a5 a6 a7 a8 a9 = true, (some (if (mesg_Check.b2 a0 a1 l a3 a4 a5 a6 a7 a8 a9 || (mesg_Check.anyb l || (mesg_Check.b4 a0 a1 l a3 a4 a5 a6 a7 a8 a9 || (mesg_Check.b5 a0 a1 l a3 a4 a5 a6 a7 a8 a9 || (mesg_Check.b6 a0 a1 l a3 a4 a5 a6 a7 a8 a9 || (mesg_Check.b7 a0 a1 l a3 a4 a5 a6 a7 a8 a9 || mesg_Check.b8 a0 a1 l a3 a4 a5 a6 a7 a8 a9)))))) = true then (1 : Int) else 0)) = some 1 := fun h => by rw [h, Bool.true_or, if_pos rfl]
  by_cases c5 : a1 < 1
  · rw [if_pos c5, hj1, hb2 (by unfold mesg_Check.b2; rw [decide_eq_true c5]; simp)]
  rw [if_neg c5, ref_clk, Option.bind_some]
  cases hc : mesg_Check.clk a1 with
  | false => rw [if_neg (by decide), hj1, hb2 (by unfold mesg_Check.b2; rw [hc]; simp)]
  | true =>
    rw [if_pos rfl, if_pos (by omega), if_pos (by omega)]
    by_cases c6 : rd l a0 = wrap64 (a1 - 1)
    · have h2 : mesg_Check.b2 a0 a1 l a3 a4 a5 a6 a7 a8 a9 = false := by
        unfold mesg_Check.b2
        rw [decide_eq_false c5, hc, c6]
        simp
      rw [if_pos c6, h2, Bool.false_or]
      have e : ∀ b : Bool, duetref04_Check.j0 (q + 1) l.length (!b) a0 a1 l a3 a4 a5 a6 a7 a8 a9 = some (if (mesg_Check.anyb l || !b) = true then (1 : Int) else 0) := by
        intro b
        cases b with
        | false => rw [Bool.not_false, hj1, Bool.or_true, if_pos rfl]
        | true =>
          have hloop := ref_check_loop a0 a1 l a3 a4 a5 a6 a7 a8 a9 (by omega) l.length 0 (q - l.length - 1) (by omega)
          rw [show q - l.length - 1 + l.length + 1 = q by omega, List.drop_zero] at hloop
          simp only [duetref04_Check.j0]
          rw [Bool.not_true, if_neg (by decide), Bool.or_false]
          exact hloop
      unfold duetref04_op.f
      rw [Option.bind_some, e, ref_op a0 l.length a3 a4 a5 a6 a7 a8 a9 a1 l rfl, Bool.not_not]
    · rw [if_neg c6, hj1, hb2 (by unfold mesg_Check.b2; rw [bne_iff_ne.mpr c6]; simp)]
theorem ref_nums_loop (l : List Int) (hc : ∀ n ∈ l, Cl n) (hl : l.length ≤ 1000) : ∀ (d j K : Nat) (s : ByteArray), j + d = l.length → s.size + 5 * d ≤ 9223372036854775807 → 6 ≤ K → duetref04_nums.l0 (K + d + 1) l s j = some (s ++ body (l.drop j)) := by
  intro d
  induction d with
  | zero =>
    intro j K s hj hs hK
    rw [Nat.add_zero]
    simp only [duetref04_nums.l0]
    rw [if_neg (by omega), List.drop_of_length_le (by omega), body, app_nil]
  | succ d ih =>
    intro j K s hj hs hK
    have hn : Cl (rd l j) := hc _ (by
      have : rd l j = l[j]'(by omega) := by simp [rd, List.getD_eq_getElem?_getD, List.getElem?_eq_getElem (show j < l.length by omega)]
      rw [this]; exact List.getElem_mem _)
    have hlen := numB_len (rd l j)
    rw [show K + (d + 1) + 1 = (K + d + 1) + 1 by omega]
    have ihj := ih (j + 1) K (s ++ S (rd l j)) (by omega) (by rw [ByteArray.size_append, S_size]; omega) hK
    have hq : 6 ≤ K + d + 1 := by omega
    generalize K + d + 1 = q at *
    simp only [duetref04_nums.l0]
    rw [if_pos (by omega), if_pos (by omega), ref_okK q hq _ hn, Option.bind_some]
    simp only
    rw [if_pos (by rw [S_size]; omega), show wrap64 ((j : Int) + 1) = ((j + 1 : Nat) : Int) by unfold wrap64; omega, ihj, rd_drop l j (by omega), body, app_assoc]
theorem ref_nums_is (l : List Int) (hc : ∀ n ∈ l, Cl n) (hl : l.length ≤ 1000) (K : Nat) (hK : l.length + 7 ≤ K) : duetref04_nums.f K l = some (body l) := by
  have h := ref_nums_loop l hc hl l.length 0 (K - l.length - 1) ⟨#[]⟩ (by omega) (by show 0 + _ ≤ _; omega) (by omega)
  rw [show K - l.length - 1 + l.length + 1 = K by omega, List.drop_zero, nil_app] at h
  exact h
section
variable {a0 a1 : Int} {l : List Int} {a3 a4 a5 a6 a7 a8 a9 : Int}
theorem ref_encode_ok (h : Ok a0 a1 l a3 a4 a5 a6 a7 a8 a9) (K : Nat) (hK : 40 ≤ K) : duetref04_Encode.f K a0 a1 l a3 a4 a5 a6 a7 a8 a9 = some (enc a0 a1 l a3 a4 a5 a6 a7 a8 a9, 0) := by
  obtain ⟨hl, c1, cl, hk, c4, ⟨c5, c6, c7, c8, c9⟩, _, _, _⟩ := ok_all h
  have c0 : Cl a0 := ⟨by omega, by omega⟩
  have c3 : Cl a3 := ⟨by omega, by omega⟩
  have e2 : ∀ (x y : Int) (q : Nat), 30 ≤ q → Cl x → Cl y → duetref04_nums.f q [x, y] = some (S x ++ S y) := fun x y q hq hx hy => by
    rw [← two]
    exact ref_nums_is _ (fun n hn => by simp only [List.mem_cons, List.not_mem_nil, or_false] at hn; rcases hn with rfl | rfl <;> assumption) (by simp) _ (by simp only [List.length_cons, List.length_nil]; omega)
  have e1 : ∀ (x : Int) (q : Nat), 30 ≤ q → Cl x → duetref04_nums.f q [x] = some (S x) := fun x q hq hx => by
    rw [← one]
    exact ref_nums_is _ (fun n hn => by simp only [List.mem_cons, List.not_mem_nil, or_false] at hn; rcases hn with rfl; assumption) (by simp) _ (by simp only [List.length_cons, List.length_nil]; omega)
  have hb := body_size l
  have s0 := S_len a0; have s1 := S_len a1; have s3 := S_len a3; have s4 := S_len a4; have s5 := S_len a5; have s6 := S_len a6; have s7 := S_len a7; have s8 := S_len a8; have s9 := S_len a9; have sl := S_len l.length
  obtain ⟨q, rfl⟩ : ∃ q, K = q + 1 + 1 := ⟨K - 2, by omega⟩
  unfold duetref04_Encode.f enc tailB
  rw [ref_check _ _ _ _ _ _ _ _ _ _ (by omega) _ (by omega), check_ok h, Option.bind_some, if_pos rfl, ref_list l _ (by omega), list_ok l (by omega) cl, Option.bind_some, e2 _ _ _ (by omega) c0 c1, Option.bind_some]
  simp only
  rw [if_pos (by simp only [ByteArray.size_append]; omega), e2 _ _ _ (by omega) c3 c4, Option.bind_some, if_pos (by simp only [ByteArray.size_append]; omega)]
  by_cases k1 : a3 = 1
  · subst k1
    rw [if_pos rfl, if_pos rfl]
    simp only [duetref04_Encode.j0]
    rw [if_pos trivial, e2 _ _ _ (by omega) c5 c6, Option.bind_some, if_pos (by simp only [ByteArray.size_append]; omega)]
    simp only [duetref04_Encode.j1]
    rw [if_neg (by decide), e2 _ _ _ (by omega) c7 c8, Option.bind_some, if_pos (by simp only [ByteArray.size_append]; omega), if_pos trivial, e1 _ _ (by omega) c9, Option.bind_some, if_pos (by simp only [ByteArray.size_append]; omega)]
    simp only [app_assoc, app_nil]
  · rw [if_neg k1, if_neg k1]
    by_cases k6 : a3 = 6
    · subst k6
      rw [if_pos rfl]
      simp only [duetref04_Encode.j0]
      rw [if_pos (by decide), e2 _ _ _ (by omega) c5 c6, Option.bind_some, if_pos (by simp only [ByteArray.size_append]; omega)]
      simp only [duetref04_Encode.j1]
      rw [if_pos trivial, if_neg (by decide)]
      simp only [app_assoc, app_nil]
    · rw [if_neg k6]
      simp only [duetref04_Encode.j0]
      rw [if_neg (by simp [k6])]
      simp only [duetref04_Encode.j1]
      rw [if_neg k6, e2 _ _ _ (by omega) c7 c8, Option.bind_some, if_pos (by simp only [ByteArray.size_append]; omega), if_neg k1]
      simp only [app_assoc, app_nil]
theorem ref_encode_no (h : ¬ Ok a0 a1 l a3 a4 a5 a6 a7 a8 a9) (hl : l.length ≤ 140737488351232) (K : Nat) (hK : 40 ≤ K) : duetref04_Encode.f K a0 a1 l a3 a4 a5 a6 a7 a8 a9 = some (⟨#[]⟩, 1) := by
  unfold duetref04_Encode.f
  rw [ref_check _ _ _ _ _ _ _ _ _ _ hl _ (by omega), check_no h, Option.bind_some, if_neg (by decide)]
end

end Go.Proofs.Ythofobcbbddeeaa.MeswL
