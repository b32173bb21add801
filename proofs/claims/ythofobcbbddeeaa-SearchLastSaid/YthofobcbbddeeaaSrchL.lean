/- Searches: what the plain functions answer. Conditions: none beyond those that each theorem states. -/
import Derived.Test.YthofobcbbddeeaaPSrchx1
import Derived.Test.YthofobcbbddeeaaXU
import Derived.Lib.IndexMore
import Derived.Lib.IndexBytes
import Derived.Laws.Cover4
namespace Go.Proofs.Ythofobcbbddeeaa.SrchA
open Go.RowKit Go.Proofs.Ythofobcbbddeeaa.PSrch Go.Proofs.YthofobcbbddeeaaW.PrintWords Go.Proofs.YthofobcbbddeeaaW.PrintLast Go.Proofs.YthofobcbbddeeaaW.PrintMore
set_option linter.unusedVariables false
set_option linter.unusedSimpArgs false
/-- Does q stand in t? -/
def fit (t q : ByteArray) : Bool := Lib.contains t.data.toList q.data.toList
/-- Does q stand in t at place i? -/
def At (t q : ByteArray) (i : Nat) : Prop := i + q.size ≤ t.size ∧ (t.extract i (i + q.size)).toList = q.toList
theorem len_data (t : ByteArray) : t.data.toList.length = t.size := Array.length_toList
theorem fit_iff (t q : ByteArray) : fit t q = true ↔ ∃ i : Nat, At t q i := by
  unfold fit Lib.contains
  rw [decide_eq_true_eq]
  rcases Lib.index_spec t.data.toList q.data.toList with ⟨h, hn⟩ | ⟨i, h, hi, ho, -⟩
  · constructor
    · intro h0; rw [h] at h0; omega
    · rintro ⟨i, hi, he⟩
      have := hn i (by rw [len_data]; omega)
      rw [Lib.occ_of_piece t q i hi, he] at this
      simp at this
  · constructor
    · intro h0
      have hr := Lib.index_room t.data.toList q.data.toList h0
      rw [h, len_data, len_data] at hr
      have hr2 : i + q.size ≤ t.size := by omega
      refine ⟨i, hr2, ?_⟩
      rw [Lib.occ_of_piece t q i hr2] at ho
      exact beq_iff_eq.mp ho
    · intro _; rw [h]; omega
theorem fit_false {t q : ByteArray} (h : ∀ i : Nat, ¬ At t q i) : fit t q = false := by
  cases e : fit t q with
  | false => rfl
  | true => obtain ⟨i, hi⟩ := (fit_iff t q).mp e; exact absurd hi (h i)
theorem has_loop (t q : ByteArray) (ht : t.size ≤ 2305843009213693952) (hq : q.size ≤ 2305843009213693952) (b : Bool) : ∀ (d j K : Nat), j + d = t.size + 1 → d < K → (b = true ↔ ∃ i : Nat, j ≤ i ∧ At t q i) → duetlaw19_has.l0 K t q (j : Int) = some b := by
  intro d
  induction d with
  | zero =>
    intro j K hj hK hb
    obtain ⟨K, rfl⟩ : ∃ r, K = r + 1 := ⟨K - 1, by omega⟩
    rw [duetlaw19_has.l0, show wrap64 ((j : Int) + (q.size : Int)) = ((j + q.size : Nat) : Int) by unfold wrap64; omega, if_neg (by omega)]
    cases b with
    | false => rfl
    | true => obtain ⟨i, h1, h2, h3⟩ := hb.mp rfl; omega
  | succ d ih =>
    intro j K hj hK hb
    obtain ⟨K, rfl⟩ : ∃ r, K = r + 1 := ⟨K - 1, by omega⟩
    rw [duetlaw19_has.l0, show wrap64 ((j : Int) + (q.size : Int)) = ((j + q.size : Nat) : Int) by unfold wrap64; omega]
    by_cases c : j + q.size ≤ t.size
    · rw [if_pos (by omega), if_pos (by omega), if_pos (by omega), Int.toNat_natCast, Int.toNat_natCast]
      by_cases e : (t.extract j (j + q.size)).toList = q.toList
      · rw [if_pos e, hb.mpr ⟨j, Nat.le_refl _, c, e⟩]
      · rw [if_neg e, show wrap64 ((j : Int) + 1) = ((j + 1 : Nat) : Int) by unfold wrap64; omega]
        refine ih (j + 1) K (by omega) (by omega) (hb.trans ⟨?_, ?_⟩)
        · rintro ⟨i, h1, h2⟩
          refine ⟨i, ?_, h2⟩
          by_cases e2 : i = j
          · subst e2; exact absurd h2.2 e
          · omega
        · rintro ⟨i, h1, h2⟩; exact ⟨i, by omega, h2⟩
    · rw [if_neg (by omega)]
      cases b with
      | false => rfl
      | true => obtain ⟨i, h1, h2, h3⟩ := hb.mp rfl; omega
theorem has_is (t q : ByteArray) (K : Nat) (ht : t.size ≤ 2305843009213693952) (hq : q.size ≤ 2305843009213693952) (hK : t.size + 1 < K) : duetlaw19_has.f K t q = some (fit t q) :=
  has_loop t q ht hq (fit t q) (t.size + 1) 0 K (by omega) hK ((fit_iff t q).trans ⟨fun ⟨i, h⟩ => ⟨i, Nat.zero_le _, h⟩, fun ⟨i, _, h⟩ => ⟨i, h⟩⟩)
/-! ### runes -/
theorem u8_mod (b : Nat) : UInt8.ofNat (b % 256) = UInt8.ofNat b := by
  apply UInt8.toNat_inj.mp
  simp
theorem u8_of (a : Int) (b : Nat) (h : a = (b : Int)) : UInt8.ofNat (a % 256).toNat = UInt8.ofNat b := by
  subst h
  rw [show ((b : Int) % 256).toNat = b % 256 by omega, u8_mod]
theorem u8_w (k : Int) (a b : Nat) (hk : k = (a : Int)) (h : a + b < 1000000000) : UInt8.ofNat (wrap64 (k + (b : Int)) % 256).toNat = UInt8.ofNat (a + b) :=
  u8_of _ _ (by unfold wrap64; omega)
theorem encode_bad (n : Int) (h : Utf8.valid n = false) : Utf8.encode n = ⟨#[239, 191, 189]⟩ := by
  unfold Utf8.encode
  rw [h]
  simp [Utf8.runeError]
theorem enc1 (m : Nat) (h : Utf8.valid (m : Int) = true) (k : m < 128) : Utf8.encode (m : Int) = ⟨#[UInt8.ofNat m]⟩ := by
  unfold Utf8.encode
  rw [h]
  simp only [if_true, Int.toNat_natCast]
  rw [if_pos k]
theorem enc2 (m : Nat) (h : Utf8.valid (m : Int) = true) (k : ¬ m < 128) (k2 : m < 2048) : Utf8.encode (m : Int) = ⟨#[UInt8.ofNat (192 + m / 64), UInt8.ofNat (128 + m % 64)]⟩ := by
  unfold Utf8.encode
  rw [h]
  simp only [if_true, Int.toNat_natCast]
  rw [if_neg k, if_pos k2]
theorem enc3 (m : Nat) (h : Utf8.valid (m : Int) = true) (k : ¬ m < 128) (k2 : ¬ m < 2048) (k3 : m < 65536) : Utf8.encode (m : Int) = ⟨#[UInt8.ofNat (224 + m / 4096), UInt8.ofNat (128 + m / 64 % 64), UInt8.ofNat (128 + m % 64)]⟩ := by
  unfold Utf8.encode
  rw [h]
  simp only [if_true, Int.toNat_natCast]
  rw [if_neg k, if_neg k2, if_pos k3]
theorem enc4 (m : Nat) (h : Utf8.valid (m : Int) = true) (k : ¬ m < 128) (k2 : ¬ m < 2048) (k3 : ¬ m < 65536) : Utf8.encode (m : Int) = ⟨#[UInt8.ofNat (240 + m / 262144), UInt8.ofNat (128 + m / 4096 % 64), UInt8.ofNat (128 + m / 64 % 64), UInt8.ofNat (128 + m % 64)]⟩ := by
  unfold Utf8.encode
  rw [h]
  simp only [if_true, Int.toNat_natCast]
  rw [if_neg k, if_neg k2, if_neg k3]
theorem sign_is (n : Int) (K : Nat) (hK : 2 ≤ K) : duetref12_Sign.f K n = some (Utf8.encode n) := by
  obtain ⟨K, rfl⟩ : ∃ r, K = r + 1 := ⟨K - 1, by omega⟩
  unfold duetref12_Sign.f
  by_cases c0 : n < 0
  · rw [if_pos c0, duetref12_Sign.j0, if_pos rfl, encode_bad n (by unfold Utf8.valid; simp; omega)]
  · rw [if_neg c0]
    by_cases c1 : n > 1114111
    · rw [if_pos c1, duetref12_Sign.j0, if_pos rfl, encode_bad n (by unfold Utf8.valid; simp; omega)]
    · rw [if_neg c1]
      by_cases c2 : 55296 ≤ n ∧ n ≤ 57343
      · rw [if_pos c2.1, decide_eq_true c2.2, duetref12_Sign.j0, if_pos rfl, encode_bad n (by unfold Utf8.valid; simp; omega)]
      · have hj : (if n ≥ 55296 then duetref12_Sign.j0 (K + 1) n (decide (n ≤ 57343)) else duetref12_Sign.j0 (K + 1) n false) = duetref12_Sign.j0 (K + 1) n false := by
          by_cases c3 : n ≥ 55296
          · rw [if_pos c3, decide_eq_false (by omega)]
          · rw [if_neg c3]
        obtain ⟨m, rfl⟩ : ∃ m : Nat, n = (m : Int) := ⟨n.toNat, by omega⟩
        have hv : Utf8.valid (m : Int) = true := by unfold Utf8.valid; simp; omega
        have d64 : Int.tdiv (m : Int) 64 = ((m / 64 : Nat) : Int) := (Int.ofNat_tdiv m 64).symm
        have d40 : Int.tdiv (m : Int) 4096 = ((m / 4096 : Nat) : Int) := (Int.ofNat_tdiv m 4096).symm
        have d26 : Int.tdiv (m : Int) 262144 = ((m / 262144 : Nat) : Int) := (Int.ofNat_tdiv m 262144).symm
        have w64 : wrap64 ((m / 64 : Nat) : Int) = ((m / 64 : Nat) : Int) := by unfold wrap64; omega
        have w40 : wrap64 ((m / 4096 : Nat) : Int) = ((m / 4096 : Nat) : Int) := by unfold wrap64; omega
        have w26 : wrap64 ((m / 262144 : Nat) : Int) = ((m / 262144 : Nat) : Int) := by unfold wrap64; omega
        have t0 : Int.tmod (m : Int) 64 = ((m % 64 : Nat) : Int) := (Int.ofNat_tmod m 64).symm
        have t1 : Int.tmod ((m / 64 : Nat) : Int) 64 = ((m / 64 % 64 : Nat) : Int) := (Int.ofNat_tmod (m / 64) 64).symm
        have t2 : Int.tmod ((m / 4096 : Nat) : Int) 64 = ((m / 4096 % 64 : Nat) : Int) := (Int.ofNat_tmod (m / 4096) 64).symm
        rw [hj, duetref12_Sign.j0, if_neg (by decide)]
        by_cases k1 : m < 128
        · rw [if_pos (by omega), enc1 m hv k1]
          clear d64 d40 d26 w64 w40 w26 t0 t1 t2 hj hv
          unfold strOfNums
          simp only [List.map_cons, List.map_nil]
          rw [u8_of _ m rfl]
        · rw [if_neg (by omega)]
          by_cases k2 : m < 2048
          · rw [if_pos (by omega), d64, w64, t0, enc2 m hv k1 k2]
            clear d64 d40 d26 w64 w40 w26 t0 t1 t2 hj hv
            unfold strOfNums
            simp only [List.map_cons, List.map_nil]
            simp only [u8_w 192 192 (m / 64) rfl (by omega), u8_w 128 128 (m % 64) rfl (by omega)]
          · rw [if_neg (by omega)]
            by_cases k3 : m < 65536
            · rw [if_pos (by omega), d40, w40, d64, w64, t0, t1, enc3 m hv k1 k2 k3]
              clear d64 d40 d26 w64 w40 w26 t0 t1 t2 hj hv
              unfold strOfNums
              simp only [List.map_cons, List.map_nil]
              simp only [u8_w 224 224 (m / 4096) rfl (by omega), u8_w 128 128 (m / 64 % 64) rfl (by omega), u8_w 128 128 (m % 64) rfl (by omega)]
            · rw [if_neg (by omega), d26, w26, d40, w40, d64, w64, t0, t1, t2, enc4 m hv k1 k2 k3]
              clear d64 d40 d26 w64 w40 w26 t0 t1 t2 hj hv
              unfold strOfNums
              simp only [List.map_cons, List.map_nil]
              simp only [u8_w 240 240 (m / 262144) rfl (by omega), u8_w 128 128 (m / 4096 % 64) rfl (by omega), u8_w 128 128 (m / 64 % 64) rfl (by omega), u8_w 128 128 (m % 64) rfl (by omega)]
theorem runes_snoc (l : List Int) (n : Int) : runesBytes (l ++ [n]) = runesBytes l ++ Utf8.encode n := by
  unfold runesBytes; rw [List.foldl_append]; rfl
theorem runes_take (l : List Int) (k : Nat) (h : k < l.length) : runesBytes (l.take (k + 1)) = runesBytes (l.take k) ++ Utf8.encode (rd l (k : Int)) := by
  rw [List.take_add_one, show l[k]? = some (rd l (k : Int)) by simp [rd, List.getD_eq_getElem?_getD, List.getElem?_eq_getElem h]]
  exact runes_snoc _ _
/-! ### what may be typed; few lines -/
def Rn (n : Int) : Prop := 32 ≤ n ∧ n ≤ 1114111 ∧ ¬ (127 ≤ n ∧ n ≤ 159) ∧ ¬ (55296 ≤ n ∧ n ≤ 57343)
instance (n : Int) : Decidable (Rn n) := inferInstanceAs (Decidable (32 ≤ n ∧ n ≤ 1114111 ∧ ¬ (127 ≤ n ∧ n ≤ 159) ∧ ¬ (55296 ≤ n ∧ n ≤ 57343)))
theorem rune_is (n : Int) (K : Nat) (hK : 2 ≤ K) : mesg_Rune.f K n = some (decide (Rn n)) := by
  obtain ⟨K, rfl⟩ : ∃ r, K = r + 1 + 1 := ⟨K - 2, by omega⟩
  unfold mesg_Rune.f
  by_cases c0 : n < 32
  · rw [if_pos c0, mesg_Rune.j0, if_pos rfl, decide_eq_false (by unfold Rn; omega)]
  · rw [if_neg c0, mesg_Rune.j0]
    by_cases c1 : n > 1114111
    · rw [decide_eq_true c1, if_pos rfl, decide_eq_false (by unfold Rn; omega)]
    · rw [decide_eq_false c1, if_neg (by decide)]
      have hj : (if n ≥ 127 then mesg_Rune.j1 (K + 1) n (decide (n ≤ 159)) else mesg_Rune.j1 (K + 1) n false) = mesg_Rune.j1 (K + 1) n (decide (127 ≤ n ∧ n ≤ 159)) := by
        by_cases c2 : n ≥ 127
        · rw [if_pos c2]; congr 1; apply decide_eq_decide.mpr; omega
        · rw [if_neg c2, decide_eq_false (by omega)]
      rw [hj, mesg_Rune.j1]
      by_cases c3 : 127 ≤ n ∧ n ≤ 159
      · rw [decide_eq_true c3, if_pos rfl, decide_eq_false (fun h => h.2.2.1 c3)]
      · rw [decide_eq_false c3, if_neg (by decide)]
        by_cases c4 : n ≥ 55296
        · rw [if_pos c4]
          by_cases c5 : n ≤ 57343
          · rw [if_pos c5, decide_eq_false (by unfold Rn; omega)]
          · rw [if_neg c5, decide_eq_true (by unfold Rn; omega)]
        · rw [if_neg c4, decide_eq_true (by unfold Rn; omega)]
theorem refrune_is (n : Int) : duetref04_Rune.f n = some (decide (Rn n)) := by
  unfold duetref04_Rune.f
  repeat' split
  all_goals first
    | exact congrArg some (decide_eq_true (show Rn n by unfold Rn; omega)).symm
    | exact congrArg some (decide_eq_false (show ¬ Rn n by unfold Rn; omega)).symm
    | (congr 1; rw [← decide_not]; apply decide_eq_decide.mpr; unfold Rn; omega)
def Few (l : List ByteArray) : Prop := l.length ≤ 40 ∧ ∀ i : Nat, i < l.length → (rdOf ByteArray.empty l (i : Int)).size ≤ 300
theorem few_loop (l : List ByteArray) (hl : l.length ≤ 1000) : ∀ (d j K : Nat), j + d = l.length → d < K → ∃ b, duetlaw19_few.l0 K l (j : Int) = some b ∧ (b = true ↔ ∀ i : Nat, j ≤ i → i < l.length → (rdOf ByteArray.empty l (i : Int)).size ≤ 300) := by
  intro d
  induction d with
  | zero =>
    intro j K hj hK
    obtain ⟨K, rfl⟩ : ∃ r, K = r + 1 := ⟨K - 1, by omega⟩
    exact ⟨true, by rw [duetlaw19_few.l0, if_neg (by omega)], fun _ i h1 h2 => by omega, fun _ => rfl⟩
  | succ d ih =>
    intro j K hj hK
    obtain ⟨K, rfl⟩ : ∃ r, K = r + 1 := ⟨K - 1, by omega⟩
    rw [duetlaw19_few.l0, if_pos (by omega), if_pos (by omega)]
    by_cases c : ((rdOf ByteArray.empty l (j : Int)).size : Int) > 300
    · exact ⟨false, by rw [if_pos c], fun h => (by cases h), fun h => by have := h j (Nat.le_refl _) (by omega); omega⟩
    · obtain ⟨b, h1, h2⟩ := ih (j + 1) K (by omega) (by omega)
      refine ⟨b, by rw [if_neg c, show wrap64 ((j : Int) + 1) = ((j + 1 : Nat) : Int) by unfold wrap64; omega]; exact h1, h2.trans ⟨fun h i a1 a2 => ?_, fun h i a1 a2 => h i (by omega) a2⟩⟩
      by_cases e : i = j
      · subst e; omega
      · exact h i (by omega) a2
theorem few_is (l : List ByteArray) : ∃ b, duetlaw19_few.f 50 l = some b ∧ (b = true ↔ Few l) := by
  unfold duetlaw19_few.f
  by_cases c : (l.length : Int) > 40
  · exact ⟨false, by rw [if_pos c], fun h => (by cases h), fun h => by have := h.1; omega⟩
  · obtain ⟨b, h1, h2⟩ := few_loop l (by omega) l.length 0 50 (by omega) (by omega)
    exact ⟨b, by rw [if_neg c]; exact h1, fun h => ⟨by omega, fun i hi => h2.mp h i (Nat.zero_le _) hi⟩, fun h => h2.mpr (fun i _ hi => h.2 i hi)⟩
end Go.Proofs.Ythofobcbbddeeaa.SrchA
