/- Searches: a query typed byte by byte, as plain facts. Conditions: none beyond those that each theorem states. -/
import Derived.Test.YthofobcbbddeeaaSrchN
namespace Go.Proofs.Ythofobcbbddeeaa.SrchA
open Go.RowKit Go.Proofs.Ythofobcbbddeeaa.PSrch Go.Proofs.YthofobcbbddeeaaW.PrintWords Go.Proofs.YthofobcbbddeeaaW.PrintLast Go.Proofs.YthofobcbbddeeaaW.PrintMore
set_option linter.unusedVariables false
set_option linter.unusedSimpArgs false
theorem ext_bt (a b : ByteArray) (hs : a.size = b.size) (h : ∀ i : Nat, i < a.size → bt a i = bt b i) : a = b := by
  apply ByteArray.ext
  apply Array.ext
  · exact hs
  · intro i h1 h2
    have h1' : i < a.size := h1
    have h2' : i < b.size := h2
    have := h i h1'
    unfold bt at this
    simp only [Int.toNat_natCast] at this
    rw [dif_pos h1', dif_pos h2'] at this
    have h3 : (a[i]'h1').toNat = (b[i]'h2').toNat := by omega
    exact UInt8.toNat_inj.mp h3
theorem bt_app (a b : ByteArray) (i : Int) (h0 : 0 ≤ i) : bt (a ++ b) i = if i < a.size then bt a i else bt b (i - a.size) := by
  unfold bt
  by_cases h : i < a.size
  · rw [if_pos h, dif_pos (by rw [ByteArray.size_append]; omega), dif_pos (by omega), ByteArray.getElem_append_left (by omega)]
  · rw [if_neg h]
    by_cases h2 : i.toNat < (a ++ b).size
    · have h3 : i.toNat < a.size + b.size := by rw [ByteArray.size_append] at h2; exact h2
      rw [dif_pos h2, dif_pos (by omega), ByteArray.getElem_append_right (by omega)]
      have e : (i - (a.size : Int)).toNat = i.toNat - a.size := by omega
      simp only [e]
    · have h3 : ¬ i.toNat < a.size + b.size := by rw [ByteArray.size_append] at h2; exact h2
      rw [dif_neg h2, dif_neg (by omega)]
theorem toList_inj {a b : ByteArray} (h : a.toList = b.toList) : a = b := by
  rw [ByteArray.toList_eq, ByteArray.toList_eq] at h
  apply ByteArray.ext
  apply Array.ext'
  exact h
/-- The first j bytes, as numbers. -/
def pre (q : ByteArray) : Nat → List Int
  | 0 => []
  | j + 1 => pre q j ++ [bt q (j : Int)]
theorem pre_len (q : ByteArray) : ∀ j : Nat, (pre q j).length = j
  | 0 => rfl
  | j + 1 => by rw [pre, List.length_append, pre_len q j]; rfl
/-- Bytes that may stand in a line. -/
def Asc (q : ByteArray) : Prop := ∀ j : Nat, j < q.size → 32 ≤ bt q (j : Int) ∧ bt q (j : Int) ≤ 126
theorem one_byte (q : ByteArray) (j : Nat) (h : j < q.size) (h1 : bt q (j : Int) ≤ 126) : Utf8.encode (bt q (j : Int)) = ⟨#[q[j]'h]⟩ := by
  have hb : ((q[j]'h).toNat : Int) = bt q (j : Int) := by have := bt_at q (j : Int) (by rw [Int.toNat_natCast]; exact h); simpa using this
  rw [← hb]
  have hm : (q[j]'h).toNat ≤ 126 := by omega
  rw [enc1 _ (by unfold Utf8.valid; simp; omega) (by omega)]
  simp
theorem ext_snoc (q : ByteArray) (j : Nat) (h : j < q.size) : q.extract 0 (j + 1) = q.extract 0 j ++ ⟨#[q[j]'h]⟩ := by
  apply ext_bt
  · rw [ByteArray.size_append, ByteArray.size_extract, ByteArray.size_extract]
    show min (j + 1) q.size - 0 = min j q.size - 0 + 1
    omega
  · intro i hi
    have hi2 : i < j + 1 := by rw [ByteArray.size_extract] at hi; omega
    rw [XW.bt_extract _ _ _ _ (by omega) (by omega) (by omega), bt_app _ _ _ (by omega)]
    have hs : (q.extract 0 j).size = j := by rw [ByteArray.size_extract]; omega
    rw [hs]
    by_cases c : i < j
    · rw [if_pos (by omega), XW.bt_extract _ _ _ _ (by omega) (by omega) (by omega)]
    · obtain rfl : i = j := by omega
      rw [if_neg (by omega), show (i : Int) - (i : Int) = 0 by omega, show (i : Int) + ((0 : Nat) : Int) = (i : Int) by omega]
      have hb := bt_at q (i : Int) (by rw [Int.toNat_natCast]; exact h)
      have hb2 := bt_at (⟨#[q[i]'h]⟩ : ByteArray) 0 (show (0 : Int).toNat < (⟨#[q[i]'h]⟩ : ByteArray).size from Nat.zero_lt_one)
      rw [← hb, ← hb2]
      rfl
theorem qs_pre {q : ByteArray} (h : Asc q) : ∀ j : Nat, j ≤ q.size → qs (pre q j) = q.extract 0 j
  | 0, _ => by
    apply ext_bt
    · rw [ByteArray.size_extract]; show 0 = min 0 q.size - 0; omega
    · intro i hi; exact absurd hi (Nat.not_lt_zero i)
  | j + 1, hj => by
    have ih := qs_pre h j (by omega)
    unfold qs at ih ⊢
    rw [pre, runes_snoc, ih, one_byte q j (by omega) (h j (by omega)).2, ← ext_snoc]
theorem ext_all (q : ByteArray) : q.extract 0 q.size = q := ByteArray.extract_zero_size
/-- Where all of it stands its beginning does. -/
theorem fit_pre {t q : ByteArray} (j : Nat) (hj : j ≤ q.size) (h : fit t q = true) : fit t (q.extract 0 j) = true := by
  obtain ⟨i, h1, h2⟩ := (fit_iff t q).mp h
  have hs : (q.extract 0 j).size = j := by rw [ByteArray.size_extract]; omega
  refine (fit_iff _ _).mpr ⟨i, by rw [hs]; omega, ?_⟩
  rw [hs]
  have h3 := toList_inj h2
  congr 1
  apply ext_bt
  · rw [ByteArray.size_extract, hs]; omega
  · intro m hm
    have hm2 : m < j := by rw [ByteArray.size_extract] at hm; omega
    rw [XW.bt_extract _ _ _ _ (by omega) (by omega) (by omega), XW.bt_extract _ _ _ _ (by omega) (by omega) (by omega)]
    have hb : bt (t.extract i (i + q.size)) (m : Int) = bt q (m : Int) := by rw [h3]
    rw [XW.bt_extract _ _ _ _ (by omega) (by omega) (by omega)] at hb
    rw [hb]
    congr 1
theorem fit_self (q : ByteArray) : fit q q = true := (fit_iff q q).mpr ⟨0, by omega, by rw [Nat.zero_add, ext_all]⟩
theorem lastF_ge (L : List ByteArray) (q : ByteArray) (i : Nat) (h : fit (rdOf ByteArray.empty L (i : Int)) q = true) : ∀ k : Nat, i < k → (i : Int) ≤ lastF L q k
  | 0, hk => by omega
  | k + 1, hk => by
    unfold lastF
    split
    · omega
    · rename_i c
      by_cases e : i = k
      · subst e; exact absurd h c
      · exact lastF_ge L q i h k (by omega)
theorem lastF_cut (L : List ByteArray) (q : ByteArray) (k : Nat) : ∀ n : Nat, k ≤ n → (∀ i : Nat, k ≤ i → i < n → fit (rdOf ByteArray.empty L (i : Int)) q = false) → lastF L q n = lastF L q k
  | 0, hk, _ => by rw [show k = 0 by omega]
  | n + 1, hk, h => by
    by_cases e : k = n + 1
    · rw [e]
    · rw [lastF, if_neg (by rw [h n (by omega) (by omega)]; decide)]
      exact lastF_cut L q k n (by omega) (fun i a b => h i a (by omega))
theorem lastF_up (L : List ByteArray) (q : ByteArray) : ∀ k j : Nat, lastF L q k < (j : Int) → j < k → fit (rdOf ByteArray.empty L (j : Int)) q = false
  | 0, j, _, h => by omega
  | k + 1, j, a, b => by
    unfold lastF at a
    by_cases c : fit (rdOf ByteArray.empty L (k : Int)) q = true
    · rw [if_pos c] at a; omega
    · rw [if_neg c] at a
      by_cases e : j = k
      · subst e; simpa using c
      · exact lastF_up L q k j a (by omega)
/-- Where it stands when j bytes have been typed. -/
structure Typed (L : List ByteArray) (q : ByteArray) (i j : Nat) (p : Int) : Prop where
  ok : Ok L (pre q j) p
  start : j = 0 → p = -1
  last : 0 < j → p = lastF L (q.extract 0 j) L.length ∧ (i : Int) ≤ p
theorem typed_zero {L : List ByteArray} {q : ByteArray} {i : Nat} (hS : Short L) (hL : L.length ≤ 1000) : Typed L q i 0 (-1) := ⟨⟨hS, hL, by simp [pre], by omega, by omega⟩, fun _ => rfl, fun h => by omega⟩
theorem typed_next {L : List ByteArray} {q : ByteArray} {i j : Nat} {p : Int} (h : Typed L q i j p) (ha : Asc q) (hq : rdOf ByteArray.empty L (i : Int) = q) (hi : i < L.length) (hj : j < q.size) (hs : q.size ≤ 100) : typeB L (pre q j) p (bt q (j : Int)) = true ∧ typeQ (pre q j) (bt q (j : Int)) = pre q (j + 1) ∧ Typed L q i (j + 1) (typeP L (pre q j) p (bt q (j : Int))) := by
  obtain ⟨a1, a2⟩ := ha j hj
  have hr : Rn (bt q (j : Int)) ∧ (pre q j).length < 200 := ⟨⟨by omega, by omega, by omega, by omega⟩, by rw [pre_len]; omega⟩
  have hqs : qs (pre q j ++ [bt q (j : Int)]) = q.extract 0 (j + 1) := qs_pre ha (j + 1) (by omega)
  have hfit : fit (rdOf ByteArray.empty L (i : Int)) (q.extract 0 (j + 1)) = true := by rw [hq]; exact fit_pre (j + 1) (by omega) (fit_self q)
  have hcut : lastF L (q.extract 0 (j + 1)) (from_ L p) = lastF L (q.extract 0 (j + 1)) L.length := by
    unfold from_
    by_cases c : p = -1
    · rw [if_pos c]
    · rw [if_neg c]
      have hj0 : 0 < j := by
        rcases Nat.eq_zero_or_pos j with e | e
        · exact absurd (h.start e) c
        · exact e
      obtain ⟨hp, hip⟩ := h.last hj0
      have hp1 := h.ok.p1
      refine (lastF_cut L _ (p + 1).toNat L.length (by omega) (fun m b1 b2 => ?_)).symm
      cases e : fit (rdOf ByteArray.empty L (m : Int)) (q.extract 0 (j + 1)) with
      | false => rfl
      | true =>
        have h2 := lastF_up L (q.extract 0 j) L.length m (by rw [← hp]; omega) b2
        have h3 := fit_pre (q := q.extract 0 (j + 1)) j (by rw [ByteArray.size_extract]; omega) e
        have h4 : (q.extract 0 (j + 1)).extract 0 j = q.extract 0 j := by
          rw [ByteArray.extract_extract]; congr 1; omega
        rw [h4, h2] at h3
        cases h3
  have hge := lastF_ge L (q.extract 0 (j + 1)) i hfit L.length hi
  have hP : typeP L (pre q j) p (bt q (j : Int)) = lastF L (q.extract 0 (j + 1)) L.length := by unfold typeP; rw [if_pos hr, hqs, hcut]
  have hQ : typeQ (pre q j) (bt q (j : Int)) = pre q (j + 1) := by unfold typeQ; rw [if_pos hr]; rfl
  refine ⟨?_, hQ, ⟨by rw [← hQ]; exact type_ok h.ok _, fun e => by omega, fun _ => ⟨hP, by rw [hP]; exact hge⟩⟩⟩
  unfold typeB
  rw [if_pos hr, hqs, hcut]
  exact decide_eq_true (by omega)
/-- The law's own last line, of the first k. -/
def lst (L : List ByteArray) (q : ByteArray) (i : Nat) (k : Nat) : Int := if lastF L q k = -1 then (i : Int) else lastF L q k
theorem lst_zero (L : List ByteArray) (q : ByteArray) (i : Nat) : lst L q i 0 = (i : Int) := rfl
theorem lst_yes {L : List ByteArray} {q : ByteArray} {k : Nat} (i : Nat) (h : fit (rdOf ByteArray.empty L (k : Int)) q = true) : lst L q i (k + 1) = (k : Int) := by
  unfold lst lastF; rw [if_pos h, if_neg (by omega)]
theorem lst_no {L : List ByteArray} {q : ByteArray} {k : Nat} (i : Nat) (h : fit (rdOf ByteArray.empty L (k : Int)) q = false) : lst L q i (k + 1) = lst L q i k := by
  have e : lastF L q (k + 1) = lastF L q k := by rw [lastF, if_neg (by rw [h]; decide)]
  unfold lst; rw [e]
theorem lst_all {L : List ByteArray} {q : ByteArray} {i : Nat} {p : Int} (h : Typed L q i q.size p) (hq : 0 < q.size) : lst L q i L.length = p := by
  obtain ⟨h1, h2⟩ := h.last hq
  rw [ext_all] at h1
  unfold lst
  rw [← h1, if_neg (by omega)]
end Go.Proofs.Ythofobcbbddeeaa.SrchA
