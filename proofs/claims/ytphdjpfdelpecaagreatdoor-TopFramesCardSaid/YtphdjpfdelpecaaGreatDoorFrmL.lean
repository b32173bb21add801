/- What frames say, as plain facts on bytes. Conditions: none beyond those that each lemma states. -/
import Derived.Test.YtphdjpfdelpecaaGreatDoorFrmG
import Derived.Test.YtphdjpfdelpecaaGreatDoorMesfL
namespace Go.Proofs.YtphdjpfdelpecaaGreatDoor.FrmA
open Go.RowKit Go.Proofs.YtphdjpfdelpecaaGreatDoorW.PrintWords Go.Proofs.YtphdjpfdelpecaaGreatDoorW.PrintLast Go.Proofs.YtphdjpfdelpecaaGreatDoorW.PrintMore Go.Proofs.YtphdjpfdelpecaaGreatDoor.XS Go.Proofs.YtphdjpfdelpecaaGreatDoor.PTopf Go.Proofs.YtphdjpfdelpecaaGreatDoor.CrcA
set_option linter.unusedVariables false
set_option linter.unusedSimpArgs false
theorem strOf_bytes (s : ByteArray) : strOfNums (bytesOf s) = s := by
 apply ByteArray.ext
 show ((bytesOf s).map fun n => UInt8.ofNat n.toNat).toArray = s.data
 have : ((bytesOf s).map fun n => UInt8.ofNat n.toNat) = s.data.toList := by
  unfold bytesOf
  rw [List.map_map]
  conv => rhs; rw [← List.map_id s.data.toList]
  apply List.map_congr_left
  intro x _
  simp
 rw [this]
theorem bytes_strOf (l : List Int) (h : ∀ x ∈ l, 0 ≤ x ∧ x < 256) : bytesOf (strOfNums l) = l := by
 unfold bytesOf
 rw [strOfNums_data, List.map_map]
 conv => rhs; rw [← List.map_id l]
 apply List.map_congr_left
 intro x hx
 obtain ⟨h0, h1⟩ := h x hx
 simp only [Function.comp, UInt8.toNat_ofNat', id]
 omega
theorem bytes_range (s : ByteArray) : ∀ x ∈ bytesOf s, 0 ≤ x ∧ x < 256 := by
 intro x hx
 simp only [bytesOf, List.mem_map] at hx
 obtain ⟨b, _, rfl⟩ := hx
 have := b.toNat_lt
 omega
def tailB (n : Nat) : ByteArray := strOfNums [((n : Int) / 65536) % 256, ((n : Int) / 256) % 256, (n : Int) % 256]
theorem tailB_size (n : Nat) : (tailB n).size = 3 := by unfold tailB; rw [strOfNums_size]; rfl
theorem sum_is (s : ByteArray) (h : s.size ≤ 1000000) : crcs_Sum.f s = some ((msum 11994318 s s.size : Nat) : Int) := by
 unfold crcs_Sum.f crcs_More.f
 rw [if_pos ⟨by omega, by omega, h⟩]
 rfl
theorem tail_is (n : Nat) : crcs_tail.f (n : Int) = some (tailB n) := rfl
theorem seal_is (t : ByteArray) (h : t.size ≤ 100000) : crcs_Seal.f t = some (t ++ tailB (msum 11994318 t t.size)) := by
 unfold crcs_Seal.f
 rw [sum_is t (by omega), Option.bind_some, tail_is, Option.bind_some, if_pos (by rw [tailB_size]; omega)]
theorem suffix_is (a b : ByteArray) (ha : a.size ≤ 100000) (hb : b.size ≤ a.size) : strings_HasSuffix.f a b = some ((a.extract (a.size - b.size) a.size).toList == b.toList) := by
 have hw : wrap64 ((a.size : Int) - (b.size : Int)) = ((a.size - b.size : Nat) : Int) := by unfold wrap64; omega
 unfold strings_HasSuffix.f stringslite_HasSuffix.f
 rw [if_pos (by omega), hw, if_pos (by omega), if_pos (by omega), Option.bind_some, Int.toNat_natCast]
theorem open_is (s : ByteArray) (hs : s.size ≤ 100000) (h3 : 3 ≤ s.size) : crcs_Open.f s = (if (s.extract (s.size - 3) s.size).toList == (tailB (msum 11994318 (s.extract 0 (s.size - 3)) (s.extract 0 (s.size - 3)).size)).toList then some (s.extract 0 (s.size - 3), 0) else some (⟨#[]⟩, 4)) := by
 have hw : wrap64 ((s.size : Int) - 3) = ((s.size - 3 : Nat) : Int) := by unfold wrap64; omega
 unfold crcs_Open.f
 rw [if_neg (by omega), hw, if_pos (by omega), if_pos (by omega), Int.toNat_natCast]
 have hz : (s.extract 0 (s.size - 3)).size ≤ 100000 := by rw [ByteArray.size_extract]; omega
 rw [sum_is _ (by omega), Option.bind_some, tail_is, Option.bind_some, suffix_is s _ hs (by rw [tailB_size]; exact h3), Option.bind_some, tailB_size]
theorem open_any (s : ByteArray) (hs : s.size ≤ 100000) : ∃ t e, crcs_Open.f s = some (t, e) := by
 rcases Nat.lt_or_ge s.size 3 with h | h
 ·unfold crcs_Open.f
  rw [if_pos (by omega)]
  exact ⟨_, _, rfl⟩
 ·rw [open_is s hs h]
  split
  ·exact ⟨_, _, rfl⟩
  ·exact ⟨_, _, rfl⟩
theorem open_seal (t : ByteArray) (h : t.size ≤ 10000) : crcs_Open.f (t ++ tailB (msum 11994318 t t.size)) = some (t, 0) := by
 have hz : (t ++ tailB (msum 11994318 t t.size)).size = t.size + 3 := by rw [ByteArray.size_append, tailB_size]
 rw [open_is _ (by omega) (by omega), hz, Nat.add_sub_cancel]
 have e1 : (t ++ tailB (msum 11994318 t t.size)).extract 0 t.size = t := MesfL.app_extract_left _ _
 have e2 : (t ++ tailB (msum 11994318 t t.size)).extract t.size (t.size + 3) = tailB (msum 11994318 t t.size) := by
  have := MesfL.app_extract_right t (tailB (msum 11994318 t t.size))
  rwa [hz] at this
 rw [e1, e2, if_pos (by simp)]
theorem bare_stuff : ∀ (b acc : List Int), bareL (stuffI b) false acc = some (acc ++ b, true)
 | [], acc => by simp [stuffI, bareL]
 | c :: r, acc => by
  simp only [stuffI]
  split
  ·rename_i h
   subst h
   simp only [bareL, if_true]
   rw [if_pos (by decide), bare_stuff r]
   simp
  ·rename_i h1
   split
   ·rename_i h
    subst h
    simp only [bareL, if_true]
    rw [if_neg (by decide), if_pos (by decide), bare_stuff r]
    simp
   ·rename_i h2
    simp only [bareL, if_neg h2]
    rw [bare_stuff r]
    simp
theorem stuff_range : ∀ (b : List Int), (∀ x ∈ b, 0 ≤ x ∧ x < 256) → ∀ x ∈ stuffI b, 0 ≤ x ∧ x < 256 ∧ x ≠ 126
 | [], _, x, hx => by simp [stuffI] at hx
 | c :: r, hb, x, hx => by
  have hc := hb c (List.mem_cons_self ..)
  have ih := stuff_range r fun y hy => hb y (List.mem_cons_of_mem _ hy)
  simp only [stuffI] at hx
  split at hx
  ·simp only [List.mem_cons] at hx
   rcases hx with rfl | rfl | hx
   ·omega
   ·omega
   ·exact ih x hx
  ·rename_i h1
   split at hx
   ·simp only [List.mem_cons] at hx
    rcases hx with rfl | rfl | hx
    ·omega
    ·omega
    ·exact ih x hx
   ·simp only [List.mem_cons] at hx
    rcases hx with rfl | hx
    ·exact ⟨hc.1, hc.2, h1⟩
    ·exact ih x hx
theorem bare_len : ∀ (b : List Int) (op : Bool) (acc acc' : List Int) (ok : Bool), bareL b op acc = some (acc', ok) → acc'.length ≤ acc.length + b.length
 | [], op, acc, acc', ok, h => by cases h; simp
 | c :: r, false, acc, acc', ok, h => by
  simp only [bareL] at h
  split at h
  ·have := bare_len r true acc acc' ok h
   simp only [List.length_cons]; omega
  ·have := bare_len r false _ acc' ok h
   simp only [List.length_append, List.length_cons, List.length_nil] at this ⊢; omega
 | c :: r, true, acc, acc', ok, h => by
  simp only [bareL] at h
  split at h
  ·have := bare_len r false _ acc' ok h
   simp only [List.length_append, List.length_cons, List.length_nil] at this ⊢; omega
  ·split at h
   ·have := bare_len r false _ acc' ok h
    simp only [List.length_append, List.length_cons, List.length_nil] at this ⊢; omega
   ·cases h
theorem end_any (s : ByteArray) (hs : s.size ≤ 10000) : ∃ t ok, endR s = some (t, ok) ∧ (ok = true → t.size ≤ 2000) := by
 have hsz : (bareR (bareL (bytesOf s) false [])).1.size ≤ 100000 := by
  cases hb : bareL (bytesOf s) false [] with
  | none => show (0 : Nat) ≤ _; omega
  | some q =>
   obtain ⟨acc, ok⟩ := q
   have := bare_len _ _ _ _ _ hb
   rw [bytesOf_length] at this
   show (strOfNums acc).size ≤ _
   rw [strOfNums_size]
   simp only [List.length_nil] at this
   omega
 obtain ⟨t, e, h⟩ := open_any _ hsz
 refine ⟨t, _, by unfold endR; rw [h]; rfl, fun hk => ?_⟩
 simp only [Bool.and_eq_true, decide_eq_true_eq] at hk
 exact hk.2
theorem feed_any : ∀ (l pc : List UInt8) (acc : List ByteArray), pc.length + l.length ≤ 10000 → (∀ t ∈ acc, t.size ≤ 2000) → ∃ L, feedL l pc acc = some L ∧ ∀ t ∈ L, t.size ≤ 2000
 | [], pc, acc, _, h => ⟨acc, rfl, h⟩
 | u :: r, pc, acc, hl, h => by
  simp only [List.length_cons] at hl
  simp only [feedL]
  split
  ·split
   ·exact feed_any r [] acc (by simp; omega) h
   ·obtain ⟨t, ok, he, hk⟩ := end_any ⟨pc.toArray⟩ (by show pc.toArray.size ≤ _; simp; omega)
    rw [he, Option.bind_some]
    simp only
    refine feed_any r [] _ (by simp; omega) fun x hx => ?_
    split at hx
    ·rename_i hok
     rcases List.mem_append.1 hx with hx | hx
     ·exact h x hx
     ·simp only [List.mem_singleton] at hx
      subst hx
      exact hk hok
    ·exact h x hx
  ·exact feed_any r (pc ++ [u]) acc (by simp only [List.length_append, List.length_cons, List.length_nil]; omega) h
theorem feed_run (r : List UInt8) (acc : List ByteArray) : ∀ (l pc : List UInt8), (∀ x ∈ l, x ≠ 126) → feedL (l ++ r) pc acc = feedL r (pc ++ l) acc
 | [], pc, _ => by simp
 | u :: l, pc, h => by
  simp only [List.cons_append, feedL]
  rw [if_neg (h u (List.mem_cons_self ..)), feed_run r acc l (pc ++ [u]) fun x hx => h x (List.mem_cons_of_mem _ hx)]
  simp
theorem stuff_ne : ∀ (b : List Int), b ≠ [] → stuffI b ≠ []
 | [], h => absurd rfl h
 | c :: r, _ => by
  simp only [stuffI]
  split
  ·simp
  ·split <;> simp
theorem feed_pack (t : ByteArray) (ht : t.size ≤ 2000) : ∃ u, crcs_Seal.f t = some u ∧ u.size ≤ 2003 ∧ (strOfNums (126 :: (stuffI (bytesOf u) ++ [126]))).size ≤ 4900 ∧ feedL (strOfNums (126 :: (stuffI (bytesOf u) ++ [126]))).data.toList [] [] = some [t] := by
 refine ⟨_, seal_is t (by omega), ?_, ?_, ?_⟩
 ·rw [ByteArray.size_append, tailB_size]; omega
 ·rw [strOfNums_size]
  have := stuffI_le (bytesOf (t ++ tailB (msum 11994318 t t.size)))
  rw [bytesOf_length, ByteArray.size_append, tailB_size] at this
  simp only [List.length_cons, List.length_append, List.length_nil]
  omega
 ·have ho := open_seal t (by omega)
  have hz : (t ++ tailB (msum 11994318 t t.size)).size = t.size + 3 := by rw [ByteArray.size_append, tailB_size]
  generalize t ++ tailB (msum 11994318 t t.size) = u at ho hz
  have hr := stuff_range _ (bytes_range u)
  have hne : stuffI (bytesOf u) ≠ [] := stuff_ne _ (by
   intro e
   have := bytesOf_length u
   rw [e] at this
   simp only [List.length_nil] at this
   omega)
  rw [strOfNums_data]
  simp only [List.map_cons, List.map_append, List.map_nil]
  have h126 : UInt8.ofNat (126 : Int).toNat = 126 := by decide
  rw [h126]
  simp only [feedL, if_true]
  rw [feed_run _ _ _ _ (fun x hx => by
   obtain ⟨y, hy, rfl⟩ := List.mem_map.1 hx
   obtain ⟨h0, h1, h2⟩ := hr y hy
   intro e
   have := congrArg UInt8.toNat e
   simp only [UInt8.toNat_ofNat'] at this
   have h3 : (126 : UInt8).toNat = 126 := by decide
   rw [h3] at this
   omega), List.nil_append]
  simp only [feedL, if_true]
  rw [if_neg (by simpa using hne)]
  have hE : endR ⟨((stuffI (bytesOf u)).map fun n => UInt8.ofNat n.toNat).toArray⟩ = some (t, true) := by
   have e1 : bytesOf ⟨((stuffI (bytesOf u)).map fun n => UInt8.ofNat n.toNat).toArray⟩ = stuffI (bytesOf u) := bytes_strOf _ fun x hx => ⟨(hr x hx).1, (hr x hx).2.1⟩
   unfold endR
   rw [e1, bare_stuff, List.nil_append]
   simp only [bareR]
   rw [strOf_bytes, ho]
   simp [ht]
  rw [hE, Option.bind_some]
  simp
theorem texts_self (t : ByteArray) : duetref03_Texts.f 5 [t] [t] = some true := by
 unfold duetref03_Texts.f
 rw [if_pos rfl]
 unfold duetref03_Texts.l0
 rw [if_pos (by simp), if_pos (by decide), if_pos (by simp), if_pos rfl]
 have hw : wrap64 ((0 : Int) + 1) = 1 := by unfold wrap64; omega
 rw [hw]
 unfold duetref03_Texts.l0
 rw [if_neg (by simp)]
end Go.Proofs.YtphdjpfdelpecaaGreatDoor.FrmA
