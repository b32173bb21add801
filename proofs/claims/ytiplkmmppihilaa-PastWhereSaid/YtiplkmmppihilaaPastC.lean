/- Logs of lines: new ones, copies, what begins what. Conditions: none beyond those that each theorem states. -/
import Derived.Test.YtiplkmmppihilaaPastB
import Derived.Test.YtiplkmmppihilaaPPastx1
import Derived.Test.YtiplkmmppihilaaPPastx3
namespace Go.Proofs.Ytiplkmmppihilaa.PastA
open Go.RowKit Go.Proofs.YtiplkmmppihilaaW.PrintWords Go.Proofs.YtiplkmmppihilaaW.PrintLast Go.Proofs.YtiplkmmppihilaaW.PrintMore Go.Proofs.Ytiplkmmppihilaa.XS Go.Proofs.Ytiplkmmppihilaa.PPast
set_option linter.unusedVariables false
set_option linter.unusedSimpArgs false

theorem toList_inj {a b : ByteArray} (h : a.toList = b.toList) : a = b := by
  rw [ByteArray.toList_eq, ByteArray.toList_eq] at h
  cases a; cases b
  simp only at h
  congr 1
  exact Array.ext' h
theorem toList_iff {a b : ByteArray} : a.toList = b.toList ↔ a = b := ⟨toList_inj, fun h => by rw [h]⟩
theorem rdOf_drop (l : List ByteArray) (j : Nat) (h : j < l.length) : l.drop j = rdOf ByteArray.empty l (j : Int) :: l.drop (j + 1) := by
  rw [List.drop_eq_getElem_cons h]
  simp [rdOf, List.getD_eq_getElem?_getD, List.getElem?_eq_getElem h]

theorem texts_loop (a b : List ByteArray) (h : a.length = b.length) (hb : a.length ≤ 140737488351232) : ∀ (d j K : Nat), j + d = a.length → d < K → duetref03_Texts.l0 K a b j = some (decide (a.drop j = b.drop j)) := by
  intro d
  induction d with
  | zero =>
    intro j K hj hK
    obtain ⟨K, rfl⟩ : ∃ q, K = q + 1 := ⟨K - 1, by omega⟩
    simp only [duetref03_Texts.l0]
    rw [if_neg (by omega), List.drop_eq_nil_of_le (by omega), List.drop_eq_nil_of_le (by omega)]
    rfl
  | succ d ih =>
    intro j K hj hK
    obtain ⟨K, rfl⟩ : ∃ q, K = q + 1 := ⟨K - 1, by omega⟩
    simp only [duetref03_Texts.l0]
    repeat rw [if_pos (by omega)]
    rw [rdOf_drop a j (by omega), rdOf_drop b j (by omega)]
    by_cases c : (rdOf ByteArray.empty a j).toList = (rdOf ByteArray.empty b j).toList
    · rw [if_pos c, show wrap64 ((j : Int) + 1) = ((j + 1 : Nat) : Int) by unfold wrap64; omega, ih (j + 1) K (by omega) (by omega)]
      congr 1
      simp [toList_inj c]
    · rw [if_neg c]
      congr 1
      have : ¬ rdOf ByteArray.empty a j = rdOf ByteArray.empty b j := fun h => c (by rw [h])
      simp [this]
theorem texts_is (a b : List ByteArray) (K : Nat) (hb : a.length ≤ 140737488351232) (hK : a.length < K) : duetref03_Texts.f K a b = some (decide (a = b)) := by
  unfold duetref03_Texts.f
  by_cases c : (a.length : Int) = (b.length : Int)
  · rw [if_pos c]
    exact texts_loop a b (by omega) hb a.length 0 K (by omega) hK
  · rw [if_neg c, decide_eq_false]
    intro h; rw [h] at c; exact c rfl

theorem equal_loop (a b : List ByteArray) (h : a.length = b.length) (hb : a.length ≤ 140737488351232) : ∀ (d j K : Nat), j + d = a.length → d < K → slices_Equal_string_string.l0 K a b (a.length : Int) j = some (decide (a.drop j = b.drop j)) := by
  intro d
  induction d with
  | zero =>
    intro j K hj hK
    obtain ⟨K, rfl⟩ : ∃ q, K = q + 1 := ⟨K - 1, by omega⟩
    simp only [slices_Equal_string_string.l0]
    rw [if_neg (by omega), List.drop_eq_nil_of_le (by omega), List.drop_eq_nil_of_le (by omega)]
    rfl
  | succ d ih =>
    intro j K hj hK
    obtain ⟨K, rfl⟩ : ∃ q, K = q + 1 := ⟨K - 1, by omega⟩
    simp only [slices_Equal_string_string.l0]
    repeat rw [if_pos (by omega)]
    rw [rdOf_drop a j (by omega), rdOf_drop b j (by omega)]
    by_cases c : (rdOf ByteArray.empty a j).toList = (rdOf ByteArray.empty b j).toList
    · rw [if_pos c, show wrap64 ((j : Int) + 1) = ((j + 1 : Nat) : Int) by unfold wrap64; omega, ih (j + 1) K (by omega) (by omega)]
      congr 1
      simp [toList_inj c]
    · rw [if_neg c]
      congr 1
      have : ¬ rdOf ByteArray.empty a j = rdOf ByteArray.empty b j := fun h => c (by rw [h])
      simp [this]
theorem equal_is (a b : List ByteArray) (K : Nat) (hb : a.length ≤ 140737488351232) (hK : a.length < K) : slices_Equal_string_string.f K a b = some (decide (a = b)) := by
  unfold slices_Equal_string_string.f
  by_cases c : (a.length : Int) = (b.length : Int)
  · rw [if_pos c]
    exact equal_loop a b (by omega) hb a.length 0 K (by omega) hK
  · rw [if_neg c, decide_eq_false]
    intro h; rw [h] at c; exact c rfl

theorem pref_loop (a b : List ByteArray) (h : a.length ≤ b.length) (hb : a.length ≤ 140737488351232) : ∀ (d j K : Nat), j + d = a.length → d < K → duetref16_Prefix.l0 K a b j = some (decide (a.drop j = (b.take a.length).drop j)) := by
  intro d
  induction d with
  | zero =>
    intro j K hj hK
    obtain ⟨K, rfl⟩ : ∃ q, K = q + 1 := ⟨K - 1, by omega⟩
    simp only [duetref16_Prefix.l0]
    rw [if_neg (by omega), List.drop_eq_nil_of_le (by omega), List.drop_eq_nil_of_le (by rw [List.length_take]; omega)]
    rfl
  | succ d ih =>
    intro j K hj hK
    obtain ⟨K, rfl⟩ : ∃ q, K = q + 1 := ⟨K - 1, by omega⟩
    simp only [duetref16_Prefix.l0]
    repeat rw [if_pos (by omega)]
    rw [rdOf_drop a j (by omega), rdOf_drop (b.take a.length) j (by rw [List.length_take]; omega)]
    have he : rdOf ByteArray.empty (b.take a.length) (j : Int) = rdOf ByteArray.empty b (j : Int) := by
      have h1 : j < a.length := by omega
      simp [rdOf, List.getD_eq_getElem?_getD, List.getElem?_take, h1]
    rw [he]
    by_cases c : (rdOf ByteArray.empty a j).toList = (rdOf ByteArray.empty b j).toList
    · rw [if_pos c, show wrap64 ((j : Int) + 1) = ((j + 1 : Nat) : Int) by unfold wrap64; omega, ih (j + 1) K (by omega) (by omega)]
      congr 1
      simp [toList_inj c]
    · rw [if_neg c]
      congr 1
      have : ¬ rdOf ByteArray.empty a j = rdOf ByteArray.empty b j := fun h => c (by rw [h])
      simp [this]
/-- Does a begin b? -/
def Pre (a b : List ByteArray) : Bool := decide (a.length ≤ b.length ∧ a = b.take a.length)
theorem pref_is (a b : List ByteArray) (K : Nat) (hb : a.length ≤ 140737488351232) (hK : a.length < K) : duetref16_Prefix.f K a b = some (Pre a b) := by
  unfold duetref16_Prefix.f Pre
  by_cases c : (a.length : Int) > (b.length : Int)
  · rw [if_pos c, decide_eq_false (by intro h; omega)]
  · rw [if_neg c, show (0 : Int) = ((0 : Nat) : Int) from rfl, pref_loop a b (by omega) hb a.length 0 K (by omega) hK]
    congr 1
    simp only [List.drop_zero]
    by_cases e : a = b.take a.length
    · rw [decide_eq_true e, decide_eq_true ⟨by omega, e⟩]
    · rw [decide_eq_false e, decide_eq_false (fun h => e h.2)]
set_option maxHeartbeats 1000000 in
theorem log_new (w : World) : Calls Try.prog 15 #[] w fun en w' => ∃ g, en = .returned (.pointer (some ⟨g, 0, none⟩)) ∧ Sep w.heap.size (LogA 87 g []) w' ∧ Below w.heap.size w w' := by
  go_enter Try.func15, Try.ntmps15
  go_wp2_with (first | ((with_reducible refine gate_dst (N := 2) rfl ?_); refine box_event ?hg (N := 2) ?hd (cs := #[.slice none 0 0]) (t := 87) ?hr ?_; (case hd => rfl); (case hg => rfl); (case hr => first | (go_simp; done) | (go_simp; rfl)); intro g hg w1 hh hb; have HG := Aside0.mk hg; have HH := Aside0.mk hh; have HB := Aside0.mk hb; clear hg hh hb))
  go_ret
  refine ⟨g, rfl, ?_, HB.out⟩
  have h := (Sep.nil_row (Kd.string) 9 (Sep.new_blk (Sep.emp w.heap.size w) (Nat.le_refl _) HG.out HB.out HH.out))
  exact (LogA.close (by simp) h.swap).left

set_option maxHeartbeats 1000000 in
theorem ref_get {base g : Nat} {ls : List ByteArray} {F : Assn} (w : World) (e : Int) (h : Sep base (Star (LogA 28 g ls) F) w) :
    Calls Try.prog 20 #[.pointer (some ⟨g, 0, none⟩), .int .i64 e] w fun en w' => en = .returned (.tuple #[.string (if 0 ≤ e ∧ e < (ls.length : Int) then rdOf ByteArray.empty ls e else ⟨#[]⟩), .bool (decide (0 ≤ e ∧ e < (ls.length : Int)))]) ∧ w = w' := by
  obtain ⟨A, c, hl, hc, hb, hC, -⟩ := LogA.open h
  clear h
  have c0 := XW.cells1 hb
  clear hb
  by_cases h0 : 0 ≤ e
  · by_cases h1 : e < (ls.length : Int)
    · obtain ⟨ad, rfl, hcell⟩ := Kd.at_string hC e h0 h1
      rw [if_pos ⟨h0, h1⟩, decide_eq_true (⟨h0, h1⟩ : 0 ≤ e ∧ e < (ls.length : Int))]
      clear hC
      go_enter Try.func20, Try.ntmps20
      go_wp2
      go_ret2
      exact ⟨rfl, rfl⟩
    · rw [if_neg (fun h => h1 h.2), decide_eq_false (fun h : 0 ≤ e ∧ e < (ls.length : Int) => h1 h.2)]
      clear hC
      go_enter Try.func20, Try.ntmps20
      go_wp2
      go_ret2
      exact ⟨rfl, rfl⟩
  · rw [if_neg (fun h => h0 h.1), decide_eq_false (fun h : 0 ≤ e ∧ e < (ls.length : Int) => h0 h.1)]
    clear hC
    go_enter Try.func20, Try.ntmps20
    go_wp2
    go_ret2
    exact ⟨rfl, rfl⟩

set_option maxHeartbeats 1000000 in
theorem clone (A0 : Option Addr) (c0 : Nat) (l0 : List ByteArray) (w : World) (hr0 : Kd.C Kd.string w A0 l0.length l0) (hc0 : l0.length ≤ c0) (hl : l0.length ≤ 100000) :
    Calls Try.prog 51 #[.slice A0 l0.length c0] w fun e w' => ∃ v0_ : Value, e = .returned (v0_) ∧ Kd.R Kd.string 9 w' w.heap.size (fun _ => True) v0_ l0 ∧ Below w.heap.size w w' := by
  have HR0 := Aside0.mk hr0
  clear hr0
  have HL := Aside0.mk hl
  clear hl
  have heq := fun W n c => Lib.run_eql_slice_nil (P := Try.prog) W 26 9 A0 n c 0 0 Try.underlying26
  have hun := Try.underlying26
  cases A0 with
  | none =>
    have h0 : l0 = [] := by
      rcases Nat.eq_zero_or_pos l0.length with h | h
      · exact List.eq_nil_of_length_eq_zero h
      · obtain ⟨ad, e, _⟩ := Kd.at_string HR0.out 0 (by omega) (by omega)
        cases e
    subst h0
    go_enter Try.func51, Try.ntmps51
    go_wp2
    go_ret
    exact ⟨_, rfl, Kd.R_nil _ _ _ _ _, Below.refl _ _⟩
  | some ad0 =>
    go_enter Try.func51, Try.ntmps51
    go_wp2_with (first | ((with_reducible refine gate_dst (N := 5) rfl ?_); refine Kd.R_lit Kd.string w.heap.size 9 ?hg (N := 5) ?hd (xs := ([] : List ByteArray)) (inner := []) (ok := fun _ => True) (okp := fun _ => True) ?hr ?hp (fun _ hk => hk) trivial (Below.refl _ _) (Nat.le_refl _) (by simp) ?_; (case hd => rfl); (case hg => rfl); (case hr => first | (go_simp; done) | (go_simp; rfl)); (case hp => exact Reps.none _ _); intro v5 w5 ho5 hb5 _ _; have HO5 := Aside0.mk ho5; have HB5 := Aside0.mk hb5; clear ho5 hb5) | ((with_reducible refine gate_builtin (b := .append) (xs := #[.tmp 5, .tmp 6]) rfl ?_); at_builtin; refine Kd.R_append_rows Kd.string (w0 := w) w.heap.size rfl (.tmp 5) (.tmp 6) 26 9 (.string ⟨#[]⟩) 16 rfl Try.underlying26 info9 rfl (by decide) (by omega) v5 ([] : List ByteArray) l0 _ _ _ (fun _ => True) (fun _ => False) rfl rfl ?aO ?aR (fun _ _ h => h) (fun _ h => h.elim) ?aF ?aB ?aS ?aL ?_; (case aR => exact Kd.C_below HR0.out HB5.out); (case aB => exact HB5.out); (case aF => exact (fun _ _ => trivial)); (case aO => exact HO5.out); (case aS => exact HB5.out.size); (case aL => have := HL.out; simp only [List.length_nil]; omega); intro v7 w7 ho7 hb7 _ _; have HO7 := Aside0.mk ho7; have HB7 := Aside0.mk hb7; clear ho7 hb7))
    go_ret
    exact ⟨v7, rfl, HO7.out, HB7.out⟩
set_option maxHeartbeats 1000000 in
theorem log_all {base g : Nat} {ls : List ByteArray} {F : Assn} (w : World) (h : Sep base (Star (LogA 87 g ls) F) w) :
    Calls Try.prog 22 #[.pointer (some ⟨g, 0, none⟩)] w fun e w' => ∃ A c, e = .returned (.slice A ls.length c) ∧ ls.length ≤ c ∧ Kd.C Kd.string w' A ls.length ls ∧ Below w.heap.size w w' := by
  obtain ⟨A, c, hl, hc, hb, hC, -⟩ := LogA.open h
  clear h
  have c0 := XW.cells1 hb
  have HC := Aside0.mk hC
  clear hb hC
  go_enter Try.func22, Try.ntmps22
  go_wp2_with (first | (go_at_call 51; (with_reducible refine (clone _ _ _ _ HC.out hc (by omega)).mono ?_); rintro e w1 ⟨v, rfl, hr, hb⟩; obtain ⟨A1, c1, hv, hle, hC1⟩ := Kd.R_reads hr; subst hv; have HC1 := Aside0.mk hC1; have HB1 := Aside0.mk hb; have HLE := Aside0.mk hle; clear hr hb hC1 hle))
  go_ret
  exact ⟨_, _, rfl, HLE.out, HC1.out, HB1.out⟩
set_option maxHeartbeats 1000000 in
theorem prefix_is (A0 : Option Addr) (c0 : Nat) (l0 : List ByteArray) (A1 : Option Addr) (c1 : Nat) (l1 : List ByteArray) (w : World) (hr0 : Kd.C Kd.string w A0 l0.length l0) (hc0 : l0.length ≤ c0) (hr1 : Kd.C Kd.string w A1 l1.length l1) (hc1 : l1.length ≤ c1) (hl : l0.length ≤ 100000) (hl1 : l1.length ≤ 100000) (r : Bool) (hr : Pre l0 l1 = r) :
    Calls Try.prog 23 #[.slice A0 l0.length c0, .slice A1 l1.length c1] w fun e w' => e = .returned (.bool r) ∧ Drawn0 w w' := by
  have HR0 := Aside0.mk hr0
  have HR1 := Aside0.mk hr1
  clear hr0 hr1
  unfold Pre at hr
  by_cases h : l0.length ≤ l1.length
  · have HE : Aside0 (slices_Equal_string_string.f (l0.length + 1) l0 (l1.take l0.length) = some r) := ⟨by
      rw [equal_is _ _ _ (by omega) (by omega), ← hr]
      congr 1
      by_cases e : l0 = l1.take l0.length
      · rw [decide_eq_true e, decide_eq_true ⟨h, e⟩]
      · rw [decide_eq_false e, decide_eq_false (fun h => e h.2)]⟩
    have e2 : (l1.take l0.length).length = l0.length := by rw [List.length_take]; omega
    have HC2 : Aside0 (Kd.string.C w A1 l0.length (l1.take l0.length)) := ⟨by have := Kd.C_take HR1.out h; rw [e2] at this; exact this⟩
    clear e2
    clear hr
    go_enter Try.func23, Try.ntmps23
    go_wp2_with (first | (go_at_call 52; (with_reducible refine (slices_Equal_string_string.at _ _ _ _ _ _ _ _ _ _ _ HR0.out hc0 HC2.out (Nat.le_refl _) HE.out).mono ?_); rintro e w1 ⟨rfl, hd⟩; have HD := Aside0.mk hd; clear hd))
    go_ret
    exact ⟨rfl, HD.out⟩
  · have hr := Bool.eq_false_iff.mpr (fun q : r = true => by rw [← hr] at q; exact h (of_decide_eq_true q).1)
    subst hr
    go_enter Try.func23, Try.ntmps23
    go_wp2
    go_ret
    exact ⟨rfl, Drawn0.refl _⟩
end Go.Proofs.Ytiplkmmppihilaa.PastA
