/- Messages in whatever order: where the carets end. Conditions: none beyond those that each theorem states. -/
import Derived.Test.YtiplkmmppihilaaPastG
namespace Go.Proofs.Ytiplkmmppihilaa.PastA
open Go.RowKit Go.Proofs.YtiplkmmppihilaaW.PrintWords Go.Proofs.YtiplkmmppihilaaW.PrintLast Go.Proofs.YtiplkmmppihilaaW.PrintMore Go.Proofs.Ytiplkmmppihilaa.XS Go.Proofs.Ytiplkmmppihilaa.PPast
set_option linter.unusedVariables false
set_option linter.unusedSimpArgs false
def okM (n : Int) (x : S56) : Prop := mesg_Check.f x.f0 x.f1 x.f2 x.f3.f0 x.f3.f1 x.f3.f2.f0 x.f3.f2.f1 x.f3.f3.f0 x.f3.f3.f1 x.f3.f4 = some 0 ∧ (x.f2.length : Int) = n ∧ x.f3.f0 = 5
def vals (x : S56) : List Int := [x.f3.f0, x.f3.f1, x.f3.f2.f0, x.f3.f2.f1, x.f3.f3.f0, x.f3.f3.f1, x.f3.f4, x.f1]
/-- What is known of a site's caret: none, or the last of those that may be. -/
def Inv (n : Int) (l : List S56) (P : Nat → Prop) (D : Int → Nat → Int) : Prop := ∀ s : Int,
  ((∀ j, D s j = 0) ∧ ∀ i : Nat, P i → okM n (rd_T56 l (i : Int)) → (rd_T56 l (i : Int)).f0 = s → (rd_T56 l (i : Int)).f1 ≤ 0) ∨
  (∃ i : Nat, P i ∧ okM n (rd_T56 l (i : Int)) ∧ (rd_T56 l (i : Int)).f0 = s ∧ 0 < (rd_T56 l (i : Int)).f1 ∧ (∀ j, j < 8 → D s j = (vals (rd_T56 l (i : Int))).getD j 0) ∧ ∀ i' : Nat, P i' → okM n (rd_T56 l (i' : Int)) → (rd_T56 l (i' : Int)).f0 = s → (rd_T56 l (i' : Int)).f1 ≤ (rd_T56 l (i : Int)).f1)
theorem Inv.none (n : Int) (l : List S56) (P : Nat → Prop) (h : ∀ i, ¬ P i) : Inv n l P (fun _ _ => 0) := fun s => .inl ⟨fun _ => rfl, fun i hi => absurd hi (h i)⟩
theorem Inv.congr {n : Int} {l : List S56} {P P' : Nat → Prop} {D : Int → Nat → Int} (h : Inv n l P D) (hp : ∀ i, P i ↔ P' i) : Inv n l P' D := by
  have : P = P' := funext fun i => propext (hp i)
  rw [← this]; exact h
theorem check_zero {s q : Int} {l : List Int} {kd ep it is rt rs ru : Int} (h : mesg_Check.f s q l kd ep it is rt rs ru = some 0) : 0 ≤ s ∧ s < (l.length : Int) := by
  unfold mesg_Check.f at h
  have h1 : mesg_Check.bad8 s q l kd ep it is rt rs ru = false := by
    cases hb : mesg_Check.bad8 s q l kd ep it is rt rs ru with
    | false => rfl
    | true => rw [hb] at h; simp at h
  unfold mesg_Check.bad8 at h1
  rw [Bool.or_eq_false_iff] at h1
  have h2 := h1.1
  unfold mesg_Check.b1 at h2
  simp only [Bool.or_eq_false_iff, decide_eq_false_iff_not] at h2
  omega
theorem Inv.step {n : Int} {l : List S56} {P : Nat → Prop} {D : Int → Nat → Int} (h : Inv n l P D) (i0 : Nat) {s0 q : Int} {kn : List Int} {kd ep it is rt rs ru : Int} (hx : rd_T56 l (i0 : Int) = ⟨s0, q, kn, ⟨kd, ep, ⟨it, is⟩, ⟨rt, rs⟩, ru⟩⟩) (k : Int) (hk : mesg_Check.f s0 q kn kd ep it is rt rs ru = some k) :
    Inv n l (fun i => P i ∨ i = i0) (moveD n D k s0 q kn kd ep it is rt rs ru) := by
  intro s
  unfold moveD
  by_cases hE : moveE n D k s0 q kn kd = 0
  · rw [if_pos hE]
    unfold moveE at hE
    have hk0 : k = 0 := by
      by_cases c : k = 0
      · exact c
      · rw [if_pos c] at hE; omega
    subst hk0
    rw [if_neg (by simp)] at hE
    have hn : (kn.length : Int) = n := by
      by_cases c : (kn.length : Int) = n
      · exact c
      · rw [if_pos c] at hE; omega
    rw [if_neg (by simp [hn])] at hE
    have h5 : kd = 5 := by
      by_cases c : kd = 5
      · exact c
      · rw [if_pos c] at hE; omega
    rw [if_neg (by simp [h5])] at hE
    have hq : ¬ q ≤ D s0 7 := fun c => by rw [if_pos c] at hE; omega
    by_cases hs : s = s0
    · subst hs
      refine .inr ⟨i0, .inr rfl, ?_⟩
      rw [hx]
      have hpos : 0 < q ∧ ∀ i' : Nat, P i' → okM n (rd_T56 l (i' : Int)) → (rd_T56 l (i' : Int)).f0 = s → (rd_T56 l (i' : Int)).f1 ≤ q := by
        rcases h s with ⟨h1, h2⟩ | ⟨i, h1, h2, h3, h4, h5', h6⟩
        · have := h1 7
          exact ⟨by omega, fun i' hi hv hf => by have := h2 i' hi hv hf; omega⟩
        · have h7 := h5' 7 (by decide)
          have e7 : (vals (rd_T56 l (i : Int))).getD 7 0 = (rd_T56 l (i : Int)).f1 := rfl
          rw [e7] at h7
          exact ⟨by omega, fun i' hi hv hf => by have := h6 i' hi hv hf; omega⟩
      refine ⟨⟨hk, hn, h5⟩, rfl, hpos.1, fun j hj => ?_, fun i' hi hv hf => ?_⟩
      · unfold upd; rw [if_pos rfl]; rfl
      · rcases hi with hi | rfl
        · exact hpos.2 i' hi hv hf
        · rw [hx]; exact Int.le_refl _
    · have e : ∀ j, upd D s0 [kd, ep, it, is, rt, rs, ru, q] s j = D s j := fun j => by unfold upd; rw [if_neg hs]
      rcases h s with ⟨h1, h2⟩ | ⟨i, h1, h2, h3, h4, h5', h6⟩
      · refine .inl ⟨fun j => by rw [e]; exact h1 j, fun i hi hv hf => ?_⟩
        rcases hi with hi | rfl
        · exact h2 i hi hv hf
        · rw [hx] at hf; exact absurd hf.symm hs
      · refine .inr ⟨i, .inl h1, h2, h3, h4, fun j hj => by rw [e]; exact h5' j hj, fun i' hi hv hf => ?_⟩
        rcases hi with hi | rfl
        · exact h6 i' hi hv hf
        · rw [hx] at hf; exact absurd hf.symm hs
  · rw [if_neg hE]
    have hb : okM n (rd_T56 l (i0 : Int)) → q ≤ D s0 7 := by
      rw [hx]
      rintro ⟨v1, v2, v3⟩
      have hk0 : k = 0 := Option.some.inj (hk.symm.trans v1)
      have v2' : (kn.length : Int) = n := v2
      have v3' : kd = 5 := v3
      by_cases c : q ≤ D s0 7
      · exact c
      · exact absurd (by unfold moveE; rw [if_neg (by simp [hk0]), if_neg (by simp [v2']), if_neg (by simp [v3']), if_neg c]) hE
    rcases h s with ⟨h1, h2⟩ | ⟨i, h1, h2, h3, h4, h5', h6⟩
    · refine .inl ⟨h1, fun i hi hv hf => ?_⟩
      rcases hi with hi | rfl
      · exact h2 i hi hv hf
      · have := hb hv
        rw [hx] at hf ⊢
        have hf' : s0 = s := hf
        subst hf'
        rw [h1] at this
        exact this
    · refine .inr ⟨i, .inl h1, h2, h3, h4, h5', fun i' hi hv hf => ?_⟩
      rcases hi with hi | rfl
      · exact h6 i' hi hv hf
      · have := hb hv
        rw [hx] at hf ⊢
        have hf' : s0 = s := hf
        subst hf'
        rw [h5' 7 (by decide)] at this
        exact this
/-- Two that took the same, in whatever order, stand alike. -/
theorem Inv.same {n : Int} {l : List S56} {P : Nat → Prop} {D D' : Int → Nat → Int} (h : Inv n l P D) (h' : Inv n l P D') (hd : ∀ i i' : Nat, P i → P i' → i ≠ i' → ¬ ((rd_T56 l (i : Int)).f0 = (rd_T56 l (i' : Int)).f0 ∧ (rd_T56 l (i : Int)).f1 = (rd_T56 l (i' : Int)).f1)) (s e : Int) : atV n D s e = atV n D' s e := by
  unfold atV
  rcases h s with ⟨h1, h2⟩ | ⟨i, h1, h2, h3, h4, h5, h6⟩ <;> rcases h' s with ⟨k1, k2⟩ | ⟨i', k1, k2, k3, k4, k5, k6⟩
  · rw [h1 7, k1 7]; simp
  · have := h2 i' k1 k2 k3; omega
  · have := k2 i h1 h2 h3; omega
  · have e1 := h6 i' k1 k2 k3
    have e2 := k6 i h1 h2 h3
    have e3 : i = i' := by
      by_cases c : i = i'
      · exact c
      · exact absurd ⟨h3.trans k3.symm, by omega⟩ (hd i i' h1 k1 c)
    subst e3
    rw [h5 7 (by decide), h5 1 (by decide), h5 4 (by decide), h5 5 (by decide), k5 7 (by decide), k5 1 (by decide), k5 4 (by decide), k5 5 (by decide)]
theorem few_some (l : List S56) (hl : l.length ≤ 9223372036854775807) : ∃ r, duetref07_Few.f (l.length + 1) l = some r := by
  unfold duetref07_Few.f
  split
  · exact ⟨_, rfl⟩
  · have : ∀ (d j K : Nat), j + d = l.length → d < K → ∃ r, duetref07_Few.l0 K l (j : Int) = some r := by
      intro d
      induction d with
      | zero =>
        intro j K hj hK
        obtain ⟨K, rfl⟩ : ∃ q, K = q + 1 := ⟨K - 1, by omega⟩
        simp only [duetref07_Few.l0]
        rw [if_neg (by omega)]
        exact ⟨_, rfl⟩
      | succ d ih =>
        intro j K hj hK
        obtain ⟨K, rfl⟩ : ∃ q, K = q + 1 := ⟨K - 1, by omega⟩
        simp only [duetref07_Few.l0]
        rw [if_pos (by omega), if_pos (by omega)]
        split
        · exact ⟨_, rfl⟩
        · rw [show wrap64 ((j : Int) + 1) = ((j + 1 : Nat) : Int) by unfold wrap64; omega]
          exact ih (j + 1) K (by omega) (by omega)
    exact this l.length 0 (l.length + 1) (by omega) (by omega)
theorem few_len {l : List S56} {K : Nat} (h : duetref07_Few.f K l = some true) : l.length ≤ 60 := by
  unfold duetref07_Few.f at h
  by_cases c : (l.length : Int) > 60
  · rw [if_pos c] at h; simp at h
  · omega
theorem at_msg {w : World} {A : Option Addr} {n : Nat} {xs : List S56} (h : Kd.C k56 w A n xs) (k : Nat) (h1 : k < n) : ∃ (ad : Addr) (A2 : Option Addr) (c2 : Nat) (s q : Int) (kn : List Int) (kd ep it is rt rs ru : Int), A = some ad ∧ rd_T56 xs (k : Int) = ⟨s, q, kn, ⟨kd, ep, ⟨it, is⟩, ⟨rt, rs⟩, ru⟩⟩ ∧ w.cell? (ad.add (k * 10)) = some (.int .i64 s) ∧ w.cell? ⟨(ad.add (k * 10)).block, (ad.add (k * 10)).off + 1, none⟩ = some (.int .i64 q) ∧ w.cell? ⟨(ad.add (k * 10)).block, (ad.add (k * 10)).off + 2, none⟩ = some (.slice A2 kn.length c2) ∧ w.cell? ⟨(ad.add (k * 10)).block, (ad.add (k * 10)).off + 3, none⟩ = some (.int .i64 kd) ∧ w.cell? ⟨(ad.add (k * 10)).block, (ad.add (k * 10)).off + 4, none⟩ = some (.int .i64 ep) ∧ w.cell? ⟨(ad.add (k * 10)).block, (ad.add (k * 10)).off + 5, none⟩ = some (.int .i64 it) ∧ w.cell? ⟨(ad.add (k * 10)).block, (ad.add (k * 10)).off + 6, none⟩ = some (.int .i64 is) ∧ w.cell? ⟨(ad.add (k * 10)).block, (ad.add (k * 10)).off + 7, none⟩ = some (.int .i64 rt) ∧ w.cell? ⟨(ad.add (k * 10)).block, (ad.add (k * 10)).off + 8, none⟩ = some (.int .i64 rs) ∧ w.cell? ⟨(ad.add (k * 10)).block, (ad.add (k * 10)).off + 9, none⟩ = some (.int .i64 ru) ∧ kn.length ≤ c2 ∧ (Kd.int .i64).C w A2 kn.length kn := by
  obtain ⟨ad, A2, c2, e, h2⟩ := at_T56 h (k : Int) (by omega) (by omega)
  rw [Int.toNat_natCast] at h2
  generalize rd_T56 xs (k : Int) = x at h2
  obtain ⟨s, q, kn, ⟨kd, ep, ⟨it, is⟩, ⟨rt, rs⟩, ru⟩⟩ := x
  exact ⟨ad, A2, c2, s, q, kn, kd, ep, it, is, rt, rs, ru, e, rfl, h2⟩
end Go.Proofs.Ytiplkmmppihilaa.PastA
