/- The law PastOne, walked. Conditions: none beyond those that each theorem states. -/
import Derived.Test.YtiplkmmppihilaaPastH
namespace Go.Proofs.Ytiplkmmppihilaa.PastA
open Go.RowKit Go.Proofs.YtiplkmmppihilaaW.PrintWords Go.Proofs.YtiplkmmppihilaaW.PrintLast Go.Proofs.YtiplkmmppihilaaW.PrintMore Go.Proofs.Ytiplkmmppihilaa.XS Go.Proofs.Ytiplkmmppihilaa.PPast
set_option linter.unusedVariables false
set_option linter.unusedSimpArgs false
theorem at_text {w : World} {A : Option Addr} {n : Nat} {xs : List ByteArray} (h : Kd.string.C w A n xs) (k : Nat) (h1 : k < n) : ∃ ad, A = some ad ∧ w.cell? (ad.add k) = some (.string (rdOf ByteArray.empty xs (k : Int))) := by
  obtain ⟨ad, e, hc⟩ := Kd.at_string h (k : Int) (by omega) (by omega)
  rw [Int.toNat_natCast] at hc
  exact ⟨ad, e, hc⟩
theorem take_add (l0 : List ByteArray) (k : Nat) (hk : k < l0.length) : l0.take (k + 1) = l0.take k ++ [rdOf ByteArray.empty l0 (k : Int)] := by
  rw [List.take_succ_eq_append_getElem hk]
  simp [rdOf, List.getD_eq_getElem?_getD, List.getElem?_eq_getElem hk]
theorem add_next (l0 : List ByteArray) (k : Nat) (hk : k < l0.length) (hl : l0.length ≤ 60) (ht : (rdOf ByteArray.empty l0 (k : Int)).size ≤ 300) : addE (l0.take k) (k : Int) (rdOf ByteArray.empty l0 (k : Int)) = 0 := by
  have e : (l0.take k).length = k := by rw [List.length_take]; omega
  unfold addE
  rw [if_neg (by omega), if_neg (by omega), e, if_neg (by omega), if_neg (by omega), if_neg (by omega)]
theorem addL_next (l0 : List ByteArray) (k : Nat) (hk : k < l0.length) (hl : l0.length ≤ 60) (ht : (rdOf ByteArray.empty l0 (k : Int)).size ≤ 300) : addL (l0.take k) (k : Int) (rdOf ByteArray.empty l0 (k : Int)) = l0.take (k + 1) := by
  unfold addL
  rw [if_pos (add_next l0 k hk hl ht), take_add l0 k hk]
theorem add_old (l0 : List ByteArray) (k : Nat) (hk : k < l0.length) (ht : (rdOf ByteArray.empty l0 (k : Int)).size ≤ 300) : addE l0 (k : Int) (rdOf ByteArray.empty l0 (k : Int)) = 7 := by
  unfold addE
  rw [if_neg (by omega), if_neg (by omega), if_neg (by omega), if_pos (by omega), if_pos rfl]
theorem add_deny (l0 : List ByteArray) (k : Nat) (hk : k < l0.length) (ht : (rdOf ByteArray.empty l0 (k : Int)).size ≤ 300) : addE l0 (k : Int) (rdOf ByteArray.empty l0 (k : Int) ++ ⟨#[120]⟩) = 8 := by
  unfold addE
  have hs : (rdOf ByteArray.empty l0 (k : Int) ++ (⟨#[120]⟩ : ByteArray)).size = (rdOf ByteArray.empty l0 (k : Int)).size + 1 := by rw [ByteArray.size_append]; rfl
  rw [if_neg (by omega), if_neg (by omega), if_neg (by omega), if_pos (by omega), if_neg (fun h => by
    have := congrArg List.length h
    rw [XW.toList_size, XW.toList_size, hs] at this
    omega)]
theorem addL_same (ls : List ByteArray) (e : Int) (t : ByteArray) (h : addE ls e t ≠ 0) : addL ls e t = ls := by unfold addL; rw [if_neg h]
set_option maxHeartbeats 8000000 in
set_option maxRecDepth 100000 in
theorem pastOne (A0 : Option Addr) (c0 : Nat) (l0 : List ByteArray) (w : World) (hr0 : Kd.string.C w A0 l0.length l0) (hc0 : l0.length ≤ c0) :
    Calls Try.prog 9 #[.slice A0 l0.length c0] w fun en w' => en = .returned (.bool true) ∧ Below w.heap.size w w' := by
  have HR := Aside0.mk hr0
  clear hr0
  have hu34 := Try.underlying34
  have B_w := Aside0.mk (Below.refl w.heap.size w)
  have S_w : Aside0 (Sep w.heap.size (Stars []) w) := ⟨Sep.emp _ _⟩
  by_cases hl : 60 < l0.length
  · have hl2 : (60 : Int) < (l0.length : Int) := by omega
    go_enter Try.func9, Try.ntmps9
    go_wp2_with (first | (go_at_call 15; (with_reducible refine (log_new _).mono ?_); rintro e w_1 ⟨gl, rfl, hN, hb⟩; have B_w_1 : Aside0 (Below (w.heap.size) w w_1) := ⟨below_then B_w.out B_w.out.size hb⟩; have S_w_1 : Aside0 (Sep (w.heap.size) (Stars [LogA 87 gl []]) w_1) := ⟨Sep.more S_w.out hN hb B_w.out.size⟩; have Q_w_1 : Aside0 (Below w.heap.size w w_1) := ⟨hb⟩; clear S_w; clear hb) | (go_at_call 16; (with_reducible refine (live _).mono ?_); rintro e2 w_l ⟨rfl, hb⟩; have HBl := Aside0.mk hb; clear hb))
    go_ret
    exact ⟨rfl, below_then B_w_1.out B_w_1.out.size HBl.out⟩
  have hl2 : ¬ (60 : Int) < (l0.length : Int) := by omega
  have hl3 : l0.length ≤ 60 := by omega
  go_enter Try.func9, Try.ntmps9
  go_wp2_with (first | (go_at_call 15; (with_reducible refine (log_new _).mono ?_); rintro e w_1 ⟨gl, rfl, hN, hb⟩; have B_w_1 : Aside0 (Below (w.heap.size) w w_1) := ⟨below_then B_w.out B_w.out.size hb⟩; have S_w_1 : Aside0 (Sep (w.heap.size) (Stars [LogA 87 gl []]) w_1) := ⟨Sep.more S_w.out hN hb B_w.out.size⟩; have Q_w_1 : Aside0 (Below w.heap.size w w_1) := ⟨hb⟩; clear S_w; clear hb))
  go_loopw [4] (fun i wr => ∃ k : Nat, k ≤ l0.length ∧ i = .int .i64 k ∧ Aside0 (∀ j : Nat, j < k → (rdOf ByteArray.empty l0 (j : Int)).size ≤ 300) ∧ Aside0 (Sep w.heap.size (Stars [LogA 87 gl (l0.take k)]) wr) ∧ Aside0 (Below w.heap.size w wr)) (fun i _ => l0.length - (intOf i).toNat)
  case atStart => exact ⟨0, by omega, rfl, ⟨fun j hj => by omega⟩, S_w_1, B_w_1⟩
  case round =>
    clear S_w_1
    obtain ⟨k, hk, rfl, HT, S_wr, B_wr⟩ := hrel
    by_cases hlt : k < l0.length
    · have hlt2 : (k : Int) < (l0.length : Int) := by omega
      obtain ⟨ad, rfl, x0⟩ := at_text HR.out k hlt
      have x0_wr := pw_cell_below B_wr.out x0
      have HE := fun h => Aside0.mk (add_next l0 k hlt hl3 h)
      have HL2 := fun h => Aside0.mk (addL_next l0 k hlt hl3 h)
      generalize ht0 : rdOf ByteArray.empty l0 (k : Int) = t at *
      by_cases ht : 300 < t.size
      · have ht2 : (300 : Int) < t.size := by omega
        go_wp2_with (go_at_call 16; (with_reducible refine (live _).mono ?_); rintro e2 w_l ⟨rfl, hb⟩; have HBl := Aside0.mk hb; clear hb)
        go_ret
        exact ⟨rfl, below_then B_wr.out B_wr.out.size HBl.out⟩
      have ht2 : t.size ≤ 300 := by omega
      have HT2 : Aside0 (∀ j : Nat, j < k + 1 → (rdOf ByteArray.empty l0 (j : Int)).size ≤ 300) := ⟨fun j hj => by
        by_cases e : j = k
        · subst e; rw [ht0]; exact ht2
        · exact HT.out j (by omega)⟩
      replace HE := HE ht2
      replace HL2 := HL2 ht2
      clear ht ht0
      go_wp2_with (first | (go_at_call 17; (with_reducible refine (log_add _ (k : Int) t (Sep.front [] [] S_wr.out) B_wr.out.size 0 (l0.take (k + 1)) HE.out HL2.out).mono ?_); rintro e wr_1 ⟨rfl, hS, hb⟩; have B_wr_1 : Aside0 (Below (w.heap.size) w wr_1) := ⟨(Below.trans B_wr.out hb)⟩; have S_wr_1 : Aside0 (Sep (w.heap.size) (Stars [LogA 87 gl (l0.take (k + 1))]) wr_1) := ⟨Sep.back [] [] hS⟩; have x0_wr_1 := pw_cell_below B_wr_1.out x0; clear S_wr x0_wr; clear hS hb))
      go_roundw
      case rel => exact ⟨k + 1, by omega, by go_num, HT2, S_wr_1, B_wr_1⟩
      case measure => simp [intOf]; omega
    · obtain rfl : k = l0.length := by omega
      have S_0 : Aside0 (Sep w.heap.size (Stars [LogA 87 gl l0]) wr) := ⟨by have := S_wr.out; rw [List.take_length] at this; exact this⟩
      clear S_wr
      go_wp2
      obtain ⟨wo, hwo⟩ : ∃ wo : World, wo = wr := ⟨_, rfl⟩
      subst hwo
      go_loopw [5] (fun i wr => ∃ k : Nat, k ≤ l0.length ∧ i = .int .i64 k ∧ Aside0 (Sep w.heap.size (Stars [LogA 87 gl l0]) wr) ∧ Aside0 (Below w.heap.size w wr)) (fun i _ => l0.length - (intOf i).toNat)
      case atStart => exact ⟨0, by omega, rfl, S_0, B_wr⟩
      case round =>
        clear S_0 B_wr
        obtain ⟨k, hk, rfl, S_wr, B_wr⟩ := hrel
        by_cases hlt : k < l0.length
        · have hlt2 : (k : Int) < (l0.length : Int) := by omega
          have ht2 := HT.out k hlt
          obtain ⟨ad, rfl, x0⟩ := at_text HR.out k hlt
          have x0_wr := pw_cell_below B_wr.out x0
          have HG : Aside0 (getS l0 (k : Int) = rdOf ByteArray.empty l0 (k : Int)) := ⟨by unfold getS; rw [if_pos ⟨by omega, hlt2⟩]⟩
          have HGB : Aside0 (getB l0 (k : Int) = true) := ⟨by unfold getB; rw [decide_eq_true ⟨by omega, hlt2⟩]⟩
          have HE7 := Aside0.mk (add_old l0 k hlt ht2)
          have HE8 := Aside0.mk (add_deny l0 k hlt ht2)
          have HL7 : Aside0 (addL l0 (k : Int) (rdOf ByteArray.empty l0 (k : Int)) = l0) := ⟨addL_same _ _ _ (by rw [HE7.out]; decide)⟩
          have HL8 : Aside0 (addL l0 (k : Int) (rdOf ByteArray.empty l0 (k : Int) ++ ⟨#[120]⟩) = l0) := ⟨addL_same _ _ _ (by rw [HE8.out]; decide)⟩
          generalize rdOf ByteArray.empty l0 (k : Int) = t at *
          go_wp2_with (first | (go_at_call 19; (with_reducible refine (log_get_at _ (k : Int) (Sep.front [] [] S_wr.out) t true HG.out HGB.out).mono ?_); rintro e w' ⟨rfl, rfl⟩) | (go_at_call 17; (with_reducible refine (log_add _ (k : Int) t (Sep.front [] [] S_wr.out) B_wr.out.size 7 l0 HE7.out HL7.out).mono ?_); rintro e wr_1 ⟨rfl, hS, hb⟩; have B_wr_1 : Aside0 (Below (w.heap.size) w wr_1) := ⟨(Below.trans B_wr.out hb)⟩; have S_wr_1 : Aside0 (Sep (w.heap.size) (Stars [LogA 87 gl l0]) wr_1) := ⟨Sep.back [] [] hS⟩; have x0_wr_1 := pw_cell_below B_wr_1.out x0; clear S_wr x0_wr; clear hS hb) | (go_at_call 17; (with_reducible refine (log_add _ (k : Int) (t ++ ⟨#[120]⟩) (Sep.front [] [] S_wr_1.out) B_wr_1.out.size 8 l0 HE8.out HL8.out).mono ?_); rintro e wr_2 ⟨rfl, hS, hb⟩; have B_wr_2 : Aside0 (Below (w.heap.size) w wr_2) := ⟨(Below.trans B_wr_1.out hb)⟩; have S_wr_2 : Aside0 (Sep (w.heap.size) (Stars [LogA 87 gl l0]) wr_2) := ⟨Sep.back [] [] hS⟩; have x0_wr_2 := pw_cell_below B_wr_2.out x0; clear S_wr_1 x0_wr_1; clear hS hb))
          go_roundw
          case rel => exact ⟨k + 1, by omega, by go_num, S_wr_2, B_wr_2⟩
          case measure => simp [intOf]; omega
        · obtain rfl : k = l0.length := by omega
          have HG : Aside0 (getS l0 (l0.length : Int) = ⟨#[]⟩) := ⟨by unfold getS; rw [if_neg (by omega)]⟩
          have HGB : Aside0 (getB l0 (l0.length : Int) = false) := ⟨by unfold getB; rw [decide_eq_false (by omega)]⟩
          have HTX : Aside0 (duetref03_Texts.f (l0.length + 1) l0 l0 = some true) := ⟨by rw [texts_is _ _ _ (by omega) (by omega), decide_eq_true rfl]⟩
          go_wp2_with (first | (go_at_call 19; (with_reducible refine (log_get_at _ (l0.length : Int) (Sep.front [] [] S_wr.out) ⟨#[]⟩ false HG.out HGB.out).mono ?_); rintro e w' ⟨rfl, rfl⟩) | (go_at_call 22; (with_reducible refine (log_all_own _ (Sep.front [] [] S_wr.out)).mono ?_); rintro e wr_1 ⟨va, rfl, hr, hb⟩; have B_wr_1 : Aside0 (Below (w.heap.size) w wr_1) := ⟨below_then B_wr.out B_wr.out.size hb⟩; have S_wr_1 : Aside0 (Sep (w.heap.size) (Stars [Row Kd.string 9 (va) (l0), LogA 87 gl l0]) wr_1) := ⟨Sep.new_row S_wr.out B_wr.out.size hb hr⟩; clear S_wr; obtain ⟨Aa, ca, hv, -, -⟩ := Sep.row (Sep.front [] [LogA 87 gl l0] S_wr_1.out); subst hv; clear hb hr) | (go_at_call 21; (with_reducible refine (duetref03_Texts.calls (l0.length + 1) Aa ca l0 A0 c0 l0 true _ (Sep.row_cut (Sep.front [] [LogA 87 gl l0] S_wr_1.out)).2.2 (Sep.row_cut (Sep.front [] [LogA 87 gl l0] S_wr_1.out)).2.1 (Kd.C_below HR.out B_wr_1.out) hc0 HTX.out).mono ?_); rintro e wr_2 ⟨rfl, hb0⟩; have hb := Aside0.mk hb0; clear hb0; have B_wr_2 : Aside0 (Below (w.heap.size) w wr_2) := ⟨below_then B_wr_1.out B_wr_1.out.size hb.out.below⟩; have S_wr_2 : Aside0 (Sep (w.heap.size) (Stars [Row Kd.string 9 (.slice Aa l0.length ca) (l0), LogA 87 gl l0]) wr_2) := ⟨Sep.below S_wr_1.out hb.out.below⟩; clear S_wr_1; clear hb) | (go_at_call 16; (with_reducible refine (live _).mono ?_); rintro e2 w_l ⟨rfl, hb⟩; have HBl := Aside0.mk hb; clear hb))
          go_ret
          exact ⟨rfl, below_then B_wr_2.out B_wr_2.out.size HBl.out⟩
end Go.Proofs.Ytiplkmmppihilaa.PastA
