/- The sum of a text. Conditions: none beyond those that each theorem states. -/
import Derived.Test.YtphdjpfdelpecaaGreatDoorAS49
import Derived.Test.YtphdjpfdelpecaaGreatDoorXS
import Derived.Test.YtphdjpfdelpecaaGreatDoorXT
namespace Go.Proofs.YtphdjpfdelpecaaGreatDoor.CrcA
open Go.RowKit Go.Proofs.YtphdjpfdelpecaaGreatDoorW.PrintWords Go.Proofs.YtphdjpfdelpecaaGreatDoorW.PrintLast Go.Proofs.YtphdjpfdelpecaaGreatDoorW.PrintMore Go.Proofs.YtphdjpfdelpecaaGreatDoor.XS Go.Proofs.YtphdjpfdelpecaaGreatDoor.AI
set_option linter.unusedVariables false
set_option linter.unusedSimpArgs false
def tabA : Array Value := ((List.range 256).map fun c => Value.int .i64 (crcTab c)).toArray
theorem tabA_size : tabA.size = 256 := by simp [tabA]
theorem tabA_at (i : Nat) (h : i < 256) : tabA[i]? = some (.int .i64 (crcTab i)) := by simp [tabA, List.getElem?_map, List.getElem?_range h]
theorem table_calls' (w : World) : Calls Tryz.prog 191 #[] w fun e w' => e = .returned (.agg tabA) ∧ Below w.heap.size w w' := table_calls w
theorem zeros_size : Tryz.zeroCells326.size = 256 := by kernel_rfl
theorem size326 (w : World) : (sizeOf 326).run Tryz.prog w = .ok 256 w := by
 have h : (Tryz.prog.info? 326).map (·.size) = some 256 := by kernel_rfl
 obtain ⟨i, h1, h2⟩ := Option.map_eq_some_iff.1 h
 simp [sizeOf, typeInfo, h1, h2]
theorem tab_store (w : World) : ∃ w2, (storeVar 326 ⟨w.heap.size, 0, none⟩ (.agg tabA)).run Tryz.prog (w.alloc (.cells Tryz.zeroCells326 326)) = .ok () w2 ∧ Below w.heap.size w w2 ∧ w2.heap.size = w.heap.size + 1 ∧
  ∀ i : Nat, i < 256 → w2.cell? ⟨w.heap.size, i, none⟩ = some (.int .i64 (crcTab i)) := by
 obtain ⟨w2, a', h1, h2, h3, h4⟩ := storeCells_run (P := Tryz.prog) tabA.toList (w.alloc (.cells Tryz.zeroCells326 326)) w.heap.size 0 0 Tryz.zeroCells326 326 (0, 0) (heap_new w _) (fun j _ => by simp) (by simp [tabA_size, zeros_size]) (fun u hu => by
  simp only [tabA] at hu
  obtain ⟨c, _, rfl⟩ := List.mem_map.1 hu
  rfl)
 have hc : (Value.agg tabA).cells = tabA := rfl
 refine ⟨w2, ?_, ?_, ?_, fun i hi => ?_⟩
 ·simp [storeVar, hc, tabA_size, size326]
  exact h1
 ·refine (Below.alloc (Below.refl w.heap.size w) (Nat.le_refl _) _).trans ⟨h2.os, h2.tape, h2.out, Nat.le_of_eq h2.size.symm, fun k hk => h2.other k (by omega)⟩
 ·rw [h2.size]; simp
 ·have hl : tabA.toList.length = 256 := by rw [Array.length_toList, tabA_size]
  have e1 : w2.cell? ⟨w.heap.size, i, none⟩ = a'[i]? := by simp [World.cell?, h2.at_]
  have e2 : a'[i]? = tabA.toList[i - (0 + 0)]? := (h4 i).trans (if_pos ⟨by omega, by rw [hl]; omega⟩)
  rw [e1, e2, show i - (0 + 0) = i by omega, Array.getElem?_toList]
  exact tabA_at i hi
theorem put_store {w1 w2 w : World} {ev : Operand → Value} {o : Oper} {p : Nat} {y : Operand} {T : Array Value} (h : (storeVar 326 ⟨w1.heap.size, 0, none⟩ (.agg T)).run Tryz.prog w = .ok () w2) (ho : o.op = .store 326 (.tmp p) y := by rfl) (hp : ev (.tmp p) = .pointer (some ⟨w1.heap.size, 0, none⟩) := by rfl) (hy : ev y = .agg T := by rfl) : (execOp ev o).run Tryz.prog w = .ok .skip w2 := by
 unfold execOp
 rw [ho]
 simp [hp, hy, Instr.storeAt, Instr.sureAddr, h]
theorem wrap_id (n : Nat) (h : n < 2 ^ 62) : IntKind.i64.wrap (n : Int) = n := by rw [IntKind.wrap_i64]; omega
theorem bits_two (a b : Nat) (ha : a < 2 ^ 62) (hb : b < 2 ^ 62) : bits .and .i64 a b = ((a &&& b : Nat) : Int) ∧ bits .xor .i64 a b = ((a ^^^ b : Nat) : Int) := by
 have ha' : a % 2 ^ IntKind.i64.bits = a := Nat.mod_eq_of_lt (by show a < 2 ^ 64; omega)
 have hb' : b % 2 ^ IntKind.i64.bits = b := Nat.mod_eq_of_lt (by show b < 2 ^ 64; omega)
 constructor
 ·simp only [bits, BitVec.ofInt_natCast, BitVec.toNat_and, BitVec.toNat_ofNat, ha', hb']
  exact wrap_id _ (Nat.and_lt_two_pow _ hb)
 ·simp only [bits, BitVec.ofInt_natCast, BitVec.toNat_xor, BitVec.toNat_ofNat, ha', hb']
  exact wrap_id _ (Nat.xor_lt_two_pow ha hb)
theorem and_mask (n : Nat) (h : n < 2 ^ 62) : bits .and .i64 n 16777215 = ((n % 16777216 : Nat) : Int) := by
 have := (bits_two n 16777215 h (by omega)).1
 rw [Nat.and_two_pow_sub_one_eq_mod n 24] at this
 exact this
theorem and_small {n : Nat} (h : n < 16777216) : bits .and .i64 n 16777215 = (n : Int) := by
 rw [and_mask n (by omega), Nat.mod_eq_of_lt h]
def msum (a0 : Nat) (s : ByteArray) : Nat → Nat
 | 0 => a0
 | k + 1 => crcByte (msum a0 s k) (bt s (k : Int)).toNat
theorem crcOne_lt {n : Nat} (h : n < 16777216) : crcOne n < 16777216 := by
 unfold crcOne
 cases hb : Nat.ble (Nat.mul 2 n) 16777215 with
 | true => simp only [cond_true]; have := Nat.le_of_ble_eq_true hb; omega
 | false =>
  simp only [cond_false]
  have := Nat.xor_lt_two_pow (n := 24) (x := (2 * n) % 16777216) (y := 8801531) (Nat.mod_lt _ (by omega)) (by omega)
  exact this
theorem crcTab_lt {c : Nat} (h : c < 256) : crcTab c < 16777216 := by
 unfold crcTab
 refine crcOne_lt (crcOne_lt (crcOne_lt (crcOne_lt (crcOne_lt (crcOne_lt (crcOne_lt (crcOne_lt ?_)))))))
 show c * 65536 < 16777216
 omega
theorem bt_nat (s : ByteArray) (j : Int) : ∃ c : Nat, c < 256 ∧ bt s j = (c : Int) := by
 obtain ⟨h0, h1⟩ := bt_range s j
 exact ⟨(bt s j).toNat, by omega, by omega⟩
theorem crcByte_eq (n c : Nat) : crcByte n c = (n * 256 % 16777216) ^^^ crcTab (n / 65536 ^^^ c) := by unfold crcByte; rfl
theorem crcByte_lt {n c : Nat} (h : n < 16777216) (hc : c < 256) : crcByte n c < 16777216 := by
 rw [crcByte_eq]
 exact Nat.xor_lt_two_pow (n := 24) (Nat.mod_lt _ (by omega)) (crcTab_lt (Nat.xor_lt_two_pow (n := 8) (by omega) hc))
theorem msum_lt {a0 : Nat} (s : ByteArray) (h : a0 < 16777216) : ∀ k, msum a0 s k < 16777216
 | 0 => h
 | k + 1 => by
  obtain ⟨c, hc, e⟩ := bt_nat s (k : Int)
  simp only [msum, e, Int.toNat_natCast]
  exact crcByte_lt (msum_lt s h k) hc
set_option maxHeartbeats 8000000 in
set_option maxRecDepth 100000 in
theorem more_calls (a0 : Nat) (s : ByteArray) (h : a0 < 16777216) (hsz : s.size ≤ 1000000) (w : World) : Calls Tryz.prog 145 #[.int .i64 a0, .string s] w fun e w' => e = .returned (.int .i64 (msum a0 s s.size)) ∧ Below w.heap.size w w' := by
 go_enter Tryz.func145, Tryz.ntmps145
 go_wp2_with (first | (go_at_call 191; (with_reducible refine (table_calls' _).mono ?_); rintro e w1 ⟨rfl, hb⟩; have B_1 := Aside0.mk hb; clear hb; obtain ⟨w2, hs, hb2, hz, hc⟩ := tab_store w1; generalize tabA = T at hs ⊢; have HS := Aside0.mk hs; have HB2 := Aside0.mk hb2; have HC := Aside0.mk hc; clear hs hb2 hc) |
  ((with_reducible refine gate_store (t := 326) (p := 5) rfl ?_); go_must (refine store_event (t := 326) (p := 5) (v := ?vo_1) (w1 := w2) ?hg ?ho ?hn ?hr ?_; (case ho => rfl); (case hg => rfl); (case hn => rfl); (case hr => exact put_store HS.out); intro w3 hw; obtain rfl := hw)))
 have B_2 : Aside0 (Below w.heap.size w w3) := ⟨B_1.out.trans (HB2.out.mono B_1.out.size)⟩
 clear B_1 HB2 HS
 go_loopw [0, 12] (fun v0 v12 wr => ∃ j : Nat, j ≤ s.size ∧ v0 = .int .i64 (msum a0 s j) ∧ v12 = .int .i64 j ∧ wr = w3) (fun _ i _ => s.size - (intOf i).toNat)
 case atStart => exact ⟨0, by omega, by rw [and_small h]; rfl, rfl, rfl⟩
 case round =>
  obtain ⟨j, hj, rfl, rfl, rfl⟩ := hrel
  by_cases hlt : j < s.size
  ·have hlt2 : (j : Int) < (s.size : Int) := by omega
   have hx : ∀ h : j < s.size, ((s[j]'h).toNat : Int) = bt s j := bt_at s j
   obtain ⟨c, hc, hbt⟩ := bt_nat s (j : Int)
   have hM := msum_lt s h j
   have hS : msum a0 s (j + 1) = crcByte (msum a0 s j) c := by simp only [msum, hbt, Int.toNat_natCast]
   have hrel : ((msum a0 s (j + 1) : Nat) : Int) = ((crcByte (msum a0 s j) c : Nat) : Int) := by rw [hS]
   generalize msum a0 s j = m at hM hS hrel ⊢
   have hw1 : wrap64 (bt s (j : Int)) = (c : Int) := by rw [hbt]; unfold wrap64; omega
   have hI : m / 65536 ^^^ c < 256 := Nat.xor_lt_two_pow (n := 8) (by omega) hc
   have hidx : bits .xor .i64 ((m : Int) / 65536) (c : Int) = ((m / 65536 ^^^ c : Nat) : Int) := by
    rw [show (m : Int) / 65536 = ((m / 65536 : Nat) : Int) by omega]
    exact (bits_two (m / 65536) c (by omega) (by omega)).2
   have hw2 : wrap64 ((m : Int) * 256) = (m : Int) * 256 := by unfold wrap64; omega
   have hand : bits .and .i64 ((m : Int) * 256) 16777215 = (((m * 256) % 16777216 : Nat) : Int) := by
    rw [show (m : Int) * 256 = ((m * 256 : Nat) : Int) by omega]
    exact and_mask (m * 256) (by omega)
   have hcell := HC.out _ hI
   have hT := crcTab_lt hI
   have hlast : bits .xor .i64 (((m * 256) % 16777216 : Nat) : Int) (crcTab (m / 65536 ^^^ c) : Int) = ((crcByte m c : Nat) : Int) := by
    rw [crcByte_eq]
    exact (bits_two _ _ (by omega) (by omega)).2
   generalize m / 65536 ^^^ c = idx at hI hidx hcell hT hlast
   generalize crcTab idx = tb at hcell hT hlast
   generalize (m * 256) % 16777216 = mm at hand hlast
   clear hS
   generalize crcByte m c = r at hrel hlast
   have hI0 : (0 : Int) ≤ (idx : Int) := by omega
   have hI1 : (idx : Int) < 256 := by omega
   clear hM hbt HC hT hc
   go_wp2
   go_roundw
   case rel => exact ⟨j + 1, by omega, by rw [hrel], by go_num, trivial⟩
   case measure => simp [intOf]; omega
  ·obtain rfl : j = s.size := by omega
   have hlt2 : ¬ (s.size : Int) < (s.size : Int) := by omega
   go_wp2
   go_ret
   exact ⟨rfl, B_2.out⟩
end Go.Proofs.YtphdjpfdelpecaaGreatDoor.CrcA
