/- works answers true, and nothing that was there is touched. Conditions: none. -/
import Derived.Test.YtphdjpfdelpecaaGreatDoorAS50
import Derived.Test.YtphdjpfdelpecaaGreatDoorCrcA
namespace Go.Proofs.YtphdjpfdelpecaaGreatDoor.Works
open Go.RowKit Go.Proofs.YtphdjpfdelpecaaGreatDoorW.PrintWords Go.Proofs.YtphdjpfdelpecaaGreatDoor.AI Go.Proofs.YtphdjpfdelpecaaGreatDoor.CrcA
set_option linter.unusedVariables false
set_option linter.unusedSimpArgs false
theorem more_snoc (c : Nat) : ∀ (l : List Nat) (n : Nat), crcMore (l ++ [c]) n = crcByte (crcMore l n) c
 | [], n => rfl
 | x :: l, n => more_snoc c l (crcByte n x)
theorem mk_size (l : List Nat) : (mk l).size = l.length := by show (l.map UInt8.ofNat).toArray.size = _; simp
theorem mk_bt (l : List Nat) (hl : ∀ x ∈ l, x < 256) (k : Nat) (hk : k < l.length) : bt (mk l) (k : Int) = ((l[k] : Nat) : Int) := by
 have hs : k < (mk l).size := by rw [mk_size]; exact hk
 have hb := bt_at (mk l) (k : Int) (by simpa using hs)
 rw [← hb]
 have e1 : (mk l)[((k : Int)).toNat]'(by simpa using hs) = (l.map UInt8.ofNat).toArray[k]'(by simpa using hk) := rfl
 rw [e1]
 have := hl _ (List.getElem_mem hk)
 simp only [List.getElem_toArray, List.getElem_map, UInt8.toNat_ofNat']
 omega
theorem msum_list (l : List Nat) (hl : ∀ x ∈ l, x < 256) (n : Nat) : ∀ k, k ≤ l.length → msum n (mk l) k = crcMore (l.take k) n
 | 0, _ => by simp [msum, crcMore]
 | k + 1, hk => by
  have hk' : k < l.length := hk
  simp only [msum]
  rw [msum_list l hl n k (by omega), mk_bt l hl k hk', Int.toNat_natCast, List.take_succ_eq_append_getElem hk', more_snoc]
theorem more_hook (args : List V) (v : V) (h : moreA args = some v) (ρ : Env) (a : Array Value) (w : World) (ra : LR ρ args a.toList) : Calls Tryz.prog 145 a w fun e w' => ∃ u, e = .returned u ∧ VR ρ v u ∧ Below w.heap.size w w' := by
 unfold moreA at h
 split at h
 ·rename_i n l
  cases hc : (Nat.ble n 16777215 && Nat.ble l.length 1000000) with
  | false => rw [hc] at h; cases h
  | true =>
   rw [hc] at h
   cases h
   simp only [Bool.and_eq_true] at hc
   have h1 := Nat.le_of_ble_eq_true hc.1
   have h2 := Nat.le_of_ble_eq_true hc.2
   obtain ⟨x, y, rfl, rx, ry⟩ := ra.two
   obtain rfl : x = .int .i64 (n : Int) := rx
   obtain ⟨rfl, hl⟩ := ry
   refine (more_calls n (mk l) (by omega) (by rw [mk_size]; omega) w).mono fun e w' he => ⟨_, he.1, ?_, he.2⟩
   show Value.int .i64 _ = Value.int .i64 (Int.ofNat (crcMore l n))
   rw [mk_size, msum_list l hl n l.length (Nat.le_refl _), List.take_length]
   rfl
 ·cases h
theorem works_calls (w : World) : Calls Tryz.prog 5 #[] w fun e w' => e = .returned (.bool true) ∧ Below w.heap.size w w' := works_of (hooks_ok more_hook) mixed w
end Go.Proofs.YtphdjpfdelpecaaGreatDoor.Works
