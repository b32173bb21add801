/- The pure statement of MesgReads: the message of any bytes, or why there is none. Conditions: those that the statement itself names (kinds and sizes of the arguments). -/
import Derived.Test.YthofobcbbddeeaaPMesrx12
import Derived.Test.YthofobcbbddeeaaMesrL
namespace Go.Proofs.Ythofobcbbddeeaa.Pure
open Go.RowKit Go.Proofs.Ythofobcbbddeeaa.PMesr Go.Proofs.YthofobcbbddeeaaW.PrintWords Go.Proofs.YthofobcbbddeeaaW.PrintLast Go.Proofs.Ythofobcbbddeeaa.MesrL
set_option linter.unusedVariables false
set_option linter.unusedSimpArgs false

theorem decode_ends (s : ByteArray) (K : Nat) (hK : 1100 ≤ K) : ∃ a0 a1 l a3 a4 a5 a6 a7 a8 a9 e, l.length ≤ 1000 ∧ mesg_Decode.f K s = some (a0, a1, l, a3, a4, a5, a6, a7, a8, a9, e) := by
  rcases decode_any s K (by omega) with ⟨a0, a1, l, a3, a4, a5, a6, a7, a8, a9, ho, rfl⟩ | ⟨e, _, h⟩
  · exact ⟨a0, a1, l, a3, a4, a5, a6, a7, a8, a9, 0, by have := (ok_all ho).1.2.1; omega, decode_enc ho K (by omega)⟩
  · exact ⟨0, 0, [], 0, 0, 0, 0, 0, 0, 0, e, by simp, h⟩
theorem MesgReads : duetlaw04_MesgReads.Pure := by
  intro s _
  refine ⟨1100, ?_⟩
  have hv : duetlaw04_live.f = some true := rfl
  unfold duetlaw04_MesgReads.f
  by_cases c : (s.size : Int) > 3000
  · rw [if_pos c, hv]; rfl
  · rw [if_neg c, ref_decode 1100 (by omega)]
    obtain ⟨a0, a1, l, a3, a4, a5, a6, a7, a8, a9, e, hl, h⟩ := decode_ends s 1100 (by omega)
    rw [h, Option.bind_some, Option.bind_some]
    simp only
    obtain ⟨r, hr, hi⟩ := same_msg a0 a1 l a3 a4 a5 a6 a7 a8 a9 a0 a1 l a3 a4 a5 a6 a7 a8 a9 (by omega) 1100 (by omega)
    rw [hr, Option.bind_some, if_pos (hi.mpr ⟨rfl, rfl, rfl, rfl, rfl, rfl, rfl, rfl, rfl, rfl⟩), if_pos trivial, hv]
    rfl

end Go.Proofs.Ythofobcbbddeeaa.Pure
