/- That the told functions answer as the statement PiecesDivide says, in plain Lean. There are no conditions. -/
import Derived.Test.YtkiacebcedpljaaTPiecesDivide0
set_option maxRecDepth 100000
set_option linter.unusedVariables false
set_option linter.unusedSimpArgs false
namespace Go.Proofs.Ytkiacebcedpljaa.piecesDivide
open Go
theorem wf_u8 {n : Int} (h : (Lit.int .u8 n).wf = true) : 0 ≤ n ∧ n ≤ 255 := by
  simpa [Lit.wf, IntKind.min, IntKind.max, IntKind.signed, IntKind.bits] using h
theorem wf_i8 {n : Int} (h : (Lit.int .i8 n).wf = true) : -128 ≤ n ∧ n ≤ 127 := by
  simpa [Lit.wf, IntKind.min, IntKind.max, IntKind.signed, IntKind.bits] using h
theorem wf_i64 {n : Int} (h : (Lit.int .i64 n).wf = true) : -9223372036854775808 ≤ n ∧ n ≤ 9223372036854775807 := by
  simpa [Lit.wf, IntKind.min, IntKind.max, IntKind.signed, IntKind.bits] using h
theorem w64_id {x : Int} (h1 : -9223372036854775808 ≤ x) (h2 : x < 9223372036854775808) : w64 x = x := wrap_id h1 h2

-- Pieces of a window follow one after the other, from its first sample to its last, and their lengths differ by at most one: PiecesDivide returns true for every pair of numbers.
theorem all_pieces : ∀ a : Fin 31, ∀ b : Fin 8, T_law18_PiecesDivide 60 (a.val : Int) (b.val : Int) = some true := by decide +kernel
theorem pure_piecesDivide (a0 : Int) (w0 : (Lit.int .u8 a0).wf = true) (a1 : Int) (w1 : (Lit.int .u8 a1).wf = true) : ∃ k, T_law18_PiecesDivide k a0 a1 = some true := by
  obtain ⟨h1, h2⟩ := wf_u8 w0
  obtain ⟨h3, h4⟩ := wf_u8 w1
  refine ⟨60, ?_⟩
  have e0 : (w64 a0).tmod 31 = (w64 ((a0 % 31).toNat : Int)).tmod 31 := by
    rw [w64_id (by omega) (by omega), w64_id (by omega) (by omega), Int.tmod_eq_emod_of_nonneg h1, Int.tmod_eq_emod_of_nonneg (by omega)]
    omega
  obtain ⟨q, hq⟩ : ∃ q : Int, q = imin 8 (w64 (2 + (w64 a0).tmod 31)) := ⟨_, rfl⟩
  have hq1 : 1 ≤ q ∧ q ≤ 8 := by
    rw [hq, w64_id (x := a0) (by omega) (by omega), Int.tmod_eq_emod_of_nonneg h1, w64_id (by omega) (by omega)]
    unfold imin
    split <;> omega
  have e1 : (w64 a1).tmod q = (w64 ((a1 % q).toNat : Int)).tmod q := by
    have hm := Int.emod_nonneg a1 (show q ≠ 0 by omega)
    have hm2 := Int.emod_lt_of_pos a1 (show 0 < q by omega)
    rw [w64_id (by omega) (by omega), w64_id (by omega) (by omega), Int.tmod_eq_emod_of_nonneg h3, Int.tmod_eq_emod_of_nonneg (by omega), Int.toNat_of_nonneg hm, Int.emod_emod_of_dvd _ (Int.dvd_refl q)]
  have hm := Int.emod_nonneg a1 (show q ≠ 0 by omega)
  have hm2 := Int.emod_lt_of_pos a1 (show 0 < q by omega)
  have key := all_pieces ⟨(a0 % 31).toNat, by omega⟩ ⟨(a1 % q).toNat, by omega⟩
  have step : T_law18_PiecesDivide 60 a0 a1 = T_law18_PiecesDivide 60 ((a0 % 31).toNat : Int) ((a1 % q).toNat : Int) := by
    simp only [T_law18_PiecesDivide]
    rw [← e0, ← hq, ← e1]
  rw [step]
  exact key

end Go.Proofs.Ytkiacebcedpljaa.piecesDivide
