/- Division as the document has it. -/
import Derived.Test.YtpmnfhifmmfglabPGen
set_option linter.unusedVariables false
set_option linter.unusedSimpArgs false
set_option linter.unusedSectionVars false
namespace Go.Proofs.Ytpmnfhifmmfglab
open Go

theorem down_eq (N : Nat) {n b : Int} (hb : 1 ≤ b ∧ b ≤ 1000000) (hn : -4611686018427387904 ≤ n ∧ n ≤ 4611686018427387904) : D_darkslideref_down N n b = some (n / b) := by
  have hd := Int.mul_ediv_add_emod n b
  have hr0 := Int.emod_nonneg n (show b ≠ 0 by omega)
  have hr1 := Int.emod_lt_of_pos n (show 0 < b by omega)
  obtain ⟨q, hq⟩ : ∃ q, n / b = q := ⟨_, rfl⟩
  obtain ⟨r, hr⟩ : ∃ r, n % b = r := ⟨_, rfl⟩
  rw [hq, hr] at hd
  rw [hr] at hr0 hr1
  have hqb : -4611686018427387905 ≤ q ∧ q ≤ 4611686018427387904 := by
    have h1 : q ≤ 4611686018427387904 := by
      rw [← hq]
      exact Int.le_trans (Int.ediv_le_ediv (by omega) hn.2) (Int.ediv_le_of_le_mul (by omega) (by omega))
    have h2 : -4611686018427387905 ≤ q := by
      rw [← hq]
      exact Int.le_ediv_of_mul_le (by omega) (by omega)
    exact ⟨h2, h1⟩
  unfold D_darkslideref_down
  rw [nz_eq (by omega), bsome, bsome, Int.tdiv_eq_ediv, hq]
  by_cases h : 0 ≤ n ∨ b ∣ n
  · rw [if_pos h, Int.add_zero, w64 (x := q) (by omega), Int.mul_comm q b, w64 (x := b * q) (by omega), cF (dF (by omega))]
  · rw [if_neg h, Int.sign_eq_one_of_pos (by omega), w64 (x := q + 1) (by omega), Int.mul_comm (q + 1) b, Int.mul_add, Int.mul_one, w64 (x := b * q + b) (by omega), cT (dT (by omega)), bsome, w64 (by omega), Int.add_sub_cancel]

end Go.Proofs.Ytpmnfhifmmfglab
