/- Plain words: what makes a plane right. -/
set_option linter.unusedVariables false
set_option linter.unusedSimpArgs false
set_option linter.unusedSectionVars false
namespace Go.Proofs.Ytpmnfhifmmfglaa
def okS (x : Int) : Bool := decide (0 ≤ x) && decide (x ≤ 65535)
def sideOk (W H : Int) : Prop := 1 ≤ W ∧ W ≤ 64 ∧ 1 ≤ H ∧ H ≤ 64
instance (W H : Int) : Decidable (sideOk W H) := by unfold sideOk; infer_instance
def planeFine (W H : Int) (xs : List Int) : Bool := decide (sideOk W H) && decide ((xs.length : Int) = W * H) && xs.all okS
theorem okS_of {x : Int} (h : okS x = true) : 0 ≤ x ∧ x ≤ 65535 := by simpa [okS] using h
theorem planeFine_iff {W H : Int} {xs : List Int} : planeFine W H xs = true ↔ sideOk W H ∧ (xs.length : Int) = W * H ∧ xs.all okS = true := by
  simp [planeFine, and_assoc]
theorem mul_side {W H : Int} (h : sideOk W H) : 0 ≤ W * H ∧ W * H ≤ 4096 := by
  obtain ⟨h1, h2, h3, h4⟩ := h
  exact ⟨Int.mul_nonneg (by omega) (by omega), Int.mul_le_mul h2 h4 (by omega) (by omega)⟩
end Go.Proofs.Ytpmnfhifmmfglaa
