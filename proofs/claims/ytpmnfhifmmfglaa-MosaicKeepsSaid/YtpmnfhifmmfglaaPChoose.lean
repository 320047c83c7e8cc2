/- Which of some things a raw number speaks of. -/
import Derived.Test.YtpmnfhifmmfglaaPBase
set_option linter.unusedVariables false
set_option linter.unusedSimpArgs false
set_option linter.unusedSectionVars false
namespace Go.Proofs.Ytpmnfhifmmfglaa
open Go

theorem choose_eq (N : Nat) (c : Int) (n : Nat) (hn : 1 ≤ n) (hc : -9223372036854775808 ≤ c ∧ c ≤ 9223372036854775807) : ∃ k : Nat, k < n ∧ D_darkslidelaw_choose N c (n : Int) = some (k : Int) := by
  have key : ∀ c : Int, 0 ≤ c → ∃ k : Nat, k < n ∧ Int.tmod c (n : Int) = (k : Int) := fun c h => by
    refine ⟨c.toNat % n, Nat.mod_lt _ (by omega), ?_⟩
    obtain ⟨m, rfl⟩ : ∃ m : Nat, c = m := ⟨c.toNat, by omega⟩
    rw [Int.toNat_natCast]; rfl
  unfold D_darkslidelaw_choose
  by_cases h : c < 0
  · rw [cT (dT h), w64 (x := c + 1) (by omega), w64 (by omega), bsome, nz_eq (by omega), bsome]
    obtain ⟨k, h1, h2⟩ := key (0 - (c + 1)) (by omega)
    exact ⟨k, h1, by rw [h2]⟩
  · rw [cF (dF h), nz_eq (by omega), bsome]
    obtain ⟨k, h1, h2⟩ := key c (by omega)
    exact ⟨k, h1, by rw [h2]⟩
end Go.Proofs.Ytpmnfhifmmfglaa
