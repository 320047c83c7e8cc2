/- Plain words for the places around one. -/
import Derived.Test.YtpmnfhifmmfglaaDP
set_option linter.unusedVariables false
set_option linter.unusedSimpArgs false
set_option linter.unusedSectionVars false
namespace Go.Proofs.Ytpmnfhifmmfglaa
open Go
def arU (W x y v : Int) : Nat → Int → List (Int × Int)
  | 0, _ => []
  | k + 1, u => if u ≤ x + 1 ∧ u < W then (if u ≠ x ∨ v ≠ y then (u, v) :: arU W x y v k (u + 1) else arU W x y v k (u + 1)) else []
def arV (W H x y : Int) : Nat → Int → List (Int × Int)
  | 0, _ => []
  | k + 1, v => if v ≤ y + 1 ∧ v < H then arU W x y v 4 (max (x - 1) 0) ++ arV W H x y k (v + 1) else []
def aroundL (W H x y : Int) : List (Int × Int) := arV W H x y 4 (max (y - 1) 0)
abbrev InP (W H : Int) := { q : Int × Int // 0 ≤ q.1 ∧ q.1 < W ∧ 0 ≤ q.2 ∧ q.2 < H }
def pixC (W H : Int) (P : List Int) (x y : Int) : Prop := 0 ≤ x ∧ x < W ∧ W ≤ 64 ∧ 0 ≤ y ∧ y < H ∧ H ≤ 64 ∧ (P.length : Int) = W * H
instance (W H : Int) (P : List Int) (x y : Int) : Decidable (pixC W H P x y) := by unfold pixC; infer_instance
theorem cond_some {p : Prop} [Decidable p] {α : Type} {x : Option α} {r : α} (h : cond (decide p) x none = some r) : p ∧ x = some r := by
  by_cases hp : p
  · rw [decide_eq_true hp] at h; exact ⟨hp, h⟩
  · rw [decide_eq_false hp] at h; cases h
end Go.Proofs.Ytpmnfhifmmfglaa
