/- Plain words on the plain programs: numbers that fit, indexing, parts. -/
import Derived.Test.YtpmnfhifmmfglaaDD
set_option linter.unusedVariables false
set_option linter.unusedSimpArgs false
set_option linter.unusedSectionVars false
namespace Go.Proofs.Ytpmnfhifmmfglaa
open Go
theorem w64 {x : Int} (h : -9223372036854775808 ≤ x ∧ x ≤ 9223372036854775807) : IntKind.i64.wrap x = x := IntWalk.i64_in x h
theorem idx_nat {α : Type} (xs : List α) (k : Nat) : idx xs (k : Int) = xs[k]? := by simp [idx]
theorem idx_at {α : Type} {xs : List α} {i : Int} {k : Nat} {x : α} (hi : i = (k : Int)) (h : xs[k]? = some x) : idx xs i = some x := by subst hi; rw [idx_nat, h]
theorem sli_eq {α : Type} {xs : List α} {p q : Int} (h : 0 ≤ p ∧ p ≤ q ∧ q ≤ xs.length) : sli xs p q = some ((xs.take q.toNat).drop p.toNat) := by unfold sli; rw [if_pos h]
theorem app_eq {α : Type} {b : Nat} {xs ys : List α} (h : (xs.length + ys.length) * b ≤ 140737488355328) : app b xs ys = some (xs ++ ys) := by unfold app; rw [if_pos h]
theorem mk_eq {α : Type} {b : Nat} {n : Int} {z : α} (h : 0 ≤ n ∧ n * b ≤ 281474976710656) : mk b n z = some (List.replicate n.toNat z) := by unfold mk; rw [if_pos h]
theorem setL_eq {α : Type} {xs : List α} {i : Int} {x : α} (h : 0 ≤ i ∧ i < xs.length) : setL xs i x = some (xs.set i.toNat x) := by unfold setL; rw [if_pos h]
theorem nz_eq {n : Int} (h : n ≠ 0) : nz n = some () := by unfold nz; rw [if_neg h]
theorem bsome {α β : Type} (x : α) (f : α → Option β) : Option.bind (some x) f = f x := rfl
theorem cT {α : Type} {b : Bool} (h : b = true) (x y : α) : cond b x y = x := by rw [h]; rfl
theorem cF {α : Type} {b : Bool} (h : b = false) (x y : α) : cond b x y = y := by rw [h]; rfl
theorem dT {p : Prop} [Decidable p] (h : p) : decide p = true := decide_eq_true h
theorem dF {p : Prop} [Decidable p] (h : ¬ p) : decide p = false := decide_eq_false h
end Go.Proofs.Ytpmnfhifmmfglaa
