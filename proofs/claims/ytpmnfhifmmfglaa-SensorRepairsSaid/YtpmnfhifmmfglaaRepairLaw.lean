/- Plain law of repairing: the document's twenty-five places and the code's four come to the same. -/
import Derived.Test.YtpmnfhifmmfglaaRepair
namespace Go.Proofs.Ytpmnfhifmmfglaa
open Go.RowKit

def cB (i j : Nat) : Bool := (j == 2 && (i == 0 || i == 4)) || (i == 2 && (j == 0 || j == 4))
def twoP (x y u v : Int) : Prop := (u = x ∧ (v = y - 2 ∨ v = y + 2)) ∨ (v = y ∧ (u = x - 2 ∨ u = x + 2))
instance (x y u v : Int) : Decidable (twoP x y u v) := by unfold twoP; infer_instance
theorem cB_two (x y u v : Int) (i j : Nat) (hi : i < 5) (hj : j < 5) (hu : u = x - 2 + j) (hv : v = y - 2 + i) : cB i j = decide (twoP x y u v) := by
  subst hu hv
  have e1 : cB i j = true ↔ twoP x y (x - 2 + j) (y - 2 + i) := by
    simp only [cB, Bool.or_eq_true, Bool.and_eq_true, beq_iff_eq, twoP]
    omega
  rw [Bool.eq_iff_iff, e1, decide_eq_true_iff]

section
variable (W H : Int) (l : List (Int × Int)) (xs : List Int) (x y : Int)
def inP (u v : Int) : Prop := 0 ≤ u ∧ u < W ∧ 0 ≤ v ∧ v < H ∧ cntF l u v = 0
instance (u v : Int) : Decidable (inP W H l u v) := by unfold inP; infer_instance
def nbv (u v : Int) : Int := if inP W H l u v then xs.getD (v * W + u).toNat 0 else 0
def nbc (u v : Int) : Int := if inP W H l u v then 1 else 0
def rS (i : Nat) : Nat → Int
  | 0 => 0
  | j + 1 => rS i j + bif cB i j then nbv W H l xs (x - 2 + j) (y - 2 + i) else 0
def rC (i : Nat) : Nat → Int
  | 0 => 0
  | j + 1 => rC i j + bif cB i j then nbc W H l (x - 2 + j) (y - 2 + i) else 0
def tS : Nat → Int
  | 0 => 0
  | i + 1 => tS i + rS W H l xs x y i 5
def tC : Nat → Int
  | 0 => 0
  | i + 1 => tC i + rC W H l x y i 5

theorem nbv_bd (hxs : ∀ (k : Nat) (v : Int), xs[k]? = some v → 0 ≤ v ∧ v ≤ 65535) (u v : Int) : 0 ≤ nbv W H l xs u v ∧ nbv W H l xs u v ≤ 65535 * nbc W H l u v := by
  unfold nbv nbc
  split
  · rw [List.getD_eq_getElem?_getD]
    cases h : xs[(v * W + u).toNat]? with
    | none => simp
    | some z => simpa using hxs _ z h
  · simp
theorem nbc_bd (u v : Int) : 0 ≤ nbc W H l u v ∧ nbc W H l u v ≤ 1 := by unfold nbc; split <;> simp

theorem rC_bd (i : Nat) : ∀ j : Nat, 0 ≤ rC W H l x y i j ∧ rC W H l x y i j ≤ j
  | 0 => by simp [rC]
  | j + 1 => by
    have h1 := rC_bd i j
    have h2 := nbc_bd W H l (x - 2 + j) (y - 2 + i)
    simp only [rC]
    cases cB i j <;> simp only [cond_true, cond_false] <;> omega
theorem rS_bd (hxs : ∀ (k : Nat) (v : Int), xs[k]? = some v → 0 ≤ v ∧ v ≤ 65535) (i : Nat) : ∀ j : Nat, 0 ≤ rS W H l xs x y i j ∧ rS W H l xs x y i j ≤ 65535 * rC W H l x y i j
  | 0 => by simp [rS, rC]
  | j + 1 => by
    have h1 := rS_bd hxs i j
    have h2 := nbv_bd W H l xs hxs (x - 2 + j) (y - 2 + i)
    simp only [rS, rC]
    cases cB i j <;> simp only [cond_true, cond_false] <;> omega
theorem tC_bd : ∀ i : Nat, 0 ≤ tC W H l x y i ∧ tC W H l x y i ≤ 5 * i
  | 0 => by simp [tC]
  | i + 1 => by
    have h1 := tC_bd i
    have h2 := rC_bd W H l x y i 5
    simp only [tC]
    omega
theorem tS_bd (hxs : ∀ (k : Nat) (v : Int), xs[k]? = some v → 0 ≤ v ∧ v ≤ 65535) : ∀ i : Nat, 0 ≤ tS W H l xs x y i ∧ tS W H l xs x y i ≤ 65535 * tC W H l x y i
  | 0 => by simp [tS, tC]
  | i + 1 => by
    have h1 := tS_bd hxs i
    have h2 := rS_bd W H l xs x y hxs i 5
    simp only [tS, tC]
    omega

theorem tS_four : tS W H l xs x y 5 = nbv W H l xs x (y - 2) + nbv W H l xs (x - 2) y + nbv W H l xs (x + 2) y + nbv W H l xs x (y + 2) := by
  simp only [tS, rS]
  simp [cB]
  rw [show x - 2 + 4 = x + 2 by omega, show y - 2 + 4 = y + 2 by omega]
  omega
theorem tC_four : tC W H l x y 5 = nbc W H l x (y - 2) + nbc W H l (x - 2) y + nbc W H l (x + 2) y + nbc W H l x (y + 2) := by
  simp only [tC, rC]
  simp [cB]
  rw [show x - 2 + 4 = x + 2 by omega, show y - 2 + 4 = y + 2 by omega]
  omega
theorem nbSum_four : nbSum W H (cntF l) xs x y 4 = tS W H l xs x y 5 := by
  rw [tS_four]
  have e : nbSum W H (cntF l) xs x y 4 = 0 + nbv W H l xs (x - 2) y + nbv W H l xs (x + 2) y + nbv W H l xs x (y - 2) + nbv W H l xs x (y + 2) := rfl
  rw [e]; omega
theorem nbCnt_four : nbCnt W H (cntF l) x y 4 = tC W H l x y 5 := by
  rw [tC_four]
  have e : nbCnt W H (cntF l) x y 4 = 0 + nbc W H l (x - 2) y + nbc W H l (x + 2) y + nbc W H l x (y - 2) + nbc W H l x (y + 2) := rfl
  rw [e]; omega

/-- At a spot: the sum over the count, or over one. -/
theorem repair_law (hxs : ∀ (k : Nat) (v : Int), xs[k]? = some v → 0 ≤ v ∧ v ≤ 65535) (v : Int) (h : cntF l x y ≠ 0) :
    min (repairV W H (cntF l) xs v x y) 65535 = tS W H l xs x y 5 / max (tC W H l x y 5) 1 := by
  rw [repairV, if_neg h, nbSum_four, nbCnt_four]
  have h1 := tC_bd W H l x y 5
  have h2 := tS_bd W H l xs x y hxs 5
  generalize tS W H l xs x y 5 = s at *
  generalize tC W H l x y 5 = c at *
  split
  · rename_i hc
    subst hc
    have : s = 0 := by omega
    subst this
    rfl
  · rw [show max c 1 = c by omega]
    have : s / c ≤ 65535 := by
      have := Int.ediv_le_ediv (c := c) (by omega) h2.2
      rwa [Int.mul_ediv_cancel _ (by omega)] at this
    omega
end
end Go.Proofs.Ytpmnfhifmmfglaa
