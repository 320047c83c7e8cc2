/- What sensor.Repair computes, in plain words. -/
import Derived.Test.YtpmnfhifmmfglaaDP
import Derived.Test.YtpmnfhifmmfglaaPure
set_option linter.unusedVariables false
set_option linter.unusedSimpArgs false
set_option linter.unusedSectionVars false
namespace Go.Proofs.Ytpmnfhifmmfglaa
open Go
/-- The four places that are asked of a spot at (x, y). -/
def nbX (x : Int) (k : Nat) : Int := [x - 2, x + 2, x, x].getD k 0
def nbY (y : Int) (k : Nat) : Int := [y, y, y - 2, y + 2].getD k 0
def nbOk (W H : Int) (f : Int → Int → Int) (x y : Int) (k : Nat) : Prop := 0 ≤ nbX x k ∧ nbX x k < W ∧ 0 ≤ nbY y k ∧ nbY y k < H ∧ f (nbX x k) (nbY y k) = 0
instance (W H : Int) (f : Int → Int → Int) (x y : Int) (k : Nat) : Decidable (nbOk W H f x y k) := by unfold nbOk; infer_instance
def nbVal (W : Int) (xs : List Int) (x y : Int) (k : Nat) : Int := xs.getD (nbY y k * W + nbX x k).toNat 0
def nbSum (W H : Int) (f : Int → Int → Int) (xs : List Int) (x y : Int) : Nat → Int
  | 0 => 0
  | k + 1 => nbSum W H f xs x y k + if nbOk W H f x y k then nbVal W xs x y k else 0
def nbCnt (W H : Int) (f : Int → Int → Int) (x y : Int) : Nat → Int
  | 0 => 0
  | k + 1 => nbCnt W H f x y k + if nbOk W H f x y k then 1 else 0
def repairV (W H : Int) (f : Int → Int → Int) (xs : List Int) (v x y : Int) : Int :=
  if f x y = 0 then v else if nbCnt W H f x y 4 = 0 then 0 else nbSum W H f xs x y 4 / nbCnt W H f x y 4

def spotOk (W H : Int) (s : Int × Int) : Bool := decide (0 ≤ s.1) && decide (s.1 < W) && decide (0 ≤ s.2) && decide (s.2 < H)
def cntF (l : List (Int × Int)) (x y : Int) : Int := (l.count (x, y) : Nat)
def repairL (W H : Int) (l : List (Int × Int)) (xs : List Int) (k : Nat) : Int := min (repairV W H (cntF l) xs (xs.getD k 0) ((k : Int) % W) ((k : Int) / W)) 65535

/-- The plain program of sensor.Repair: typed by hand (the function keeps a map). -/
def D_sensor_Repair (N : Nat) (W : Int) (H : Int) (P : List Int) (l : List (Int × Int)) : Option (Int × Int × List Int × Int) :=
  if 9223372036854775807 < P.length then none
  else if planeFine W H P = false then some (0, 0, [], 1)
  else if 64 < l.length then some (0, 0, [], 2)
  else if l.all (spotOk W H) = false then some (0, 0, [], 3)
  else some (W, H, (List.range P.length).map (repairL W H l P), 0)
end Go.Proofs.Ytpmnfhifmmfglaa
