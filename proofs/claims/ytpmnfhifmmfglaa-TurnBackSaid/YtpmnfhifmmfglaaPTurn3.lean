/- The law TurnTurns holds of the plain programs. -/
import Derived.Test.YtpmnfhifmmfglaaPTurn2
set_option linter.unusedVariables false
set_option linter.unusedSimpArgs false
set_option linter.unusedSectionVars false
namespace Go.Proofs.Ytpmnfhifmmfglaa
open Go

def backT (o : Int) : Int := if o = 6 then 8 else if o = 8 then 6 else o
theorem back_eq {o : Int} (h : 1 ≤ o ∧ o ≤ 8) : D_turn_Back 5000 o = some (backT o, 0) := by
  rcases ways h with rfl | rfl | rfl | rfl | rfl | rfl | rfl | rfl <;> kernel_rfl
theorem back_no {N : Nat} {o : Int} (h : ¬ (1 ≤ o ∧ o ≤ 8)) : D_turn_Back N o = some (0, 3) := by
  unfold D_turn_Back
  by_cases h1 : o < 1
  · rw [cT (dT h1)]
  · rw [cF (dF h1), cT (dT (by omega))]
theorem both_no {N : Nat} {o p : Int} (h : ¬ ((1 ≤ o ∧ o ≤ 8) ∧ (1 ≤ p ∧ p ≤ 8))) : D_turn_Both N o p = some (0, 3) := by
  unfold D_turn_Both
  by_cases h1 : o < 1
  · rw [cT (dT h1)]
  rw [cF (dF h1)]
  by_cases h2 : 8 < o
  · rw [cT (dT h2)]
  rw [cF (dF h2)]
  by_cases h3 : p < 1
  · rw [cT (dT h3)]
  rw [cF (dF h3), cT (dT (by omega))]
/-- The way that stands for a move. -/
def wayOf (sw m fl : Bool) : Int := cond sw (cond m (cond fl 7 6) (cond fl 8 5)) (cond m (cond fl 3 2) (cond fl 4 1))
def bothT (o p : Int) : Int :=
  cond (swO p) (wayOf (!swO o) (flO o != miO p) (miO o != flO p)) (wayOf (swO o) (miO o != miO p) (flO o != flO p))
theorem both_eq {o p : Int} (h : 1 ≤ o ∧ o ≤ 8) (h' : 1 ≤ p ∧ p ≤ 8) : D_turn_Both 5000 o p = some (bothT o p, 0) := by
  rcases ways h with rfl | rfl | rfl | rfl | rfl | rfl | rfl | rfl <;> rcases ways h' with rfl | rfl | rfl | rfl | rfl | rfl | rfl | rfl <;> kernel_rfl
theorem one_eq {o p : Int} (h : 1 ≤ o ∧ o ≤ 8) (h' : 1 ≤ p ∧ p ≤ 8) : D_darkslideref_One 5000 o p = some (bothT o p) := by
  rcases ways h with rfl | rfl | rfl | rfl | rfl | rfl | rfl | rfl <;> rcases ways h' with rfl | rfl | rfl | rfl | rfl | rfl | rfl | rfl <;> kernel_rfl
theorem tt_l1 {o : Int} (h : 1 ≤ o ∧ o ≤ 8) (kk) : D_darkslidelaw_TurnTurns_l1 5000 o kk 5000 (0, 1) = kk (backT o, 9) := by
  rcases ways h with rfl | rfl | rfl | rfl | rfl | rfl | rfl | rfl <;> kernel_rfl
theorem tt_l2 {o : Int} (h : 1 ≤ o ∧ o ≤ 8) (kk) : D_darkslidelaw_TurnTurns_l2 5000 o kk 5000 (0, 1) = kk (backT o, 9) := by
  rcases ways h with rfl | rfl | rfl | rfl | rfl | rfl | rfl | rfl <;> kernel_rfl
theorem tt_l3 {o : Int} (h : 1 ≤ o ∧ o ≤ 8) (kk) : D_darkslidelaw_TurnTurns_l3 5000 o kk 5000 (0, 1) = kk (backT o, 9) := by
  rcases ways h with rfl | rfl | rfl | rfl | rfl | rfl | rfl | rfl <;> kernel_rfl
theorem turned_some (W H : Int) (P : List Px) (o : Int) (hp : picF W H P = true) : ∃ a b l, D_darkslideref_Turned 5000 W H P o = some (a, b, l) ∧ l.length = P.length ∧ P.length ≤ 4096 := by
  have hs := picF_side hp
  obtain ⟨W', rfl⟩ : ∃ n : Nat, W = n := ⟨W.toNat, by have := hs.1; omega⟩
  obtain ⟨H', rfl⟩ : ∃ n : Nat, H = n := ⟨H.toNat, by have := hs.2.2.1; omega⟩
  obtain ⟨h1, h2, h3, h4, h5, h6⟩ := side_nat W' H' P hs
  refine ⟨_, _, _, turned_eq 5000 W' H' P hs o (by omega), ?_, by omega⟩
  rw [mkL_len, h5]
  cases swO o <;> simp [Nat.mul_comm]
theorem turnTurns_true (W H : Int) (P : List Px) (o p : Int) : D_darkslidelaw_TurnTurns 5000 W H P o p = some true := by
  have h0 := same_eq 5000 0 0 [] (by simp) (by simp)
  have hT := turn_eq 5000 W H P o (by omega)
  have hF := pictureFine_eq 5000 W H P (by omega)
  have j1 : ∀ kk, D_darkslidelaw_TurnTurns_j1 5000 o kk = kk (decide (1 ≤ o ∧ o ≤ 8)) := fun kk => by
    unfold D_darkslidelaw_TurnTurns_j1
    by_cases h1 : 1 ≤ o
    · rw [cT (dT h1)]; simp [h1]
    · rw [cF (dF h1)]; simp [h1]
  unfold D_darkslidelaw_TurnTurns
  simp only [j1]
  unfold D_darkslidelaw_TurnTurns_j2 D_darkslidelaw_TurnTurns_j4 D_darkslidelaw_TurnTurns_j5 D_darkslidelaw_TurnTurns_j6 D_darkslidelaw_TurnTurns_j7 D_darkslidelaw_TurnTurns_j9 D_darkslidelaw_TurnTurns_j10 D_darkslidelaw_TurnTurns_j11 D_darkslidelaw_TurnTurns_j12 D_darkslidelaw_TurnTurns_j14 D_darkslidelaw_TurnTurns_j15 D_darkslidelaw_TurnTurns_j16
  by_cases ho : 1 ≤ o ∧ o ≤ 8
  · have ho' : decide (1 ≤ o ∧ o ≤ 8) = true := dT ho
    by_cases hq : 1 ≤ p ∧ p ≤ 8
    · cases hp : picF W H P
      · rw [hp, if_pos rfl] at hT
        rw [hp] at hF
        simp only [hT, hF, back_eq ho, both_eq ho hq, bsome, ho', hq.1, hq.2, decide_true, cond_true, cond_false, tt_l3 ho, one_eq ho hq, turnBegun_eq, h0]
      · obtain ⟨a, b, l, e, e1, e2⟩ := turned_some W H P o hp
        rw [hp, if_neg (by simp), if_pos ho, e, Option.map_some] at hT
        rw [hp] at hF
        simp only [hT, hF, e, back_eq ho, both_eq ho hq, bsome, ho', hq.1, hq.2, decide_true, cond_true, cond_false, tt_l1 ho, one_eq ho hq, turnBegun_eq, same_any 5000 _ _ _ l e1 e2 (by omega)]
    · have hb := both_no (N := 5000) (o := o) (p := p) (fun h => hq h.2)
      cases hp : picF W H P
      · rw [hp, if_pos rfl] at hT
        rw [hp] at hF
        simp only [hT, hF, back_eq ho, hb, bsome, ho', decide_true, cond_true, cond_false, tt_l3 ho, turnBegun_eq, h0]
        by_cases h1 : 1 ≤ p
        · have h2 : ¬ p ≤ 8 := by omega
          simp [h1, h2]
        · simp [h1]
      · obtain ⟨a, b, l, e, e1, e2⟩ := turned_some W H P o hp
        rw [hp, if_neg (by simp), if_pos ho, e, Option.map_some] at hT
        rw [hp] at hF
        simp only [hT, hF, e, back_eq ho, hb, bsome, ho', decide_true, cond_true, cond_false, tt_l1 ho, turnBegun_eq, same_any 5000 _ _ _ l e1 e2 (by omega)]
        by_cases h1 : 1 ≤ p
        · have h2 : ¬ p ≤ 8 := by omega
          simp [h1, h2]
        · simp [h1]
  · have ho' : decide (1 ≤ o ∧ o ≤ 8) = false := dF ho
    have hb := both_no (N := 5000) (o := o) (p := p) (fun h => ho h.1)
    have hk := back_no (N := 5000) ho
    cases hp : picF W H P
    · rw [hp, if_pos rfl] at hT
      rw [hp] at hF
      simp only [hT, hF, hk, hb, bsome, ho', cond_true, cond_false, turnBegun_eq, h0, decide_true]
    · rw [hp, if_neg (by simp), if_neg ho] at hT
      rw [hp] at hF
      simp only [hT, hF, hk, hb, bsome, ho', cond_true, cond_false, turnBegun_eq, h0, decide_true]
end Go.Proofs.Ytpmnfhifmmfglaa
