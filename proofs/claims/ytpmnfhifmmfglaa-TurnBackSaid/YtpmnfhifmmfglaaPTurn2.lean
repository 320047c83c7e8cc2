/- Turns: what Turn, Back and Both give is what the document says. -/
import Derived.Test.YtpmnfhifmmfglaaPTurn
set_option linter.unusedVariables false
set_option linter.unusedSimpArgs false
set_option linter.unusedSectionVars false
namespace Go.Proofs.Ytpmnfhifmmfglaa
open Go

section
variable (N : Nat) {W H : Nat} (f : Nat → Nat → Px) (h : 1 ≤ W ∧ W ≤ 64 ∧ 1 ≤ H ∧ H ≤ 64) (hN : 5000 ≤ N)
include h hN
theorem swapped_mk : D_turn_swapped N W H (mkL W H f) = some ((H : Int), (W : Int), mkL H W fun x y => f y x) := by
  rw [swapped_eq N W H _ (mkL_side h f) hN]
  refine congrArg (fun l => some ((H : Int), (W : Int), l)) (mkL_ext fun x y hx hy => ?_)
  exact pxOf_mkL f hy hx
theorem mirror_mk : D_turn_changed__turn_Turn_1 N W H (mkL W H f) W H (mkL W H f) = some ((W : Int), (H : Int), mkL W H fun x y => f (W - 1 - x) y) := by
  rw [mirror_eq N W H _ (mkL_side h f) hN]
  refine congrArg (fun l => some ((W : Int), (H : Int), l)) (mkL_ext fun x y hx hy => ?_)
  exact pxOf_mkL f (by omega) hy
theorem flip_mk : D_turn_changed__turn_Turn_2 N W H (mkL W H f) W H (mkL W H f) = some ((W : Int), (H : Int), mkL W H fun x y => f x (H - 1 - y)) := by
  rw [flip_eq N W H _ (mkL_side h f) hN]
  refine congrArg (fun l => some ((W : Int), (H : Int), l)) (mkL_ext fun x y hx hy => ?_)
  exact pxOf_mkL f hx (by omega)
theorem copy_mk : D_turn_changed__turn_Turn_3 N W H (mkL W H f) W H (mkL W H f) = some ((W : Int), (H : Int), mkL W H f) := copy_eq N W H _ (mkL_side h f) hN
end
/-- What Turn does by the three parts of a move. -/
def turnC (sw m fl : Bool) (N : Nat) (W H : Int) (P : List Px) : Option (Int × Int × List Px × Int) :=
  Option.bind (cond sw (D_turn_swapped N W H P) (some (W, H, P))) fun r4 =>
  Option.bind (cond m (D_turn_changed__turn_Turn_1 N r4.1 r4.2.1 r4.2.2 r4.1 r4.2.1 r4.2.2) (some r4)) fun r5 =>
  Option.bind (cond fl (D_turn_changed__turn_Turn_2 N r5.1 r5.2.1 r5.2.2 r5.1 r5.2.1 r5.2.2) (some r5)) fun r6 =>
  Option.bind (D_turn_changed__turn_Turn_3 N r6.1 r6.2.1 r6.2.2 r6.1 r6.2.1 r6.2.2) fun r7 => some (r7.1, r7.2.1, r7.2.2, 0)
def swO (o : Int) : Bool := decide (5 ≤ o)
def miO (o : Int) : Bool := decide (o = 2 ∨ o = 3 ∨ o = 6 ∨ o = 7)
def flO (o : Int) : Bool := decide (o = 3 ∨ o = 4 ∨ o = 7 ∨ o = 8)
theorem ways {o : Int} (h : 1 ≤ o ∧ o ≤ 8) : o = 1 ∨ o = 2 ∨ o = 3 ∨ o = 4 ∨ o = 5 ∨ o = 6 ∨ o = 7 ∨ o = 8 := by omega
theorem turn_by (N : Nat) (W H : Int) (P : List Px) (o : Int) (h : 1 ≤ o ∧ o ≤ 8) : D_turn_Turn N W H P o = Option.bind (D_mosaic_Take N W H P 0) fun r2 => cond (!decide (r2.2.2.2 = 0)) (some (0, 0, [], r2.2.2.2)) (turnC (swO o) (miO o) (flO o) N W H P) := by
  rcases ways h with rfl | rfl | rfl | rfl | rfl | rfl | rfl | rfl <;> rfl
/-- The pixel that comes to a place. -/
def tPx (sw m fl : Bool) (W H : Nat) (P : List Px) (x y : Nat) : Px :=
  let W' := cond sw H W
  let H' := cond sw W H
  let x' := cond m (W' - 1 - x) x
  let y' := cond fl (H' - 1 - y) y
  cond sw (pxOf P W y' x') (pxOf P W x' y')
theorem turnC_eq (sw m fl : Bool) (N W H : Nat) (P : List Px) (hs : sideOK W H P.length) (hN : 5000 ≤ N) : turnC sw m fl N W H P = some (((cond sw H W : Nat) : Int), ((cond sw W H : Nat) : Int), mkL (cond sw H W) (cond sw W H) (tPx sw m fl W H P), 0) := by
  obtain ⟨h1, h2, h3, h4, h5, h6⟩ := side_nat W H P hs
  have hP := mkL_self h5
  have hw : 1 ≤ W ∧ W ≤ 64 ∧ 1 ≤ H ∧ H ≤ 64 := by omega
  have hw' : 1 ≤ H ∧ H ≤ 64 ∧ 1 ≤ W ∧ W ≤ 64 := by omega
  unfold turnC
  conv => lhs; rw [← hP]
  cases sw <;> cases m <;> cases fl <;>
    simp only [cond_true, cond_false, bsome, swapped_mk N _ hw hN, mirror_mk N _ hw hN, mirror_mk N _ hw' hN, flip_mk N _ hw hN, flip_mk N _ hw' hN, copy_mk N _ hw hN, copy_mk N _ hw' hN] <;> rfl
/-- The document's way. -/
def uO (o : Int) : Bool := decide (o = 2 ∨ o = 3 ∨ o = 7 ∨ o = 8)
def vO (o : Int) : Bool := decide (o = 3 ∨ o = 4 ∨ o = 6 ∨ o = 7)
def rPx (o : Int) (W H : Nat) (P : List Px) (x y : Nat) : Px :=
  let u := cond (swO o) y x
  let v := cond (swO o) x y
  pxOf P W (cond (uO o) (W - 1 - u) u) (cond (vO o) (H - 1 - v) v)
theorem rPx_eq (o : Int) (h : 1 ≤ o ∧ o ≤ 8) (W H : Nat) (P : List Px) (x y : Nat) : rPx o W H P x y = tPx (swO o) (miO o) (flO o) W H P x y := by
  rcases ways h with rfl | rfl | rfl | rfl | rfl | rfl | rfl | rfl <;> rfl
theorem j3_eq (N : Nat) (o : Int) (kk) : D_darkslideref_Turned_j3 N o kk = kk (uO o) := by
  unfold D_darkslideref_Turned_j3 uO
  by_cases h1 : o = 2
  · rw [cT (dT h1), dT (by omega)]
  rw [cF (dF h1)]
  by_cases h2 : o = 3
  · rw [cT (dT h2), dT (by omega)]
  rw [cF (dF h2)]
  by_cases h3 : o = 7
  · rw [cT (dT h3), dT (by omega)]
  rw [cF (dF h3)]
  by_cases h4 : o = 8
  · rw [dT h4, dT (by omega)]
  rw [dF h4, dF (by omega)]
theorem j5_eq (N : Nat) (o : Int) (kk) : D_darkslideref_Turned_j5 N o kk = kk (vO o) := by
  unfold D_darkslideref_Turned_j5 vO
  by_cases h1 : o = 3
  · rw [cT (dT h1), dT (by omega)]
  rw [cF (dF h1)]
  by_cases h2 : o = 4
  · rw [cT (dT h2), dT (by omega)]
  rw [cF (dF h2)]
  by_cases h3 : o = 6
  · rw [cT (dT h3), dT (by omega)]
  rw [cF (dF h3)]
  by_cases h4 : o = 7
  · rw [dT h4, dT (by omega)]
  rw [dF h4, dF (by omega)]
theorem j2_eq (N : Nat) (o i j : Int) (kk) : D_darkslideref_Turned_j2 N o i j kk = kk (cond (swO o) i j, cond (swO o) j i) := by
  unfold D_darkslideref_Turned_j2 swO
  cases decide (5 ≤ o) <;> rfl
theorem j4_eq (N : Nat) (W u : Nat) (b : Bool) (kk) (hW : W ≤ 64) (hu : u < W) : D_darkslideref_Turned_j4 N W u b kk = kk ((cond b (W - 1 - u) u : Nat) : Int) := by
  unfold D_darkslideref_Turned_j4
  cases b
  · rfl
  · rw [cond_true, cond_true, bsome, w64 (x := (W : Int) - 1) (by omega), w64 (by omega), show (W : Int) - 1 - u = ((W - 1 - u : Nat) : Int) by omega]
theorem j6_eq (N : Nat) (W u : Nat) (b : Bool) (kk) (hW : W ≤ 64) (hu : u < W) : D_darkslideref_Turned_j6 N W u b kk = kk ((cond b (W - 1 - u) u : Nat) : Int) := by
  unfold D_darkslideref_Turned_j6
  cases b
  · rfl
  · rw [cond_true, cond_true, bsome, w64 (x := (W : Int) - 1) (by omega), w64 (by omega), show (W : Int) - 1 - u = ((W - 1 - u : Nat) : Int) by omega]
section
variable (N : Nat) (W H : Nat) (P : List Px) (hs : sideOK W H P.length) (o : Int)
include hs
theorem turned_l2 (kk) (y : Nat) (hy : y < cond (swO o) W H) : ∀ (d x fuel : Nat), x + d = cond (swO o) H W → d < fuel →
    D_darkslideref_Turned_l2 N W H P o ((cond (swO o) H W : Nat) : Int) y kk fuel (pre (cond (swO o) H W) (rPx o W H P) (y * (cond (swO o) H W) + x), (x : Int)) = kk (pre (cond (swO o) H W) (rPx o W H P) ((y + 1) * (cond (swO o) H W) + 0), ((cond (swO o) H W : Nat) : Int)) := by
  obtain ⟨h1, h2, h3, h4, h5, h6⟩ := side_nat W H P hs
  intro d
  induction d with
  | zero =>
    intro x fuel hk hf
    obtain ⟨fuel, rfl⟩ : ∃ m, fuel = m + 1 := ⟨fuel - 1, by omega⟩
    obtain rfl : x = cond (swO o) H W := by omega
    unfold D_darkslideref_Turned_l2
    rw [cF (dF (by omega)), pre_row]
  | succ d ih =>
    intro x fuel hk hf
    obtain ⟨fuel, rfl⟩ : ∃ m, fuel = m + 1 := ⟨fuel - 1, by omega⟩
    have hx : x < cond (swO o) H W := by omega
    have hu : cond (swO o) y x < W := by revert hx hy; cases swO o <;> simp <;> omega
    have hv : cond (swO o) x y < H := by revert hx hy; cases swO o <;> simp <;> omega
    have cu : (cond (swO o) (y : Int) (x : Int)) = ((cond (swO o) y x : Nat) : Int) := by cases swO o <;> rfl
    have cv : (cond (swO o) (x : Int) (y : Int)) = ((cond (swO o) x y : Nat) : Int) := by cases swO o <;> rfl
    have hWH : cond (swO o) H W ≤ 64 ∧ y < 64 := by revert hy; cases swO o <;> simp <;> omega
    have hmul : (y + 1) * cond (swO o) H W ≤ 4096 := by
      have := Nat.mul_le_mul (show y + 1 ≤ 64 by omega) hWH.1
      omega
    rw [Nat.add_mul, Nat.one_mul] at hmul
    unfold D_darkslideref_Turned_l2
    rw [cT (dT (by omega)), j2_eq]
    simp only [cu, cv, j3_eq, j5_eq, j4_eq N W _ _ _ (show W ≤ 64 by omega) hu, j6_eq N H _ _ _ (show H ≤ 64 by omega) hv]
    obtain ⟨u', hu'⟩ : ∃ u', cond (uO o) (W - 1 - cond (swO o) y x) (cond (swO o) y x) = u' := ⟨_, rfl⟩
    obtain ⟨v', hv'⟩ : ∃ v', cond (vO o) (H - 1 - cond (swO o) x y) (cond (swO o) x y) = v' := ⟨_, rfl⟩
    have lu : u' < W := by subst hu'; cases uO o <;> simp <;> omega
    have lv : v' < H := by subst hv'; cases vO o <;> simp <;> omega
    have hpl := place_lt lu lv
    have hr : rPx o W H P x y = P.getD (v' * W + u') px0 := by subst hu' hv'; rfl
    rw [hu', hv', w64 (x := (v' : Int) * W) (by rw [← Int.natCast_mul]; omega), ← Int.natCast_mul, ← Int.natCast_add, w64 (by omega), idx_nat, List.getElem?_eq_getElem (by omega), bsome]
    have he : P[v' * W + u']'(by omega) = rPx o W H P x y := by rw [hr, List.getD_eq_getElem?_getD, List.getElem?_eq_getElem (by omega)]; rfl
    rw [he, app_eq (by rw [pre_len]; simp; omega), bsome, bsome, w64 (by omega), ← pre_succ (rPx o W H P) y hx]
    exact ih (x + 1) fuel (by omega) (by omega)
theorem turned_l1 (kk) (hN : 5000 ≤ N) : ∀ (d y fuel : Nat), y + d = cond (swO o) W H → d < fuel →
    D_darkslideref_Turned_l1 N W H P o ((cond (swO o) H W : Nat) : Int) ((cond (swO o) W H : Nat) : Int) kk fuel (pre (cond (swO o) H W) (rPx o W H P) (y * (cond (swO o) H W) + 0), (y : Int)) = kk (pre (cond (swO o) H W) (rPx o W H P) ((cond (swO o) W H) * (cond (swO o) H W) + 0), ((cond (swO o) W H : Nat) : Int)) := by
  obtain ⟨h1, h2, h3, h4, h5, h6⟩ := side_nat W H P hs
  have b1 : cond (swO o) H W ≤ 64 := by cases swO o <;> simp <;> omega
  have b2 : cond (swO o) W H ≤ 64 := by cases swO o <;> simp <;> omega
  intro d
  induction d with
  | zero =>
    intro y fuel hk hf
    obtain ⟨fuel, rfl⟩ : ∃ m, fuel = m + 1 := ⟨fuel - 1, by omega⟩
    obtain rfl : y = cond (swO o) W H := by omega
    unfold D_darkslideref_Turned_l1
    rw [cF (dF (by omega))]
  | succ d ih =>
    intro y fuel hk hf
    obtain ⟨fuel, rfl⟩ : ∃ m, fuel = m + 1 := ⟨fuel - 1, by omega⟩
    unfold D_darkslideref_Turned_l1
    rw [cT (dT (by omega))]
    have := turned_l2 N W H P hs o (fun x : List Px × Int => D_darkslideref_Turned_l1 N W H P o ((cond (swO o) H W : Nat) : Int) ((cond (swO o) W H : Nat) : Int) kk fuel (x.1, IntKind.i64.wrap ((y : Int) + 1))) y (by omega) (cond (swO o) H W) 0 N (by omega) (by omega)
    refine this.trans ?_
    rw [w64 (by omega)]
    exact ih (y + 1) fuel (by omega) (by omega)
theorem turned_eq (hN : 5000 ≤ N) : D_darkslideref_Turned N W H P o = some (((cond (swO o) H W : Nat) : Int), ((cond (swO o) W H : Nat) : Int), mkL (cond (swO o) H W) (cond (swO o) W H) (rPx o W H P)) := by
  unfold D_darkslideref_Turned
  have hj : ∀ kk, D_darkslideref_Turned_j1 N (W : Int) (H : Int) o kk = kk (((cond (swO o) H W : Nat) : Int), ((cond (swO o) W H : Nat) : Int)) := fun kk => by
    unfold D_darkslideref_Turned_j1 swO
    cases decide (5 ≤ o) <;> rfl
  rw [hj]
  have := turned_l1 N W H P hs o (fun x : List Px × Int => some (((cond (swO o) H W : Nat) : Int), ((cond (swO o) W H : Nat) : Int), x.1)) hN (cond (swO o) W H) 0 N (by omega) (by cases swO o <;> simp <;> obtain ⟨h1, h2, h3, h4, h5, h6⟩ := side_nat W H P hs <;> omega)
  simp only [Nat.zero_mul, Nat.add_zero, pre, List.range_zero, List.map_nil] at this
  refine this.trans ?_
  rw [mkL, Nat.mul_comm]
end
/-- What Turn gives. -/
theorem turn_eq (N : Nat) (W H : Int) (P : List Px) (o : Int) (hN : 5000 ≤ N) :
    D_turn_Turn N W H P o = if picF W H P = false then some (0, 0, [], 1) else if 1 ≤ o ∧ o ≤ 8 then (D_darkslideref_Turned N W H P o).map fun r => (r.1, r.2.1, r.2.2, 0) else some (0, 0, [], 3) := by
  obtain ⟨a, b, l, ht⟩ := take_code N W H P hN
  cases hp : picF W H P
  · rw [if_pos rfl]
    unfold D_turn_Turn
    rw [ht, hp]
    rfl
  · rw [if_neg (by simp)]
    rw [hp, if_pos rfl] at ht
    by_cases ho : 1 ≤ o ∧ o ≤ 8
    · rw [if_pos ho, turn_by N W H P o ho, ht]
      have hs := picF_side hp
      obtain ⟨W', rfl⟩ : ∃ n : Nat, W = n := ⟨W.toNat, by have := hs.1; omega⟩
      obtain ⟨H', rfl⟩ : ∃ n : Nat, H = n := ⟨H.toNat, by have := hs.2.2.1; omega⟩
      rw [turned_eq N W' H' P hs o hN]
      refine (turnC_eq _ _ _ N W' H' P hs hN).trans ?_
      rw [Option.map_some]
      refine congrArg (fun l => some (_, _, l, _)) (mkL_ext fun x y _ _ => ?_)
      exact (rPx_eq o ho W' H' P x y).symm
    · rw [if_neg ho]
      unfold D_turn_Turn
      rw [ht, bsome, cF (by rfl)]
      by_cases h1 : o < 1
      · rw [cT (dT h1)]
      · rw [cF (dF h1), cT (dT (by omega))]
end Go.Proofs.Ytpmnfhifmmfglaa
