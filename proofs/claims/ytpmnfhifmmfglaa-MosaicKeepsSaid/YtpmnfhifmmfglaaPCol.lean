/- Colours of places; right planes; two planes that are the same. -/
import Derived.Test.YtpmnfhifmmfglaaPTake
set_option linter.unusedVariables false
set_option linter.unusedSimpArgs false
set_option linter.unusedSectionVars false
namespace Go.Proofs.Ytpmnfhifmmfglaa
open Go

def colI (phase u v : Int) : Int := (u % 2 + phase) % 2 + (v % 2 + phase / 2) % 2
theorem and_fin : ∀ n : Fin 64, andI .i64 ((n.val : Nat) : Int) 1 = ((n.val : Nat) : Int) % 2 := by decide +kernel
theorem andI_one {u : Int} (h : 0 ≤ u ∧ u < 64) : andI .i64 u 1 = u % 2 := by
  have := and_fin ⟨u.toNat, by omega⟩
  have e : ((u.toNat : Nat) : Int) = u := by omega
  simp only [e] at this
  exact this
theorem col_fin : ∀ (p : Fin 4) (a b : Fin 2), IntKind.i64.wrap (andI .i64 (IntKind.i64.wrap (((a.val : Nat) : Int) + ((p.val : Nat) : Int))) 1 + andI .i64 (IntKind.i64.wrap (((b.val : Nat) : Int) + shrI .i64 ((p.val : Nat) : Int) 1)) 1) = (((a.val : Nat) : Int) + ((p.val : Nat) : Int)) % 2 + (((b.val : Nat) : Int) + ((p.val : Nat) : Int) / 2) % 2 := by decide +kernel
theorem colI_in (phase u v : Int) : 0 ≤ colI phase u v ∧ colI phase u v ≤ 2 := by unfold colI; omega
theorem colour_eq (N : Nat) {phase u v : Int} (hp : 0 ≤ phase ∧ phase ≤ 3) (hu : 0 ≤ u ∧ u < 64) (hv : 0 ≤ v ∧ v < 64) : D_sensor_Colour N phase u v = some (colI phase u v, 0) := by
  unfold D_sensor_Colour
  rw [cF (dF (by omega)), cF (dF (by omega)), cF (dF (by omega)), cF (dF (by omega)), andI_one hu, andI_one hv]
  unfold D_sensor_colour
  rw [bsome]
  have := col_fin ⟨phase.toNat, by omega⟩ ⟨(u % 2).toNat, by omega⟩ ⟨(v % 2).toNat, by omega⟩
  have e1 : ((phase.toNat : Nat) : Int) = phase := by omega
  have e2 : (((u % 2).toNat : Nat) : Int) = u % 2 := by omega
  have e3 : (((v % 2).toNat : Nat) : Int) = v % 2 := by omega
  simp only [e1, e2, e3] at this
  rw [this]; rfl
theorem colourAt_eq (N : Nat) {phase u v : Int} (hp : 0 ≤ phase ∧ phase ≤ 3) (hu : 0 ≤ u ∧ u < 64) (hv : 0 ≤ v ∧ v < 64) : D_darkslideref_ColourAt N phase u v = some (colI phase u v) := by
  have t1 : Int.tmod phase 2 = phase % 2 := Int.tmod_eq_emod_of_nonneg hp.1
  have t2 : Int.tdiv phase 2 = phase / 2 := Int.tdiv_eq_ediv_of_nonneg hp.1
  have t3 : Int.tmod (u + phase % 2) 2 = (u + phase % 2) % 2 := Int.tmod_eq_emod_of_nonneg (by omega)
  have t4 : Int.tmod (v + phase / 2) 2 = (v + phase / 2) % 2 := Int.tmod_eq_emod_of_nonneg (by omega)
  unfold D_darkslideref_ColourAt
  rw [t1, t2, w64 (x := phase / 2) (by omega), w64 (x := u + phase % 2) (by omega), w64 (x := v + phase / 2) (by omega), t3, t4, bsome, bsome]
  by_cases a : (u + phase % 2) % 2 = 0
  · by_cases b : (v + phase / 2) % 2 = 0
    · rw [cT (dT a), cT (dT b)]; congr 1; unfold colI; omega
    · rw [cT (dT a), cF (dF b), cF (dF (by omega))]; congr 1; unfold colI; omega
  · by_cases b : (v + phase / 2) % 2 = 1
    · rw [cF (dF a), cT (dT (by omega)), cT (dT b)]; congr 1; unfold colI; omega
    · rw [cF (dF a), cT (dT (by omega)), cF (dF b)]; congr 1; unfold colI; omega
theorem plf_l1 (N : Nat) (P : List Int) (kk : Int → Option Bool) (hP : P.length ≤ 4096) : ∀ (d k fuel : Nat), k + d = P.length → d < fuel → D_darkslideref_PlaneFine_l1 N P kk fuel (k : Int) = if (P.drop k).all okS then kk P.length else some false := by
  intro d
  induction d with
  | zero =>
    intro k fuel hk hf
    obtain ⟨fuel, rfl⟩ : ∃ m, fuel = m + 1 := ⟨fuel - 1, by omega⟩
    obtain rfl : k = P.length := by omega
    unfold D_darkslideref_PlaneFine_l1
    rw [cF (dF (by omega))]
    simp
  | succ d ih =>
    intro k fuel hk hf
    obtain ⟨fuel, rfl⟩ : ∃ m, fuel = m + 1 := ⟨fuel - 1, by omega⟩
    have hlt : k < P.length := by omega
    unfold D_darkslideref_PlaneFine_l1
    rw [cT (dT (by omega)), idx_nat, List.getElem?_eq_getElem hlt, bsome, within_eq, bsome, List.drop_eq_getElem_cons hlt, List.all_cons]
    have hih := ih (k + 1) fuel (by omega) (by omega)
    by_cases h1 : 0 ≤ P[k] ∧ P[k] ≤ 65535
    · rw [cF (by simp [h1]), bsome, w64 (by omega)]
      have : okS P[k] = true := by simp [okS, h1]
      rw [this, Bool.true_and, ← hih]
      rfl
    · rw [cT (by simp only [Bool.not_eq_true', decide_eq_false_iff_not]; exact h1)]
      have : okS P[k] = false := by simp only [okS, Bool.and_eq_false_iff, decide_eq_false_iff_not]; omega
      simp [this]
theorem planeFine_eq (N : Nat) (W H : Int) (P : List Int) (hN : 5000 ≤ N) : D_darkslideref_PlaneFine N W H P = some (planeFine W H P) := by
  unfold D_darkslideref_PlaneFine
  have no : ¬ (sideOk W H ∧ (P.length : Int) = W * H) → planeFine W H P = false := fun h => by
    cases hq : planeFine W H P
    · rfl
    · obtain ⟨a, b, _⟩ := planeFine_iff.1 hq; exact absurd ⟨a, b⟩ h
  rw [within_eq, bsome]
  by_cases h1 : 1 ≤ W ∧ W ≤ 64
  rotate_left
  · rw [cT (by rw [dF h1]; rfl), no (fun h => by unfold sideOk at h; omega)]
  rw [cF (by rw [dT h1]; rfl), within_eq, bsome]
  by_cases h2 : 1 ≤ H ∧ H ≤ 64
  rotate_left
  · rw [cT (by rw [dF h2]; rfl), no (fun h => by unfold sideOk at h; omega)]
  have hb := mul_bd (W := W) (H := H) (by omega)
  rw [cF (by rw [dT h2]; rfl), w64 (by omega)]
  by_cases h3 : (P.length : Int) = W * H
  rotate_left
  · rw [cT (by rw [dF h3]; rfl), no (fun h => h3 h.2)]
  rw [cF (by rw [dT h3]; rfl)]
  refine (plf_l1 N P _ (by omega) P.length 0 N (by omega) (by omega)).trans ?_
  have hs : sideOk W H := ⟨by omega, by omega, by omega, by omega⟩
  simp only [planeFine, hs, h3, decide_true, Bool.true_and, List.drop_zero]
  cases P.all okS <;> rfl
theorem plane_nat {W H : Int} {P : List Int} (h : planeFine W H P = true) : ∃ w h' : Nat, W = w ∧ H = h' ∧ 1 ≤ w ∧ w ≤ 64 ∧ 1 ≤ h' ∧ h' ≤ 64 ∧ P.length = w * h' ∧ w * h' ≤ 4096 ∧ ∀ i, i < w * h' → 0 ≤ P.getD i 0 ∧ P.getD i 0 ≤ 65535 := by
  obtain ⟨⟨h1, h2, h3, h4⟩, h5, h6⟩ := planeFine_iff.1 h
  obtain ⟨w, rfl⟩ : ∃ n : Nat, W = n := ⟨W.toNat, by omega⟩
  obtain ⟨h', rfl⟩ : ∃ n : Nat, H = n := ⟨H.toNat, by omega⟩
  have e : P.length = w * h' := by exact_mod_cast h5
  have := Nat.mul_le_mul (show w ≤ 64 by omega) (show h' ≤ 64 by omega)
  refine ⟨w, h', rfl, rfl, by omega, by omega, by omega, by omega, e, by omega, fun i hi => ?_⟩
  have hx : P[i]? = some P[i] := List.getElem?_eq_getElem (by omega)
  have := okS_of (List.all_eq_true.1 h6 _ (List.mem_of_getElem? hx))
  rw [List.getD_eq_getElem?_getD, hx]; exact this
theorem sameInts_l1 (N : Nat) (P : List Int) (kk : Int → Option Bool) (hP : P.length ≤ 4611686018427387904) : ∀ (d k fuel : Nat), k + d = P.length → d < fuel → D_darkslideref_SameInts_l1 N P P kk fuel (k : Int) = kk P.length := by
  intro d
  induction d with
  | zero =>
    intro k fuel hk hf
    obtain ⟨fuel, rfl⟩ : ∃ m, fuel = m + 1 := ⟨fuel - 1, by omega⟩
    obtain rfl : k = P.length := by omega
    unfold D_darkslideref_SameInts_l1
    rw [cF (dF (by omega))]
  | succ d ih =>
    intro k fuel hk hf
    obtain ⟨fuel, rfl⟩ : ∃ m, fuel = m + 1 := ⟨fuel - 1, by omega⟩
    have hlt : k < P.length := by omega
    unfold D_darkslideref_SameInts_l1
    rw [cT (dT (by omega)), idx_nat, List.getElem?_eq_getElem hlt]
    simp only [bsome]
    rw [cF (by simp), w64 (by omega)]
    exact ih (k + 1) fuel (by omega) (by omega)
theorem samePlanes_eq (N : Nat) (W H : Int) (P : List Int) (hP : P.length ≤ 4096) (hN : 5000 ≤ N) : D_darkslideref_SamePlanes N W H P W H P = some true := by
  unfold D_darkslideref_SamePlanes D_darkslideref_SameInts
  rw [cT (dT rfl), cT (dT rfl), cF (by simp)]
  have := sameInts_l1 N P (fun _ => some true) (by omega) P.length 0 N (by omega) (by omega)
  rw [show (0 : Int) = ((0 : Nat) : Int) from rfl, this]
  rfl
end Go.Proofs.Ytpmnfhifmmfglaa
