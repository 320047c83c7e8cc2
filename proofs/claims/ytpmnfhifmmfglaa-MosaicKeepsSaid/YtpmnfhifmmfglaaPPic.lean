/- What a right picture is, said of the program's and of the document's words alike; two pictures that are the same. -/
import Derived.Test.YtpmnfhifmmfglaaPGen
set_option linter.unusedVariables false
set_option linter.unusedSimpArgs false
set_option linter.unusedSectionVars false
namespace Go.Proofs.Ytpmnfhifmmfglaa
open Go

theorem fine_l1 (N : Nat) (P : List (Int × Int × Int)) (kk : Int → Option Bool) (hP : P.length ≤ 4096) : ∀ (d k fuel : Nat), k + d = P.length → d < fuel → D_mosaic_fine_l1 N P kk fuel (k : Int) = if (P.drop k).all okPx then kk P.length else some false := by
  intro d
  induction d with
  | zero =>
    intro k fuel hk hf
    obtain ⟨fuel, rfl⟩ : ∃ m, fuel = m + 1 := ⟨fuel - 1, by omega⟩
    have hk' : k = P.length := by omega
    subst hk'
    unfold D_mosaic_fine_l1
    rw [cF (dF (by omega))]
    simp
  | succ d ih =>
    intro k fuel hk hf
    obtain ⟨fuel, rfl⟩ : ∃ m, fuel = m + 1 := ⟨fuel - 1, by omega⟩
    have hlt : k < P.length := by omega
    obtain ⟨⟨x, y, z⟩, hx⟩ : ∃ p, P[k]? = some p := ⟨P[k], List.getElem?_eq_getElem hlt⟩
    unfold D_mosaic_fine_l1
    rw [cT (dT (by omega)), idx_nat, hx, bsome, w64 (by omega)]
    have hd : P.drop k = (x, y, z) :: P.drop (k + 1) := by
      rw [List.drop_eq_getElem_cons hlt]
      congr 1
      exact (List.getElem?_eq_some_iff.1 hx).2
    rw [hd, List.all_cons]
    have hih := ih (k + 1) fuel (by omega) (by omega)
    by_cases h1 : min (min x y) z < 0
    · rw [cT (dT h1)]
      have : okPx (x, y, z) = false := by simp only [okPx, decide_eq_false_iff_not]; omega
      simp [this]
    · rw [cF (dF h1)]
      by_cases h2 : 65535 < max (max x y) z
      · rw [cT (dT h2)]
        have : okPx (x, y, z) = false := by simp only [okPx, decide_eq_false_iff_not]; omega
        simp [this]
      · rw [cF (dF h2)]
        have : okPx (x, y, z) = true := by simp only [okPx, decide_eq_true_eq]; omega
        rw [this, Bool.true_and, ← hih]
        rfl
theorem fine_eq (N : Nat) (W H : Int) (P : List (Int × Int × Int)) (hN : 5000 ≤ N) : D_mosaic_fine N W H P = some (picF W H P) := by
  unfold D_mosaic_fine
  have no : ¬ sideOK W H P.length → picF W H P = false := fun h => by simp [picF, h]
  by_cases h1 : W < 1
  · rw [cT (dT h1), no (fun h => by unfold sideOK at h; omega)]
  rw [cF (dF h1)]
  by_cases h2 : 64 < W
  · rw [cT (dT h2), no (fun h => by unfold sideOK at h; omega)]
  rw [cF (dF h2)]
  by_cases h3 : H < 1
  · rw [cT (dT h3), no (fun h => by unfold sideOK at h; omega)]
  rw [cF (dF h3)]
  by_cases h4 : 64 < H
  · rw [cT (dT h4), no (fun h => by unfold sideOK at h; omega)]
  rw [cF (dF h4)]
  have hb := mul_bd (W := W) (H := H) (by omega)
  rw [w64 (by omega)]
  by_cases h5 : (P.length : Int) = W * H
  · rw [cF (by simp [h5])]
    have hs : sideOK W H P.length := ⟨by omega, by omega, by omega, by omega, h5⟩
    refine (fine_l1 N P _ (by omega) P.length 0 N (by omega) (by omega)).trans ?_
    simp only [picF, hs, decide_true, Bool.true_and, List.drop_zero]
    cases P.all okPx <;> rfl
  · rw [cT (by simp [h5]), no (fun h => h5 h.2.2.2.2)]

theorem within_eq (N : Nat) (n lo hi : Int) : D_darkslideref_within N n lo hi = some (decide (lo ≤ n ∧ n ≤ hi)) := by
  unfold D_darkslideref_within
  by_cases h1 : lo ≤ n
  · rw [cT (dT h1)]; simp [h1]
  · rw [cF (dF h1)]; simp [h1]

theorem pf_l1 (N : Nat) (P : List (Int × Int × Int)) (kk : Int → Option Bool) (hP : P.length ≤ 4096) : ∀ (d k fuel : Nat), k + d = P.length → d < fuel → D_darkslideref_PictureFine_l1 N P kk fuel (k : Int) = if (P.drop k).all okPx then kk P.length else some false := by
  intro d
  induction d with
  | zero =>
    intro k fuel hk hf
    obtain ⟨fuel, rfl⟩ : ∃ m, fuel = m + 1 := ⟨fuel - 1, by omega⟩
    have hk' : k = P.length := by omega
    subst hk'
    unfold D_darkslideref_PictureFine_l1
    rw [cF (dF (by omega))]
    simp
  | succ d ih =>
    intro k fuel hk hf
    obtain ⟨fuel, rfl⟩ : ∃ m, fuel = m + 1 := ⟨fuel - 1, by omega⟩
    have hlt : k < P.length := by omega
    obtain ⟨⟨x, y, z⟩, hx⟩ : ∃ p, P[k]? = some p := ⟨P[k], List.getElem?_eq_getElem hlt⟩
    unfold D_darkslideref_PictureFine_l1
    rw [cT (dT (by omega)), idx_nat, hx]
    simp only [bsome, within_eq]
    rw [w64 (by omega)]
    have hd : P.drop k = (x, y, z) :: P.drop (k + 1) := by
      rw [List.drop_eq_getElem_cons hlt]
      congr 1
      exact (List.getElem?_eq_some_iff.1 hx).2
    rw [hd, List.all_cons]
    have hih := ih (k + 1) fuel (by omega) (by omega)
    by_cases h1 : 0 ≤ x ∧ x ≤ 65535
    · rw [cF (by simp [h1])]
      by_cases h2 : 0 ≤ y ∧ y ≤ 65535
      · rw [cF (by simp [h2])]
        by_cases h3 : 0 ≤ z ∧ z ≤ 65535
        · rw [cF (by simp [h3])]
          have : okPx (x, y, z) = true := by simp only [okPx, decide_eq_true_eq]; omega
          rw [this, Bool.true_and, ← hih]
          rfl
        · rw [cT (by simp only [Bool.not_eq_true', decide_eq_false_iff_not]; exact h3)]
          have : okPx (x, y, z) = false := by simp only [okPx, decide_eq_false_iff_not]; omega
          simp [this]
      · rw [cT (by simp only [Bool.not_eq_true', decide_eq_false_iff_not]; exact h2)]
        have : okPx (x, y, z) = false := by simp only [okPx, decide_eq_false_iff_not]; omega
        simp [this]
    · rw [cT (by simp only [Bool.not_eq_true', decide_eq_false_iff_not]; exact h1)]
      have : okPx (x, y, z) = false := by simp only [okPx, decide_eq_false_iff_not]; omega
      simp [this]
theorem pictureFine_eq (N : Nat) (W H : Int) (P : List (Int × Int × Int)) (hN : 5000 ≤ N) : D_darkslideref_PictureFine N W H P = some (picF W H P) := by
  unfold D_darkslideref_PictureFine
  simp only [bsome, within_eq]
  have no : ¬ sideOK W H P.length → picF W H P = false := fun h => by simp [picF, h]
  by_cases h1 : 1 ≤ W ∧ W ≤ 64
  · rw [cF (by simp [h1])]
    by_cases h2 : 1 ≤ H ∧ H ≤ 64
    · rw [cF (by simp [h2])]
      have hb := mul_bd (W := W) (H := H) (by omega)
      rw [w64 (by omega)]
      by_cases h5 : (P.length : Int) = W * H
      · rw [cF (by simp [h5])]
        have hs : sideOK W H P.length := ⟨by omega, by omega, by omega, by omega, h5⟩
        refine (pf_l1 N P _ (by omega) P.length 0 N (by omega) (by omega)).trans ?_
        simp only [picF, hs, decide_true, Bool.true_and, List.drop_zero]
        cases P.all okPx <;> rfl
      · rw [cT (by simp [h5]), no (fun h => h5 h.2.2.2.2)]
    · rw [cT (by simp only [Bool.not_eq_true', decide_eq_false_iff_not]; exact h2), no (fun h => by unfold sideOK at h; omega)]
  · rw [cT (by simp only [Bool.not_eq_true', decide_eq_false_iff_not]; exact h1), no (fun h => by unfold sideOK at h; omega)]

theorem same_l1 (N : Nat) (P : List (Int × Int × Int)) (kk : Int → Option Bool) (hP : P.length ≤ 4611686018427387904) : ∀ (d k fuel : Nat), k + d = P.length → d < fuel → D_darkslideref_SamePictures_l1 N P P kk fuel (k : Int) = kk P.length := by
  intro d
  induction d with
  | zero =>
    intro k fuel hk hf
    obtain ⟨fuel, rfl⟩ : ∃ m, fuel = m + 1 := ⟨fuel - 1, by omega⟩
    have hk' : k = P.length := by omega
    subst hk'
    unfold D_darkslideref_SamePictures_l1
    rw [cF (dF (by omega))]
  | succ d ih =>
    intro k fuel hk hf
    obtain ⟨fuel, rfl⟩ : ∃ m, fuel = m + 1 := ⟨fuel - 1, by omega⟩
    have hlt : k < P.length := by omega
    unfold D_darkslideref_SamePictures_l1
    rw [cT (dT (by omega)), idx_nat, List.getElem?_eq_getElem hlt]
    simp only [bsome]
    rw [cF (by simp), w64 (by omega)]
    exact ih (k + 1) fuel (by omega) (by omega)
theorem same_eq (N : Nat) (W H : Int) (P : List (Int × Int × Int)) (hP : P.length ≤ 4611686018427387904) (hN : P.length < N) : D_darkslideref_SamePictures N W H P W H P = some true := by
  unfold D_darkslideref_SamePictures
  rw [cF (by simp), cF (by simp), cF (by simp)]
  exact same_l1 N P _ hP P.length 0 N (by omega) (by omega)
theorem same_any (N : Nat) (W H : Int) (n : Nat) (P : List Px) (h : P.length = n) (hn : n ≤ 4096) (hN : 5000 ≤ N) : D_darkslideref_SamePictures N W H P W H P = some true := same_eq N W H P (by omega) (by omega)
theorem same_list_l1 (N : Nat) (P Q : List Px) (hl : P.length = Q.length) (hP : P.length ≤ 4096) : ∀ (d k fuel : Nat), k + d = P.length → d < fuel → D_darkslideref_SamePictures_l1 N P Q (fun _ => some true) fuel (k : Int) = some (decide (P.drop k = Q.drop k)) := by
  intro d
  induction d with
  | zero =>
    intro k fuel hk hf
    obtain ⟨fuel, rfl⟩ : ∃ m, fuel = m + 1 := ⟨fuel - 1, by omega⟩
    unfold D_darkslideref_SamePictures_l1
    rw [cF (dF (by omega)), List.drop_of_length_le (by omega), List.drop_of_length_le (by omega)]
    rfl
  | succ d ih =>
    intro k fuel hk hf
    obtain ⟨fuel, rfl⟩ : ∃ m, fuel = m + 1 := ⟨fuel - 1, by omega⟩
    have h1 : k < P.length := by omega
    have h2 : k < Q.length := by omega
    unfold D_darkslideref_SamePictures_l1
    rw [cT (dT (by omega)), idx_nat, idx_nat, List.getElem?_eq_getElem h1, List.getElem?_eq_getElem h2]
    simp only [bsome]
    rw [w64 (by omega), List.drop_eq_getElem_cons h1, List.drop_eq_getElem_cons h2]
    have hih := ih (k + 1) fuel (by omega) (by omega)
    obtain ⟨⟨a, b, c⟩, hp⟩ : ∃ p, P[k] = p := ⟨_, rfl⟩
    obtain ⟨⟨a', b', c'⟩, hq⟩ : ∃ p, Q[k] = p := ⟨_, rfl⟩
    rw [hp, hq]
    simp only [List.cons.injEq, Prod.mk.injEq]
    by_cases e : a = a' ∧ b = b' ∧ c = c'
    · rw [cF (by simp [e])]
      refine hih.trans ?_
      simp [e]
    · rw [cT (by simp only [Bool.not_eq_true', Bool.and_eq_false_iff, decide_eq_false_iff_not]; omega)]
      simp only [e, false_and, decide_false]
theorem same_list (W H : Int) (P Q : List Px) (hl : P.length = Q.length) (hP : P.length ≤ 4096) : D_darkslideref_SamePictures 5000 W H P W H Q = some (decide (P = Q)) := by
  unfold D_darkslideref_SamePictures
  rw [cF (by simp), cF (by simp), cF (by simp [hl])]
  exact (same_list_l1 5000 P Q hl hP P.length 0 5000 (by omega) (by omega)).trans (by simp)

end Go.Proofs.Ytpmnfhifmmfglaa
