/- What Take tells of a picture's rightness, and what Cut gives, as the document says. -/
import Derived.Test.YtpmnfhifmmfglaaPTake
set_option linter.unusedVariables false
set_option linter.unusedSimpArgs false
set_option linter.unusedSectionVars false
namespace Go.Proofs.Ytpmnfhifmmfglaa
open Go

/-- Is it a part of a picture of W columns and H rows? -/
def rectOK (W H x y w h : Int) : Prop := 1 ≤ w ∧ w ≤ W ∧ 1 ≤ h ∧ h ≤ H ∧ 0 ≤ x ∧ x ≤ W - w ∧ 0 ≤ y ∧ y ≤ H - h
instance (W H x y w h : Int) : Decidable (rectOK W H x y w h) := by unfold rectOK; infer_instance
/-- The part's first k rows. -/
def rowsOf (W : Int) (P : List (Int × Int × Int)) (x y w : Int) : Nat → List (Int × Int × Int)
  | 0 => []
  | k + 1 => rowsOf W P x y w k ++ (P.take ((y + k) * W + x + w).toNat).drop ((y + k) * W + x).toNat
theorem row_bd {W H : Int} {n : Nat} {x y w h : Int} (hs : sideOK W H n) (hr : rectOK W H x y w h) (k : Nat) (hk : (k : Int) < h) : 0 ≤ (y + k) * W ∧ (y + k) * W + x + w ≤ n ∧ (y + k) * W ≤ 4096 := by
  obtain ⟨h1, h2, h3, h4, h5⟩ := hs
  obtain ⟨r1, r2, r3, r4, r5, r6, r7, r8⟩ := hr
  have a : 0 ≤ (y + k) * W := Int.mul_nonneg (by omega) (by omega)
  have b : (y + k + 1) * W ≤ H * W := Int.mul_le_mul_of_nonneg_right (by omega) (by omega)
  rw [Int.add_mul, Int.one_mul, Int.mul_comm H W] at b
  have := mul_bd ⟨h1, h2, h3, h4⟩
  omega
theorem rowsOf_len {W H : Int} {P : List (Int × Int × Int)} {x y w h : Int} (hs : sideOK W H P.length) (hr : rectOK W H x y w h) : ∀ k : Nat, (k : Int) ≤ h → ((rowsOf W P x y w k).length : Int) = k * w
  | 0, _ => by simp [rowsOf]
  | k + 1, hk => by
    have hb := row_bd hs hr k (by omega)
    have ih := rowsOf_len hs hr k (by omega)
    obtain ⟨r1, r2, r3, r4, r5, r6, r7, r8⟩ := hr
    have e : ((k + 1 : Nat) : Int) * w = k * w + w := by rw [Int.natCast_add, Int.add_mul]; simp
    rw [rowsOf, List.length_append, List.length_drop, List.length_take, e]
    omega
theorem rowsOf_bd {W H : Int} {P : List (Int × Int × Int)} {x y w h : Int} (hs : sideOK W H P.length) (hr : rectOK W H x y w h) (k : Nat) (hk : (k : Int) ≤ h) : (rowsOf W P x y w k).length ≤ 4096 := by
  have hl := rowsOf_len hs hr k hk
  obtain ⟨h1, h2, h3, h4, h5⟩ := hs
  obtain ⟨r1, r2, r3, r4, r5, r6, r7, r8⟩ := hr
  have := Int.mul_le_mul (show (k : Int) ≤ 64 by omega) (show w ≤ 64 by omega) (by omega) (by omega)
  omega
theorem cut_l1 (N : Nat) {W H : Int} {P : List (Int × Int × Int)} {x y w h : Int} (kk : (List (Int × Int × Int) × Int) → Option (Int × Int × List (Int × Int × Int) × Int)) (hs : sideOK W H P.length) (hr : rectOK W H x y w h) :
    ∀ (d k fuel : Nat), (k : Int) + d = h → d < fuel → D_turn_Cut_l1 N W P x y w h kk fuel (rowsOf W P x y w k, (k : Int)) = kk (rowsOf W P x y w h.toNat, h) := by
  intro d
  induction d with
  | zero =>
    intro k fuel hk hf
    obtain ⟨fuel, rfl⟩ : ∃ m, fuel = m + 1 := ⟨fuel - 1, by omega⟩
    obtain rfl : h = (k : Int) := by omega
    unfold D_turn_Cut_l1
    rw [cF (dF (by omega)), Int.toNat_natCast]
  | succ d ih =>
    intro k fuel hk hf
    obtain ⟨fuel, rfl⟩ : ∃ m, fuel = m + 1 := ⟨fuel - 1, by omega⟩
    have hb := row_bd hs hr k (by omega)
    have hl := rowsOf_bd hs hr k (by omega)
    have hP := side_len hs
    have hr' := hr
    have hs' := hs
    obtain ⟨r1, r2, r3, r4, r5, r6, r7, r8⟩ := hr'
    obtain ⟨s1, s2, s3, s4, s5⟩ := hs'
    unfold D_turn_Cut_l1
    rw [cT (dT (by omega)), bsome, w64 (x := y + k) (by omega), w64 (x := (y + k) * W) (by omega), w64 (x := (y + k) * W + x) (by omega), w64 (x := (y + k) * W + x + w) (by omega), sli_eq (by omega), bsome]
    rw [app_eq (by rw [List.length_drop, List.length_take]; omega), bsome, w64 (by omega)]
    exact ih (k + 1) fuel (by omega) (by omega)
theorem cut_eq (N : Nat) (W H : Int) (P : List (Int × Int × Int)) (x y w h : Int) (hN : 5000 ≤ N) :
    D_turn_Cut N W H P x y w h = some (if picF W H P = false then (0, 0, [], 1) else if rectOK W H x y w h then (w, h, rowsOf W P x y w h.toNat, 0) else (0, 0, [], 3)) := by
  unfold D_turn_Cut
  obtain ⟨a, b, l, ht⟩ := take_code N W H P hN
  rw [ht, bsome]
  cases hp : picF W H P
  · rfl
  have hs := picF_side hp
  have hs' := hs
  obtain ⟨s1, s2, s3, s4, s5⟩ := hs'
  rw [cF (by simp), if_neg (by simp)]
  by_cases hr : rectOK W H x y w h
  · have hr' := hr
    obtain ⟨r1, r2, r3, r4, r5, r6, r7, r8⟩ := hr'
    rw [if_pos hr, w64 (by omega), w64 (by omega), cF (dF (by omega)), cF (dF (by omega)), cF (dF (by omega)), cF (dF (by omega)), cF (dF (by omega)), cF (dF (by omega)), cF (dF (by omega)), cF (dF (by omega))]
    exact cut_l1 N _ hs hr h.toNat 0 N (by omega) (by omega)
  · rw [if_neg hr]
    unfold rectOK at hr
    by_cases c1 : w < 1
    · rw [cT (dT c1)]
    rw [cF (dF c1)]
    by_cases c2 : h < 1
    · rw [cT (dT c2)]
    rw [cF (dF c2)]
    by_cases c3 : W < w
    · rw [cT (dT c3)]
    rw [cF (dF c3)]
    by_cases c4 : H < h
    · rw [cT (dT c4)]
    rw [cF (dF c4)]
    by_cases c5 : x < 0
    · rw [cT (dT c5)]
    rw [cF (dF c5)]
    by_cases c6 : y < 0
    · rw [cT (dT c6)]
    rw [cF (dF c6), w64 (by omega), w64 (by omega)]
    by_cases c7 : W - w < x
    · rw [cT (dT c7)]
    rw [cF (dF c7), cT (dT (by omega))]
theorem cutOf_l1 (N : Nat) {W H : Int} {P : List (Int × Int × Int)} {x y w h : Int} (kk : (List (Int × Int × Int) × Int) → Option (Int × Int × List (Int × Int × Int))) (hs : sideOK W H P.length) (hr : rectOK W H x y w h) :
    ∀ (d k fuel : Nat), (k : Int) + d = h → d < fuel → D_darkslideref_CutOf_l1 N W P x y w h kk fuel (rowsOf W P x y w k, y + (k : Int)) = kk (rowsOf W P x y w h.toNat, y + h) := by
  intro d
  induction d with
  | zero =>
    intro k fuel hk hf
    obtain ⟨fuel, rfl⟩ : ∃ m, fuel = m + 1 := ⟨fuel - 1, by omega⟩
    obtain ⟨r1, r2, r3, r4, r5, r6, r7, r8⟩ := hr
    obtain ⟨s1, s2, s3, s4, s5⟩ := hs
    obtain rfl : h = (k : Int) := by omega
    unfold D_darkslideref_CutOf_l1
    rw [w64 (by omega), cF (dF (by omega)), Int.toNat_natCast]
  | succ d ih =>
    intro k fuel hk hf
    obtain ⟨fuel, rfl⟩ : ∃ m, fuel = m + 1 := ⟨fuel - 1, by omega⟩
    have hb := row_bd hs hr k (by omega)
    have hl := rowsOf_bd hs hr k (by omega)
    have hP := side_len hs
    have hr' := hr
    have hs' := hs
    obtain ⟨r1, r2, r3, r4, r5, r6, r7, r8⟩ := hr'
    obtain ⟨s1, s2, s3, s4, s5⟩ := hs'
    unfold D_darkslideref_CutOf_l1
    rw [w64 (x := y + h) (by omega), cT (dT (by omega)), w64 (x := (y + k) * W) (by omega), w64 (x := (y + k) * W + x) (by omega), w64 (x := (y + k) * W + x + w) (by omega), sli_eq (by omega), bsome]
    rw [app_eq (by rw [List.length_drop, List.length_take]; omega), bsome, w64 (by omega), bsome]
    have := ih (k + 1) fuel (by omega) (by omega)
    rw [show y + ((k + 1 : Nat) : Int) = y + k + 1 by omega] at this
    exact this
theorem cutOf_eq (N : Nat) (W H : Int) (P : List (Int × Int × Int)) (x y w h : Int) (hN : 5000 ≤ N) (hp : picF W H P = true) (hr : rectOK W H x y w h) : D_darkslideref_CutOf N W H P x y w h = some (w, h, rowsOf W P x y w h.toNat) := by
  have hs := picF_side hp
  have hs' := hs
  obtain ⟨s1, s2, s3, s4, s5⟩ := hs'
  have hr' := hr
  obtain ⟨r1, r2, r3, r4, r5, r6, r7, r8⟩ := hr'
  unfold D_darkslideref_CutOf
  have := cutOf_l1 N (fun (out_P4, y4) => some (w, h, out_P4)) hs hr h.toNat 0 N (by omega) (by omega)
  simp only [Int.natCast_zero, Int.add_zero, rowsOf] at this
  exact this
theorem cutError_eq (N : Nat) (W H : Int) (P : List (Int × Int × Int)) (x y w h : Int) (hN : 5000 ≤ N) (hw : -9223372036854775808 ≤ w ∧ w ≤ 9223372036854775807) (hh : -9223372036854775808 ≤ h ∧ h ≤ 9223372036854775807) :
    D_darkslideref_CutError N W H P x y w h = some (if picF W H P = false then 1 else if rectOK W H x y w h then 0 else 3) := by
  unfold D_darkslideref_CutError
  rw [pictureFine_eq N W H P hN, bsome]
  simp only [within_eq, bsome]
  cases hp : picF W H P
  · rfl
  obtain ⟨s1, s2, s3, s4, s5⟩ := picF_side hp
  rw [cF (by simp), if_neg (by simp)]
  by_cases hr : rectOK W H x y w h
  · have hr' := hr
    obtain ⟨r1, r2, r3, r4, r5, r6, r7, r8⟩ := hr'
    rw [if_pos hr, w64 (by omega), w64 (by omega), cF (by simp; omega), cF (by simp; omega), cF (by simp; omega), cF (by simp; omega)]
  · rw [if_neg hr]
    unfold rectOK at hr
    by_cases c1 : 1 ≤ w ∧ w ≤ W
    · rw [cF (by simp [c1])]
      by_cases c2 : 1 ≤ h ∧ h ≤ H
      · rw [cF (by simp [c2]), w64 (by omega), w64 (by omega)]
        by_cases c3 : 0 ≤ x ∧ x ≤ W - w
        · rw [cF (by simp [c3]), cT (by simp; omega)]
        · rw [cT (by simp only [Bool.not_eq_true', decide_eq_false_iff_not]; exact c3)]
      · rw [cT (by simp only [Bool.not_eq_true', decide_eq_false_iff_not]; exact c2)]
    · rw [cT (by simp only [Bool.not_eq_true', decide_eq_false_iff_not]; exact c1)]
theorem turnBegun_eq : D_darkslidelaw_turnBegun 5000 = some true := by kernel_rfl
theorem turnCuts_true (W H : Int) (P : List (Int × Int × Int)) (x y w h : Int) (hw : -9223372036854775808 ≤ w ∧ w ≤ 9223372036854775807) (hh : -9223372036854775808 ≤ h ∧ h ≤ 9223372036854775807) : D_darkslidelaw_TurnCuts 5000 W H P x y w h = some true := by
  have hc := cut_eq 5000 W H P x y w h (by omega)
  have he := cutError_eq 5000 W H P x y w h (by omega) hw hh
  have h0 := same_eq 5000 0 0 [] (by simp) (by simp)
  unfold D_darkslidelaw_TurnCuts
  cases hp : picF W H P
  · rw [hp, if_pos rfl] at hc he
    simp only [hc, he, bsome, turnBegun_eq, h0]
    rfl
  · rw [hp, if_neg (by simp)] at hc he
    by_cases hr : rectOK W H x y w h
    · rw [if_pos hr] at hc he
      have hs := picF_side hp
      have hl := rowsOf_bd hs hr h.toNat (by obtain ⟨_, _, r3, _⟩ := hr; omega)
      have h1 := same_eq 5000 w h (rowsOf W P x y w h.toNat) (by omega) (by omega)
      simp only [hc, he, bsome, turnBegun_eq, cutOf_eq 5000 W H P x y w h (by omega) hp hr, h1]
      rfl
    · rw [if_neg hr] at hc he
      simp only [hc, he, bsome, turnBegun_eq, h0]
      rfl
end Go.Proofs.Ytpmnfhifmmfglaa
