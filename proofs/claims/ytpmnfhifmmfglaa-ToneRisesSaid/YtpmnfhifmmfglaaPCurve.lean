/- Curves: what is a right one, and what it tells at a place, by the code and by the document. -/
import Derived.Test.YtpmnfhifmmfglaaPPic
set_option linter.unusedVariables false
set_option linter.unusedSimpArgs false
set_option linter.unusedSectionVars false
namespace Go.Proofs.Ytpmnfhifmmfglaa
open Go

abbrev Pt := Int × Int
def cX (l : List Pt) (i : Nat) : Int := (l.getD i (0, 0)).1
def cY (l : List Pt) (i : Nat) : Int := (l.getD i (0, 0)).2
def stepOK (l : List Pt) (i : Nat) : Prop := cX l i < cX l (i + 1) ∧ cY l i ≤ cY l (i + 1)
structure curveP (l : List Pt) : Prop where
  len : 2 ≤ l.length ∧ l.length ≤ 16
  x0 : cX l 0 = 0
  xn : cX l (l.length - 1) = 65535
  y0 : 0 ≤ cY l 0
  yn : cY l (l.length - 1) ≤ 65535
  step : ∀ i, i + 1 < l.length → stepOK l i
theorem idx_getD (l : List Pt) {k : Nat} (h : k < l.length) : idx l (k : Int) = some (l.getD k (0, 0)) := by
  rw [idx_nat, List.getD_eq_getElem?_getD, List.getElem?_eq_getElem h]; rfl
theorem idx_last (l : List Pt) (h : 1 ≤ l.length ∧ l.length ≤ 1000000) : idx l (IntKind.i64.wrap ((l.length : Int) - 1)) = some (l.getD (l.length - 1) (0, 0)) := by
  rw [w64 (by omega), show (l.length : Int) - 1 = ((l.length - 1 : Nat) : Int) by omega, idx_getD l (by omega)]
theorem steps_mono {l : List Pt} {j : Nat} (h : ∀ i, i < j → stepOK l i) {i : Nat} (hij : i ≤ j) : cX l i ≤ cX l j ∧ cY l i ≤ cY l j ∧ (i < j → cX l i < cX l j) := by
  induction j with
  | zero => obtain rfl : i = 0 := by omega
            exact ⟨Int.le_refl _, Int.le_refl _, fun h => by omega⟩
  | succ j ih =>
    by_cases e : i = j + 1
    · subst e; exact ⟨Int.le_refl _, Int.le_refl _, fun h => by omega⟩
    · obtain ⟨a, b, _⟩ := ih (fun i hi => h i (by omega)) (by omega)
      obtain ⟨c, d⟩ := h j (by omega)
      exact ⟨by omega, by omega, fun _ => by omega⟩
theorem curveP.mono {l : List Pt} (h : curveP l) {i j : Nat} (hij : i ≤ j) (hj : j < l.length) : cX l i ≤ cX l j ∧ cY l i ≤ cY l j ∧ (i < j → cX l i < cX l j) := steps_mono (fun i hi => h.step i (by omega)) hij
theorem curveP.bd {l : List Pt} (h : curveP l) {i : Nat} (hi : i < l.length) : 0 ≤ cX l i ∧ cX l i ≤ 65535 ∧ 0 ≤ cY l i ∧ cY l i ≤ 65535 := by
  obtain ⟨a, b, _⟩ := h.mono (i := 0) (j := i) (by omega) hi
  obtain ⟨c, d, _⟩ := h.mono (i := i) (j := l.length - 1) (by omega) (by omega)
  have := h.x0
  have := h.xn
  have := h.y0
  have := h.yn
  omega
theorem right_l1 (N : Nat) (l l2 : List Pt) (hl : l2.length + 1 = l.length) (hb : l.length ≤ 16) : ∀ (d k fuel : Nat), k + d = l2.length → d < fuel →
    ∃ b, D_tone_right_l1 N l l2 (fun _ => some true) fuel (k : Int) = some b ∧ (b = true ↔ ∀ i, k ≤ i → i + 1 < l.length → stepOK l i) := by
  intro d
  induction d with
  | zero =>
    intro k fuel hk hf
    obtain ⟨fuel, rfl⟩ : ∃ m, fuel = m + 1 := ⟨fuel - 1, by omega⟩
    refine ⟨true, ?_, by simp only [true_iff]; intro i h1 h2; omega⟩
    unfold D_tone_right_l1
    rw [cF (dF (by omega))]
  | succ d ih =>
    intro k fuel hk hf
    obtain ⟨fuel, rfl⟩ : ∃ m, fuel = m + 1 := ⟨fuel - 1, by omega⟩
    unfold D_tone_right_l1
    rw [cT (dT (by omega)), w64 (by omega), show (k : Int) + 1 = ((k + 1 : Nat) : Int) by omega]
    simp only [idx_getD l (show k < l.length by omega), idx_getD l (show k + 1 < l.length by omega), bsome]
    by_cases h1 : (l.getD (k + 1) (0, 0)).1 ≤ (l.getD k (0, 0)).1
    · rw [cT (dT h1)]
      refine ⟨false, rfl, by simp only [Bool.false_eq_true, false_iff]; intro h; have := (h k (Nat.le_refl _) (by omega)).1; simp only [cX] at this; omega⟩
    rw [cF (dF h1)]
    by_cases h2 : (l.getD (k + 1) (0, 0)).2 < (l.getD k (0, 0)).2
    · rw [cT (dT h2)]
      refine ⟨false, rfl, by simp only [Bool.false_eq_true, false_iff]; intro h; have := (h k (Nat.le_refl _) (by omega)).2; simp only [cY] at this; omega⟩
    rw [cF (dF h2)]
    obtain ⟨b, e, hb'⟩ := ih (k + 1) fuel (by omega) (by omega)
    refine ⟨b, e, hb'.trans ⟨fun h i hi hn => ?_, fun h i hi hn => h i (by omega) hn⟩⟩
    by_cases hik : i = k
    · subst hik; exact ⟨by simp only [cX]; omega, by simp only [cY]; omega⟩
    · exact h i (by omega) hn
theorem right_eq (N : Nat) (l : List Pt) (hN : 5000 ≤ N) : ∃ b, D_tone_right N l = some b ∧ (b = true ↔ curveP l) := by
  unfold D_tone_right
  by_cases h1 : (l.length : Int) < 2
  · rw [cT (dT h1)]; exact ⟨false, rfl, by simp only [Bool.false_eq_true, false_iff]; intro h; have := h.len; omega⟩
  rw [cF (dF h1)]
  by_cases h2 : 16 < (l.length : Int)
  · rw [cT (dT h2)]; exact ⟨false, rfl, by simp only [Bool.false_eq_true, false_iff]; intro h; have := h.len; omega⟩
  rw [cF (dF h2)]
  have i0 : idx l 0 = some (l.getD 0 (0, 0)) := idx_getD l (k := 0) (by omega)
  have il := idx_last l (by omega)
  simp only [i0, il, bsome]
  by_cases h3 : cX l 0 = 0
  rotate_left
  · rw [cT (by simp only [cX] at h3; rw [dF h3]; rfl)]; exact ⟨false, rfl, by simp only [Bool.false_eq_true, false_iff]; intro h; exact h3 h.x0⟩
  rw [cF (by simp only [cX] at h3; rw [dT h3]; rfl)]
  by_cases h4 : cX l (l.length - 1) = 65535
  rotate_left
  · rw [cT (by simp only [cX] at h4; rw [dF h4]; rfl)]; exact ⟨false, rfl, by simp only [Bool.false_eq_true, false_iff]; intro h; exact h4 h.xn⟩
  rw [cF (by simp only [cX] at h4; rw [dT h4]; rfl)]
  by_cases h5 : (l.getD 0 (0, 0)).2 < 0
  · rw [cT (dT h5)]; exact ⟨false, rfl, by simp only [Bool.false_eq_true, false_iff]; intro h; have := h.y0; simp only [cY] at this; omega⟩
  rw [cF (dF h5)]
  by_cases h6 : 65535 < (l.getD (l.length - 1) (0, 0)).2
  · rw [cT (dT h6)]; exact ⟨false, rfl, by simp only [Bool.false_eq_true, false_iff]; intro h; have := h.yn; simp only [cY] at this; omega⟩
  rw [cF (dF h6), sli_eq (by omega), bsome]
  obtain ⟨b, e, hb⟩ := right_l1 N l ((l.take (l.length : Int).toNat).drop (1 : Int).toNat) (by simp; omega) (by omega) (l.length - 1) 0 N (by simp) (by omega)
  refine ⟨b, e, hb.trans ⟨fun h => ⟨by omega, h3, h4, by simp only [cY]; omega, by simp only [cY]; omega, fun i hi => h i (Nat.zero_le _) hi⟩, fun h i _ hi => h.step i hi⟩⟩
theorem curveFine_l1 (N : Nat) (l : List Pt) (hb : l.length ≤ 16) : ∀ (d k fuel : Nat), k + d = l.length → d < fuel →
    ∃ b, D_darkslideref_CurveFine_l1 N l (fun _ => some true) fuel (k : Int) = some b ∧ (b = true ↔ ∀ i, k ≤ i → i < l.length → (0 ≤ cY l i ∧ cY l i ≤ 65535) ∧ (0 < i → stepOK l (i - 1))) := by
  intro d
  induction d with
  | zero =>
    intro k fuel hk hf
    obtain ⟨fuel, rfl⟩ : ∃ m, fuel = m + 1 := ⟨fuel - 1, by omega⟩
    refine ⟨true, ?_, by simp only [true_iff]; intro i h1 h2; omega⟩
    unfold D_darkslideref_CurveFine_l1
    rw [cF (dF (by omega))]
  | succ d ih =>
    intro k fuel hk hf
    obtain ⟨fuel, rfl⟩ : ∃ m, fuel = m + 1 := ⟨fuel - 1, by omega⟩
    have no : ∀ {Q : Prop}, ¬ Q → ∃ b, some false = some b ∧ (b = true ↔ Q) := fun h => ⟨false, rfl, by simp [h]⟩
    unfold D_darkslideref_CurveFine_l1
    rw [cT (dT (by omega)), idx_getD l (show k < l.length by omega), bsome, within_eq, bsome]
    obtain ⟨b, e, hb'⟩ := ih (k + 1) fuel (by omega) (by omega)
    by_cases h1 : 0 ≤ cY l k ∧ cY l k ≤ 65535
    rotate_left
    · rw [cT (by simp only [cY] at h1; rw [dF h1]; rfl)]
      exact no fun h => h1 (h k (Nat.le_refl _) (by omega)).1
    rw [cF (by simp only [cY] at h1; rw [dT h1]; rfl)]
    by_cases h2 : 0 < k
    · rw [cT (dT (by omega)), bsome, w64 (x := (k : Int) - 1) (by omega), show (k : Int) - 1 = ((k - 1 : Nat) : Int) by omega, idx_getD l (show k - 1 < l.length by omega)]
      simp only [bsome]
      have hk1 : k - 1 + 1 = k := by omega
      by_cases h3 : (l.getD k (0, 0)).1 ≤ (l.getD (k - 1) (0, 0)).1
      · rw [cT (dT h3)]
        exact no fun h => by have := ((h k (Nat.le_refl _) (by omega)).2 h2).1; rw [hk1] at this; simp only [cX] at this; omega
      rw [cF (dF h3)]
      by_cases h4 : (l.getD k (0, 0)).2 < (l.getD (k - 1) (0, 0)).2
      · rw [cT (dT h4)]
        exact no fun h => by have := ((h k (Nat.le_refl _) (by omega)).2 h2).2; rw [hk1] at this; simp only [cY] at this; omega
      rw [cF (dF h4), w64 (by omega)]
      refine ⟨b, e, hb'.trans ⟨fun h i hi hn => ?_, fun h i hi hn => h i (by omega) hn⟩⟩
      by_cases hik : i = k
      · subst hik; exact ⟨h1, fun _ => ⟨by rw [hk1]; simp only [cX]; omega, by rw [hk1]; simp only [cY]; omega⟩⟩
      · exact h i (by omega) hn
    · rw [cF (dF (by omega)), bsome, w64 (by omega)]
      refine ⟨b, e, hb'.trans ⟨fun h i hi hn => ?_, fun h i hi hn => h i (by omega) hn⟩⟩
      by_cases hik : i = k
      · subst hik; exact ⟨h1, fun h => absurd h h2⟩
      · exact h i (by omega) hn
theorem curveFine_eq (N : Nat) (l : List Pt) (hN : 5000 ≤ N) : ∃ b, D_darkslideref_CurveFine N l = some b ∧ (b = true ↔ curveP l) := by
  unfold D_darkslideref_CurveFine
  have no : ∀ {Q : Prop}, ¬ Q → ∃ b, some false = some b ∧ (b = true ↔ Q) := fun h => ⟨false, rfl, by simp [h]⟩
  rw [within_eq, bsome]
  by_cases h1 : (2 : Int) ≤ l.length ∧ (l.length : Int) ≤ 16
  rotate_left
  · rw [cT (by rw [dF h1]; rfl)]
    exact no fun h => h1 (by have := h.len; omega)
  rw [cF (by rw [dT h1]; rfl)]
  have i0 : idx l 0 = some (l.getD 0 (0, 0)) := idx_getD l (k := 0) (by omega)
  have il := idx_last l (by omega)
  simp only [i0, il, bsome]
  by_cases h3 : cX l 0 = 0
  rotate_left
  · rw [cT (by simp only [cX] at h3; rw [dF h3]; rfl)]; exact no fun h => h3 h.x0
  rw [cF (by simp only [cX] at h3; rw [dT h3]; rfl)]
  by_cases h4 : cX l (l.length - 1) = 65535
  rotate_left
  · rw [cT (by simp only [cX] at h4; rw [dF h4]; rfl)]; exact no fun h => h4 h.xn
  rw [cF (by simp only [cX] at h4; rw [dT h4]; rfl)]
  obtain ⟨b, e, hb⟩ := curveFine_l1 N l (by omega) l.length 0 N (by omega) (by omega)
  refine ⟨b, e, hb.trans ⟨fun h => ⟨by omega, h3, h4, (h 0 (Nat.le_refl _) (by omega)).1.1, (h (l.length - 1) (Nat.zero_le _) (by omega)).1.2, fun i hi => (h (i + 1) (Nat.zero_le _) hi).2 (by omega)⟩, fun h i _ hi => ⟨(h.bd hi).2.2, fun h0 => h.step (i - 1) (by omega)⟩⟩⟩

/-- What stands between two points. -/
def seg (l : List Pt) (i : Nat) (x : Int) : Int := cY l (i - 1) + ((cY l i - cY l (i - 1)) * (x - cX l (i - 1))) / (cX l i - cX l (i - 1))
section
variable {l : List Pt}
theorem seg_left {i : Nat} : seg l i (cX l (i - 1)) = cY l (i - 1) := by
  unfold seg
  rw [Int.sub_self, Int.mul_zero, Int.zero_ediv, Int.add_zero]
variable (h : curveP l)
include h
theorem seg_facts {i : Nat} (hi : 1 ≤ i ∧ i < l.length) {x : Int} (hx : cX l (i - 1) ≤ x ∧ x ≤ cX l i) : cY l (i - 1) ≤ seg l i x ∧ seg l i x ≤ cY l i := by
  obtain ⟨s1, s2⟩ := h.step (i - 1) (by omega)
  rw [show i - 1 + 1 = i by omega] at s1 s2
  unfold seg
  have h0 : 0 ≤ (cY l i - cY l (i - 1)) * (x - cX l (i - 1)) := Int.mul_nonneg (by omega) (by omega)
  have h1 := Int.ediv_nonneg h0 (show 0 ≤ cX l i - cX l (i - 1) by omega)
  have h2 : (cY l i - cY l (i - 1)) * (x - cX l (i - 1)) ≤ (cY l i - cY l (i - 1)) * (cX l i - cX l (i - 1)) := Int.mul_le_mul_of_nonneg_left (by omega) (by omega)
  have h3 := Int.ediv_le_of_le_mul (show 0 < cX l i - cX l (i - 1) by omega) h2
  omega
theorem seg_right {i : Nat} (hi : 1 ≤ i ∧ i < l.length) : seg l i (cX l i) = cY l i := by
  obtain ⟨s1, s2⟩ := h.step (i - 1) (by omega)
  rw [show i - 1 + 1 = i by omega] at s1 s2
  unfold seg
  rw [Int.mul_ediv_cancel _ (by omega)]
  omega
/-- Whichever part a place is in, the same comes. -/
theorem seg_one {i j : Nat} (hi : 1 ≤ i ∧ i < l.length) (hj : 1 ≤ j ∧ j < l.length) {x : Int} (hx : cX l (i - 1) ≤ x ∧ x ≤ cX l i) (hx' : cX l (j - 1) ≤ x ∧ x ≤ cX l j) : seg l i x = seg l j x := by
  have key : ∀ {i j : Nat}, 1 ≤ i → i < j → j < l.length → x ≤ cX l i → cX l (j - 1) ≤ x → seg l i x = seg l j x := by
    intro i j h1 h2 h3 h4 h5
    have m1 := h.mono (i := i) (j := j - 1) (by omega) (by omega)
    have e : x = cX l i := by omega
    have e2 : i = j - 1 := by
      by_cases e2 : i = j - 1
      · exact e2
      · have := m1.2.2 (by omega); omega
    subst e
    rw [seg_right h ⟨h1, by omega⟩]
    subst e2
    rw [seg_left]
  rcases Nat.lt_trichotomy i j with hij | hij | hij
  · exact key hi.1 hij hj.2 hx.2 hx'.1
  · rw [hij]
  · exact (key hj.1 hij hi.2 hx'.2 hx.1).symm
theorem seg_code {i : Nat} (hi : 1 ≤ i ∧ i < l.length) {x : Int} (hx : cX l (i - 1) ≤ x ∧ x ≤ cX l i) :
    (Option.bind (nz (IntKind.i64.wrap (cX l i - cX l (i - 1)))) fun _ => Option.bind (some (IntKind.i64.wrap (cY l (i - 1) + IntKind.i64.wrap (Int.tdiv (IntKind.i64.wrap (IntKind.i64.wrap (cY l i - cY l (i - 1)) * IntKind.i64.wrap (x - cX l (i - 1)))) (IntKind.i64.wrap (cX l i - cX l (i - 1))))))) fun x3 => some x3) = some (seg l i x) := by
  obtain ⟨s1, s2⟩ := h.step (i - 1) (by omega)
  rw [show i - 1 + 1 = i by omega] at s1 s2
  have b1 := h.bd hi.2
  have b2 := h.bd (i := i - 1) (by omega)
  have sf := seg_facts h hi hx
  unfold seg at sf ⊢
  have h0 : 0 ≤ (cY l i - cY l (i - 1)) * (x - cX l (i - 1)) := Int.mul_nonneg (by omega) (by omega)
  have h2 := mul_in (a := 65535) (b := 65535) (x := cY l i - cY l (i - 1)) (y := x - cX l (i - 1)) (by omega) (by omega)
  rw [w64 (x := cX l i - cX l (i - 1)) (by omega), w64 (x := cY l i - cY l (i - 1)) (by omega), w64 (x := x - cX l (i - 1)) (by omega), w64 (x := (cY l i - cY l (i - 1)) * (x - cX l (i - 1))) (by omega)]
  rw [Int.tdiv_eq_ediv_of_nonneg h0, w64 (x := _ / _) (by omega), w64 (by omega), nz_eq (by omega)]
  rfl
theorem search_l1 (N : Nat) (x : Int) (kk) : ∀ (d i j fuel : Nat), j - i ≤ d → i ≤ j → j ≤ l.length → d < fuel → (∀ k, k < i → cX l k ≤ x) → (∀ k, j ≤ k → k < l.length → x < cX l k) →
    ∃ r : Nat, r ≤ l.length ∧ (∀ k, k < r → cX l k ≤ x) ∧ (∀ k, r ≤ k → k < l.length → x < cX l k) ∧ D_sort_Search__tone_on_1_l1 N l x kk fuel ((i : Int), (j : Int)) = kk ((r : Int), (r : Int)) := by
  have hlen := h.len
  intro d
  induction d with
  | zero =>
    intro i j fuel hd hij hj hf h1 h2
    obtain ⟨fuel, rfl⟩ : ∃ m, fuel = m + 1 := ⟨fuel - 1, by omega⟩
    obtain rfl : i = j := by omega
    refine ⟨i, hj, h1, h2, ?_⟩
    unfold D_sort_Search__tone_on_1_l1
    rw [cF (dF (by omega))]
  | succ d ih =>
    intro i j fuel hd hij hj hf h1 h2
    obtain ⟨fuel, rfl⟩ : ∃ m, fuel = m + 1 := ⟨fuel - 1, by omega⟩
    by_cases hlt : i < j
    · unfold D_sort_Search__tone_on_1_l1
      have hh : IntKind.i64.wrap (shrI .u64 (IntKind.u64.wrap (IntKind.i64.wrap ((i : Int) + j))) 1) = (((i + j) / 2 : Nat) : Int) := by
        rw [w64 (x := (i : Int) + j) (by omega), IntWalk.u64_in _ (by omega)]
        have : shrI .u64 ((i : Int) + j) 1 = ((i : Int) + j) / 2 := by
          unfold shrI
          exact Int.fdiv_eq_ediv_of_nonneg _ (by decide)
        rw [this, w64 (by omega)]
        omega
      rw [cT (dT (by omega)), hh, bsome]
      obtain ⟨m, hm⟩ : ∃ m, (i + j) / 2 = m := ⟨_, rfl⟩
      have hm1 : i ≤ m ∧ m < j := by omega
      rw [hm]
      unfold D_tone_on_1
      rw [idx_getD l (show m < l.length by omega), bsome, bsome]
      by_cases hc : x < cX l m
      · rw [cF (by simp only [cX] at hc; rw [dT hc]; rfl)]
        exact ih i m fuel (by omega) (by omega) (by omega) (by omega) h1 fun k hk hk' => by
          have := (h.mono hk hk').1; omega
      · rw [cT (by simp only [cX] at hc; rw [dF hc]; rfl), bsome, w64 (by omega)]
        exact ih (m + 1) j fuel (by omega) (by omega) (by omega) (by omega) (fun k hk => by
          have := (h.mono (i := k) (j := m) (by omega) (by omega)).1; omega) h2
    · obtain rfl : i = j := by omega
      refine ⟨i, hj, h1, h2, ?_⟩
      unfold D_sort_Search__tone_on_1_l1
      rw [cF (dF (by omega))]
/-- What the code tells at a place. -/
theorem on_eq (N : Nat) (hN : 5000 ≤ N) {x : Int} (hx : 0 ≤ x ∧ x ≤ 65535) : ∃ i, (1 ≤ i ∧ i < l.length) ∧ (cX l (i - 1) ≤ x ∧ x ≤ cX l i) ∧ D_tone_on N l x = some (seg l i x) := by
  have hlen := h.len
  have hx0 := h.x0
  have hxn := h.xn
  unfold D_tone_on D_sort_Search__tone_on_1
  obtain ⟨r, hr, h1, h2, e⟩ := search_l1 h N x (fun (i4, j2) => some i4) l.length 0 l.length N (by omega) (by omega) (Nat.le_refl _) (by omega) (fun k hk => by omega) (fun k hk hk' => by omega)
  have e' : D_sort_Search__tone_on_1_l1 N l x (fun (i4, j2) => some i4) N (0, (l.length : Int)) = some (r : Int) := e
  have hr1 : 1 ≤ r := by
    by_cases h0 : r = 0
    · have := h2 0 (by omega) (by omega); omega
    · omega
  rw [e', bsome]
  have il := idx_last l (by omega)
  by_cases hn : r = l.length
  · subst hn
    rw [cT (dT rfl), il, bsome]
    have hle := h1 (l.length - 1) (by omega)
    have hxe : x = cX l (l.length - 1) := by omega
    have hm := (h.mono (i := l.length - 1 - 1) (j := l.length - 1) (by omega) (by omega)).1
    refine ⟨l.length - 1, by omega, by omega, ?_⟩
    rw [hxe, seg_right h (by omega)]
    rfl
  · rw [cF (dF (by omega)), w64 (x := (r : Int) - 1) (by omega), show (r : Int) - 1 = ((r - 1 : Nat) : Int) by omega, idx_getD l (show r - 1 < l.length by omega), idx_getD l (show r < l.length by omega), bsome, bsome]
    have hx' : cX l (r - 1) ≤ x ∧ x ≤ cX l r := ⟨h1 _ (by omega), by have := h2 r (Nat.le_refl _) (by omega); omega⟩
    exact ⟨r, by omega, hx', seg_code h (by omega) hx'⟩
theorem onCurve_l1 (N : Nat) {x : Int} (hx : 0 ≤ x ∧ x ≤ 65535) (kk) : ∀ (d i fuel : Nat), i + d = l.length → d ≤ fuel → 1 ≤ i → i < l.length → (cX l (i - 1) ≤ x) →
    ∃ r : Nat, (1 ≤ r ∧ r < l.length) ∧ (cX l (r - 1) ≤ x ∧ x ≤ cX l r) ∧ D_darkslideref_OnCurve_l1 N l x kk fuel (i : Int) = kk (r : Int) := by
  have hlen := h.len
  have hxn := h.xn
  intro d
  induction d with
  | zero => intro i fuel hd hf h1 h2 h3; omega
  | succ d ih =>
    intro i fuel hd hf h1 h2 h3
    obtain ⟨fuel, rfl⟩ : ∃ m, fuel = m + 1 := ⟨fuel - 1, by omega⟩
    unfold D_darkslideref_OnCurve_l1
    rw [idx_getD l h2, bsome]
    by_cases hc : cX l i < x
    · rw [cT (by simp only [cX] at hc; rw [dT hc]), bsome, w64 (by omega)]
      have hne : i ≠ l.length - 1 := fun e => by rw [e] at hc; omega
      exact ih (i + 1) fuel (by omega) (by omega) (by omega) (by omega) (by show cX l i ≤ x; omega)
    · rw [cF (by simp only [cX] at hc; rw [dF hc])]
      exact ⟨i, ⟨h1, h2⟩, ⟨h3, by omega⟩, rfl⟩
theorem onCurve_eq (N : Nat) (hN : 5000 ≤ N) {x : Int} (hx : 0 ≤ x ∧ x ≤ 65535) : ∃ i, (1 ≤ i ∧ i < l.length) ∧ (cX l (i - 1) ≤ x ∧ x ≤ cX l i) ∧ D_darkslideref_OnCurve N l x = some (seg l i x) := by
  have hlen := h.len
  unfold D_darkslideref_OnCurve
  obtain ⟨r, hr, hx', e⟩ := onCurve_l1 h N hx (fun i4 => Option.bind (idx l (IntKind.i64.wrap (i4 - 1))) fun e3 =>
    Option.bind (idx l i4) fun e4 => Option.bind (nz (IntKind.i64.wrap (e4.1 - e3.1))) fun _ =>
    Option.bind (some (IntKind.i64.wrap (e3.2 + (IntKind.i64.wrap (Int.tdiv (IntKind.i64.wrap ((IntKind.i64.wrap (e4.2 - e3.2)) * (IntKind.i64.wrap (x - e3.1)))) (IntKind.i64.wrap (e4.1 - e3.1))))))) fun x3 => some x3) (l.length - 1) 1 N (by omega) (by omega) (by omega) (by omega) (by show cX l 0 ≤ x; rw [h.x0]; exact hx.1)
  refine ⟨r, hr, hx', e.trans ?_⟩
  rw [w64 (x := (r : Int) - 1) (by omega), show (r : Int) - 1 = ((r - 1 : Nat) : Int) by omega, idx_getD l (show r - 1 < l.length by omega), idx_getD l (show r < l.length by omega), bsome, bsome]
  exact seg_code h hr hx'
end
end Go.Proofs.Ytpmnfhifmmfglaa
