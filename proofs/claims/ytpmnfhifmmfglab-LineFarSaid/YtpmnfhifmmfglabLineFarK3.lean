/- Texts of the claim LineFar, joined: PMixE, PCurve, PEachB, PBendE, PEachS, PSharp, PLine, PWhole, PLoc, PStrips, PLineB, PChoose, PFarLaw, D7, D8, D9, Facts, WLawChoose, WLawLine2, WLawPlain, WLawTall, WApi. -/
import Derived.Laws.CopyRow
import Derived.Laws.IdiomCopy
import Derived.Lib.SliceRun
import Derived.LoopN
import Derived.Test.YtpmnfhifmmfglabChecked
import Derived.WalkSpells
import Derived.Test.YtpmnfhifmmfglabLineFarK1
import Derived.Test.YtpmnfhifmmfglabLineFarK2
set_option linter.unusedVariables false
set_option linter.unusedSimpArgs false
set_option linter.unusedSectionVars false
namespace Go.Proofs.Ytpmnfhifmmfglab
open Go
def okM (m : Int) : Bool := decide (-32768 ≤ m ∧ m ≤ 32768)
section
variable (N : Nat) (m0 m1 m2 m3 m4 m5 m6 m7 m8 : Int)
theorem mix_l1 (kk) : ∀ (d k fuel : Nat) (b : Bool), k + d = 9 → d < fuel →
    D_tone_Mix_l1 N m0 m1 m2 m3 m4 m5 m6 m7 m8 kk fuel (b, (k : Int)) = kk (b && ([m0, m1, m2, m3, m4, m5, m6, m7, m8].drop k).all okM, 9) := by
  intro d
  induction d with
  | zero =>
    intro k fuel b hk hf
    obtain ⟨fuel, rfl⟩ : ∃ m, fuel = m + 1 := ⟨fuel - 1, by omega⟩
    obtain rfl : k = 9 := by omega
    unfold D_tone_Mix_l1
    rw [cF (dF (by omega))]
    simp
  | succ d ih =>
    intro k fuel b hk hf
    obtain ⟨fuel, rfl⟩ : ∃ m, fuel = m + 1 := ⟨fuel - 1, by omega⟩
    have hlt : k < [m0, m1, m2, m3, m4, m5, m6, m7, m8].length := by show k < 9; omega
    unfold D_tone_Mix_l1
    rw [cT (dT (by omega)), idx_nat, List.getElem?_eq_getElem hlt, bsome, w64 (by omega), List.drop_eq_getElem_cons hlt, List.all_cons]
    obtain ⟨e, he⟩ : ∃ e, [m0, m1, m2, m3, m4, m5, m6, m7, m8][k] = e := ⟨_, rfl⟩
    rw [he]
    have key : ∀ c, D_tone_Mix_l1 N m0 m1 m2 m3 m4 m5 m6 m7 m8 kk fuel (c, (k : Int) + 1) = kk (c && ([m0, m1, m2, m3, m4, m5, m6, m7, m8].drop (k + 1)).all okM, 9) := fun c => ih (k + 1) fuel c (by omega) (by omega)
    rw [key, key]
    cases b
    · rfl
    · rw [cond_true]
      by_cases h1 : -32768 ≤ e
      · rw [cT (dT h1), okM]
        by_cases h2 : e ≤ 32768
        · rw [dT h2, dT ⟨h1, h2⟩]; simp
        · rw [dF h2, dF (fun h => h2 h.2)]; simp
      · rw [cF (dF h1), okM, dF (fun h => h1 h.1)]; simp
def mixAll : Bool := [m0, m1, m2, m3, m4, m5, m6, m7, m8].all okM
/-- One part of a mixed pixel, as the code makes it. -/
def mix1 (a b c : Int) (p : Px) : Int := max 0 (min (shrI .i64 (IntKind.i64.wrap (IntKind.i64.wrap (IntKind.i64.wrap (a * p.1) + IntKind.i64.wrap (b * p.2.1)) + IntKind.i64.wrap (c * p.2.2))) 12) 65535)
def mixP (p : Px) : Px := (mix1 m0 m1 m2 p, mix1 m3 m4 m5 p, mix1 m6 m7 m8 p)
theorem mix_2 (p : Px) (x y : Int) : D_tone_Mix_2 N p.1 p.2.1 p.2.2 x y m0 m1 m2 m3 m4 m5 m6 m7 m8 = some (mixP m0 m1 m2 m3 m4 m5 m6 m7 m8 p) := rfl
theorem mix_eq (hN : 5000 ≤ N) (W H : Int) (P : List Px) : D_tone_Mix N W H P m0 m1 m2 m3 m4 m5 m6 m7 m8 =
    some (if picF W H P = false then (0, 0, [], 1) else if mixAll m0 m1 m2 m3 m4 m5 m6 m7 m8 = false then (0, 0, [], 3) else (W, H, (List.range P.length).map (fun i => mixP m0 m1 m2 m3 m4 m5 m6 m7 m8 (P.getD i px0)), 0)) := by
  unfold D_tone_Mix
  refine (mix_l1 N m0 m1 m2 m3 m4 m5 m6 m7 m8 _ 9 0 N true (by omega) (by omega)).trans ?_
  rw [List.drop_zero, ← mixAll, Bool.true_and]
  cases hp : picF W H P
  · simp only [eachM_no N hN m0 m1 m2 m3 m4 m5 m6 m7 m8 hp, bsome]
    rw [cF (by decide)]; rfl
  · have hs := picF_side hp
    obtain ⟨W, rfl⟩ : ∃ n : Nat, W = n := ⟨W.toNat, by have := hs.1; omega⟩
    obtain ⟨H, rfl⟩ : ∃ n : Nat, H = n := ⟨H.toNat, by have := hs.2.2.1; omega⟩
    have := eachM_eq N hN m0 m1 m2 m3 m4 m5 m6 m7 m8 hp (fun i => mixP m0 m1 m2 m3 m4 m5 m6 m7 m8 (P.getD i px0)) (fun i p hi => by rw [mix_2, List.getD_eq_getElem?_getD, hi]; rfl)
    simp only [this, bsome]
    rw [cT (by rfl), if_neg (by simp)]
    cases mixAll m0 m1 m2 m3 m4 m5 m6 m7 m8 <;> rfl
end
end Go.Proofs.Ytpmnfhifmmfglab

namespace Go.Proofs.Ytpmnfhifmmfglab
open Go
abbrev Pt := Int × Int
def cX (l : List Pt) (i : Nat) : Int := (l.getD i (0, 0)).1
def cY (l : List Pt) (i : Nat) : Int := (l.getD i (0, 0)).2
def stepOK (l : List Pt) (i : Nat) : Prop := cX l i < cX l (i + 1) ∧ cY l i ≤ cY l (i + 1)
structure curveP (l : List Pt) : Prop where
  len : 2 ≤ l.length ∧ l.length ≤ 16
  x0 : cX l 0 = 0
  xn : cX l (l.length - 1) = 65535
  y0 : 0 ≤ cY l 0
  yn : cY l (l.length - 1) ≤ 65535
  step : ∀ i, i + 1 < l.length → stepOK l i
theorem idx_getD (l : List Pt) {k : Nat} (h : k < l.length) : idx l (k : Int) = some (l.getD k (0, 0)) := by
  rw [idx_nat, List.getD_eq_getElem?_getD, List.getElem?_eq_getElem h]; rfl
theorem idx_last (l : List Pt) (h : 1 ≤ l.length ∧ l.length ≤ 1000000) : idx l (IntKind.i64.wrap ((l.length : Int) - 1)) = some (l.getD (l.length - 1) (0, 0)) := by
  rw [w64 (by omega), show (l.length : Int) - 1 = ((l.length - 1 : Nat) : Int) by omega, idx_getD l (by omega)]
theorem steps_mono {l : List Pt} {j : Nat} (h : ∀ i, i < j → stepOK l i) {i : Nat} (hij : i ≤ j) : cX l i ≤ cX l j ∧ cY l i ≤ cY l j ∧ (i < j → cX l i < cX l j) := by
  induction j with
  | zero => obtain rfl : i = 0 := by omega
            exact ⟨Int.le_refl _, Int.le_refl _, fun h => by omega⟩
  | succ j ih =>
    by_cases e : i = j + 1
    · subst e; exact ⟨Int.le_refl _, Int.le_refl _, fun h => by omega⟩
    · obtain ⟨a, b, _⟩ := ih (fun i hi => h i (by omega)) (by omega)
      obtain ⟨c, d⟩ := h j (by omega)
      exact ⟨by omega, by omega, fun _ => by omega⟩
theorem curveP.mono {l : List Pt} (h : curveP l) {i j : Nat} (hij : i ≤ j) (hj : j < l.length) : cX l i ≤ cX l j ∧ cY l i ≤ cY l j ∧ (i < j → cX l i < cX l j) := steps_mono (fun i hi => h.step i (by omega)) hij
theorem curveP.bd {l : List Pt} (h : curveP l) {i : Nat} (hi : i < l.length) : 0 ≤ cX l i ∧ cX l i ≤ 65535 ∧ 0 ≤ cY l i ∧ cY l i ≤ 65535 := by
  obtain ⟨a, b, _⟩ := h.mono (i := 0) (j := i) (by omega) hi
  obtain ⟨c, d, _⟩ := h.mono (i := i) (j := l.length - 1) (by omega) (by omega)
  have := h.x0
  have := h.xn
  have := h.y0
  have := h.yn
  omega
theorem right_l1 (N : Nat) (l l2 : List Pt) (hl : l2.length + 1 = l.length) (hb : l.length ≤ 16) : ∀ (d k fuel : Nat), k + d = l2.length → d < fuel →
    ∃ b, D_tone_right_l1 N l l2 (fun _ => some true) fuel (k : Int) = some b ∧ (b = true ↔ ∀ i, k ≤ i → i + 1 < l.length → stepOK l i) := by
  intro d
  induction d with
  | zero =>
    intro k fuel hk hf
    obtain ⟨fuel, rfl⟩ : ∃ m, fuel = m + 1 := ⟨fuel - 1, by omega⟩
    refine ⟨true, ?_, by simp only [true_iff]; intro i h1 h2; omega⟩
    unfold D_tone_right_l1
    rw [cF (dF (by omega))]
  | succ d ih =>
    intro k fuel hk hf
    obtain ⟨fuel, rfl⟩ : ∃ m, fuel = m + 1 := ⟨fuel - 1, by omega⟩
    unfold D_tone_right_l1
    rw [cT (dT (by omega)), w64 (by omega), show (k : Int) + 1 = ((k + 1 : Nat) : Int) by omega]
    simp only [idx_getD l (show k < l.length by omega), idx_getD l (show k + 1 < l.length by omega), bsome]
    by_cases h1 : (l.getD (k + 1) (0, 0)).1 ≤ (l.getD k (0, 0)).1
    · rw [cT (dT h1)]
      refine ⟨false, rfl, by simp only [Bool.false_eq_true, false_iff]; intro h; have := (h k (Nat.le_refl _) (by omega)).1; simp only [cX] at this; omega⟩
    rw [cF (dF h1)]
    by_cases h2 : (l.getD (k + 1) (0, 0)).2 < (l.getD k (0, 0)).2
    · rw [cT (dT h2)]
      refine ⟨false, rfl, by simp only [Bool.false_eq_true, false_iff]; intro h; have := (h k (Nat.le_refl _) (by omega)).2; simp only [cY] at this; omega⟩
    rw [cF (dF h2)]
    obtain ⟨b, e, hb'⟩ := ih (k + 1) fuel (by omega) (by omega)
    refine ⟨b, e, hb'.trans ⟨fun h i hi hn => ?_, fun h i hi hn => h i (by omega) hn⟩⟩
    by_cases hik : i = k
    · subst hik; exact ⟨by simp only [cX]; omega, by simp only [cY]; omega⟩
    · exact h i (by omega) hn
theorem right_eq (N : Nat) (l : List Pt) (hN : 5000 ≤ N) : ∃ b, D_tone_right N l = some b ∧ (b = true ↔ curveP l) := by
  unfold D_tone_right
  by_cases h1 : (l.length : Int) < 2
  · rw [cT (dT h1)]; exact ⟨false, rfl, by simp only [Bool.false_eq_true, false_iff]; intro h; have := h.len; omega⟩
  rw [cF (dF h1)]
  by_cases h2 : 16 < (l.length : Int)
  · rw [cT (dT h2)]; exact ⟨false, rfl, by simp only [Bool.false_eq_true, false_iff]; intro h; have := h.len; omega⟩
  rw [cF (dF h2)]
  have i0 : idx l 0 = some (l.getD 0 (0, 0)) := idx_getD l (k := 0) (by omega)
  have il := idx_last l (by omega)
  simp only [i0, il, bsome]
  by_cases h3 : cX l 0 = 0
  rotate_left
  · rw [cT (by simp only [cX] at h3; rw [dF h3]; rfl)]; exact ⟨false, rfl, by simp only [Bool.false_eq_true, false_iff]; intro h; exact h3 h.x0⟩
  rw [cF (by simp only [cX] at h3; rw [dT h3]; rfl)]
  by_cases h4 : cX l (l.length - 1) = 65535
  rotate_left
  · rw [cT (by simp only [cX] at h4; rw [dF h4]; rfl)]; exact ⟨false, rfl, by simp only [Bool.false_eq_true, false_iff]; intro h; exact h4 h.xn⟩
  rw [cF (by simp only [cX] at h4; rw [dT h4]; rfl)]
  by_cases h5 : (l.getD 0 (0, 0)).2 < 0
  · rw [cT (dT h5)]; exact ⟨false, rfl, by simp only [Bool.false_eq_true, false_iff]; intro h; have := h.y0; simp only [cY] at this; omega⟩
  rw [cF (dF h5)]
  by_cases h6 : 65535 < (l.getD (l.length - 1) (0, 0)).2
  · rw [cT (dT h6)]; exact ⟨false, rfl, by simp only [Bool.false_eq_true, false_iff]; intro h; have := h.yn; simp only [cY] at this; omega⟩
  rw [cF (dF h6), sli_eq (by omega), bsome]
  obtain ⟨b, e, hb⟩ := right_l1 N l ((l.take (l.length : Int).toNat).drop (1 : Int).toNat) (by simp; omega) (by omega) (l.length - 1) 0 N (by simp) (by omega)
  refine ⟨b, e, hb.trans ⟨fun h => ⟨by omega, h3, h4, by simp only [cY]; omega, by simp only [cY]; omega, fun i hi => h i (Nat.zero_le _) hi⟩, fun h i _ hi => h.step i hi⟩⟩
theorem curveFine_l1 (N : Nat) (l : List Pt) (hb : l.length ≤ 16) : ∀ (d k fuel : Nat), k + d = l.length → d < fuel →
    ∃ b, D_darkslideref_CurveFine_l1 N l (fun _ => some true) fuel (k : Int) = some b ∧ (b = true ↔ ∀ i, k ≤ i → i < l.length → (0 ≤ cY l i ∧ cY l i ≤ 65535) ∧ (0 < i → stepOK l (i - 1))) := by
  intro d
  induction d with
  | zero =>
    intro k fuel hk hf
    obtain ⟨fuel, rfl⟩ : ∃ m, fuel = m + 1 := ⟨fuel - 1, by omega⟩
    refine ⟨true, ?_, by simp only [true_iff]; intro i h1 h2; omega⟩
    unfold D_darkslideref_CurveFine_l1
    rw [cF (dF (by omega))]
  | succ d ih =>
    intro k fuel hk hf
    obtain ⟨fuel, rfl⟩ : ∃ m, fuel = m + 1 := ⟨fuel - 1, by omega⟩
    have no : ∀ {Q : Prop}, ¬ Q → ∃ b, some false = some b ∧ (b = true ↔ Q) := fun h => ⟨false, rfl, by simp [h]⟩
    unfold D_darkslideref_CurveFine_l1
    rw [cT (dT (by omega)), idx_getD l (show k < l.length by omega), bsome, within_eq, bsome]
    obtain ⟨b, e, hb'⟩ := ih (k + 1) fuel (by omega) (by omega)
    by_cases h1 : 0 ≤ cY l k ∧ cY l k ≤ 65535
    rotate_left
    · rw [cT (by simp only [cY] at h1; rw [dF h1]; rfl)]
      exact no fun h => h1 (h k (Nat.le_refl _) (by omega)).1
    rw [cF (by simp only [cY] at h1; rw [dT h1]; rfl)]
    by_cases h2 : 0 < k
    · rw [cT (dT (by omega)), bsome, w64 (x := (k : Int) - 1) (by omega), show (k : Int) - 1 = ((k - 1 : Nat) : Int) by omega, idx_getD l (show k - 1 < l.length by omega)]
      simp only [bsome]
      have hk1 : k - 1 + 1 = k := by omega
      by_cases h3 : (l.getD k (0, 0)).1 ≤ (l.getD (k - 1) (0, 0)).1
      · rw [cT (dT h3)]
        exact no fun h => by have := ((h k (Nat.le_refl _) (by omega)).2 h2).1; rw [hk1] at this; simp only [cX] at this; omega
      rw [cF (dF h3)]
      by_cases h4 : (l.getD k (0, 0)).2 < (l.getD (k - 1) (0, 0)).2
      · rw [cT (dT h4)]
        exact no fun h => by have := ((h k (Nat.le_refl _) (by omega)).2 h2).2; rw [hk1] at this; simp only [cY] at this; omega
      rw [cF (dF h4), w64 (by omega)]
      refine ⟨b, e, hb'.trans ⟨fun h i hi hn => ?_, fun h i hi hn => h i (by omega) hn⟩⟩
      by_cases hik : i = k
      · subst hik; exact ⟨h1, fun _ => ⟨by rw [hk1]; simp only [cX]; omega, by rw [hk1]; simp only [cY]; omega⟩⟩
      · exact h i (by omega) hn
    · rw [cF (dF (by omega)), bsome, w64 (by omega)]
      refine ⟨b, e, hb'.trans ⟨fun h i hi hn => ?_, fun h i hi hn => h i (by omega) hn⟩⟩
      by_cases hik : i = k
      · subst hik; exact ⟨h1, fun h => absurd h h2⟩
      · exact h i (by omega) hn
theorem curveFine_eq (N : Nat) (l : List Pt) (hN : 5000 ≤ N) : ∃ b, D_darkslideref_CurveFine N l = some b ∧ (b = true ↔ curveP l) := by
  unfold D_darkslideref_CurveFine
  have no : ∀ {Q : Prop}, ¬ Q → ∃ b, some false = some b ∧ (b = true ↔ Q) := fun h => ⟨false, rfl, by simp [h]⟩
  rw [within_eq, bsome]
  by_cases h1 : (2 : Int) ≤ l.length ∧ (l.length : Int) ≤ 16
  rotate_left
  · rw [cT (by rw [dF h1]; rfl)]
    exact no fun h => h1 (by have := h.len; omega)
  rw [cF (by rw [dT h1]; rfl)]
  have i0 : idx l 0 = some (l.getD 0 (0, 0)) := idx_getD l (k := 0) (by omega)
  have il := idx_last l (by omega)
  simp only [i0, il, bsome]
  by_cases h3 : cX l 0 = 0
  rotate_left
  · rw [cT (by simp only [cX] at h3; rw [dF h3]; rfl)]; exact no fun h => h3 h.x0
  rw [cF (by simp only [cX] at h3; rw [dT h3]; rfl)]
  by_cases h4 : cX l (l.length - 1) = 65535
  rotate_left
  · rw [cT (by simp only [cX] at h4; rw [dF h4]; rfl)]; exact no fun h => h4 h.xn
  rw [cF (by simp only [cX] at h4; rw [dT h4]; rfl)]
  obtain ⟨b, e, hb⟩ := curveFine_l1 N l (by omega) l.length 0 N (by omega) (by omega)
  refine ⟨b, e, hb.trans ⟨fun h => ⟨by omega, h3, h4, (h 0 (Nat.le_refl _) (by omega)).1.1, (h (l.length - 1) (Nat.zero_le _) (by omega)).1.2, fun i hi => (h (i + 1) (Nat.zero_le _) hi).2 (by omega)⟩, fun h i _ hi => ⟨(h.bd hi).2.2, fun h0 => h.step (i - 1) (by omega)⟩⟩⟩
/-- What stands between two points. -/
def seg (l : List Pt) (i : Nat) (x : Int) : Int := cY l (i - 1) + ((cY l i - cY l (i - 1)) * (x - cX l (i - 1))) / (cX l i - cX l (i - 1))
section
variable {l : List Pt}
theorem seg_left {i : Nat} : seg l i (cX l (i - 1)) = cY l (i - 1) := by
  unfold seg
  rw [Int.sub_self, Int.mul_zero, Int.zero_ediv, Int.add_zero]
variable (h : curveP l)
include h
theorem seg_facts {i : Nat} (hi : 1 ≤ i ∧ i < l.length) {x : Int} (hx : cX l (i - 1) ≤ x ∧ x ≤ cX l i) : cY l (i - 1) ≤ seg l i x ∧ seg l i x ≤ cY l i := by
  obtain ⟨s1, s2⟩ := h.step (i - 1) (by omega)
  rw [show i - 1 + 1 = i by omega] at s1 s2
  unfold seg
  have h0 : 0 ≤ (cY l i - cY l (i - 1)) * (x - cX l (i - 1)) := Int.mul_nonneg (by omega) (by omega)
  have h1 := Int.ediv_nonneg h0 (show 0 ≤ cX l i - cX l (i - 1) by omega)
  have h2 : (cY l i - cY l (i - 1)) * (x - cX l (i - 1)) ≤ (cY l i - cY l (i - 1)) * (cX l i - cX l (i - 1)) := Int.mul_le_mul_of_nonneg_left (by omega) (by omega)
  have h3 := Int.ediv_le_of_le_mul (show 0 < cX l i - cX l (i - 1) by omega) h2
  omega
theorem seg_right {i : Nat} (hi : 1 ≤ i ∧ i < l.length) : seg l i (cX l i) = cY l i := by
  obtain ⟨s1, s2⟩ := h.step (i - 1) (by omega)
  rw [show i - 1 + 1 = i by omega] at s1 s2
  unfold seg
  rw [Int.mul_ediv_cancel _ (by omega)]
  omega
/-- Whichever part a place is in, the same comes. -/
theorem seg_one {i j : Nat} (hi : 1 ≤ i ∧ i < l.length) (hj : 1 ≤ j ∧ j < l.length) {x : Int} (hx : cX l (i - 1) ≤ x ∧ x ≤ cX l i) (hx' : cX l (j - 1) ≤ x ∧ x ≤ cX l j) : seg l i x = seg l j x := by
  have key : ∀ {i j : Nat}, 1 ≤ i → i < j → j < l.length → x ≤ cX l i → cX l (j - 1) ≤ x → seg l i x = seg l j x := by
    intro i j h1 h2 h3 h4 h5
    have m1 := h.mono (i := i) (j := j - 1) (by omega) (by omega)
    have e : x = cX l i := by omega
    have e2 : i = j - 1 := by
      by_cases e2 : i = j - 1
      · exact e2
      · have := m1.2.2 (by omega); omega
    subst e
    rw [seg_right h ⟨h1, by omega⟩]
    subst e2
    rw [seg_left]
  rcases Nat.lt_trichotomy i j with hij | hij | hij
  · exact key hi.1 hij hj.2 hx.2 hx'.1
  · rw [hij]
  · exact (key hj.1 hij hi.2 hx'.2 hx.1).symm
theorem seg_code {i : Nat} (hi : 1 ≤ i ∧ i < l.length) {x : Int} (hx : cX l (i - 1) ≤ x ∧ x ≤ cX l i) :
    (Option.bind (nz (IntKind.i64.wrap (cX l i - cX l (i - 1)))) fun _ => Option.bind (some (IntKind.i64.wrap (cY l (i - 1) + IntKind.i64.wrap (Int.tdiv (IntKind.i64.wrap (IntKind.i64.wrap (cY l i - cY l (i - 1)) * IntKind.i64.wrap (x - cX l (i - 1)))) (IntKind.i64.wrap (cX l i - cX l (i - 1))))))) fun x3 => some x3) = some (seg l i x) := by
  obtain ⟨s1, s2⟩ := h.step (i - 1) (by omega)
  rw [show i - 1 + 1 = i by omega] at s1 s2
  have b1 := h.bd hi.2
  have b2 := h.bd (i := i - 1) (by omega)
  have sf := seg_facts h hi hx
  unfold seg at sf ⊢
  have h0 : 0 ≤ (cY l i - cY l (i - 1)) * (x - cX l (i - 1)) := Int.mul_nonneg (by omega) (by omega)
  have h2 := mul_in (a := 65535) (b := 65535) (x := cY l i - cY l (i - 1)) (y := x - cX l (i - 1)) (by omega) (by omega)
  rw [w64 (x := cX l i - cX l (i - 1)) (by omega), w64 (x := cY l i - cY l (i - 1)) (by omega), w64 (x := x - cX l (i - 1)) (by omega), w64 (x := (cY l i - cY l (i - 1)) * (x - cX l (i - 1))) (by omega)]
  rw [Int.tdiv_eq_ediv_of_nonneg h0, w64 (x := _ / _) (by omega), w64 (by omega), nz_eq (by omega)]
  rfl
theorem search_l1 (N : Nat) (x : Int) (kk) : ∀ (d i j fuel : Nat), j - i ≤ d → i ≤ j → j ≤ l.length → d < fuel → (∀ k, k < i → cX l k ≤ x) → (∀ k, j ≤ k → k < l.length → x < cX l k) →
    ∃ r : Nat, r ≤ l.length ∧ (∀ k, k < r → cX l k ≤ x) ∧ (∀ k, r ≤ k → k < l.length → x < cX l k) ∧ D_sort_Search__tone_on_1_l1 N l x kk fuel ((i : Int), (j : Int)) = kk ((r : Int), (r : Int)) := by
  have hlen := h.len
  intro d
  induction d with
  | zero =>
    intro i j fuel hd hij hj hf h1 h2
    obtain ⟨fuel, rfl⟩ : ∃ m, fuel = m + 1 := ⟨fuel - 1, by omega⟩
    obtain rfl : i = j := by omega
    refine ⟨i, hj, h1, h2, ?_⟩
    unfold D_sort_Search__tone_on_1_l1
    rw [cF (dF (by omega))]
  | succ d ih =>
    intro i j fuel hd hij hj hf h1 h2
    obtain ⟨fuel, rfl⟩ : ∃ m, fuel = m + 1 := ⟨fuel - 1, by omega⟩
    by_cases hlt : i < j
    · unfold D_sort_Search__tone_on_1_l1
      have hh : IntKind.i64.wrap (shrI .u64 (IntKind.u64.wrap (IntKind.i64.wrap ((i : Int) + j))) 1) = (((i + j) / 2 : Nat) : Int) := by
        rw [w64 (x := (i : Int) + j) (by omega), IntWalk.u64_in _ (by omega)]
        have : shrI .u64 ((i : Int) + j) 1 = ((i : Int) + j) / 2 := by
          unfold shrI
          exact Int.fdiv_eq_ediv_of_nonneg _ (by decide)
        rw [this, w64 (by omega)]
        omega
      rw [cT (dT (by omega)), hh, bsome]
      obtain ⟨m, hm⟩ : ∃ m, (i + j) / 2 = m := ⟨_, rfl⟩
      have hm1 : i ≤ m ∧ m < j := by omega
      rw [hm]
      unfold D_tone_on_1
      rw [idx_getD l (show m < l.length by omega), bsome, bsome]
      by_cases hc : x < cX l m
      · rw [cF (by simp only [cX] at hc; rw [dT hc]; rfl)]
        exact ih i m fuel (by omega) (by omega) (by omega) (by omega) h1 fun k hk hk' => by
          have := (h.mono hk hk').1; omega
      · rw [cT (by simp only [cX] at hc; rw [dF hc]; rfl), bsome, w64 (by omega)]
        exact ih (m + 1) j fuel (by omega) (by omega) (by omega) (by omega) (fun k hk => by
          have := (h.mono (i := k) (j := m) (by omega) (by omega)).1; omega) h2
    · obtain rfl : i = j := by omega
      refine ⟨i, hj, h1, h2, ?_⟩
      unfold D_sort_Search__tone_on_1_l1
      rw [cF (dF (by omega))]
/-- What the code tells at a place. -/
theorem on_eq (N : Nat) (hN : 5000 ≤ N) {x : Int} (hx : 0 ≤ x ∧ x ≤ 65535) : ∃ i, (1 ≤ i ∧ i < l.length) ∧ (cX l (i - 1) ≤ x ∧ x ≤ cX l i) ∧ D_tone_on N l x = some (seg l i x) := by
  have hlen := h.len
  have hx0 := h.x0
  have hxn := h.xn
  unfold D_tone_on D_sort_Search__tone_on_1
  obtain ⟨r, hr, h1, h2, e⟩ := search_l1 h N x (fun (i4, j2) => some i4) l.length 0 l.length N (by omega) (by omega) (Nat.le_refl _) (by omega) (fun k hk => by omega) (fun k hk hk' => by omega)
  have e' : D_sort_Search__tone_on_1_l1 N l x (fun (i4, j2) => some i4) N (0, (l.length : Int)) = some (r : Int) := e
  have hr1 : 1 ≤ r := by
    by_cases h0 : r = 0
    · have := h2 0 (by omega) (by omega); omega
    · omega
  rw [e', bsome]
  have il := idx_last l (by omega)
  by_cases hn : r = l.length
  · subst hn
    rw [cT (dT rfl), il, bsome]
    have hle := h1 (l.length - 1) (by omega)
    have hxe : x = cX l (l.length - 1) := by omega
    have hm := (h.mono (i := l.length - 1 - 1) (j := l.length - 1) (by omega) (by omega)).1
    refine ⟨l.length - 1, by omega, by omega, ?_⟩
    rw [hxe, seg_right h (by omega)]
    rfl
  · rw [cF (dF (by omega)), w64 (x := (r : Int) - 1) (by omega), show (r : Int) - 1 = ((r - 1 : Nat) : Int) by omega, idx_getD l (show r - 1 < l.length by omega), idx_getD l (show r < l.length by omega), bsome, bsome]
    have hx' : cX l (r - 1) ≤ x ∧ x ≤ cX l r := ⟨h1 _ (by omega), by have := h2 r (Nat.le_refl _) (by omega); omega⟩
    exact ⟨r, by omega, hx', seg_code h (by omega) hx'⟩
theorem onCurve_l1 (N : Nat) {x : Int} (hx : 0 ≤ x ∧ x ≤ 65535) (kk) : ∀ (d i fuel : Nat), i + d = l.length → d ≤ fuel → 1 ≤ i → i < l.length → (cX l (i - 1) ≤ x) →
    ∃ r : Nat, (1 ≤ r ∧ r < l.length) ∧ (cX l (r - 1) ≤ x ∧ x ≤ cX l r) ∧ D_darkslideref_OnCurve_l1 N l x kk fuel (i : Int) = kk (r : Int) := by
  have hlen := h.len
  have hxn := h.xn
  intro d
  induction d with
  | zero => intro i fuel hd hf h1 h2 h3; omega
  | succ d ih =>
    intro i fuel hd hf h1 h2 h3
    obtain ⟨fuel, rfl⟩ : ∃ m, fuel = m + 1 := ⟨fuel - 1, by omega⟩
    unfold D_darkslideref_OnCurve_l1
    rw [idx_getD l h2, bsome]
    by_cases hc : cX l i < x
    · rw [cT (by simp only [cX] at hc; rw [dT hc]), bsome, w64 (by omega)]
      have hne : i ≠ l.length - 1 := fun e => by rw [e] at hc; omega
      exact ih (i + 1) fuel (by omega) (by omega) (by omega) (by omega) (by show cX l i ≤ x; omega)
    · rw [cF (by simp only [cX] at hc; rw [dF hc])]
      exact ⟨i, ⟨h1, h2⟩, ⟨h3, by omega⟩, rfl⟩
theorem onCurve_eq (N : Nat) (hN : 5000 ≤ N) {x : Int} (hx : 0 ≤ x ∧ x ≤ 65535) : ∃ i, (1 ≤ i ∧ i < l.length) ∧ (cX l (i - 1) ≤ x ∧ x ≤ cX l i) ∧ D_darkslideref_OnCurve N l x = some (seg l i x) := by
  have hlen := h.len
  unfold D_darkslideref_OnCurve
  obtain ⟨r, hr, hx', e⟩ := onCurve_l1 h N hx (fun i4 => Option.bind (idx l (IntKind.i64.wrap (i4 - 1))) fun e3 =>
    Option.bind (idx l i4) fun e4 => Option.bind (nz (IntKind.i64.wrap (e4.1 - e3.1))) fun _ =>
    Option.bind (some (IntKind.i64.wrap (e3.2 + (IntKind.i64.wrap (Int.tdiv (IntKind.i64.wrap ((IntKind.i64.wrap (e4.2 - e3.2)) * (IntKind.i64.wrap (x - e3.1)))) (IntKind.i64.wrap (e4.1 - e3.1))))))) fun x3 => some x3) (l.length - 1) 1 N (by omega) (by omega) (by omega) (by omega) (by show cX l 0 ≤ x; rw [h.x0]; exact hx.1)
  refine ⟨r, hr, hx', e.trans ?_⟩
  rw [w64 (x := (r : Int) - 1) (by omega), show (r : Int) - 1 = ((r - 1 : Nat) : Int) by omega, idx_getD l (show r - 1 < l.length by omega), idx_getD l (show r < l.length by omega), bsome, bsome]
  exact seg_code h hr hx'
end
end Go.Proofs.Ytpmnfhifmmfglab

namespace Go.Proofs.Ytpmnfhifmmfglab
open Go
theorem eachB_l1 (N : Nat) {W H : Nat} {P : List Px} (hs : sideOK W H P.length) (pts : List (Int × Int)) (g : Nat → Px) (hg : ∀ i p, P[i]? = some p → D_tone_Bend_1 N p.1 p.2.1 p.2.2 ((i % W : Nat) : Int) ((i / W : Nat) : Int) pts = some (g i)) (kk : List Px × Int → Option (Int × Int × List Px × Int)) : ∀ (d k fuel : Nat), k + d = P.length → d < fuel →
    D_tone_each__tone_Bend_1_l1 N W P pts kk fuel ((List.range k).map g ++ List.replicate (P.length - k) px0, (k : Int)) = kk ((List.range P.length).map g, (P.length : Int)) := by
  obtain ⟨h1, h2, h3, h4, h5, h6⟩ := side_nat W H P hs
  intro d
  induction d with
  | zero =>
    intro k fuel hk hf
    obtain ⟨fuel, rfl⟩ : ∃ m, fuel = m + 1 := ⟨fuel - 1, by omega⟩
    obtain rfl : k = P.length := by omega
    unfold D_tone_each__tone_Bend_1_l1
    rw [cF (dF (by omega)), Nat.sub_self, List.replicate_zero, List.append_nil]
  | succ d ih =>
    intro k fuel hk hf
    obtain ⟨fuel, rfl⟩ : ∃ m, fuel = m + 1 := ⟨fuel - 1, by omega⟩
    have hlt : k < P.length := by omega
    obtain ⟨e1, e2⟩ := tdm k (show 0 < W by omega)
    have hq : k / W < H := Nat.div_lt_of_lt_mul (by omega)
    have hq0 : (0 : Int) ≤ ((k / W : Nat) : Int) := Int.natCast_nonneg _
    unfold D_tone_each__tone_Bend_1_l1
    rw [cT (dT (by omega)), idx_nat, List.getElem?_eq_getElem hlt, bsome, nz_eq (by omega), bsome, bsome, e1, e2, w64 (x := ((k / W : Nat) : Int)) (by omega)]
    rw [hg k _ (List.getElem?_eq_getElem hlt), bsome, idx_nat, List.getElem?_eq_getElem (by simp; omega), bsome]
    rw [fill_step g px0 hlt, bsome, w64 (by omega)]
    exact ih (k + 1) fuel (by omega) (by omega)
theorem eachB_eq (N : Nat) {W H : Nat} {P : List Px} (hN : 5000 ≤ N) (pts : List (Int × Int)) (hp : picF W H P = true) (g : Nat → Px) (hg : ∀ i p, P[i]? = some p → D_tone_Bend_1 N p.1 p.2.1 p.2.2 ((i % W : Nat) : Int) ((i / W : Nat) : Int) pts = some (g i)) :
    D_tone_each__tone_Bend_1 N W H P pts = some ((W : Int), (H : Int), (List.range P.length).map g, 0) := by
  have hs := picF_side hp
  have hl := side_len hs
  obtain ⟨a, b, l, ht⟩ := take_code N W H P hN
  rw [hp, if_pos rfl] at ht
  unfold D_tone_each__tone_Bend_1
  rw [ht, bsome, cF (by rfl), bsome, mk_eq (by omega), bsome, Int.toNat_natCast]
  exact eachB_l1 N hs pts g hg _ P.length 0 N (by omega) (by omega)
theorem eachB_no (N : Nat) {W H : Int} {P : List Px} (hN : 5000 ≤ N) (pts : List (Int × Int)) (hp : picF W H P = false) : D_tone_each__tone_Bend_1 N W H P pts = some (0, 0, [], 1) := by
  obtain ⟨a, b, l, ht⟩ := take_code N W H P hN
  rw [hp] at ht
  unfold D_tone_each__tone_Bend_1
  rw [ht]
  rfl
end Go.Proofs.Ytpmnfhifmmfglab

namespace Go.Proofs.Ytpmnfhifmmfglab
open Go
theorem on_same {l : List Pt} (h : curveP l) {x : Int} (hx : 0 ≤ x ∧ x ≤ 65535) : ∃ v, D_tone_on 5000 l x = some v ∧ D_darkslideref_OnCurve 5000 l x = some v := by
  obtain ⟨i, a, b, e⟩ := on_eq h 5000 (by omega) hx
  obtain ⟨j, a', b', e'⟩ := onCurve_eq h 5000 (by omega) hx
  exact ⟨_, e, by rw [e', seg_one h a' a b' b]⟩
def onV (l : List Pt) (x : Int) : Int := (D_tone_on 5000 l x).getD 0
theorem onV_code {l : List Pt} (h : curveP l) {x : Int} (hx : 0 ≤ x ∧ x ≤ 65535) : D_tone_on 5000 l x = some (onV l x) ∧ D_darkslideref_OnCurve 5000 l x = some (onV l x) := by
  obtain ⟨v, e, e'⟩ := on_same h hx
  unfold onV
  rw [e, e']
  exact ⟨rfl, rfl⟩
def bendP (l : List Pt) (p : Px) : Px := (onV l p.1, onV l p.2.1, onV l p.2.2)
theorem bend_1 {l : List Pt} (h : curveP l) {p : Px} (hp : okPx p = true) (x y : Int) : D_tone_Bend_1 5000 p.1 p.2.1 p.2.2 x y l = some (bendP l p) := by
  simp only [okPx, decide_eq_true_eq] at hp
  unfold D_tone_Bend_1
  rw [(onV_code h (show 0 ≤ p.1 ∧ p.1 ≤ 65535 by omega)).1, bsome, (onV_code h (show 0 ≤ p.2.1 ∧ p.2.1 ≤ 65535 by omega)).1, bsome, (onV_code h (show 0 ≤ p.2.2 ∧ p.2.2 ≤ 65535 by omega)).1]; rfl
theorem bend_eq {l : List Pt} {b : Bool} (hb : D_tone_right 5000 l = some b) (hc : b = true ↔ curveP l) (W H : Int) (P : List Px) : D_tone_Bend 5000 W H P l =
    some (if b = false then (0, 0, [], 1) else if picF W H P = false then (0, 0, [], 1) else (W, H, (List.range P.length).map (fun i => bendP l (P.getD i px0)), 0)) := by
  unfold D_tone_Bend
  rw [hb, bsome]
  cases b
  · rfl
  have h := hc.1 rfl
  rw [cF (by rfl)]
  cases hp : picF W H P
  · rw [eachB_no 5000 (by omega) l hp]; rfl
  · have hs := picF_side hp
    obtain ⟨W, rfl⟩ : ∃ n : Nat, W = n := ⟨W.toNat, by have := hs.1; omega⟩
    obtain ⟨H, rfl⟩ : ∃ n : Nat, H = n := ⟨H.toNat, by have := hs.2.2.1; omega⟩
    rw [eachB_eq 5000 (by omega) l hp (fun i => bendP l (P.getD i px0)) (fun i p hi => by rw [bend_1 h (okPx_of hp hi), List.getD_eq_getElem?_getD, hi]; rfl)]
    rfl
theorem curve_eq {l : List Pt} {b : Bool} (hb : D_tone_right 5000 l = some b) (hc : b = true ↔ curveP l) (x : Int) : D_tone_Curve 5000 l x = some (if b = false then (0, 1) else if 0 ≤ x ∧ x ≤ 65535 then (onV l x, 0) else (0, 3)) := by
  unfold D_tone_Curve
  rw [hb, bsome]
  cases b
  · rfl
  have h := hc.1 rfl
  rw [cF (by rfl), if_neg (by simp)]
  by_cases h1 : x < 0
  · rw [cT (dT h1), if_neg (by omega)]
  rw [cF (dF h1)]
  by_cases h2 : 65535 < x
  · rw [cT (dT h2), if_neg (by omega)]
  rw [cF (dF h2), (onV_code h (by omega)).1, if_pos (by omega)]; rfl
theorem right_both (l : List Pt) : ∃ b, D_tone_right 5000 l = some b ∧ D_darkslideref_CurveFine 5000 l = some b ∧ (b = true ↔ curveP l) := by
  obtain ⟨b, hb, hc⟩ := right_eq 5000 l (by omega)
  obtain ⟨b', hb', hc'⟩ := curveFine_eq 5000 l (by omega)
  have : b' = b := Bool.eq_iff_iff.2 (hc'.trans hc.symm)
  exact ⟨b, hb, by rw [hb', this], hc⟩
end Go.Proofs.Ytpmnfhifmmfglab

namespace Go.Proofs.Ytpmnfhifmmfglab
open Go
theorem eachS_l1 (N : Nat) {W H : Nat} {P : List Px} (hs : sideOK W H P.length) (SW SH : Int) (SP : List Px) (SA : Int) (g : Nat → Px) (hg : ∀ i p, P[i]? = some p → D_tone_Sharpen_2 N p.1 p.2.1 p.2.2 ((i % W : Nat) : Int) ((i / W : Nat) : Int) SW SH SP SA = some (g i)) (kk : List Px × Int → Option (Int × Int × List Px × Int)) : ∀ (d k fuel : Nat), k + d = P.length → d < fuel →
    D_tone_each__tone_Sharpen_2_l1 N W P SW SH SP SA kk fuel ((List.range k).map g ++ List.replicate (P.length - k) px0, (k : Int)) = kk ((List.range P.length).map g, (P.length : Int)) := by
  obtain ⟨h1, h2, h3, h4, h5, h6⟩ := side_nat W H P hs
  intro d
  induction d with
  | zero =>
    intro k fuel hk hf
    obtain ⟨fuel, rfl⟩ : ∃ m, fuel = m + 1 := ⟨fuel - 1, by omega⟩
    obtain rfl : k = P.length := by omega
    unfold D_tone_each__tone_Sharpen_2_l1
    rw [cF (dF (by omega)), Nat.sub_self, List.replicate_zero, List.append_nil]
  | succ d ih =>
    intro k fuel hk hf
    obtain ⟨fuel, rfl⟩ : ∃ m, fuel = m + 1 := ⟨fuel - 1, by omega⟩
    have hlt : k < P.length := by omega
    obtain ⟨e1, e2⟩ := tdm k (show 0 < W by omega)
    have hq : k / W < H := Nat.div_lt_of_lt_mul (by omega)
    have hq0 : (0 : Int) ≤ ((k / W : Nat) : Int) := Int.natCast_nonneg _
    unfold D_tone_each__tone_Sharpen_2_l1
    rw [cT (dT (by omega)), idx_nat, List.getElem?_eq_getElem hlt, bsome, nz_eq (by omega), bsome, bsome, e1, e2, w64 (x := ((k / W : Nat) : Int)) (by omega)]
    rw [hg k _ (List.getElem?_eq_getElem hlt), bsome, idx_nat, List.getElem?_eq_getElem (by simp; omega), bsome]
    rw [fill_step g px0 hlt, bsome, w64 (by omega)]
    exact ih (k + 1) fuel (by omega) (by omega)
theorem eachS_eq (N : Nat) {W H : Nat} {P : List Px} (hN : 5000 ≤ N) (SW SH : Int) (SP : List Px) (SA : Int) (hp : picF W H P = true) (g : Nat → Px) (hg : ∀ i p, P[i]? = some p → D_tone_Sharpen_2 N p.1 p.2.1 p.2.2 ((i % W : Nat) : Int) ((i / W : Nat) : Int) SW SH SP SA = some (g i)) :
    D_tone_each__tone_Sharpen_2 N W H P SW SH SP SA = some ((W : Int), (H : Int), (List.range P.length).map g, 0) := by
  have hs := picF_side hp
  have hl := side_len hs
  obtain ⟨a, b, l, ht⟩ := take_code N W H P hN
  rw [hp, if_pos rfl] at ht
  unfold D_tone_each__tone_Sharpen_2
  rw [ht, bsome, cF (by rfl), bsome, mk_eq (by omega), bsome, Int.toNat_natCast]
  exact eachS_l1 N hs SW SH SP SA g hg _ P.length 0 N (by omega) (by omega)
theorem eachS_no (N : Nat) {W H : Int} {P : List Px} (hN : 5000 ≤ N) (SW SH : Int) (SP : List Px) (SA : Int) (hp : picF W H P = false) : D_tone_each__tone_Sharpen_2 N W H P SW SH SP SA = some (0, 0, [], 1) := by
  obtain ⟨a, b, l, ht⟩ := take_code N W H P hN
  rw [hp] at ht
  unfold D_tone_each__tone_Sharpen_2
  rw [ht]
  rfl
end Go.Proofs.Ytpmnfhifmmfglab

namespace Go.Proofs.Ytpmnfhifmmfglab
open Go
def cl (y : Nat) (dy : Int) (H : Nat) : Nat := (min (max ((y : Int) + dy) 0) ((H : Int) - 1)).toNat
theorem cl_lt {y H : Nat} {dy : Int} (h : 1 ≤ H) : cl y dy H < H := by unfold cl; omega
theorem cl_code {y H : Nat} {dy : Int} (h : 1 ≤ H) : min (max ((y : Int) + dy) 0) ((H : Int) - 1) = ((cl y dy H : Nat) : Int) := by unfold cl; omega
def nb (P : List Px) (W H x y : Nat) (dy dx : Int) : Px := P.getD (cl y dy H * W + cl x dx W) px0
def wt (dx dy : Int) : Int := (2 - dx * dx) * (2 - dy * dy)
def sadd (w : Int) (n a : Px) : Px := (a.1 + w * n.1, a.2.1 + w * n.2.1, a.2.2 + w * n.2.2)
def bd3 (a : Px) (m : Int) : Prop := (0 ≤ a.1 ∧ a.1 ≤ m) ∧ (0 ≤ a.2.1 ∧ a.2.1 ≤ m) ∧ (0 ≤ a.2.2 ∧ a.2.2 ≤ m)
theorem sq_in {d : Int} (h : -1 ≤ d ∧ d ≤ 1) : 0 ≤ d * d ∧ d * d ≤ 1 := by
  have : d = -1 ∨ d = 0 ∨ d = 1 := by omega
  rcases this with rfl | rfl | rfl <;> decide
theorem wt_in {dx dy : Int} (hx : -1 ≤ dx ∧ dx ≤ 1) (hy : -1 ≤ dy ∧ dy ≤ 1) : 1 ≤ wt dx dy ∧ wt dx dy ≤ 4 := by
  have h1 : dx = -1 ∨ dx = 0 ∨ dx = 1 := by omega
  have h2 : dy = -1 ∨ dy = 0 ∨ dy = 1 := by omega
  rcases h1 with rfl | rfl | rfl <;> rcases h2 with rfl | rfl | rfl <;> decide
theorem okPx_bd {p : Px} (h : okPx p = true) : bd3 p 65535 := by
  simp only [okPx, decide_eq_true_eq] at h
  unfold bd3; omega
theorem wmul {w n : Int} (hw : 1 ≤ w ∧ w ≤ 4) (hn : 0 ≤ n ∧ n ≤ 65535) : 0 ≤ w * n ∧ w * n ≤ 262140 := by
  have h1 := Int.mul_nonneg (show 0 ≤ w by omega) hn.1
  have h2 := mul_in (a := 4) (b := 65535) (x := w) (y := n) (by omega) (by omega)
  omega
theorem sadd_bd {w m : Int} {n a : Px} (hw : 1 ≤ w ∧ w ≤ 4) (hn : bd3 n 65535) (ha : bd3 a m) : bd3 (sadd w n a) (m + 262140) := by
  obtain ⟨n1, n2, n3⟩ := hn
  obtain ⟨a1, a2, a3⟩ := ha
  have h1 := wmul hw n1
  have h2 := wmul hw n2
  have h3 := wmul hw n3
  unfold bd3 sadd
  dsimp only
  omega
def rowS (P : List Px) (W H x y : Nat) (dy : Int) (a : Px) : Px := sadd (wt 1 dy) (nb P W H x y dy 1) (sadd (wt 0 dy) (nb P W H x y dy 0) (sadd (wt (-1) dy) (nb P W H x y dy (-1)) a))
def sumS (P : List Px) (W H x y : Nat) : Px := rowS P W H x y 1 (rowS P W H x y 0 (rowS P W H x y (-1) (0, 0, 0)))
def sh1 (amount v blur : Int) : Int := max 0 (min (IntKind.i64.wrap (v + shrI .i64 (IntKind.i64.wrap (IntKind.i64.wrap (v - shrI .i64 blur 4) * amount)) 8)) 65535)
def shP (amount : Int) (p s : Px) : Px := (sh1 amount p.1 s.1, sh1 amount p.2.1 s.2.1, sh1 amount p.2.2 s.2.2)
section
variable {W H : Nat} {P : List Px} (hp : picF W H P = true)
include hp
theorem pic_nat : 1 ≤ W ∧ W ≤ 64 ∧ 1 ≤ H ∧ H ≤ 64 ∧ P.length = W * H ∧ W * H ≤ 4096 := side_nat W H P (picF_side hp)
theorem pic_at {i : Nat} (h : i < W * H) : idx P (i : Int) = some (P.getD i px0) ∧ okPx (P.getD i px0) = true := by
  have hl := (pic_nat hp).2.2.2.2.1
  have hx : P[i]? = some P[i] := List.getElem?_eq_getElem (by omega)
  have hg : P.getD i px0 = P[i] := by rw [List.getD_eq_getElem?_getD, hx]; rfl
  rw [idx_nat, hg, hx]
  exact ⟨rfl, okPx_of hp hx⟩
theorem nb_at {x y : Nat} (dy dx : Int) : idx P (((cl y dy H * W + cl x dx W : Nat) : Nat) : Int) = some (nb P W H x y dy dx) ∧ okPx (nb P W H x y dy dx) = true := by
  obtain ⟨h1, h2, h3, h4, h5, h6⟩ := pic_nat hp
  exact pic_at hp (place_lt (cl_lt h1) (cl_lt h3))
theorem rowS_bd {x y : Nat} {dy m : Int} (hy : -1 ≤ dy ∧ dy ≤ 1) {a : Px} (ha : bd3 a m) : bd3 (rowS P W H x y dy a) (m + 786420) := by
  have h1 := sadd_bd (wt_in (dx := -1) (by omega) hy) (okPx_bd (nb_at (x := x) (y := y) hp dy (-1)).2) ha
  have h2 := sadd_bd (wt_in (dx := 0) (by omega) hy) (okPx_bd (nb_at (x := x) (y := y) hp dy 0).2) h1
  have h3 := sadd_bd (wt_in (dx := 1) (by omega) hy) (okPx_bd (nb_at (x := x) (y := y) hp dy 1).2) h2
  unfold rowS
  unfold bd3 at h3 ⊢
  omega
theorem code_step (N fuel : Nat) {x y : Nat} (hx : x < W) (hy : y < H) {dx dy : Int} (hdx : -1 ≤ dx ∧ dx ≤ 1) (hdy : -1 ≤ dy ∧ dy ≤ 1) (kk) {a : Px} (ha : bd3 a 100000000) {dx' : Int} (hd' : dx' = dx + 1) :
    D_tone_Sharpen_2_l2 N x y W H P dy kk (fuel + 1) (a.1, a.2.1, a.2.2, dx) = D_tone_Sharpen_2_l2 N x y W H P dy kk fuel ((sadd (wt dx dy) (nb P W H x y dy dx) a).1, (sadd (wt dx dy) (nb P W H x y dy dx) a).2.1, (sadd (wt dx dy) (nb P W H x y dy dx) a).2.2, dx') := by
  subst hd'
  obtain ⟨h1, h2, h3, h4, h5, h6⟩ := pic_nat hp
  obtain ⟨n1, n2⟩ := nb_at (x := x) (y := y) hp dy dx
  obtain ⟨b1, b2, b3⟩ := okPx_bd n2
  obtain ⟨a1, a2, a3⟩ := ha
  have hw := wt_in hdx hdy
  have m1 := wmul hw b1
  have m2 := wmul hw b2
  have m3 := wmul hw b3
  have q1 := sq_in hdx
  have q2 := sq_in hdy
  have c1 := cl_lt (y := y) (dy := dy) h3
  have c2 := cl_lt (y := x) (dy := dx) h1
  have c3 := place_lt c2 c1
  have hwt : IntKind.i64.wrap ((2 - dx * dx) * (2 - dy * dy)) = wt dx dy := w64 (by unfold wt at hw; omega)
  conv => lhs; unfold D_tone_Sharpen_2_l2
  rw [cT (dT hdx.2), w64 (x := (y : Int) + dy) (by omega), w64 (x := (H : Int) - 1) (by omega), w64 (x := (x : Int) + dx) (by omega), w64 (x := (W : Int) - 1) (by omega), cl_code h3, cl_code h1]
  rw [w64 (x := ((cl y dy H : Nat) : Int) * (W : Int)) (by rw [← Int.natCast_mul]; omega), ← Int.natCast_mul, ← Int.natCast_add, w64 (x := ((cl y dy H * W + cl x dx W : Nat) : Int)) (by omega), bsome, n1, bsome]
  rw [w64 (x := dx * dx) (by omega), w64 (x := dy * dy) (by omega), w64 (x := 2 - dx * dx) (by omega), w64 (x := 2 - dy * dy) (by omega), hwt, bsome, w64 (x := dx + 1) (by omega), bsome]
  rw [w64 (x := wt dx dy * (nb P W H x y dy dx).1) (by omega), w64 (x := wt dx dy * (nb P W H x y dy dx).2.1) (by omega), w64 (x := wt dx dy * (nb P W H x y dy dx).2.2) (by omega), w64 (x := a.1 + _) (by omega), w64 (x := a.2.1 + _) (by omega), w64 (x := a.2.2 + _) (by omega)]
  rfl
theorem code_row (N fuel : Nat) {x y : Nat} (hx : x < W) (hy : y < H) {dy : Int} (hdy : -1 ≤ dy ∧ dy ≤ 1) (kk) {a : Px} (ha : bd3 a 50000000) :
    D_tone_Sharpen_2_l2 N x y W H P dy kk (fuel + 4) (a.1, a.2.1, a.2.2, -1) = kk ((rowS P W H x y dy a).1, (rowS P W H x y dy a).2.1, (rowS P W H x y dy a).2.2, 2) := by
  have b0 : bd3 a 100000000 := by unfold bd3 at ha ⊢; omega
  have b1 := sadd_bd (wt_in (dx := -1) (by omega) hdy) (okPx_bd (nb_at (x := x) (y := y) hp dy (-1)).2) ha
  have b2 := sadd_bd (wt_in (dx := 0) (by omega) hdy) (okPx_bd (nb_at (x := x) (y := y) hp dy 0).2) b1
  have up : ∀ {c : Px} {m : Int}, bd3 c m → m ≤ 100000000 → bd3 c 100000000 := fun h hm => by unfold bd3 at h ⊢; omega
  rw [code_step hp N (fuel + 3) hx hy (by omega) hdy kk b0 (dx' := 0) (by omega), code_step hp N (fuel + 2) hx hy (dx := 0) (by omega) hdy kk (up b1 (by omega)) (dx' := 1) (by omega), code_step hp N (fuel + 1) hx hy (dx := 1) (by omega) hdy kk (up b2 (by omega)) (dx' := 2) (by omega)]
  unfold D_tone_Sharpen_2_l2
  rw [cF (dF (by omega))]
  rfl
theorem code_sum (N : Nat) {x y : Nat} (hx : x < W) (hy : y < H) (kk) :
    D_tone_Sharpen_2_l1 5000 x y W H P kk 5000 (0, 0, 0, -1) = kk ((sumS P W H x y).1, (sumS P W H x y).2.1, (sumS P W H x y).2.2, 2) := by
  have h0 : bd3 ((0, 0, 0) : Px) 0 := by unfold bd3; simp
  have h1 := rowS_bd (x := x) (y := y) hp (dy := -1) (by omega) h0
  have h2 := rowS_bd (x := x) (y := y) hp (dy := 0) (by omega) h1
  have up : ∀ {a : Px} {m : Int}, bd3 a m → m ≤ 50000000 → bd3 a 50000000 := fun h hm => by unfold bd3 at h ⊢; omega
  have one : ∀ (fuel : Nat) (dy dy' : Int), (-1 ≤ dy ∧ dy ≤ 1) → dy' = dy + 1 → ∀ (a : Px), bd3 a 50000000 → D_tone_Sharpen_2_l1 5000 x y W H P kk (fuel + 1) (a.1, a.2.1, a.2.2, dy) = D_tone_Sharpen_2_l1 5000 x y W H P kk fuel ((rowS P W H x y dy a).1, (rowS P W H x y dy a).2.1, (rowS P W H x y dy a).2.2, dy') := by
    intro fuel dy dy' hd hd' a ha
    subst hd'
    conv => lhs; unfold D_tone_Sharpen_2_l1
    rw [cT (dT hd.2)]
    refine (code_row hp 5000 4996 hx hy hd _ ha).trans ?_
    dsimp only
    rw [w64 (x := dy + 1) (by omega), bsome]
  refine (one 4999 (-1) 0 (by omega) (by omega) (0, 0, 0) (up h0 (by omega))).trans ?_
  refine (one 4998 0 1 (by omega) (by omega) _ (up h1 (by omega))).trans ?_
  refine (one 4997 1 2 (by omega) (by omega) _ (up h2 (by omega))).trans ?_
  unfold D_tone_Sharpen_2_l1
  dsimp only
  rw [cF (dF (by omega))]
  rfl
theorem code_px (amount : Int) {x y : Nat} (hx : x < W) (hy : y < H) (p : Px) : D_tone_Sharpen_2 5000 p.1 p.2.1 p.2.2 x y W H P amount = some (shP amount p (sumS P W H x y)) := by
  unfold D_tone_Sharpen_2
  refine (code_sum hp 5000 hx hy _).trans ?_
  rfl
/-- What the code gives. -/
def shF (amount : Int) (W H : Nat) (P : List Px) (x y : Nat) : Px := shP amount (pxOf P W x y) (sumS P W H x y)
omit hp in
theorem sharpen_eq (W H : Int) (P : List Px) (amount : Int) : D_tone_Sharpen 5000 W H P amount = some (if picF W H P = false then (0, 0, [], 1) else if 0 ≤ amount ∧ amount ≤ 1024 then (W, H, mkL W.toNat H.toNat (shF amount W.toNat H.toNat P), 0) else (0, 0, [], 3)) := by
  unfold D_tone_Sharpen
  cases hp : picF W H P
  · rw [eachS_no 5000 (by omega) W H P amount hp]; rfl
  · have hs := picF_side hp
    obtain ⟨W, rfl⟩ : ∃ n : Nat, W = n := ⟨W.toNat, by have := hs.1; omega⟩
    obtain ⟨H, rfl⟩ : ∃ n : Nat, H = n := ⟨H.toNat, by have := hs.2.2.1; omega⟩
    obtain ⟨h1, h2, h3, h4, h5, h6⟩ := pic_nat hp
    rw [eachS_eq 5000 (by omega) W H P amount hp (fun i => shF amount W H P (i % W) (i / W)) (fun i p hi => by
      have hlt := (List.getElem?_eq_some_iff.1 hi).1
      rw [h5] at hlt
      obtain ⟨l1, l2, _⟩ := lt_of_place hlt
      rw [code_px hp amount l1 l2 p]
      show _ = some (shP amount (P.getD (i / W * W + i % W) px0) _)
      rw [Nat.div_add_mod', List.getD_eq_getElem?_getD, hi]; rfl)]
    rw [bsome]
    dsimp only
    rw [cT (by rfl), if_neg (by simp), h5, Int.toNat_natCast, Int.toNat_natCast]
    by_cases a1 : amount < 0
    · rw [cT (dT a1), if_neg (by omega)]
    rw [cF (dF a1)]
    by_cases a2 : 1024 < amount
    · rw [cT (dT a2), if_neg (by omega)]
    rw [cF (dF a2), if_pos (by omega)]
    rfl
end
end Go.Proofs.Ytpmnfhifmmfglab

namespace Go.Proofs.Ytpmnfhifmmfglab
open Go
def inB (lo hi n : Int) : Bool := decide (lo ≤ n ∧ n ≤ hi)
theorem in_l1 (N : Nat) (s : List Int) (lo hi : Int) (hl : s.length ≤ 4096) : ∀ (d k fuel : Nat), k + d = s.length → d < fuel →
    ∃ r, D_slices_IndexFunc__int_int__line_in_1_l1 N s lo hi (fun _ => some (-1)) fuel (k : Int) = some r ∧ decide (0 ≤ r) = !((s.drop k).all (inB lo hi)) := by
  intro d
  induction d with
  | zero =>
    intro k fuel hk hf
    obtain ⟨fuel, rfl⟩ : ∃ m, fuel = m + 1 := ⟨fuel - 1, by omega⟩
    obtain rfl : k = s.length := by omega
    unfold D_slices_IndexFunc__int_int__line_in_1_l1
    rw [cF (dF (by omega))]
    exact ⟨_, rfl, by simp⟩
  | succ d ih =>
    intro k fuel hk hf
    obtain ⟨fuel, rfl⟩ : ∃ m, fuel = m + 1 := ⟨fuel - 1, by omega⟩
    have hlt : k < s.length := by omega
    unfold D_slices_IndexFunc__int_int__line_in_1_l1 D_line_in_1
    rw [cT (dT (by omega)), idx_nat, List.getElem?_eq_getElem hlt, bsome, List.drop_eq_getElem_cons hlt, List.all_cons]
    by_cases h1 : s[k] < lo
    · rw [cT (dT h1), bsome, cT (by rfl)]
      refine ⟨_, rfl, ?_⟩
      have : inB lo hi s[k] = false := dF (by omega)
      rw [this, dT (by omega)]; rfl
    rw [cF (dF h1), bsome]
    by_cases h2 : hi < s[k]
    · rw [cT (dT h2)]
      refine ⟨_, rfl, ?_⟩
      have : inB lo hi s[k] = false := dF (by omega)
      rw [this, dT (by omega)]; rfl
    rw [cF (dF h2), w64 (by omega)]
    have : inB lo hi s[k] = true := dT (by omega)
    rw [this, Bool.true_and]
    exact ih (k + 1) fuel (by omega) (by omega)
theorem lin_eq (lo hi : Int) (s : List Int) (hl : s.length ≤ 4096) : D_line_in 5000 lo hi s = some (s.all (inB lo hi)) := by
  obtain ⟨r, hr, hd⟩ := in_l1 5000 s lo hi hl s.length 0 5000 (by omega) (by omega)
  unfold D_line_in D_slices_ContainsFunc__int_int__line_in_1 D_slices_IndexFunc__int_int__line_in_1
  rw [show (0 : Int) = ((0 : Nat) : Int) from rfl] 
  rw [hr, bsome, bsome]
  rw [List.drop_zero] at hd
  have hd' : decide (((0 : Nat) : Int) ≤ r) = !(s.all (inB lo hi)) := hd
  rw [hd', Bool.not_not]
theorem spot1_eq {W H : Int} (hW : -1000 ≤ W ∧ W ≤ 1000) (hH : -1000 ≤ H ∧ H ≤ 1000) (x y : Int) : D_line_spots_1 5000 x y W H = some (!(spotOk W H (x, y))) := by
  unfold D_line_spots_1
  rw [w64 (by omega), w64 (by omega), lin_eq _ _ _ (by simp), bsome, lin_eq _ _ _ (by simp)]
  simp only [List.all_cons, List.all_nil, Bool.and_true]
  by_cases h1 : 0 ≤ x ∧ x ≤ W - 1
  · have e1 : inB 0 (W - 1) x = true := dT h1
    rw [e1, cF (by rfl), bsome]
    congr 2
    unfold spotOk inB
    rw [dT (show (0 : Int) ≤ x by omega), dT (show x < W by omega), Bool.true_and, Bool.true_and]
    by_cases h2 : 0 ≤ y ∧ y ≤ H - 1
    · rw [dT h2, dT (show (0 : Int) ≤ y by omega), dT (show y < H by omega)]; rfl
    · rw [dF h2]
      by_cases h3 : 0 ≤ y
      · rw [dF (show ¬ y < H by omega)]; simp
      · rw [dF h3]; rfl
  · have e1 : inB 0 (W - 1) x = false := dF h1
    rw [e1, cT (by rfl)]
    congr 1
    unfold spotOk
    by_cases h3 : 0 ≤ x
    · rw [dF (show ¬ x < W by omega)]; simp
    · rw [dF h3]; rfl
theorem spots_l1 (s : List (Int × Int)) {W H : Int} (hW : -1000 ≤ W ∧ W ≤ 1000) (hH : -1000 ≤ H ∧ H ≤ 1000) (hl : s.length ≤ 4096) : ∀ (d k fuel : Nat), k + d = s.length → d < fuel →
    ∃ r, D_slices_IndexFunc__api_Spot_api_Spot__line_spots_1_l1 5000 s W H (fun _ => some (-1)) fuel (k : Int) = some r ∧ decide (0 ≤ r) = !((s.drop k).all (spotOk W H)) := by
  intro d
  induction d with
  | zero =>
    intro k fuel hk hf
    obtain ⟨fuel, rfl⟩ : ∃ m, fuel = m + 1 := ⟨fuel - 1, by omega⟩
    obtain rfl : k = s.length := by omega
    unfold D_slices_IndexFunc__api_Spot_api_Spot__line_spots_1_l1
    rw [cF (dF (by omega))]
    exact ⟨_, rfl, by simp⟩
  | succ d ih =>
    intro k fuel hk hf
    obtain ⟨fuel, rfl⟩ : ∃ m, fuel = m + 1 := ⟨fuel - 1, by omega⟩
    have hlt : k < s.length := by omega
    unfold D_slices_IndexFunc__api_Spot_api_Spot__line_spots_1_l1
    rw [cT (dT (by omega)), idx_nat, List.getElem?_eq_getElem hlt, bsome, List.drop_eq_getElem_cons hlt, List.all_cons, spot1_eq hW hH, bsome]
    cases h : spotOk W H s[k]
    · rw [cT (by rfl)]
      refine ⟨_, rfl, ?_⟩
      rw [dT (by omega)]; rfl
    · rw [cF (by rfl), w64 (by omega), Bool.true_and]
      exact ih (k + 1) fuel (by omega) (by omega)
theorem lspots_eq (s : List (Int × Int)) {W H : Int} (hW : -1000 ≤ W ∧ W ≤ 1000) (hH : -1000 ≤ H ∧ H ≤ 1000) (hl : s.length ≤ 4096) : D_line_spots 5000 s W H = some (s.all (spotOk W H)) := by
  obtain ⟨r, hr, hd⟩ := spots_l1 s hW hH hl s.length 0 5000 (by omega) (by omega)
  have hr' : D_slices_IndexFunc__api_Spot_api_Spot__line_spots_1_l1 5000 s W H (fun _ => some (-1)) 5000 0 = some r := hr
  unfold D_line_spots D_slices_ContainsFunc__api_Spot_api_Spot__line_spots_1 D_slices_IndexFunc__api_Spot_api_Spot__line_spots_1
  rw [hr', bsome, bsome, hd, List.drop_zero, Bool.not_not]
section
variable (ph b0 b1 b2 b3 w : Int) (sp : List (Int × Int)) (g0 g1 g2 m0 m1 m2 m3 m4 m5 m6 m7 m8 : Int) (cv : List (Int × Int)) (am : Int)
def planB : Bool := inB 0 3 ph && (inB 1 65535 w && ([b0, b1, b2, b3].all (inB 0 (w - 1)) && (decide (sp.length ≤ 64) && (sp.all (spotOk 64 64) && ([g0, g1, g2].all (inB 0 65535) && (mixAll m0 m1 m2 m3 m4 m5 m6 m7 m8 && inB 0 1024 am))))))
theorem check_eq {b : Bool} (hb : D_tone_right 5000 cv = some b) (hc : b = true ↔ curveP cv) : D_line_Check 5000 ph b0 b1 b2 b3 w sp g0 g1 g2 m0 m1 m2 m3 m4 m5 m6 m7 m8 cv am = some (if planB ph b0 b1 b2 b3 w sp g0 g1 g2 m0 m1 m2 m3 m4 m5 m6 m7 m8 am = false then 3 else if b = false then 1 else 0) := by
  unfold D_line_Check planB
  rw [lin_eq _ _ _ (by simp), bsome]
  simp only [List.all_cons, List.all_nil, Bool.and_true]
  cases h1 : inB 0 3 ph
  · rfl
  rw [cF (by rfl), lin_eq _ _ _ (by simp), bsome]
  simp only [List.all_cons, List.all_nil, Bool.and_true, Bool.true_and]
  cases h2 : inB 1 65535 w
  · rfl
  have h2' : 1 ≤ w ∧ w ≤ 65535 := of_decide_eq_true h2
  rw [cF (by rfl), w64 (by omega), lin_eq _ _ _ (by simp), bsome]
  simp only [List.all_cons, List.all_nil, Bool.and_true, Bool.true_and]
  cases h3 : (inB 0 (w - 1) b0 && (inB 0 (w - 1) b1 && (inB 0 (w - 1) b2 && inB 0 (w - 1) b3)))
  · rfl
  rw [cF (by rfl)]
  by_cases h4 : sp.length ≤ 64
  rotate_left
  · rw [cT (dT (by omega)), dF h4]; rfl
  rw [cF (dF (by omega)), dT h4, lspots_eq sp (by omega) (by omega) (by omega), bsome]
  simp only [Bool.true_and]
  cases h5 : sp.all (spotOk 64 64)
  · rfl
  rw [cF (by rfl), lin_eq _ _ _ (by simp), bsome]
  simp only [List.all_cons, List.all_nil, Bool.and_true, Bool.true_and]
  cases h6 : (inB 0 65535 g0 && (inB 0 65535 g1 && inB 0 65535 g2))
  · rfl
  rw [cF (by rfl), lin_eq _ _ _ (by simp), bsome, show [m0, m1, m2, m3, m4, m5, m6, m7, m8].all (inB (-32768) 32768) = mixAll m0 m1 m2 m3 m4 m5 m6 m7 m8 from rfl]
  simp only [Bool.true_and]
  cases h7 : mixAll m0 m1 m2 m3 m4 m5 m6 m7 m8
  · rfl
  rw [cF (by rfl), lin_eq _ _ _ (by simp), bsome]
  simp only [List.all_cons, List.all_nil, Bool.and_true, Bool.true_and]
  cases h8 : inB 0 1024 am
  · rfl
  rw [cF (by rfl), curve_eq hb hc 0, bsome]
  cases b <;> rfl
end
end Go.Proofs.Ytpmnfhifmmfglab

namespace Go.Proofs.Ytpmnfhifmmfglab
open Go
theorem plane_map {W H n : Nat} (h : 1 ≤ W ∧ W ≤ 64 ∧ 1 ≤ H ∧ H ≤ 64) (hn : n = W * H) {g : Nat → Int} (hg : ∀ i, i < n → 0 ≤ g i ∧ g i ≤ 65535) : planeFine W H ((List.range n).map g) = true := by
  refine planeFine_iff.2 ⟨⟨by omega, by omega, by omega, by omega⟩, by rw [List.length_map, List.length_range, hn, Int.natCast_mul], List.all_eq_true.2 fun x hx => ?_⟩
  obtain ⟨i, hi, rfl⟩ := List.mem_map.1 hx
  have := hg i (List.mem_range.1 hi)
  simp [okS, this]
theorem up_map {n : Nat} {g : Nat → Int} (hg : ∀ i, i < n → 0 ≤ g i ∧ g i ≤ 65535) : upTo ((List.range n).map g) 65535 := fun i => by
  rw [List.getD_eq_getElem?_getD]
  by_cases hi : i < n
  · rw [List.getElem?_map, List.getElem?_range hi]; exact hg i hi
  · rw [List.getElem?_eq_none (by simp; omega)]; simp
theorem pic_map {W H : Nat} {q : List Px} (hq : picF W H q = true) {f : Px → Px} (hf : ∀ p, okPx p = true → okPx (f p) = true) : picF W H ((List.range q.length).map fun i => f (q.getD i px0)) = true := by
  have hs := picF_side hq
  have h := side_nat W H q hs
  simp only [picF, Bool.and_eq_true, decide_eq_true_eq]
  refine ⟨by rw [List.length_map, List.length_range]; exact hs, List.all_eq_true.2 fun p hp => ?_⟩
  obtain ⟨i, hi, rfl⟩ := List.mem_map.1 hp
  have hlt := List.mem_range.1 hi
  refine hf _ ?_
  exact okPx_of hq (i := i) (by rw [List.getD_eq_getElem?_getD, List.getElem?_eq_getElem hlt]; rfl)
theorem mix1_in (a b c : Int) (p : Px) : 0 ≤ mix1 a b c p ∧ mix1 a b c p ≤ 65535 := by unfold mix1; omega
theorem mixP_ok (m0 m1 m2 m3 m4 m5 m6 m7 m8 : Int) (p : Px) : okPx (mixP m0 m1 m2 m3 m4 m5 m6 m7 m8 p) = true := by
  have h1 := mix1_in m0 m1 m2 p
  have h2 := mix1_in m3 m4 m5 p
  have h3 := mix1_in m6 m7 m8 p
  unfold mixP
  simp only [okPx, decide_eq_true_eq]; omega
theorem onV_in {l : List Pt} (h : curveP l) {x : Int} (hx : 0 ≤ x ∧ x ≤ 65535) : 0 ≤ onV l x ∧ onV l x ≤ 65535 := by
  obtain ⟨i, a, b, e⟩ := on_eq h 5000 (by omega) hx
  have f := seg_facts h a b
  have b1 := h.bd (i := i - 1) (by omega)
  have b2 := h.bd (i := i) (by omega)
  unfold onV
  rw [e]
  show 0 ≤ seg l i x ∧ seg l i x ≤ 65535
  omega
theorem bendP_ok {l : List Pt} (h : curveP l) (p : Px) (hp : okPx p = true) : okPx (bendP l p) = true := by
  simp only [okPx, decide_eq_true_eq] at hp
  have h1 := onV_in h (x := p.1) (by omega)
  have h2 := onV_in h (x := p.2.1) (by omega)
  have h3 := onV_in h (x := p.2.2) (by omega)
  unfold bendP
  simp only [okPx, decide_eq_true_eq]; omega
section
variable (ph b0 b1 b2 b3 w : Int) (sp : List (Int × Int)) (g0 g1 g2 m0 m1 m2 m3 m4 m5 m6 m7 m8 : Int) (cv : List (Int × Int)) (am : Int)
def st1 (W : Nat) (P : List Int) : List Int := (List.range P.length).map (levL W P b0 b1 b2 b3 w)
def st2 (W H : Nat) (P : List Int) : List Int := (List.range (st1 b0 b1 b2 b3 w W P).length).map (repairL W H sp (st1 b0 b1 b2 b3 w W P))
def st3 (W H : Nat) (P : List Int) : List Int := (List.range (st2 b0 b1 b2 b3 w sp W H P).length).map (gnL W (st2 b0 b1 b2 b3 w sp W H P) ph g0 g1 g2)
def st4 (W H : Nat) (P : List Int) : List Px := mkL W H (pF W H (st3 ph b0 b1 b2 b3 w sp g0 g1 g2 W H P) ph)
def st5 (W H : Nat) (P : List Int) : List Px := (List.range (st4 ph b0 b1 b2 b3 w sp g0 g1 g2 W H P).length).map fun i => mixP m0 m1 m2 m3 m4 m5 m6 m7 m8 ((st4 ph b0 b1 b2 b3 w sp g0 g1 g2 W H P).getD i px0)
def st6 (W H : Nat) (P : List Int) : List Px := (List.range (st5 ph b0 b1 b2 b3 w sp g0 g1 g2 m0 m1 m2 m3 m4 m5 m6 m7 m8 W H P).length).map fun i => bendP cv ((st5 ph b0 b1 b2 b3 w sp g0 g1 g2 m0 m1 m2 m3 m4 m5 m6 m7 m8 W H P).getD i px0)
def st7 (W H : Nat) (P : List Int) : List Px := mkL W H (shF am W H (st6 ph b0 b1 b2 b3 w sp g0 g1 g2 m0 m1 m2 m3 m4 m5 m6 m7 m8 cv W H P))
structure PlanOK : Prop where
  phase : 0 ≤ ph ∧ ph ≤ 3
  white : 1 ≤ w ∧ w ≤ 65535
  black : blkOK b0 b1 b2 b3 w
  nspots : sp.length ≤ 64
  spots : sp.all (spotOk 64 64) = true
  gains : gnOK g0 g1 g2
  matrix : mixAll m0 m1 m2 m3 m4 m5 m6 m7 m8 = true
  amount : 0 ≤ am ∧ am ≤ 1024
theorem planB_ok (h : planB ph b0 b1 b2 b3 w sp g0 g1 g2 m0 m1 m2 m3 m4 m5 m6 m7 m8 am = true) : PlanOK ph b0 b1 b2 b3 w sp g0 g1 g2 m0 m1 m2 m3 m4 m5 m6 m7 m8 am := by
  unfold planB at h
  simp only [List.all_cons, List.all_nil, Bool.and_true, Bool.and_eq_true] at h
  obtain ⟨h1, h2, ⟨c0, c1, c2, c3⟩, h4, h5, ⟨d0, d1, d2⟩, h7, h8⟩ := h
  have e0 := of_decide_eq_true c0
  have e1 := of_decide_eq_true c1
  have e2 := of_decide_eq_true c2
  have e3 := of_decide_eq_true c3
  exact ⟨of_decide_eq_true h1, of_decide_eq_true h2, ⟨by omega, by omega, by omega, by omega⟩, of_decide_eq_true h4, h5, ⟨of_decide_eq_true d0, of_decide_eq_true d1, of_decide_eq_true d2⟩, h7, of_decide_eq_true h8⟩
end
section
variable {ph b0 b1 b2 b3 w : Int} {sp : List (Int × Int)} {g0 g1 g2 m0 m1 m2 m3 m4 m5 m6 m7 m8 : Int} {cv : List (Int × Int)} {am : Int} (hp : PlanOK ph b0 b1 b2 b3 w sp g0 g1 g2 m0 m1 m2 m3 m4 m5 m6 m7 m8 am)
include hp
section
variable {W H : Nat} {P : List Int} (hs : 1 ≤ W ∧ W ≤ 64 ∧ 1 ≤ H ∧ H ≤ 64) (hl : P.length = W * H) (hP : upTo P 65535)
include hs hl hP
theorem st1_len : (st1 b0 b1 b2 b3 w W P).length = W * H := by unfold st1; rw [List.length_map, List.length_range, hl]
theorem st1_g (i : Nat) : 0 ≤ levL W P b0 b1 b2 b3 w i ∧ levL W P b0 b1 b2 b3 w i ≤ 65535 := levV_in hp.black hp.white.2 (blk4_in hp.black _ _)
theorem st1_up : upTo (st1 b0 b1 b2 b3 w W P) 65535 := up_map fun i _ => st1_g hp hs hl hP i
theorem st1_fine : planeFine W H (st1 b0 b1 b2 b3 w W P) = true := plane_map hs hl fun i _ => st1_g hp hs hl hP i
theorem st2_len : (st2 b0 b1 b2 b3 w sp W H P).length = W * H := by unfold st2; rw [List.length_map, List.length_range, st1_len hp hs hl hP]
theorem st2_g (i : Nat) : 0 ≤ repairL W H sp (st1 b0 b1 b2 b3 w W P) i ∧ repairL W H sp (st1 b0 b1 b2 b3 w W P) i ≤ 65535 := by
  have := rpF_in (W := W) (H := H) (l := sp) (st1_up hp hs hl hP) (i % W) (i / W)
  unfold rpF at this
  unfold repairL
  rw [Nat.mul_comm, Nat.div_add_mod, Int.natCast_emod, Int.natCast_ediv] at this
  exact this
theorem st2_up : upTo (st2 b0 b1 b2 b3 w sp W H P) 65535 := up_map fun i _ => st2_g hp hs hl hP i
theorem st2_fine : planeFine W H (st2 b0 b1 b2 b3 w sp W H P) = true := plane_map hs (st1_len hp hs hl hP) fun i _ => st2_g hp hs hl hP i
theorem st3_len : (st3 ph b0 b1 b2 b3 w sp g0 g1 g2 W H P).length = W * H := by unfold st3; rw [List.length_map, List.length_range, st2_len hp hs hl hP]
theorem st3_g (i : Nat) : 0 ≤ gnL W (st2 b0 b1 b2 b3 w sp W H P) ph g0 g1 g2 i ∧ gnL W (st2 b0 b1 b2 b3 w sp W H P) ph g0 g1 g2 i ≤ 65535 := gnV_in (st2_up hp hs hl hP i) (gn3_in hp.gains _)
theorem st3_up : upTo (st3 ph b0 b1 b2 b3 w sp g0 g1 g2 W H P) 65535 := up_map fun i _ => st3_g hp hs hl hP i
theorem st3_fine : planeFine W H (st3 ph b0 b1 b2 b3 w sp g0 g1 g2 W H P) = true := plane_map hs (st2_len hp hs hl hP) fun i _ => st3_g hp hs hl hP i
theorem st4_pic : picF W H (st4 ph b0 b1 b2 b3 w sp g0 g1 g2 W H P) = true := fill_pic hs (st3_up hp hs hl hP) ph
theorem st5_pic : picF W H (st5 ph b0 b1 b2 b3 w sp g0 g1 g2 m0 m1 m2 m3 m4 m5 m6 m7 m8 W H P) = true := pic_map (st4_pic hp hs hl hP) fun p _ => mixP_ok m0 m1 m2 m3 m4 m5 m6 m7 m8 p
theorem st6_pic (hc : curveP cv) : picF W H (st6 ph b0 b1 b2 b3 w sp g0 g1 g2 m0 m1 m2 m3 m4 m5 m6 m7 m8 cv W H P) = true := pic_map (st5_pic hp hs hl hP) fun p hp' => bendP_ok hc p hp'
/-- Where nothing is wrong: the code. -/
theorem whole_ok (hc : curveP cv) (hsp : sp.all (spotOk W H) = true) (hf : planeFine W H P = true) (hb : D_tone_right 5000 cv = some true) (hB : planB ph b0 b1 b2 b3 w sp g0 g1 g2 m0 m1 m2 m3 m4 m5 m6 m7 m8 am = true) :
    D_line_Whole 5000 ph b0 b1 b2 b3 w sp g0 g1 g2 m0 m1 m2 m3 m4 m5 m6 m7 m8 cv am W H P = some ((W : Int), (H : Int), st7 ph b0 b1 b2 b3 w sp g0 g1 g2 m0 m1 m2 m3 m4 m5 m6 m7 m8 cv am W H P, 0) := by
  have hm := Nat.mul_le_mul hs.2.1 hs.2.2.2
  have l1 := st1_len hp hs hl hP
  have l2 := st2_len hp hs hl hP
  have e1 : D_sensor_Level 5000 W H P b0 b1 b2 b3 w = some ((W : Int), (H : Int), st1 b0 b1 b2 b3 w W P, 0) := level_eq hp.black hp.white.2 hf
  have e2 : D_sensor_Repair 5000 W H (st1 b0 b1 b2 b3 w W P) sp = some ((W : Int), (H : Int), st2 b0 b1 b2 b3 w sp W H P, 0) := by
    unfold D_sensor_Repair
    rw [if_neg (by omega), st1_fine hp hs hl hP, if_neg (by simp), if_neg (by have := hp.nspots; omega), hsp, if_neg (by simp)]
    rfl
  have e3 : D_sensor_Gain 5000 W H (st2 b0 b1 b2 b3 w sp W H P) ph g0 g1 g2 = some ((W : Int), (H : Int), st3 ph b0 b1 b2 b3 w sp g0 g1 g2 W H P, 0) := gain_eq hp.gains hp.phase (st2_fine hp hs hl hP)
  have e4 : D_mosaic_Fill 5000 W H (st3 ph b0 b1 b2 b3 w sp g0 g1 g2 W H P) ph = some ((W : Int), (H : Int), st4 ph b0 b1 b2 b3 w sp g0 g1 g2 W H P, 0) := by
    rw [fill_eq W H _ ph (by rw [st3_len hp hs hl hP]; omega), st3_fine hp hs hl hP, if_neg (by simp), if_pos hp.phase, Int.toNat_natCast, Int.toNat_natCast]; rfl
  have e5 : D_tone_Mix 5000 W H (st4 ph b0 b1 b2 b3 w sp g0 g1 g2 W H P) m0 m1 m2 m3 m4 m5 m6 m7 m8 = some ((W : Int), (H : Int), st5 ph b0 b1 b2 b3 w sp g0 g1 g2 m0 m1 m2 m3 m4 m5 m6 m7 m8 W H P, 0) := by
    rw [mix_eq 5000 m0 m1 m2 m3 m4 m5 m6 m7 m8 (by omega), st4_pic hp hs hl hP, if_neg (by simp), hp.matrix, if_neg (by simp)]; rfl
  have e6 : D_tone_Bend 5000 W H (st5 ph b0 b1 b2 b3 w sp g0 g1 g2 m0 m1 m2 m3 m4 m5 m6 m7 m8 W H P) cv = some ((W : Int), (H : Int), st6 ph b0 b1 b2 b3 w sp g0 g1 g2 m0 m1 m2 m3 m4 m5 m6 m7 m8 cv W H P, 0) := by
    rw [bend_eq hb (iff_of_true rfl hc), if_neg (by simp), st5_pic hp hs hl hP, if_neg (by simp)]; rfl
  have e7 : D_tone_Sharpen 5000 W H (st6 ph b0 b1 b2 b3 w sp g0 g1 g2 m0 m1 m2 m3 m4 m5 m6 m7 m8 cv W H P) am = some ((W : Int), (H : Int), st7 ph b0 b1 b2 b3 w sp g0 g1 g2 m0 m1 m2 m3 m4 m5 m6 m7 m8 cv am W H P, 0) := by
    rw [sharpen_eq, st6_pic hp hs hl hP hc, if_neg (by simp), if_pos hp.amount, Int.toNat_natCast, Int.toNat_natCast]; rfl
  unfold D_line_Whole D_line_level_work D_line_repair_work D_line_gain_work D_line_fill_work D_line_mix_work D_line_bend_work D_line_sharpen_work
  rw [check_eq ph b0 b1 b2 b3 w sp g0 g1 g2 m0 m1 m2 m3 m4 m5 m6 m7 m8 cv am hb (iff_of_true rfl hc), hB, if_neg (by simp), if_neg (by simp), bsome, cF (by rfl), e1]
  dsimp only [Option.bind]
  rw [cF (by rfl), e2]
  dsimp only
  rw [cF (by rfl), e3]
  dsimp only
  rw [cF (by rfl), e4]
  dsimp only
  rw [cF (by rfl), e5]
  dsimp only
  rw [cF (by rfl), e6]
  dsimp only
  rw [cF (by rfl), e7]
  rfl
end
end
section
variable (ph b0 b1 b2 b3 w : Int) (sp : List (Int × Int)) (g0 g1 g2 m0 m1 m2 m3 m4 m5 m6 m7 m8 : Int) (cv : List (Int × Int)) (am : Int)
def errW (b : Bool) (W H : Int) (P : List Int) : Int := if planB ph b0 b1 b2 b3 w sp g0 g1 g2 m0 m1 m2 m3 m4 m5 m6 m7 m8 am = false then 3 else if b = false then 1 else if planeFine W H P = false then 1 else if sp.all (spotOk W H) = false then 3 else 0
theorem whole_eq {b : Bool} (hb : D_tone_right 5000 cv = some b) (hc : b = true ↔ curveP cv) (W H : Int) (P : List Int) : D_line_Whole 5000 ph b0 b1 b2 b3 w sp g0 g1 g2 m0 m1 m2 m3 m4 m5 m6 m7 m8 cv am W H P = some (if errW ph b0 b1 b2 b3 w sp g0 g1 g2 m0 m1 m2 m3 m4 m5 m6 m7 m8 am b W H P = 0 then (W, H, st7 ph b0 b1 b2 b3 w sp g0 g1 g2 m0 m1 m2 m3 m4 m5 m6 m7 m8 cv am W.toNat H.toNat P, 0) else (0, 0, [], errW ph b0 b1 b2 b3 w sp g0 g1 g2 m0 m1 m2 m3 m4 m5 m6 m7 m8 am b W H P)) := by
  unfold errW
  cases hB : planB ph b0 b1 b2 b3 w sp g0 g1 g2 m0 m1 m2 m3 m4 m5 m6 m7 m8 am
  · unfold D_line_Whole
    rw [check_eq ph b0 b1 b2 b3 w sp g0 g1 g2 m0 m1 m2 m3 m4 m5 m6 m7 m8 cv am hb hc, hB]; rfl
  have hp := planB_ok ph b0 b1 b2 b3 w sp g0 g1 g2 m0 m1 m2 m3 m4 m5 m6 m7 m8 am hB
  simp only [Bool.true_eq_false, if_false]
  cases b
  · unfold D_line_Whole
    rw [check_eq ph b0 b1 b2 b3 w sp g0 g1 g2 m0 m1 m2 m3 m4 m5 m6 m7 m8 cv am hb hc, hB]; rfl
  have hc' := hc.1 rfl
  simp only [Bool.true_eq_false, if_false]
  cases hf : planeFine W H P
  · unfold D_line_Whole D_line_level_work D_sensor_Level
    rw [check_eq ph b0 b1 b2 b3 w sp g0 g1 g2 m0 m1 m2 m3 m4 m5 m6 m7 m8 cv am hb hc, hB, if_neg (by simp), if_neg (by simp), bsome, cF (by rfl), sfine_eq 5000 W H P (by omega), hf]
    rfl
  simp only [Bool.true_eq_false, if_false]
  obtain ⟨w', h', rfl, rfl, w1, w2, w3, w4, hlen, hm, hall⟩ := plane_nat hf
  have hs : 1 ≤ w' ∧ w' ≤ 64 ∧ 1 ≤ h' ∧ h' ≤ 64 := ⟨w1, w2, w3, w4⟩
  have hP := plane_up hlen hall
  cases hsp : sp.all (spotOk w' h')
  · have e1 : D_sensor_Level 5000 w' h' P b0 b1 b2 b3 w = some ((w' : Int), (h' : Int), st1 b0 b1 b2 b3 w w' P, 0) := level_eq hp.black hp.white.2 hf
    have l1 := st1_len hp hs hlen hP
    have e2 : D_sensor_Repair 5000 w' h' (st1 b0 b1 b2 b3 w w' P) sp = some (0, 0, [], 3) := by
      unfold D_sensor_Repair
      rw [if_neg (by omega), st1_fine hp hs hlen hP, if_neg (by simp), if_neg (by have := hp.nspots; omega), hsp, if_pos rfl]
    unfold D_line_Whole D_line_level_work D_line_repair_work
    rw [check_eq ph b0 b1 b2 b3 w sp g0 g1 g2 m0 m1 m2 m3 m4 m5 m6 m7 m8 cv am hb hc, hB, if_neg (by simp), if_neg (by simp), bsome, cF (by rfl), e1]
    dsimp only [Option.bind]
    rw [cF (by rfl), e2]
    rfl
  · simp only [Bool.true_eq_false, if_false, if_true, Int.toNat_natCast]
    exact whole_ok hp hs hlen hP hc' hsp hf hb hB
theorem st7_len (W H : Nat) (P : List Int) : (st7 ph b0 b1 b2 b3 w sp g0 g1 g2 m0 m1 m2 m3 m4 m5 m6 m7 m8 cv am W H P).length = W * H := mkL_len _ _ _
end
end Go.Proofs.Ytpmnfhifmmfglab

namespace Go.Proofs.Ytpmnfhifmmfglab
open Go
theorem gD_map {α : Type} {n i : Nat} (f : Nat → α) (z : α) (h : i < n) : ((List.range n).map f).getD i z = f i := by
  rw [List.getD_eq_getElem?_getD, List.getElem?_map, List.getElem?_range h]; rfl
/-- Row v of the part is in it just when row v + t of the other one is. -/
def RR (H H' t : Nat) (v : Int) : Prop := (0 ≤ v ∧ v < H') ↔ (0 ≤ v + t ∧ v + t < H)
def eqOn {α : Type} (z : α) (W H' t : Nat) (lo hi : Int) (P P' : List α) : Prop := ∀ x y : Nat, x < W → y < H' → lo ≤ y → (y : Int) < hi → P'.getD (y * W + x) z = P.getD ((y + t) * W + x) z
section
variable {W H H' t : Nat} {lo hi : Int} (hR : ∀ v : Int, lo ≤ v → v < hi → RR H H' t v)
include hR
theorem RR_lt {y : Nat} (hy : y < H') (h1 : lo ≤ y) (h2 : (y : Int) < hi) : y + t < H := by
  have := (hR y h1 h2).1 ⟨by omega, by omega⟩
  omega
theorem pl_lt {x y : Nat} (hx : x < W) (hy : y < H') (h1 : lo ≤ y) (h2 : (y : Int) < hi) : y * W + x < W * H' ∧ (y + t) * W + x < W * H := ⟨place_lt hx hy, place_lt hx (RR_lt hR hy h1 h2)⟩
/-- A stage that makes of a place what its coordinates and the plane tell. -/
theorem eqOn_map {α β : Type} {z : α} {f : List β → Nat → α} {f' : List β → Nat → α} {P P' : List β} (hl : P.length = W * H) (hl' : P'.length = W * H')
    (h : ∀ x y : Nat, x < W → y < H' → lo ≤ y → (y : Int) < hi → f' P' (y * W + x) = f P ((y + t) * W + x)) : eqOn z W H' t lo hi ((List.range P.length).map (f P)) ((List.range P'.length).map (f' P')) := fun x y hx hy h1 h2 => by
  obtain ⟨a, b⟩ := pl_lt hR hx hy h1 h2
  rw [gD_map _ _ (by omega), gD_map _ _ (by omega), h x y hx hy h1 h2]
theorem eqOn_mkL {f f' : Nat → Nat → Px} (h : ∀ x y : Nat, x < W → y < H' → lo ≤ y → (y : Int) < hi → f' x y = f x (y + t)) : eqOn px0 W H' t lo hi (mkL W H f) (mkL W H' f') := fun x y hx hy h1 h2 => by
  obtain ⟨a, b⟩ := pl_lt hR hx hy h1 h2
  unfold mkL
  rw [gD_map _ _ a, gD_map _ _ b, (dm y hx).1, (dm y hx).2, (dm (y + t) hx).1, (dm (y + t) hx).2, h x y hx hy h1 h2]
end
theorem nbY_sh (y t : Int) {k : Nat} (hk : k < 4) : nbY (y + t) k = nbY y k + t ∧ y - 2 ≤ nbY y k ∧ nbY y k ≤ y + 2 := by
  have : k = 0 ∨ k = 1 ∨ k = 2 ∨ k = 3 := by omega
  rcases this with rfl | rfl | rfl | rfl
  · show y + t = y + t ∧ y - 2 ≤ y ∧ y ≤ y + 2; omega
  · show y + t = y + t ∧ y - 2 ≤ y ∧ y ≤ y + 2; omega
  · show y + t - 2 = y - 2 + t ∧ y - 2 ≤ y - 2 ∧ y - 2 ≤ y + 2; omega
  · show y + t + 2 = y + 2 + t ∧ y - 2 ≤ y + 2 ∧ y + 2 ≤ y + 2; omega
section
variable {W H H' t : Nat} {lo hi : Int} (hR : ∀ v : Int, lo ≤ v → v < hi → RR H H' t v) {l l' : List (Int × Int)} (hs : ∀ u v : Int, 0 ≤ v → v < H' → cntF l' u v = cntF l u (v + t))
include hR hs
theorem nbOk_loc {x y : Int} (h1 : lo + 2 ≤ y) (h2 : y + 2 < hi) (k : Nat) (hk : k < 4) : nbOk W H' (cntF l') x y k ↔ nbOk W H (cntF l) x (y + t) k := by
  have hn := nbY_sh y t hk
  have hv : nbY (y + t) k = nbY y k + t ∧ lo ≤ nbY y k ∧ nbY y k < hi := ⟨hn.1, by omega, by omega⟩
  have r := hR _ hv.2.1 hv.2.2
  unfold RR at r
  unfold nbOk
  rw [hv.1]
  constructor
  · rintro ⟨a, b, c, d, e⟩
    have := r.1 ⟨c, d⟩
    exact ⟨a, b, this.1, this.2, by rw [← hs _ _ c d]; exact e⟩
  · rintro ⟨a, b, c, d, e⟩
    have := r.2 ⟨c, d⟩
    exact ⟨a, b, this.1, this.2, by rw [hs _ _ this.1 this.2]; exact e⟩
theorem rp_loc {P P' : List Int} (he : eqOn 0 W H' t lo hi P P') {x y : Nat} (hx : x < W) (hy : y < H') (h1 : lo + 2 ≤ y) (h2 : (y : Int) + 2 < hi) : rpF W H' P' l' x y = rpF W H P l x (y + t) := by
  have hok := fun k hk => nbOk_loc (W := W) hR hs (x := x) h1 h2 k hk
  have hval : ∀ k, k < 4 → nbOk W H' (cntF l') x y k → nbVal W P' x y k = nbVal W P x (y + t) k := fun k hk hn => by
    have hn' := (hok k hk).1 hn
    unfold nbOk at hn hn'
    have hq := nbY_sh y t hk
    have hv : nbY ((y : Int) + t) k = nbY y k + t ∧ lo ≤ nbY y k ∧ nbY y k < hi := ⟨hq.1, by omega, by omega⟩
    unfold nbVal
    rw [hv.1]
    obtain ⟨u, hu⟩ : ∃ n : Nat, nbX (x : Int) k = n := ⟨(nbX (x : Int) k).toNat, by omega⟩
    obtain ⟨v, hv'⟩ : ∃ n : Nat, nbY (y : Int) k = n := ⟨(nbY (y : Int) k).toNat, by omega⟩
    rw [hu, hv']
    have := he u v (by omega) (by omega) (by omega) (by omega)
    have e1 : ((v : Int) * W + u).toNat = v * W + u := by rw [← Int.natCast_mul, ← Int.natCast_add, Int.toNat_natCast]
    have e2 : (((v : Int) + t) * W + u).toNat = (v + t) * W + u := by rw [← Int.natCast_add, ← Int.natCast_mul, ← Int.natCast_add, Int.toNat_natCast]
    rw [e1, e2, this]
  have hc0 : cntF l' x y = cntF l x ((y + t : Nat) : Int) := by rw [Int.natCast_add]; exact hs _ _ (by omega) (by omega)
  have hp0 := he x y hx hy (by omega) (by omega)
  have hS : ∀ k, k ≤ 4 → nbSum W H' (cntF l') P' x y k = nbSum W H (cntF l) P x (y + t) k ∧ nbCnt W H' (cntF l') x y k = nbCnt W H (cntF l) x (y + t) k := by
    intro k
    induction k with
    | zero => intro _; exact ⟨rfl, rfl⟩
    | succ k ih =>
      intro hk
      obtain ⟨i1, i2⟩ := ih (by omega)
      simp only [nbSum, nbCnt]
      rw [i1, i2]
      by_cases h : nbOk W H' (cntF l') x y k
      · rw [if_pos h, if_pos ((hok k (by omega)).1 h), if_pos h, if_pos ((hok k (by omega)).1 h), hval k (by omega) h]; exact ⟨rfl, rfl⟩
      · have h' := fun q => h ((hok k (by omega)).2 q)
        rw [if_neg h, if_neg h', if_neg h, if_neg h']; exact ⟨rfl, rfl⟩
  obtain ⟨s1, s2⟩ := hS 4 (by omega)
  unfold rpF repairV
  rw [hp0, hc0, Int.natCast_add, s1, s2]
end
theorem rp_at {W H : Nat} {l : List (Int × Int)} {P : List Int} {x y : Nat} (hx : x < W) : repairL W H l P (y * W + x) = rpF W H P l x y := by
  unfold repairL rpF
  rw [← Int.natCast_emod, ← Int.natCast_ediv, (dm y hx).1, (dm y hx).2]
def shv (t : Nat) (q : Int × Int) : Int × Int := (q.1, q.2 + t)
theorem fuU_sh (t : Nat) (W x v : Int) : ∀ (k : Nat) (u : Int), fuU W x (v + t) k u = (fuU W x v k u).map (shv t)
  | 0, _ => rfl
  | k + 1, u => by
    unfold fuU
    split
    · rw [List.map_cons, fuU_sh t W x v k (u + 1)]; rfl
    · rfl
theorem fuU_mem {W x v : Int} {q : Int × Int} : ∀ (k : Nat) (u : Int), q ∈ fuU W x v k u → u ≤ q.1 ∧ q.1 < W ∧ q.2 = v
  | 0, _, h => by cases h
  | k + 1, u, h => by
    unfold fuU at h
    split at h
    · rcases List.mem_cons.1 h with rfl | h
      · dsimp only; omega
      · have := fuU_mem k (u + 1) h; omega
    · cases h
theorem fuV_sh {t H H' : Nat} (W x : Int) {y : Int} (h : ∀ v : Int, y - 1 ≤ v → v ≤ y + 1 → 0 ≤ v → ((v < H') ↔ (v + t < H))) : ∀ (k : Nat) (v : Int), 0 ≤ v → y - 1 ≤ v → fuV W H x (y + t) k (v + t) = (fuV W H' x y k v).map (shv t)
  | 0, _, _, _ => rfl
  | k + 1, v, h0, h1 => by
    unfold fuV
    by_cases hc : v ≤ min ((H' : Int) - 1) (y + 1)
    · have := h v h1 (by omega) h0
      rw [if_pos hc, if_pos (by omega), List.map_append, fuU_sh, show v + (t : Int) + 1 = (v + 1) + t by omega, fuV_sh W x h k (v + 1) (by omega) (by omega)]
    · rw [if_neg hc, if_neg]
      · rfl
      · intro hc'
        have := h v h1 (by omega) h0
        omega
theorem fuV_mem {W H x y : Int} {q : Int × Int} : ∀ (k : Nat) (v : Int), q ∈ fuV W H x y k v → max 0 (x - 1) ≤ q.1 ∧ q.1 < W ∧ v ≤ q.2 ∧ q.2 < H ∧ q.2 ≤ y + 1
  | 0, _, h => by cases h
  | k + 1, v, h => by
    unfold fuV at h
    split at h
    · rcases List.mem_append.1 h with h | h
      · have := fuU_mem 4 _ h; omega
      · have := fuV_mem k (v + 1) h; omega
    · cases h
section
variable {W H H' t : Nat} {lo hi : Int} (hR : ∀ v : Int, lo ≤ v → v < hi → RR H H' t v) {ph ph' : Int} (hc : ∀ u v : Int, colI ph' u v = colI ph u (v + t))
include hR hc
theorem pF_loc {P P' : List Int} (he : eqOn 0 W H' t lo hi P P') {x y : Nat} (hx : x < W) (hy : y < H') (h1 : lo + 1 ≤ y) (h2 : (y : Int) + 1 < hi) : pF W H' P' ph' x y = pF W H P ph x (y + t) := by
  have r0 := hR (y - 1) (by omega) (by omega)
  have r1 := hR y (by omega) (by omega)
  have r2 := hR (y + 1) (by omega) (by omega)
  unfold RR at r0 r1 r2
  have hL : fullL W H x ((y : Int) + t) = (fullL W H' x y).map (shv t) := by
    unfold fullL
    rw [show max 0 ((y : Int) + t - 1) = max 0 ((y : Int) - 1) + t by omega]
    refine fuV_sh W x (fun v a b c => ?_) 4 _ (by omega) (by omega)
    have : v = y - 1 ∨ v = y ∨ v = y + 1 := by omega
    rcases this with rfl | rfl | rfl <;> omega
  have hm : ∀ q ∈ fullL W H' x y, 0 ≤ q.1 ∧ q.1 < W ∧ 0 ≤ q.2 ∧ q.2 < H' ∧ lo ≤ q.2 ∧ q.2 < hi := fun q hq => by
    have := fuV_mem 4 _ hq
    omega
  have hA : ∀ q : Int × Int, 0 ≤ q.1 ∧ q.1 < W ∧ 0 ≤ q.2 ∧ q.2 < H' ∧ lo ≤ q.2 ∧ q.2 < hi → pAt W P (shv t q) = pAt W P' q := fun q hq => by
    obtain ⟨u, v⟩ := q
    dsimp only at hq
    obtain ⟨u, rfl⟩ := Int.eq_ofNat_of_zero_le hq.1
    obtain ⟨v, rfl⟩ := Int.eq_ofNat_of_zero_le hq.2.2.1
    have := he u v (by omega) (by omega) (by omega) (by omega)
    unfold pAt shv
    dsimp only
    have e1 : ((v : Int) * W + u).toNat = v * W + u := by rw [← Int.natCast_mul, ← Int.natCast_add, Int.toNat_natCast]
    have e2 : (((v : Int) + t) * W + u).toNat = (v + t) * W + u := by rw [← Int.natCast_add, ← Int.natCast_mul, ← Int.natCast_add, Int.toNat_natCast]
    rw [e1, e2, this]
  have hO : ∀ c, ofC ph c ((fullL W H' x y).map (shv t)) = (ofC ph' c (fullL W H' x y)).map (shv t) := fun c => by
    unfold ofC
    rw [List.filter_map]
    congr 1
    refine List.filter_congr fun q _ => ?_
    show decide (colI ph q.1 (q.2 + t) = c) = decide (colI ph' q.1 q.2 = c)
    rw [hc]
  have hcnt : ∀ c, cnt ph c (fullL W H x ((y : Int) + t)) = cnt ph' c (fullL W H' x y) := fun c => by
    unfold cnt
    rw [hL, hO, List.length_map]
  have hsm : ∀ c, sm W P ph c (fullL W H x ((y : Int) + t)) = sm W P' ph' c (fullL W H' x y) := fun c => by
    unfold sm
    rw [hL, hO, List.map_map]
    congr 1
    refine List.map_congr_left fun q hq => ?_
    exact hA q (hm q (List.mem_filter.1 hq).1)
  have h0 := hA ((x : Int), (y : Int)) (by dsimp only; omega)
  unfold shv at h0
  unfold pF pixV
  rw [Int.natCast_add, hcnt, hcnt, hcnt, hsm, hsm, hsm, ← h0, hc]
end
section
variable {W H H' t : Nat} {lo hi : Int} (hR : ∀ v : Int, lo ≤ v → v < hi → RR H H' t v)
include hR
theorem shF_loc (am : Int) {P P' : List Px} (he : eqOn px0 W H' t lo hi P P') {x y : Nat} (hx : x < W) (hy : y < H') (h1 : lo + 1 ≤ y) (h2 : (y : Int) + 1 < hi) : shF am W H' P' x y = shF am W H P x (y + t) := by
  have r0 := hR (y - 1) (by omega) (by omega)
  have r1 := hR y (by omega) (by omega)
  have r2 := hR (y + 1) (by omega) (by omega)
  unfold RR at r0 r1 r2
  have hn : ∀ dy dx : Int, -1 ≤ dy → dy ≤ 1 → nb P' W H' x y dy dx = nb P W H x (y + t) dy dx := fun dy dx a b => by
    have hd : dy = -1 ∨ dy = 0 ∨ dy = 1 := by omega
    have e : cl (y + t) dy H = cl y dy H' + t ∧ cl y dy H' < H' ∧ lo ≤ cl y dy H' ∧ (cl y dy H' : Int) < hi := by
      unfold cl
      rcases hd with rfl | rfl | rfl <;> omega
    have e2 : cl x dx W < W := by unfold cl; omega
    unfold nb
    rw [e.1]
    exact he _ _ e2 e.2.1 e.2.2.1 e.2.2.2
  have h0 : pxOf P' W x y = pxOf P W x (y + t) := he x y hx hy (by omega) (by omega)
  unfold shF sumS rowS
  rw [h0, hn (-1) (-1) (by omega) (by omega), hn (-1) 0 (by omega) (by omega), hn (-1) 1 (by omega) (by omega), hn 0 (-1) (by omega) (by omega), hn 0 0 (by omega) (by omega), hn 0 1 (by omega) (by omega), hn 1 (-1) (by omega) (by omega), hn 1 0 (by omega) (by omega), hn 1 1 (by omega) (by omega)]
end
section
variable {W H H' t : Nat} {ph b0 b1 b2 b3 w : Int} {sp : List (Int × Int)} {g0 g1 g2 m0 m1 m2 m3 m4 m5 m6 m7 m8 : Int} {cv : List (Int × Int)} {am : Int} {ph' c0 c1 c2 c3 : Int} {sp' : List (Int × Int)}
theorem st7_loc {lo hi : Int} (hR : ∀ v : Int, lo ≤ v → v < hi → RR H H' t v)
    (hb : ∀ x y : Nat, blk4 c0 c1 c2 c3 x y = blk4 b0 b1 b2 b3 x (y + t)) (hc : ∀ u v : Int, colI ph' u v = colI ph u (v + t)) (hs : ∀ u v : Int, 0 ≤ v → v < H' → cntF sp' u v = cntF sp u (v + t))
    {P P' : List Int} (hl : P.length = W * H) (hl' : P'.length = W * H') (he : eqOn 0 W H' t lo hi P P') :
    eqOn px0 W H' t (lo + 4) (hi - 4) (st7 ph b0 b1 b2 b3 w sp g0 g1 g2 m0 m1 m2 m3 m4 m5 m6 m7 m8 cv am W H P) (st7 ph' c0 c1 c2 c3 w sp' g0 g1 g2 m0 m1 m2 m3 m4 m5 m6 m7 m8 cv am W H' P') := by
  have sub : ∀ d : Int, 0 ≤ d → ∀ v : Int, lo + d ≤ v → v < hi - d → RR H H' t v := fun d _ v a b => hR v (by omega) (by omega)
  have e1 : eqOn 0 W H' t lo hi (st1 b0 b1 b2 b3 w W P) (st1 c0 c1 c2 c3 w W P') := by
    refine eqOn_map hR (f := fun P i => levL W P b0 b1 b2 b3 w i) (f' := fun P i => levL W P c0 c1 c2 c3 w i) hl hl' fun x y hx hy h1 h2 => ?_
    simp only [levL]
    rw [(dm y hx).1, (dm y hx).2, (dm (y + t) hx).1, (dm (y + t) hx).2, hb, he x y hx hy h1 h2]
  have l1 : (st1 b0 b1 b2 b3 w W P).length = W * H := by unfold st1; rw [List.length_map, List.length_range, hl]
  have l1' : (st1 c0 c1 c2 c3 w W P').length = W * H' := by unfold st1; rw [List.length_map, List.length_range, hl']
  have e2 : eqOn 0 W H' t (lo + 2) (hi - 2) (st2 b0 b1 b2 b3 w sp W H P) (st2 c0 c1 c2 c3 w sp' W H' P') := by
    refine eqOn_map (sub 2 (by omega)) (f := fun P i => repairL W H sp P i) (f' := fun P i => repairL W H' sp' P i) l1 l1' fun x y hx hy h1 h2 => ?_
    show repairL W H' sp' _ _ = repairL W H sp _ _
    rw [rp_at hx, rp_at hx]
    exact rp_loc hR hs e1 hx hy h1 (by omega)
  have l2 : (st2 b0 b1 b2 b3 w sp W H P).length = W * H := by unfold st2; rw [List.length_map, List.length_range, l1]
  have l2' : (st2 c0 c1 c2 c3 w sp' W H' P').length = W * H' := by unfold st2; rw [List.length_map, List.length_range, l1']
  have e3 : eqOn 0 W H' t (lo + 2) (hi - 2) (st3 ph b0 b1 b2 b3 w sp g0 g1 g2 W H P) (st3 ph' c0 c1 c2 c3 w sp' g0 g1 g2 W H' P') := by
    refine eqOn_map (sub 2 (by omega)) (f := fun P i => gnL W P ph g0 g1 g2 i) (f' := fun P i => gnL W P ph' g0 g1 g2 i) l2 l2' fun x y hx hy h1 h2 => ?_
    simp only [gnL]
    rw [(dm y hx).1, (dm y hx).2, (dm (y + t) hx).1, (dm (y + t) hx).2, hc, Int.natCast_add, e2 x y hx hy h1 h2]
  have e4 : eqOn px0 W H' t (lo + 3) (hi - 3) (st4 ph b0 b1 b2 b3 w sp g0 g1 g2 W H P) (st4 ph' c0 c1 c2 c3 w sp' g0 g1 g2 W H' P') := by
    unfold st4
    exact eqOn_mkL (sub 3 (by omega)) fun x y hx hy h1 h2 => pF_loc (sub 2 (by omega)) hc e3 hx hy (by omega) (by omega)
  have l4 : (st4 ph b0 b1 b2 b3 w sp g0 g1 g2 W H P).length = W * H := mkL_len _ _ _
  have l4' : (st4 ph' c0 c1 c2 c3 w sp' g0 g1 g2 W H' P').length = W * H' := mkL_len _ _ _
  have e5 : eqOn px0 W H' t (lo + 3) (hi - 3) (st5 ph b0 b1 b2 b3 w sp g0 g1 g2 m0 m1 m2 m3 m4 m5 m6 m7 m8 W H P) (st5 ph' c0 c1 c2 c3 w sp' g0 g1 g2 m0 m1 m2 m3 m4 m5 m6 m7 m8 W H' P') := by
    refine eqOn_map (sub 3 (by omega)) (f := fun P i => mixP m0 m1 m2 m3 m4 m5 m6 m7 m8 (P.getD i px0)) (f' := fun P i => mixP m0 m1 m2 m3 m4 m5 m6 m7 m8 (P.getD i px0)) l4 l4' fun x y hx hy h1 h2 => ?_
    rw [e4 x y hx hy h1 h2]
  have l5 : (st5 ph b0 b1 b2 b3 w sp g0 g1 g2 m0 m1 m2 m3 m4 m5 m6 m7 m8 W H P).length = W * H := by unfold st5; rw [List.length_map, List.length_range, l4]
  have l5' : (st5 ph' c0 c1 c2 c3 w sp' g0 g1 g2 m0 m1 m2 m3 m4 m5 m6 m7 m8 W H' P').length = W * H' := by unfold st5; rw [List.length_map, List.length_range, l4']
  have e6 : eqOn px0 W H' t (lo + 3) (hi - 3) (st6 ph b0 b1 b2 b3 w sp g0 g1 g2 m0 m1 m2 m3 m4 m5 m6 m7 m8 cv W H P) (st6 ph' c0 c1 c2 c3 w sp' g0 g1 g2 m0 m1 m2 m3 m4 m5 m6 m7 m8 cv W H' P') := by
    refine eqOn_map (sub 3 (by omega)) (f := fun P i => bendP cv (P.getD i px0)) (f' := fun P i => bendP cv (P.getD i px0)) l5 l5' fun x y hx hy h1 h2 => ?_
    rw [e5 x y hx hy h1 h2]
  unfold st7
  exact eqOn_mkL (sub 4 (by omega)) fun x y hx hy h1 h2 => shF_loc (sub 3 (by omega)) am e6 hx hy (by omega) (by omega)
end
/-- Another sample, far away. -/
theorem eqOn_set {W H : Nat} {P : List Int} {i : Nat} {v lo hi : Int} (h : ∀ y : Nat, lo ≤ y → (y : Int) < hi → y ≠ i / W) : eqOn 0 W H 0 lo hi P (P.set i v) := fun x y hx hy h1 h2 => by
  rw [Nat.add_zero, List.getD_eq_getElem?_getD, List.getD_eq_getElem?_getD, List.getElem?_set_ne]
  intro e
  have := h y h1 h2
  rw [e, (dm y hx).2] at this
  exact this rfl
end Go.Proofs.Ytpmnfhifmmfglab

namespace Go.Proofs.Ytpmnfhifmmfglab
open Go
section
variable (ph b0 b1 b2 b3 w : Int) (sp : List (Int × Int)) (g0 g1 g2 m0 m1 m2 m3 m4 m5 m6 m7 m8 : Int) (cv : List (Int × Int)) (am : Int)
theorem errW_none {f : Bool} {W H : Int} {P : List Int} (h : errW ph b0 b1 b2 b3 w sp g0 g1 g2 m0 m1 m2 m3 m4 m5 m6 m7 m8 am f W H P = 0) : planB ph b0 b1 b2 b3 w sp g0 g1 g2 m0 m1 m2 m3 m4 m5 m6 m7 m8 am = true ∧ f = true ∧ planeFine W H P = true ∧ sp.all (spotOk W H) = true := by
  unfold errW at h
  cases hB : planB ph b0 b1 b2 b3 w sp g0 g1 g2 m0 m1 m2 m3 m4 m5 m6 m7 m8 am
  · rw [hB] at h; simp at h
  cases f
  · rw [hB] at h; simp at h
  cases hf : planeFine W H P
  · rw [hB, hf] at h; simp at h
  cases hs : sp.all (spotOk W H)
  · rw [hB, hf, hs] at h; simp at h
  exact ⟨rfl, rfl, rfl, rfl⟩
end
end Go.Proofs.Ytpmnfhifmmfglab

namespace Go.Proofs.Ytpmnfhifmmfglab
open Go
theorem lineBegun_eq : D_darkslidelaw_lineBegun 5000 = some true := by kernel_rfl
end Go.Proofs.Ytpmnfhifmmfglab

namespace Go.Proofs.Ytpmnfhifmmfglab
open Go
theorem choose_eq (N : Nat) (c : Int) (n : Nat) (hn : 1 ≤ n) (hc : -9223372036854775808 ≤ c ∧ c ≤ 9223372036854775807) : ∃ k : Nat, k < n ∧ D_darkslidelaw_choose N c (n : Int) = some (k : Int) := by
  have key : ∀ c : Int, 0 ≤ c → ∃ k : Nat, k < n ∧ Int.tmod c (n : Int) = (k : Int) := fun c h => by
    refine ⟨c.toNat % n, Nat.mod_lt _ (by omega), ?_⟩
    obtain ⟨m, rfl⟩ : ∃ m : Nat, c = m := ⟨c.toNat, by omega⟩
    rw [Int.toNat_natCast]; rfl
  unfold D_darkslidelaw_choose
  by_cases h : c < 0
  · rw [cT (dT h), w64 (x := c + 1) (by omega), w64 (by omega), bsome, nz_eq (by omega), bsome]
    obtain ⟨k, h1, h2⟩ := key (0 - (c + 1)) (by omega)
    exact ⟨k, h1, by rw [h2]⟩
  · rw [cF (dF h), nz_eq (by omega), bsome]
    obtain ⟨k, h1, h2⟩ := key c (by omega)
    exact ⟨k, h1, by rw [h2]⟩
end Go.Proofs.Ytpmnfhifmmfglab

namespace Go.Proofs.Ytpmnfhifmmfglab
open Go
theorem far_l1 {W H : Nat} (hW : 1 ≤ W) {P : List Int} (hl : P.length = W * H) (hm : W * H ≤ 4096) (e e' : Int) {Q Q' : List Px} (h1 : Q.length = W * H) (h2 : Q'.length = W * H) {i : Nat} (hi : i < W * H)
    (heq : ∀ k, k < W * H → (k / W > i / W + 4 ∨ k / W + 4 < i / W) → Q.getD k px0 = Q'.getD k px0) (kk) : ∀ (d k fuel : Nat), k + d = W * H → d < fuel →
    D_darkslidelaw_LineFar_l1 5000 W P ((W : Int), (H : Int), Q, e) (i : Int) ((W : Int), (H : Int), Q', e') kk fuel (k : Int) = kk ((W * H : Nat) : Int) := by
  intro d
  induction d with
  | zero =>
    intro k fuel hk hf
    obtain ⟨fuel, rfl⟩ : ∃ m, fuel = m + 1 := ⟨fuel - 1, by omega⟩
    obtain rfl : k = W * H := by omega
    unfold D_darkslidelaw_LineFar_l1
    rw [cF (dF (by omega))]
  | succ d ih =>
    intro k fuel hk hf
    obtain ⟨fuel, rfl⟩ : ∃ m, fuel = m + 1 := ⟨fuel - 1, by omega⟩
    have hlt : k < W * H := by omega
    have hih := ih (k + 1) fuel (by omega) (by omega)
    have t1 : IntKind.i64.wrap (Int.tdiv (k : Int) (W : Int)) = ((k / W : Nat) : Int) := by
      have := Nat.div_le_self k W
      rw [show Int.tdiv (k : Int) (W : Int) = ((k / W : Nat) : Int) from rfl]
      generalize k / W = q at this ⊢
      exact w64 (by omega)
    have t2 : IntKind.i64.wrap (Int.tdiv (i : Int) (W : Int)) = ((i / W : Nat) : Int) := by
      have := Nat.div_le_self i W
      rw [show Int.tdiv (i : Int) (W : Int) = ((i / W : Nat) : Int) from rfl]
      generalize i / W = q at this ⊢
      exact w64 (by omega)
    have e1 : IntKind.i64.wrap ((k : Int) + 1) = ((k + 1 : Nat) : Int) := w64 (by omega)
    have g1 : Q[k]? = some (Q.getD k px0) := by rw [List.getD_eq_getElem?_getD, List.getElem?_eq_getElem (by omega)]; rfl
    have g2 : Q'[k]? = some (Q'.getD k px0) := by rw [List.getD_eq_getElem?_getD, List.getElem?_eq_getElem (by omega)]; rfl
    have hq := heq k hlt
    have b1 := Nat.div_le_self k W
    have b2 := Nat.div_le_self i W
    unfold D_darkslidelaw_LineFar_l1
    rw [cT (dT (by omega)), nz_eq (by omega), bsome, bsome, t1, t2, e1, bsome, bsome]
    generalize k / W = a at *
    generalize i / W = b at *
    rw [w64 (x := (a : Int) - b) (by omega)]
    dsimp only
    by_cases c1 : 4 < (a : Int) - b
    · rw [cT (dT c1), idx_nat, g1, bsome, idx_nat, g2, bsome, hq (Or.inl (by omega)), cF (by simp)]
      exact hih
    rw [cF (dF c1)]
    by_cases c2 : (a : Int) - b < -4
    · rw [cT (dT c2), idx_nat, g1, bsome, idx_nat, g2, bsome, hq (Or.inr (by omega)), cF (by simp)]
      exact hih
    rw [cF (dF c2)]
    exact hih
theorem lineFar_true (ph b0 b1 b2 b3 w : Int) (sp : List (Int × Int)) (g0 g1 g2 m0 m1 m2 m3 m4 m5 m6 m7 m8 : Int) (cv : List (Int × Int)) (am : Int) (W H : Int) (P : List Int) (at_ value : Int) (ha : -9223372036854775808 ≤ at_ ∧ at_ ≤ 9223372036854775807) (hv : -9223372036854775808 ≤ value ∧ value ≤ 9223372036854775807) : D_darkslidelaw_LineFar 5000 ph b0 b1 b2 b3 w sp g0 g1 g2 m0 m1 m2 m3 m4 m5 m6 m7 m8 cv am W H P at_ value = some true := by
  obtain ⟨f, hb, hb', hc⟩ := right_both cv
  unfold D_darkslidelaw_LineFar
  rw [whole_eq ph b0 b1 b2 b3 w sp g0 g1 g2 m0 m1 m2 m3 m4 m5 m6 m7 m8 cv am hb hc, bsome, lineBegun_eq]
  by_cases he : errW ph b0 b1 b2 b3 w sp g0 g1 g2 m0 m1 m2 m3 m4 m5 m6 m7 m8 am f W H P = 0
  · obtain ⟨hB, rfl, hf, hsp⟩ := errW_none ph b0 b1 b2 b3 w sp g0 g1 g2 m0 m1 m2 m3 m4 m5 m6 m7 m8 am he
    obtain ⟨w', h', rfl, rfl, w1, w2, w3, w4, hlen, hm, hall⟩ := plane_nat hf
    have hp := planB_ok ph b0 b1 b2 b3 w sp g0 g1 g2 m0 m1 m2 m3 m4 m5 m6 m7 m8 am hB
    have hpos : 0 < w' * h' := Nat.mul_pos w1 w3
    obtain ⟨i, hi, hci⟩ := choose_eq 5000 at_ P.length (by omega) ha
    obtain ⟨v, hv1, hcv⟩ := choose_eq 5000 value 65536 (by omega) hv
    have hcv' : D_darkslidelaw_choose 5000 value 65536 = some (v : Int) := hcv
    have hset : setL P (i : Int) (v : Int) = some (P.set i (v : Int)) := by unfold setL; rw [if_pos (by omega), Int.toNat_natCast]
    have hf2 : planeFine w' h' (P.set i (v : Int)) = true := by
      obtain ⟨f1, f5, f6⟩ := planeFine_iff.1 hf
      refine planeFine_iff.2 ⟨f1, by rw [List.length_set]; exact f5, List.all_eq_true.2 fun x hx => ?_⟩
      rcases List.mem_or_eq_of_mem_set hx with h | h
      · exact List.all_eq_true.1 f6 x h
      · subst h; simp [okS]; omega
    have he2 : errW ph b0 b1 b2 b3 w sp g0 g1 g2 m0 m1 m2 m3 m4 m5 m6 m7 m8 am true w' h' (P.set i (v : Int)) = 0 := by
      unfold errW
      rw [hB, hf2, hsp]; rfl
    have hlen2 : (P.set i (v : Int)).length = w' * h' := by rw [List.length_set, hlen]
    rw [if_pos he, cF (by rfl), cF (dF (by omega)), hci, bsome, app_eq (by simp; omega), List.nil_append, bsome, hcv', bsome, idx_nat, List.getElem?_eq_getElem hi, bsome, hset, bsome, whole_eq ph b0 b1 b2 b3 w sp g0 g1 g2 m0 m1 m2 m3 m4 m5 m6 m7 m8 cv am hb hc, if_pos he2, bsome, cF (by rfl), Int.toNat_natCast, Int.toNat_natCast]
    dsimp only
    rw [cF (by rw [dT (by rw [st7_len ph b0 b1 b2 b3 w sp g0 g1 g2 m0 m1 m2 m3 m4 m5 m6 m7 m8 cv am, hlen])]; rfl), cF (by rw [dT (by rw [st7_len ph b0 b1 b2 b3 w sp g0 g1 g2 m0 m1 m2 m3 m4 m5 m6 m7 m8 cv am, hlen])]; rfl)]
    have := far_l1 (W := w') (H := h') w1 hlen hm 0 0 (st7_len ph b0 b1 b2 b3 w sp g0 g1 g2 m0 m1 m2 m3 m4 m5 m6 m7 m8 cv am w' h' P) (st7_len ph b0 b1 b2 b3 w sp g0 g1 g2 m0 m1 m2 m3 m4 m5 m6 m7 m8 cv am w' h' (P.set i (v : Int))) (i := i) (by omega) (fun k hk hfar => by
      obtain ⟨l1, l2, _⟩ := lt_of_place hk
      have key := st7_loc (W := w') (H := h') (H' := h') (t := 0) (lo := ((k / w' : Nat) : Int) - 4) (hi := ((k / w' : Nat) : Int) + 5) (ph := ph) (b0 := b0) (b1 := b1) (b2 := b2) (b3 := b3) (w := w) (sp := sp) (g0 := g0) (g1 := g1) (g2 := g2) (m0 := m0) (m1 := m1) (m2 := m2) (m3 := m3) (m4 := m4) (m5 := m5) (m6 := m6) (m7 := m7) (m8 := m8) (cv := cv) (am := am) (ph' := ph) (c0 := b0) (c1 := b1) (c2 := b2) (c3 := b3) (sp' := sp)
        (fun v h1 h2 => by unfold RR; omega) (fun x y => rfl) (fun u v => by rw [Int.natCast_zero, Int.add_zero]) (fun u v _ _ => by rw [Int.natCast_zero, Int.add_zero]) hlen hlen2 (eqOn_set (i := i) (v := (v : Int)) (fun y h1 h2 => by
          generalize k / w' = a at *
          generalize i / w' = b at *
          omega))
      have := key (k % w') (k / w') l1 l2 (by generalize k / w' = a at *; omega) (by generalize k / w' = a at *; omega)
      rw [Nat.add_zero, Nat.div_add_mod'] at this
      exact this.symm) (fun _ => (some true).bind fun r7 => some r7) (w' * h') 0 5000 (by omega) (by omega)
    exact this
  · rw [if_neg he]
    dsimp only
    rw [cT (by rw [dF he]; rfl)]; rfl
end Go.Proofs.Ytpmnfhifmmfglab

namespace Go.Proofs.Ytpmnfhifmmfglab
open Go.RowKit
section
variable {P : Program} {ops : Array Oper} {Q : Exit → Act → World → Prop} {S : World → Prop} {rob need : Nat → Bool} {R : Act → World → Prop}
def rdy (ops : Array Oper) (rem : List Nat) (i : Nat) : Bool := rem.all fun j => !waits ops i j
def wpTr (P : Program) (ops : Array Oper) (S : World → Prop) (rob need : Nat → Bool) (R : Act → World → Prop) : Nat → List Nat → Act → World → Prop
  | 0, rem, a, w => rem = [] ∧ R a w
  | n + 1, rem, a, w =>
    (∃ i ∈ rem, rob i = true ∧ rdy ops rem i = true ∧ ∃ o, ops[i]? = some o ∧ ∃ v, YldS P ops S o v a ∧ wpTr P ops S rob need R n (rem.erase i) (a.put o.dst v) w) ∨
    ((∀ i ∈ rem, rob i = true → rdy ops rem i = false) ∧ ∀ c ∈ rem, rob c = false → rdy ops rem c = true → wpOp P ops NoOut c (fun a' w' => (need c = true → S w') ∧ wpTr P ops S rob need R n (rem.erase c) a' w') a w)
def trPair (ops : Array Oper) (rob : Nat → Bool) (i j : Nat) : Bool :=
  match ops[i]?, ops[j]? with
  | some oi, some oj => waits ops i j || ((!rob i || oi.apart ops oj) && (!rob j || oj.apart ops oi))
  | _, _ => false
def trOK (ops : Array Oper) (rob need : Nat → Bool) : Bool :=
  Region.noSelect ops && txtBack ops && ((List.range ops.size).all fun i => (List.range i).all fun j => trPair ops rob i j) &&
  (List.range ops.size).all fun i => rob i || need i || !freeOf ops rob i
theorem rdy_erase {rem : List Nat} {i k : Nat} (h : rdy ops rem i = true) : rdy ops (rem.erase k) i = true := by
  unfold rdy at *
  rw [List.all_eq_true] at *
  exact fun j hj => h j (List.mem_of_mem_erase hj)
theorem rdy_waits {rem : List Nat} {i j : Nat} (h : rdy ops rem i = true) (hj : j ∈ rem) : waits ops i j = false := by
  unfold rdy at h
  rw [List.all_eq_true] at h
  simpa using h j hj
theorem tr_pull {i : Nat} {oi : Oper} (hi : ops[i]? = some oi) (hr : rob i = true) (hsel : ∀ (j : Nat) (o : Oper) cs b, ops[j]? = some o → o.op ≠ .select cs b)
    (hpair : ∀ j k oj ok, j ≠ k → ops[j]? = some oj → ops[k]? = some ok → waits ops j k = false → waits ops k j = false → (rob j = true → oj.apart ops ok = true)) :
    ∀ (n : Nat) (rem : List Nat) (a : Act) (w : World), i ∈ rem → rdy ops rem i = true → wpTr P ops S rob need R (n + 1) rem a w → ∃ v, YldS P ops S oi v a ∧ wpTr P ops S rob need R n (rem.erase i) (a.put oi.dst v) w := by
  intro n
  induction n with
  | zero =>
    intro rem a w him hrd h
    rcases h with ⟨i0, hi0, hr0, hd0, o0, ho0, u, hu, h⟩ | ⟨hno, _⟩
    · obtain ⟨hnil, hR⟩ := h
      have : i0 = i := by
        by_cases e : i0 = i
        · exact e
        · have : i ∈ rem.erase i0 := (List.mem_erase_of_ne (fun h => e h.symm)).2 him
          rw [hnil] at this; cases this
      subst this
      obtain rfl : o0 = oi := Option.some.inj (ho0.symm.trans hi)
      exact ⟨u, hu, hnil, hR⟩
    · rw [hno i him hr] at hrd; cases hrd
  | succ n ih =>
    intro rem a w him hrd h
    rcases h with ⟨i0, hi0, hr0, hd0, o0, ho0, u, hu, h⟩ | ⟨hno, _⟩
    · by_cases e : i0 = i
      · subst e
        obtain rfl : o0 = oi := Option.some.inj (ho0.symm.trans hi)
        exact ⟨u, hu, h⟩
      · have him' : i ∈ rem.erase i0 := (List.mem_erase_of_ne (fun h => e h.symm)).2 him
        obtain ⟨v, hv, h⟩ := ih _ _ _ him' (rdy_erase hrd) h
        have w1 := rdy_waits hrd hi0
        have w2 := rdy_waits hd0 him
        have ap1 := hpair i i0 oi o0 (fun h => e h.symm) hi ho0 w1 w2 hr
        have ap2 := hpair i0 i o0 oi e ho0 hi w2 w1 hr0
        obtain ⟨p1, p2, p3⟩ := Oper.apart_spec ap1
        obtain ⟨q1, q2, q3⟩ := Oper.apart_spec ap2
        have hv' : YldS P ops S oi v a := hv.same (execOp_put oi (fun cs b => hsel i oi cs b hi) a o0.dst u p3).symm (wanted_put oi a o0.dst u p3).symm
        refine ⟨v, hv', .inl ⟨i0, (List.mem_erase_of_ne e).2 hi0, hr0, rdy_erase hd0, o0, ho0, u, ?_, ?_⟩⟩
        · exact hu.same (execOp_put o0 (fun cs b => hsel i0 o0 cs b ho0) a oi.dst v q3) (wanted_put o0 a oi.dst v q3)
        · rw [List.erase_comm, Act.put_comm a v u p2]; exact h
    · rw [hno i him hr] at hrd; cases hrd
theorem tr_push {c : Nat} {oc : Oper} (hc : ops[c]? = some oc) (hrc : rob c = false) (hsel : ∀ (j : Nat) (o : Oper) cs b, ops[j]? = some o → o.op ≠ .select cs b)
    (hpair : ∀ j k oj ok, j ≠ k → ops[j]? = some oj → ops[k]? = some ok → waits ops j k = false → waits ops k j = false → (rob j = true → oj.apart ops ok = true)) :
    ∀ (n : Nat) (rem : List Nat) (a : Act) (w : World), c ∈ rem → rdy ops rem c = true → wpTr P ops S rob need R (n + 1) rem a w → wpOp P ops NoOut c (fun a' w' => (need c = true → S w') ∧ wpTr P ops S rob need R n (rem.erase c) a' w') a w := by
  intro n
  induction n with
  | zero =>
    intro rem a w hcm hrd h
    rcases h with ⟨i0, hi0, hr0, hd0, o0, ho0, u, hu, h⟩ | ⟨_, h⟩
    · obtain ⟨hnil, hR⟩ := h
      have e : i0 ≠ c := fun e => by subst e; rw [hrc] at hr0; cases hr0
      have : c ∈ rem.erase i0 := (List.mem_erase_of_ne (fun h => e h.symm)).2 hcm
      rw [hnil] at this; cases this
    · exact h c hcm hrc hrd
  | succ n ih =>
    intro rem a w hcm hrd h
    rcases h with ⟨i0, hi0, hr0, hd0, o0, ho0, u, hu, h⟩ | ⟨_, h⟩
    · have e : i0 ≠ c := fun e => by subst e; rw [hrc] at hr0; cases hr0
      have hcm' : c ∈ rem.erase i0 := (List.mem_erase_of_ne (fun h => e h.symm)).2 hcm
      have h2 := ih _ _ _ hcm' (rdy_erase hrd) h
      have w1 := rdy_waits hrd hi0
      have w2 := rdy_waits hd0 hcm
      have ap := hpair i0 c o0 oc e ho0 hc w2 w1 hr0
      have h3 := wpOp_ahead hc ap (fun cs b => hsel i0 o0 cs b ho0) (fun cs b => hsel c oc cs b hc) hu h2
      refine wpOp_mono ?_ h3
      rintro a' w' ⟨hy, hn, hk⟩
      refine ⟨hn, .inl ⟨i0, (List.mem_erase_of_ne e).2 hi0, hr0, rdy_erase hd0, o0, ho0, u, hy, ?_⟩⟩
      rw [List.erase_comm]; exact hk
    · exact h c hcm hrc hrd
theorem filter_ne_erase {l : List Nat} (hl : l.Nodup) (i : Nat) : l.filter (· != i) = l.erase i := by
  rw [List.Nodup.erase_eq_filter hl]
theorem wpAny_of_tr (hok : trOK ops rob need = true) : ∀ (fuel : Nat) (listed : Array Bool) (a : Act) (w : World), listed.size = ops.size → Closed ops listed → (remOf ops listed).length = fuel →
    (∀ r ∈ remOf ops listed, rob r = true → S w) → wpTr P ops S rob need (Q .normal) fuel (remOf ops listed) a w → wpAny P .any ops Q fuel listed a w := by
  simp only [trOK, Bool.and_eq_true] at hok
  obtain ⟨⟨⟨hsel0, hback⟩, hpair0⟩, hneed⟩ := hok
  have hsel := Region.noSelect_spec hsel0
  have hp : ∀ i < ops.size, ∀ j < i, trPair ops rob i j = true := fun i hi j hj => List.all_eq_true.1 (List.all_eq_true.1 hpair0 i (List.mem_range.2 hi)) j (List.mem_range.2 hj)
  have hpair : ∀ j k oj ok, j ≠ k → ops[j]? = some oj → ops[k]? = some ok → waits ops j k = false → waits ops k j = false → (rob j = true → oj.apart ops ok = true) := by
    intro j k oj ok hjk hj hk w1 w2 hr
    have hjl := (Array.getElem?_eq_some_iff.1 hj).1
    have hkl := (Array.getElem?_eq_some_iff.1 hk).1
    rcases Nat.lt_or_gt_of_ne hjk with hlt | hlt
    · have h := hp k hkl j hlt
      unfold trPair at h
      simp only [hj, hk, w2, Bool.false_or, Bool.and_eq_true, Bool.or_eq_true, Bool.not_eq_true'] at h
      rcases h.2 with h0 | h0
      · rw [hr] at h0; cases h0
      · exact h0
    · have h := hp j hjl k hlt
      unfold trPair at h
      simp only [hj, hk, w1, Bool.false_or, Bool.and_eq_true, Bool.or_eq_true, Bool.not_eq_true'] at h
      rcases h.1 with h0 | h0
      · rw [hr] at h0; cases h0
      · exact h0
  have hbk : ∀ i o, ops[i]? = some o → ∀ e ∈ o.after, Region.binds .any e = true → e.on < i := fun i o ho e he hb => by
    have hi : i < ops.size := (Array.getElem?_eq_some_iff.1 ho).1
    have h := List.all_eq_true.1 hback i (List.mem_range.2 hi)
    simp only [ho] at h
    have h2 := Array.all_eq_true_iff_forall_mem.1 h e he
    simpa [hb] using h2
  have hnd : ∀ i < ops.size, rob i = false → ∀ r < ops.size, rob r = true → waits ops i r = false → need i = true := fun i hi hri r hr hrr hw => by
    have h := List.all_eq_true.1 hneed i (List.mem_range.2 hi)
    simp only [hri, Bool.false_or, Bool.or_eq_true, Bool.not_eq_true'] at h
    refine h.resolve_right fun h0 => ?_
    have : freeOf ops rob i = true := by
      refine List.any_eq_true.2 ⟨r, List.mem_range.2 hr, ?_⟩
      have : r ≠ i := fun e => by subst e; rw [hri] at hrr; cases hrr
      simp [hrr, hw, this]
    rw [this] at h0
    cases h0
  intro fuel
  induction fuel with
  | zero =>
    intro listed a w hs hc hlen _ h
    have hnil : remOf ops listed = [] := List.eq_nil_of_length_eq_zero hlen
    obtain ⟨_, h⟩ := h
    refine ⟨?_, h⟩
    refine List.eq_nil_iff_forall_not_mem.2 fun i hi => ?_
    obtain ⟨h0, o, ho, _⟩ := mem_ready.1 hi
    have : i ∈ remOf ops listed := mem_remOf.2 ⟨(Array.getElem?_eq_some_iff.1 ho).1, h0⟩
    rw [hnil] at this
    cases this
  | succ fuel ih =>
    intro listed a w hs hc hlen hS h
    refine ⟨fun h0 => ?_, fun i hi => ?_⟩
    · exfalso
      match hr : remOf ops listed, hlen with
      | i0 :: rest, _ =>
        have hm0 : i0 ∈ remOf ops listed := by rw [hr]; exact List.mem_cons_self ..
        obtain ⟨hlt, hun⟩ := mem_remOf.1 hm0
        have hsorted := remOf_sorted (ops := ops) listed
        rw [hr, List.pairwise_cons] at hsorted
        have : i0 ∈ Region.ready .any ops listed := by
          refine mem_ready.2 ⟨hun, ops[i0], Array.getElem?_eq_getElem hlt, fun e he hb => ?_⟩
          have hlt2 := hbk i0 _ (Array.getElem?_eq_getElem hlt) e he hb
          cases hl : listed.getD e.on false with
          | true => rfl
          | false =>
            have hm : e.on ∈ remOf ops listed := mem_remOf.2 ⟨by omega, by rw [listed_eq (by omega)]; exact hl⟩
            rw [hr] at hm
            rcases List.mem_cons.1 hm with hm | hm
            · omega
            · have := hsorted.1 _ hm; omega
        rw [h0] at this
        cases this
    · obtain ⟨hun, oi, hoi, hall⟩ := mem_ready.1 hi
      have hilt : i < ops.size := (Array.getElem?_eq_some_iff.1 hoi).1
      have him : i ∈ remOf ops listed := mem_remOf.2 ⟨hilt, hun⟩
      have hnodup : (remOf ops listed).Nodup := (remOf_sorted (ops := ops) listed).imp fun h => Nat.ne_of_lt h
      have hrem' : remOf ops (listed.setIfInBounds i true) = (remOf ops listed).erase i := by rw [remOf_set hs hilt, filter_ne_erase hnodup]
      have hlen' : (remOf ops (listed.setIfInBounds i true)).length = fuel := by
        rw [hrem', List.length_erase_of_mem him]; omega
      have hs' : (listed.setIfInBounds i true).size = ops.size := by simpa using hs
      have hc' : Closed ops (listed.setIfInBounds i true) := by
        intro k hk j hj
        by_cases hik : i = k
        · subst hik; exact getD_set_true (ready_waits hi hj)
        · rw [getD_set_ne false hik] at hk; exact getD_set_true (hc k hk j hj)
      have hrd : rdy ops (remOf ops listed) i = true := by
        unfold rdy
        rw [List.all_eq_true]
        intro j hj
        obtain ⟨h1, h2⟩ := mem_remOf.1 hj
        cases hw : waits ops i j with
        | false => rfl
        | true =>
          have := ready_waits hi hw
          rw [← listed_eq (by omega), h2] at this; cases this
      cases hri : rob i with
      | true =>
        have hSw : S w := hS i him hri
        obtain ⟨v, hv, hrest⟩ := tr_pull hoi hri hsel hpair fuel _ a w him hrd h
        refine hv.run hoi hSw (ih _ _ _ hs' hc' hlen' (fun _ _ _ => hSw) (by rw [hrem']; exact hrest))
      | false =>
        have h2 := tr_push hoi hri hsel hpair fuel _ a w him hrd h
        refine wpOp_out (wpOp_mono ?_ h2)
        rintro a' w' ⟨hn, hk⟩
        refine ih _ _ _ hs' hc' hlen' ?_ (by rw [hrem']; exact hk)
        intro r hr hrr
        rw [hrem'] at hr
        have hrm := List.mem_of_mem_erase hr
        exact hn (hnd i hilt hri r (mem_remOf.1 hrm).1 hrr (rdy_waits hrd hrm))
theorem wp_region_tr {id : Nat} {a : Act} {w : World} {l : List Oper} (S : World → Prop) (f : List Nat) (n : Nat) (rem : List Nat) (hm : P.follows .mixedOrders = true) (hok : trOK l.toArray (robOf f) (needOf f) = true)
    (hl : List.range l.toArray.size = rem) (hn : rem.length = n) (hS : S w.drew) (h : wpTr P l.toArray S (robOf f) (needOf f) (Q .normal) n rem a w.drew) : (Code.region id l.toArray true).wp P Q a w := by
  refine wp_region_any hm ?_
  have hrem : remOf l.toArray (Array.replicate l.toArray.size false) = List.range l.toArray.size := by
    unfold remOf
    refine List.filter_eq_self.2 fun i hi => ?_
    have := List.mem_range.1 hi
    simp at this
    simp [this]
  refine wpAny_of_tr hok l.toArray.size (Array.replicate l.toArray.size false) a _ (by simp) ?_ (by rw [hrem]; simp) (fun _ _ _ => hS) ?_
  · intro i hi
    rw [getD_replicate_f] at hi
    cases hi
  · rw [hrem, hl]
    have : l.toArray.size = n := by rw [← hn, ← hl]; simp
    rw [this]; exact h
variable {D : List Deferred} {a : Act} {w : World} {N : Nat} {l : List (Nat × Value)} {o : Oper} {v : Value} {post : Value → World → Prop} {d i c n : Nat} {rem rem' : List Nat} {f : List Nat}
theorem R_rd (i : Nat) (rem' : List Nat) (hc : (rem.elem i && robOf f i && rdy ops rem i && rem.erase i == rem') = true) (ho : ops[i]? = some o) (K : Kd D a N l) (hw : Region.wanted o (yielded ops a.tmps) = true) (hd : o.dst = some d) (hN : Nat.blt d N = true) (hr : Rd P S a o v)
    (k : ∀ a', Kd D a' N ((d, v) :: l) → wpTr P ops S (robOf f) (needOf f) R n rem' a' w) : wpTr P ops S (robOf f) (needOf f) R (n + 1) rem a w := by
  simp only [Bool.and_eq_true, beq_iff_eq, List.elem_iff] at hc
  obtain ⟨⟨⟨h1, h2⟩, h3⟩, rfl⟩ := hc
  refine .inl ⟨i, h1, h2, h3, o, ho, v, .inl ⟨hw, hr⟩, ?_⟩
  have := K.put (d := o.dst) (by rw [hd]; exact hN) v
  rw [hd] at this ⊢
  exact k _ this
def AllC (p : Nat → Prop) : List Nat → Prop
  | [] => True
  | c :: cs => p c ∧ AllC p cs
theorem allC_mem {p : Nat → Prop} : ∀ {cs : List Nat}, AllC p cs → ∀ c ∈ cs, p c
  | [], _, c, h => by cases h
  | d :: cs, h, c, hc => by
    rcases List.mem_cons.1 hc with rfl | hc
    · exact h.1
    · exact allC_mem h.2 c hc
/-- One of several comes first. -/
theorem R_br (cs : List Nat) (hc : ((rem.all fun i => !robOf f i || !rdy ops rem i) && (rem.filter fun c => !robOf f c && rdy ops rem c) == cs) = true)
    (h : AllC (fun c => wpOp P ops NoOut c (fun a' w' => (needOf f c = true → S w') ∧ wpTr P ops S (robOf f) (needOf f) R n (rem.erase c) a' w') a w) cs) : wpTr P ops S (robOf f) (needOf f) R (n + 1) rem a w := by
  simp only [Bool.and_eq_true, beq_iff_eq] at hc
  obtain ⟨h1, rfl⟩ := hc
  refine .inr ⟨fun i hi hr => ?_, fun c hcm hr hrd => allC_mem h c (List.mem_filter.2 ⟨hcm, by simp [hr, hrd]⟩)⟩
  have := List.all_eq_true.1 h1 i hi
  simpa [hr] using this
theorem R_ac (rem' : List Nat) (hc : (rem.erase c == rem') = true) (ho : ops[c]? = some o) (K : Kd D a N l) (hw : Region.wanted o (yielded ops a.tmps) = true) (hd : o.dst = some d) (hN : Nat.blt d N = true) (h : Ac P o a w post)
    (k : ∀ v a' w', post v w' → Kd D a' N ((d, v) :: l) → (needOf f c = true → S w') ∧ wpTr P ops S (robOf f) (needOf f) R n rem' a' w') : wpOp P ops NoOut c (fun a' w' => (needOf f c = true → S w') ∧ wpTr P ops S (robOf f) (needOf f) R n (rem.erase c) a' w') a w := by
  obtain rfl : rem.erase c = rem' := by simpa using hc
  unfold wpOp
  simp only [ho, hw, if_true]
  refine .inl (h _ _ fun v w' hp => ?_)
  have := K.put (d := o.dst) (by rw [hd]; exact hN) v
  rw [hd] at this ⊢
  exact k v _ w' hp this
theorem R_a0 (rem' : List Nat) (hc : (rem.erase c == rem') = true) (ho : ops[c]? = some o) (K : Kd D a N l) (hw : Region.wanted o (yielded ops a.tmps) = true) (hd : o.dst = none) (h : Ac P o a w post)
    (k : ∀ v a' w', post v w' → Kd D a' N l → (needOf f c = true → S w') ∧ wpTr P ops S (robOf f) (needOf f) R n rem' a' w') : wpOp P ops NoOut c (fun a' w' => (needOf f c = true → S w') ∧ wpTr P ops S (robOf f) (needOf f) R n (rem.erase c) a' w') a w := by
  obtain rfl : rem.erase c = rem' := by simpa using hc
  unfold wpOp
  simp only [ho, hw, if_true]
  refine .inl (h _ _ fun v w' hp => ?_)
  rw [hd]
  exact k v _ w' hp K
theorem R_end (h : R a w) : wpTr P ops S (robOf f) (needOf f) R 0 [] a w := ⟨rfl, h⟩
end
end Go.Proofs.Ytpmnfhifmmfglab

namespace Go.Proofs.Ytpmnfhifmmfglab
open Go.RowKit
section
variable {P : Program} {S : World → Prop} {base : Nat} {W w : World} {L : List Ent} {D : List Deferred} {a : Act} {N : Nat} {l : List (Nat × Value)} {o : Oper} {v v' : Value} {x y ix : Operand} {k : IntKind} {m n : Int} {t e t' : TypeId} {g off : Nat} {cs : List Value} {α : Type} {C : Cod α} {xs ys zs : List α} {A B : Option Addr} {c c' : Nat}
theorem addr0 : (⟨g, off, none⟩ : Addr).add 0 = ⟨g, off, none⟩ := by unfold Addr.add; split <;> simp_all
theorem rd_sliceArr {len s : Nat} (ho : o.op = .slice t x none none none) (ht : P.underlying t = some (.array len e)) (hsz : (P.info? e).map (·.size) = some s) (K : Kd D a N l) (hx : evo l x = some (.pointer (some ⟨g, off, none⟩))) :
    Rd P S a o (.slice (some ⟨g, off, none⟩) len len) := fun w _ => by
  simp only [Option.map_eq_some_iff] at hsz
  obtain ⟨i, hinf, hs⟩ := hsz
  unfold execOp
  simp [ho, K.ev hx, Instr.sliceAt, Instr.sliceBounds, Instr.sureAddr, run_underlying ht, sizeOf, typeInfo, hinf, hs, addr0]
theorem blkSL2 (hx : (cs.drop off).take (C.all xs).length = C.all xs) (h : Blk w g t cs.toArray) : SL w C (some ⟨g, off, none⟩) xs := fun _ => ⟨g, off, rfl, fun j u hu => by
  rw [h.cell]
  have hj : j < (C.all xs).length := (List.getElem?_eq_some_iff.1 hu).1
  rw [← hx, List.getElem?_take, if_pos hj, List.getElem?_drop] at hu
  simpa using hu⟩
theorem rd_iface (ho : o.op = .makeInterface t x) (ht : P.concrete t = true) (K : Kd D a N l) (hx : evo l x = some v) : Rd P S a o (.iface t v) := fun w _ => by
  unfold execOp
  simp [ho, K.ev hx, run_makeInterface w t v ht]
theorem rd_ixG {b s j len : Nat} (ho : o.op = .indexAddr t x ix) (ht : slT P t e s b = true) (K : Kd D a N l) (hx : evo l x = some (.slice (some ⟨g, 0, none⟩) len c)) (hi : evo l ix = some (.int k j)) (hj : Nat.blt j len = true) : Rd P S a o (.pointer (some ⟨g, j * s, none⟩)) := fun w _ => by
  obtain ⟨hu, i, hinf, hs, _⟩ := slT_spec ht
  have h1 : (j : Int) < len := by have : j < len := by simpa [Nat.blt_eq] using hj
                                  omega
  have hadd : (⟨g, 0, none⟩ : Addr).add (j * s) = ⟨g, j * s, none⟩ := by unfold Addr.add; split <;> simp_all
  unfold execOp
  simp [ho, K.ev hx, K.ev hi, Instr.indexAt, asIntOf, run_underlying hu, sizeOf, typeInfo, hinf, hs, h1, hadd]
  intro hh; omega
def fdT (P : Program) (t : TypeId) (f : Nat) : Option (TypeId × Nat) := match P.underlying t with
  | some (.struct fs) => (fs[f]?).map fun fl => (fl.type, fl.offset)
  | _ => none
theorem rd_fieldC {f : Nat} (ho : o.op = .field t x f) (hf : fdT P t f = some (e, off)) (ht : scT P e = true) (K : Kd D a N l) (hx : evo l x = some (.agg cs.toArray)) (hv : cs[off]? = some v) : Rd P S a o v := fun w _ => by
  unfold fdT at hf
  split at hf
  · rename_i fs hu
    obtain ⟨fl, hfl, he⟩ := Option.map_eq_some_iff.1 hf
    cases he
    unfold execOp
    simp [ho, K.ev hx, Instr.field, run_underlying hu, hfl, part, asAgg, (scT_spec ht w).1, hv]
  · cases hf
theorem rd_eqNil {u : Unit} (ho : o.op = .binOp .eql t x y t') (ht : ∃ e, P.underlying t = some (.slice e)) (K : Kd D a N l) (hx : evo l x = some (.slice A xs.length c)) (hy : evo l y = some (.slice none 0 0)) (hb : ∀ w, S w → SL w C A xs) (hn : ne0 xs = some u) : Rd P S a o (.bool false) := fun w hS => by
  obtain ⟨e, ht⟩ := ht
  obtain ⟨b, o', rfl, _⟩ := hb w hS (ne0_spec hn)
  unfold execOp
  simp only [ho, K.ev hx, K.ev hy, Sem.run_bind]
  have h1 := Lib.run_eql_slice_nil (P := P) w t e (some ⟨b, o', none⟩) xs.length c 0 0 ht
  simp [eqGuard, h1]
theorem ac_invoke {f : FuncId} {vs : List Value} {u : Value} {mn : String} {args : Array Operand} {ts : Array TypeId} (ho : o.op = .call { callee := .invoke x mn, args := args, argTypes := ts }) (hf : FnOK P f = true)
    (hm : ∀ v w, (method (P.types.size + Made.depth) t v mn).run P w = .ok (f, v) w) (K : Kd D a N l) (hx : evo l x = some (.iface t u)) (hargs : args.toList.map (evo l) = vs.map some) {post : Value → World → Prop}
    (h : Calls P f (u :: vs).toArray w fun e w' => ∃ v, e = .returned v ∧ post v w') : Ac P o a w post := by
  have hE : args.map a.eval = vs.toArray := by
    apply Array.ext'
    simp only [Array.toList_map]
    have : ∀ (xs : List Operand) (vs : List Value), xs.map (evo l) = vs.map some → xs.map a.eval = vs := by
      intro xs
      induction xs with
      | nil => intro vs h; cases vs <;> simp_all
      | cons x xs ih =>
        intro vs h
        cases vs with
        | nil => simp at h
        | cons v vs => simp only [List.map_cons, List.cons.injEq] at h ⊢; exact ⟨K.ev h.1, ih vs h.2⟩
    exact this _ _ hargs
  have hrun : (execOp a.eval o).run P w = .ok (.enter f (u :: vs).toArray) w := by
    unfold FnOK at hf
    split at hf
    · rename_i fn hfn
      simp only [Bool.and_eq_true, bne_iff_ne, ne_eq] at hf
      obtain ⟨b, hb⟩ := Option.isSome_iff_exists.1 hf.1
      unfold execOp
      simp [ho, resolve, K.ev hx, hE, invoke, callMethod, hm, callFunc, hfn, hb, hf.2]
    · cases hf
  intro K' Q hK
  unfold Oper.wp
  rw [hrun, Oper.upon_enter]
  refine h.mono ?_
  rintro e w' ⟨v, rfl, hp⟩
  exact hK v w' hp
theorem ac_bslice0 {b s : Nat} (ho : o.op = .buildSlice t 0 #[]) (ht : slT P t e s b = true) (hs : s = C.size) (K : Kd D a N l) (M : Mem base W w L) :
    Ac P o a w fun v w' => ∃ g, v = .slice (some ⟨g, 0, none⟩) ([] : List α).length 0 ∧ Mem base W w' (.row e s (some ⟨g, 0, none⟩) ([] : List α).length 0 (C.all ([] : List α)) :: L) := by
  refine ac_val (v := .slice (some ⟨w.heap.size, 0, none⟩) 0 0) (w' := w.alloc (.cells #[] e)) ?_ ⟨_, rfl, ?_⟩
  · obtain ⟨hu, i, hinf, hsz, _⟩ := slT_spec ht
    unfold execOp
    simp [ho, Instr.buildSlice, Sem.run_bind, run_underlying hu, Result.andThen_ok, sizeOf, typeInfo, run_program, hinf, hsz, Instr.fill, newRow, run_newObj_alloc]
    congr 2
    exact Array.eq_empty_of_size_eq_zero (by simp)
  · exact (M.new e []).asRow 0 rfl C [] rfl rfl hs
theorem ac_storeP {n : Nat} {ds cs' : List Value} (ho : o.op = .store t x y) (ht : aggT P t n = true) (K : Kd D a N l) (hx : evo l x = some (.pointer (some ⟨g, off, none⟩))) (hy : evo l y = some (.agg ds.toArray)) (h1 : ds.all (·.oneCell') = true) (i : Nat) (M : Mem base W w L) (hi : L[i]? = some (.blk g t' cs)) (hn : ds.length = n) (hl : Nat.ble (off + ds.length) cs.length = true)
    (hc : cs.take off ++ (ds ++ cs.drop (off + ds.length)) = cs') : Ac P o a w fun _ w' => Mem base W w' (L.set i (.blk g t' cs')) := by
  subst hc
  obtain ⟨d, _, _, hsz⟩ := aggT_spec ht
  simp only [Option.map_eq_some_iff] at hsz
  obtain ⟨inf, hinf, hsz⟩ := hsz
  have hr := run_storeCells_at P g off t' ds 0 cs.toArray w (M.blkAt hi) (by simpa using Nat.le_of_ble_eq_true hl) (by simpa using h1)
  refine ac_skip (w' := w.setRow g (cs.take off ++ (ds ++ cs.drop (off + ds.length))).toArray) ?_ (M.setRow i hi _)
  unfold execOp
  have hcell : (Value.agg ds.toArray).cells = ds.toArray := rfl
  simp only [Nat.add_zero, List.append_assoc] at hr
  subst hn
  simp [ho, K.ev hx, K.ev hy, Instr.storeAt, Instr.sureAddr, storeVar, sizeOf, typeInfo, hinf, hsz, hcell, hr]
/-- A loop of which the rounds are walked one by one. -/
theorem X_rounds {p : Code} {Q : Exit → Act → World → Prop} {w : World} (n : Nat) (h : Code.rounds P p Q n a w) : (Code.loop p).wp P Q a w := wp_loop_rounds n h
theorem X_round {p : Code} {Q : Exit → Act → World → Prop} {w : World} {n : Nat} (h : p.wp P (Exit.then (Code.rounds P p Q n) Q) a w) : Code.rounds P p Q (n + 1) a w := h
end
end Go.Proofs.Ytpmnfhifmmfglab

namespace Go.Proofs.Ytpmnfhifmmfglab
open Go.RowKit
abbrev I (n : Int) : Value := .int .i64 n
/-- A reading operation's answer, or nothing where its guard bars it. -/
inductive Stp (P : Program) (ops : Array Oper) (S : World → Prop) (D : List Deferred) (N : Nat) (l : List (Nat × Value)) (o : Oper) (v : Value) : Prop where
  | yes (hw : ∀ a, Kd D a N l → Region.wanted o (yielded ops a.tmps) = true) (hr : ∀ a, Kd D a N l → Rd P S a o v)
  | no (hw : ∀ a, Kd D a N l → Region.wanted o (yielded ops a.tmps) = false) (hv : undef = v)
section
variable {P : Program} {base : Nat} {W w : World} {L : List Ent} {S : World → Prop} {D : List Deferred} {a : Act} {N : Nat} {l : List (Nat × Value)} {o : Oper} {v : Value} {post : Value → World → Prop}
  {ops : Array Oper} {Q : Exit → Act → World → Prop} {R : Act → World → Prop} {rest : List Oper} {d : Nat} {f : List Nat}
theorem X_o (K : Kd D a N l) (M : Mem base W w L) (k : ∀ a', Kd D a' N ((d, v) :: l) → wpList P ops Q rest a' w) (hd : o.dst = some d := by exact rfl) (hN : Nat.blt d N = true := by exact rfl)
    (hs : Stp P ops (fun w => Mem base W w L) D N l o v := by
      first
      | exact .no (fun a K => K.no rfl rfl rfl rfl) rfl
      | exact .no (fun a K => K.nou rfl rfl rfl) rfl
      | exact .yes (by first | exact fun a K => want_no rfl | exact fun a K => K.yes rfl rfl rfl) (by
         first
         | exact fun a K => rd_move rfl K rfl
         | exact fun a K => rd_assign rfl K rfl
         | exact fun a K => rd_pickT rfl K rfl rfl
         | exact fun a K => rd_pickF rfl K rfl rfl
         | exact fun a K => rd_nil rfl K rfl
         | exact fun a K => rd_extract rfl K rfl rfl
         | exact fun a K => rd_not rfl K rfl
         | exact fun a K => rd_add rfl K rfl rfl
         | exact fun a K => rd_lss rfl K rfl rfl
         | exact fun a K => rd_sub rfl K rfl rfl
         | exact fun a K => rd_mul rfl K rfl rfl
         | exact fun a K => rd_eql rfl K rfl rfl
         | exact fun a K => rd_neq rfl K rfl rfl
         | exact fun a K => rd_gtr rfl K rfl rfl
         | exact fun a K => rd_leq rfl K rfl rfl
         | exact fun a K => rd_geq rfl K rfl rfl
         | exact fun a K => rd_min rfl K rfl rfl
         | exact fun a K => rd_max rfl K rfl rfl
         | exact fun a K => rd_and rfl K rfl rfl)) : wpList P ops Q (o :: rest) a w := by
  cases hs with
  | yes hw hr => exact X_rd K (hw a K) hd hN (hr a K) M k
  | no hw hv => subst hv; exact X_no K (hw a K) hd hN k
theorem Y_o (M : Mem base W w L) (k : ∀ a', Kd D a' N ((d, v) :: l) → wpList P ops Q rest a' w) (hd : o.dst = some d := by exact rfl) (hN : Nat.blt d N = true := by exact rfl)
    (hs : Stp P ops (fun w => Mem base W w L) D N l o v := by
      first
      | exact .no (fun a K => K.no rfl rfl rfl rfl) rfl
      | exact .no (fun a K => K.nou rfl rfl rfl) rfl
      | exact .yes (by first | exact fun a K => want_no rfl | exact fun a K => K.yes rfl rfl rfl) (by
         first
         | exact fun a K => rd_move rfl K rfl
         | exact fun a K => rd_assign rfl K rfl
         | exact fun a K => rd_pickT rfl K rfl rfl
         | exact fun a K => rd_pickF rfl K rfl rfl
         | exact fun a K => rd_nil rfl K rfl
         | exact fun a K => rd_extract rfl K rfl rfl
         | exact fun a K => rd_not rfl K rfl
         | exact fun a K => rd_add rfl K rfl rfl
         | exact fun a K => rd_lss rfl K rfl rfl
         | exact fun a K => rd_sub rfl K rfl rfl
         | exact fun a K => rd_mul rfl K rfl rfl
         | exact fun a K => rd_eql rfl K rfl rfl
         | exact fun a K => rd_neq rfl K rfl rfl
         | exact fun a K => rd_gtr rfl K rfl rfl
         | exact fun a K => rd_leq rfl K rfl rfl
         | exact fun a K => rd_geq rfl K rfl rfl
         | exact fun a K => rd_min rfl K rfl rfl
         | exact fun a K => rd_max rfl K rfl rfl
         | exact fun a K => rd_and rfl K rfl rfl)) : ∀ a, Kd D a N l → wpList P ops Q (o :: rest) a w := fun a K => X_o K M k hd hN hs
theorem Y_r (hr : ∀ a, Kd D a N l → Rd P (fun w => Mem base W w L) a o v) (M : Mem base W w L) (k : ∀ a', Kd D a' N ((d, v) :: l) → wpList P ops Q rest a' w)
    (hw : ∀ a, Kd D a N l → Region.wanted o (yielded ops a.tmps) = true := by first | exact fun a K => want_no rfl | exact fun a K => K.yes rfl rfl rfl) (hd : o.dst = some d := by exact rfl) (hN : Nat.blt d N = true := by exact rfl) :
    ∀ a, Kd D a N l → wpList P ops Q (o :: rest) a w := fun a K => X_rd K (hw a K) hd hN (hr a K) M k
theorem X_r (K : Kd D a N l) (hr : Rd P (fun w => Mem base W w L) a o v) (M : Mem base W w L) (k : ∀ a', Kd D a' N ((d, v) :: l) → wpList P ops Q rest a' w)
    (hw : ∀ a, Kd D a N l → Region.wanted o (yielded ops a.tmps) = true := by first | exact fun a K => want_no rfl | exact fun a K => K.yes rfl rfl rfl) (hd : o.dst = some d := by exact rfl) (hN : Nat.blt d N = true := by exact rfl) :
    wpList P ops Q (o :: rest) a w := X_rd K (hw a K) hd hN hr M k
theorem X_a (K : Kd D a N l) (h : Ac P o a w post) (k : ∀ v a' w', post v w' → Kd D a' N ((d, v) :: l) → wpList P ops Q rest a' w')
    (hw : ∀ a, Kd D a N l → Region.wanted o (yielded ops a.tmps) = true := by first | exact fun a K => want_no rfl | exact fun a K => K.yes rfl rfl rfl) (hd : o.dst = some d := by exact rfl) (hN : Nat.blt d N = true := by exact rfl) :
    wpList P ops Q (o :: rest) a w := X_ac K (hw a K) hd hN h k
theorem X_b (K : Kd D a N l) (h : Ac P o a w post) (k : ∀ v a' w', post v w' → Kd D a' N l → wpList P ops Q rest a' w')
    (hw : ∀ a, Kd D a N l → Region.wanted o (yielded ops a.tmps) = true := by first | exact fun a K => want_no rfl | exact fun a K => K.yes rfl rfl rfl) (hd : o.dst = none := by exact rfl) :
    wpList P ops Q (o :: rest) a w := X_a0 K (hw a K) hd h k
theorem T_o (K : Kd D a N l) (k : ∀ a', Kd D a' N ((d, v) :: l) → wpTl P ops S R (marked f rest) a' w) (hd : o.dst = some d := by exact rfl) (hN : Nat.blt d N = true := by exact rfl)
    (hs : Stp P ops S D N l o v := by
      first
      | exact .no (fun a K => K.no rfl rfl rfl rfl) rfl
      | exact .no (fun a K => K.nou rfl rfl rfl) rfl
      | exact .yes (by first | exact fun a K => want_no rfl | exact fun a K => K.yes rfl rfl rfl) (by
         first
         | exact fun a K => rd_move rfl K rfl
         | exact fun a K => rd_assign rfl K rfl
         | exact fun a K => rd_pickT rfl K rfl rfl
         | exact fun a K => rd_pickF rfl K rfl rfl
         | exact fun a K => rd_nil rfl K rfl
         | exact fun a K => rd_extract rfl K rfl rfl
         | exact fun a K => rd_not rfl K rfl
         | exact fun a K => rd_add rfl K rfl rfl
         | exact fun a K => rd_lss rfl K rfl rfl
         | exact fun a K => rd_sub rfl K rfl rfl
         | exact fun a K => rd_mul rfl K rfl rfl
         | exact fun a K => rd_eql rfl K rfl rfl
         | exact fun a K => rd_neq rfl K rfl rfl
         | exact fun a K => rd_gtr rfl K rfl rfl
         | exact fun a K => rd_leq rfl K rfl rfl
         | exact fun a K => rd_geq rfl K rfl rfl
         | exact fun a K => rd_min rfl K rfl rfl
         | exact fun a K => rd_max rfl K rfl rfl
         | exact fun a K => rd_and rfl K rfl rfl)) : wpTl P ops S R (marked (0 :: f) (o :: rest)) a w := by
  cases hs with
  | yes hw hr => exact T_rd K (hw a K) hd hN (hr a K) k
  | no hw hv => subst hv; exact T_no K (hw a K) hd hN k
theorem U_o (k : ∀ a', Kd D a' N ((d, v) :: l) → wpTl P ops S R (marked f rest) a' w) (hd : o.dst = some d := by exact rfl) (hN : Nat.blt d N = true := by exact rfl)
    (hs : Stp P ops S D N l o v := by
      first
      | exact .no (fun a K => K.no rfl rfl rfl rfl) rfl
      | exact .no (fun a K => K.nou rfl rfl rfl) rfl
      | exact .yes (by first | exact fun a K => want_no rfl | exact fun a K => K.yes rfl rfl rfl) (by
         first
         | exact fun a K => rd_move rfl K rfl
         | exact fun a K => rd_assign rfl K rfl
         | exact fun a K => rd_pickT rfl K rfl rfl
         | exact fun a K => rd_pickF rfl K rfl rfl
         | exact fun a K => rd_nil rfl K rfl
         | exact fun a K => rd_extract rfl K rfl rfl
         | exact fun a K => rd_not rfl K rfl
         | exact fun a K => rd_add rfl K rfl rfl
         | exact fun a K => rd_lss rfl K rfl rfl
         | exact fun a K => rd_sub rfl K rfl rfl
         | exact fun a K => rd_mul rfl K rfl rfl
         | exact fun a K => rd_eql rfl K rfl rfl
         | exact fun a K => rd_neq rfl K rfl rfl
         | exact fun a K => rd_gtr rfl K rfl rfl
         | exact fun a K => rd_leq rfl K rfl rfl
         | exact fun a K => rd_geq rfl K rfl rfl
         | exact fun a K => rd_min rfl K rfl rfl
         | exact fun a K => rd_max rfl K rfl rfl
         | exact fun a K => rd_and rfl K rfl rfl)) : ∀ a, Kd D a N l → wpTl P ops S R (marked (0 :: f) (o :: rest)) a w := fun a K => T_o K k hd hN hs
theorem U_r (hr : ∀ a, Kd D a N l → Rd P S a o v) (k : ∀ a', Kd D a' N ((d, v) :: l) → wpTl P ops S R (marked f rest) a' w)
    (hw : ∀ a, Kd D a N l → Region.wanted o (yielded ops a.tmps) = true := by first | exact fun a K => want_no rfl | exact fun a K => K.yes rfl rfl rfl) (hd : o.dst = some d := by exact rfl) (hN : Nat.blt d N = true := by exact rfl) :
    ∀ a, Kd D a N l → wpTl P ops S R (marked (0 :: f) (o :: rest)) a w := fun a K => T_rd K (hw a K) hd hN (hr a K) k
theorem T_r (K : Kd D a N l) (hr : Rd P S a o v) (k : ∀ a', Kd D a' N ((d, v) :: l) → wpTl P ops S R (marked f rest) a' w)
    (hw : ∀ a, Kd D a N l → Region.wanted o (yielded ops a.tmps) = true := by first | exact fun a K => want_no rfl | exact fun a K => K.yes rfl rfl rfl) (hd : o.dst = some d := by exact rfl) (hN : Nat.blt d N = true := by exact rfl) :
    wpTl P ops S R (marked (0 :: f) (o :: rest)) a w := T_rd K (hw a K) hd hN hr k
theorem T_a (K : Kd D a N l) (h : Ac P o a w post) (k : ∀ v a' w', post v w' → Kd D a' N ((d, v) :: l) → S w' ∧ wpTl P ops S R (marked f rest) a' w')
    (hw : ∀ a, Kd D a N l → Region.wanted o (yielded ops a.tmps) = true := by first | exact fun a K => want_no rfl | exact fun a K => K.yes rfl rfl rfl) (hd : o.dst = some d := by exact rfl) (hN : Nat.blt d N = true := by exact rfl) :
    wpTl P ops S R (marked (1 :: f) (o :: rest)) a w := T_ac K (hw a K) hd hN h k
theorem T_b (K : Kd D a N l) (h : Ac P o a w post) (k : ∀ v a' w', post v w' → Kd D a' N l → wpTl P ops S R (marked f rest) a' w')
    (hw : ∀ a, Kd D a N l → Region.wanted o (yielded ops a.tmps) = true := by first | exact fun a K => want_no rfl | exact fun a K => K.yes rfl rfl rfl) (hd : o.dst = none := by exact rfl) :
    wpTl P ops S R (marked (2 :: f) (o :: rest)) a w := T_a0z K (hw a K) hd h k
end
end Go.Proofs.Ytpmnfhifmmfglab

namespace Go.Proofs.Ytpmnfhifmmfglab
open Go.RowKit
theorem z1 : zeroT Try.prog 1 = some [.nilFunc] := by kernel_rfl
theorem z2 : zeroT Try.prog 2 = some [.int .i64 0] := by kernel_rfl
theorem sc3 : scT Try.prog 3 = true := by kernel_rfl
theorem z3 : zeroT Try.prog 3 = some [.int .i64 0] := by kernel_rfl
theorem ik3 : Try.prog.underlying 3 = some (.int .i64) := by kernel_rfl
theorem sz3 : (Try.prog.info? 3).map (·.size) = some 1 := by kernel_rfl
theorem sc22 : scT Try.prog 22 = true := by kernel_rfl
theorem sl22 : slT Try.prog 22 34 3 24 = true := by kernel_rfl
theorem un22 : ∃ e, Try.prog.underlying 22 = some (.slice e) := ⟨_, (slT_spec sl22).1⟩
theorem ty24 : aggT Try.prog 24 3 = true := by kernel_rfl
theorem z24 : zeroT Try.prog 24 = some [.int .i64 0, .int .i64 0, .slice none 0 0] := by kernel_rfl
theorem fld24_0 : fldT Try.prog 24 0 = some 0 := by kernel_rfl
theorem fld24_1 : fldT Try.prog 24 1 = some 1 := by kernel_rfl
theorem fld24_2 : fldT Try.prog 24 2 = some 2 := by kernel_rfl
theorem ty34 : aggT Try.prog 34 3 = true := by kernel_rfl
theorem z34 : zeroT Try.prog 34 = some [.int .i64 0, .int .i64 0, .int .i64 0] := by kernel_rfl
theorem fld34_0 : fldT Try.prog 34 0 = some 0 := by kernel_rfl
theorem fld34_1 : fldT Try.prog 34 1 = some 1 := by kernel_rfl
theorem fld34_2 : fldT Try.prog 34 2 = some 2 := by kernel_rfl
theorem eg34 : (Try.prog).eqGuardType (Try.prog).depth 34 = false := by kernel_rfl
theorem eqr34 (x0 y0 : Int) (x1 y1 : Int) (x2 y2 : Int) (w : World) : (Op.equalIn 10000 34 (.agg #[.int .i64 x0, .int .i64 x1, .int .i64 x2]) (.agg #[.int .i64 y0, .int .i64 y1, .int .i64 y2])).run Try.prog w = .ok (decide (x0 = y0) && decide (x1 = y1) && decide (x2 = y2)) w := by
  have hp : Try.prog.stoodInHeld 34 = false := by kernel_rfl
  have ht : Try.prog.underlying 34 = some (.struct (Try.prog.fieldsOf 34)) := by kernel_rfl
  rw [run_equalIn_agg (d := 9999) _ _ _ _ ht hp]
  by_cases h0 : x0 = y0 <;> by_cases h1 : x1 = y1 <;> by_cases h2 : x2 = y2 <;> simp [Program.fieldsOf, Try.underlying34, go_sem, Op.eqFields, h0, h1, h2]
theorem sz34 : (Try.prog.info? 34).map (·.size) = some 3 := by kernel_rfl
theorem ty36 : aggT Try.prog 36 4 = true := by kernel_rfl
theorem ar36 : Try.prog.underlying 36 = some (.array 4 3) := by kernel_rfl
theorem sc37 : scT Try.prog 37 = true := by kernel_rfl
theorem sl37 : slT Try.prog 37 106 2 16 = true := by kernel_rfl
theorem un37 : ∃ e, Try.prog.underlying 37 = some (.slice e) := ⟨_, (slT_spec sl37).1⟩
theorem ty38 : aggT Try.prog 38 3 = true := by kernel_rfl
theorem ar38 : Try.prog.underlying 38 = some (.array 3 3) := by kernel_rfl
theorem ty39 : aggT Try.prog 39 9 = true := by kernel_rfl
theorem ar39 : Try.prog.underlying 39 = some (.array 9 3) := by kernel_rfl
theorem sc40 : scT Try.prog 40 = true := by kernel_rfl
theorem sl40 : slT Try.prog 40 70 2 16 = true := by kernel_rfl
theorem un40 : ∃ e, Try.prog.underlying 40 = some (.slice e) := ⟨_, (slT_spec sl40).1⟩
theorem ty42 : aggT Try.prog 42 21 = true := by kernel_rfl
theorem z42 : zeroT Try.prog 42 = some [.int .i64 0, .int .i64 0, .int .i64 0, .int .i64 0, .int .i64 0, .int .i64 0, .slice none 0 0, .int .i64 0, .int .i64 0, .int .i64 0, .int .i64 0, .int .i64 0, .int .i64 0, .int .i64 0, .int .i64 0, .int .i64 0, .int .i64 0, .int .i64 0, .int .i64 0, .slice none 0 0, .int .i64 0] := by kernel_rfl
theorem fld42_0 : fldT Try.prog 42 0 = some 0 := by kernel_rfl
theorem fld42_1 : fldT Try.prog 42 1 = some 1 := by kernel_rfl
theorem fld42_2 : fldT Try.prog 42 2 = some 5 := by kernel_rfl
theorem fld42_3 : fldT Try.prog 42 3 = some 6 := by kernel_rfl
theorem fld42_4 : fldT Try.prog 42 4 = some 7 := by kernel_rfl
theorem fld42_5 : fldT Try.prog 42 5 = some 10 := by kernel_rfl
theorem fld42_6 : fldT Try.prog 42 6 = some 19 := by kernel_rfl
theorem fld42_7 : fldT Try.prog 42 7 = some 20 := by kernel_rfl
theorem sc43 : scT Try.prog 43 = true := by kernel_rfl
theorem sl43 : slT Try.prog 43 3 1 8 = true := by kernel_rfl
theorem un43 : ∃ e, Try.prog.underlying 43 = some (.slice e) := ⟨_, (slT_spec sl43).1⟩
theorem ty45 : aggT Try.prog 45 3 = true := by kernel_rfl
theorem z45 : zeroT Try.prog 45 = some [.int .i64 0, .int .i64 0, .slice none 0 0] := by kernel_rfl
theorem fld45_0 : fldT Try.prog 45 0 = some 0 := by kernel_rfl
theorem fld45_1 : fldT Try.prog 45 1 = some 1 := by kernel_rfl
theorem fd45_2 : fdT Try.prog 45 2 = some (43, 2) := by kernel_rfl
theorem fld45_2 : fldT Try.prog 45 2 = some 2 := by kernel_rfl
theorem sc58 : scT Try.prog 58 = true := by kernel_rfl
theorem z58 : zeroT Try.prog 58 = some [.nilFunc] := by kernel_rfl
theorem ik60 : Try.prog.underlying 60 = some (.int .u64) := by kernel_rfl
theorem ty70 : aggT Try.prog 70 2 = true := by kernel_rfl
theorem z70 : zeroT Try.prog 70 = some [.int .i64 0, .int .i64 0] := by kernel_rfl
theorem fld70_0 : fldT Try.prog 70 0 = some 0 := by kernel_rfl
theorem fld70_1 : fldT Try.prog 70 1 = some 1 := by kernel_rfl
theorem fld74_0 : fldT Try.prog 74 0 = some 0 := by kernel_rfl
theorem fld75_0 : fldT Try.prog 75 0 = some 0 := by kernel_rfl
theorem fld76_0 : fldT Try.prog 76 0 = some 0 := by kernel_rfl
theorem fld77_0 : fldT Try.prog 77 0 = some 0 := by kernel_rfl
theorem fld78_0 : fldT Try.prog 78 0 = some 0 := by kernel_rfl
theorem fld79_0 : fldT Try.prog 79 0 = some 0 := by kernel_rfl
theorem fld80_0 : fldT Try.prog 80 0 = some 0 := by kernel_rfl
theorem sl81 : slT Try.prog 81 83 1 16 = true := by kernel_rfl
theorem un81 : ∃ e, Try.prog.underlying 81 = some (.slice e) := ⟨_, (slT_spec sl81).1⟩
theorem sc83 : scT Try.prog 83 = true := by kernel_rfl
theorem z83 : zeroT Try.prog 83 = some [.nilIface] := by kernel_rfl
theorem sc104 : scT Try.prog 104 = true := by kernel_rfl
theorem z104 : zeroT Try.prog 104 = some [.nilFunc] := by kernel_rfl
theorem ty106 : aggT Try.prog 106 2 = true := by kernel_rfl
theorem z106 : zeroT Try.prog 106 = some [.int .i64 0, .int .i64 0] := by kernel_rfl
theorem fld106_0 : fldT Try.prog 106 0 = some 0 := by kernel_rfl
theorem fld106_1 : fldT Try.prog 106 1 = some 1 := by kernel_rfl
theorem fok10 : FnOK Try.prog 10 = true := by kernel_rfl
theorem fok14 : FnOK Try.prog 14 = true := by kernel_rfl
theorem fok15 : FnOK Try.prog 15 = true := by kernel_rfl
theorem fok18 : FnOK Try.prog 18 = true := by kernel_rfl
theorem fok19 : FnOK Try.prog 19 = true := by kernel_rfl
theorem fok21 : FnOK Try.prog 21 = true := by kernel_rfl
theorem fok24 : FnOK Try.prog 24 = true := by kernel_rfl
theorem fok25 : FnOK Try.prog 25 = true := by kernel_rfl
theorem fok26 : FnOK Try.prog 26 = true := by kernel_rfl
theorem fok27 : FnOK Try.prog 27 = true := by kernel_rfl
theorem fok28 : FnOK Try.prog 28 = true := by kernel_rfl
theorem fok29 : FnOK Try.prog 29 = true := by kernel_rfl
theorem fok35 : FnOK Try.prog 35 = true := by kernel_rfl
theorem fok36 : FnOK Try.prog 36 = true := by kernel_rfl
theorem fok37 : FnOK Try.prog 37 = true := by kernel_rfl
theorem fok38 : FnOK Try.prog 38 = true := by kernel_rfl
theorem fok47 : FnOK Try.prog 47 = true := by kernel_rfl
theorem fok48 : FnOK Try.prog 48 = true := by kernel_rfl
theorem fok49 : FnOK Try.prog 49 = true := by kernel_rfl
theorem fok50 : FnOK Try.prog 50 = true := by kernel_rfl
theorem fok53 : FnOK Try.prog 53 = true := by kernel_rfl
theorem fok54 : FnOK Try.prog 54 = true := by kernel_rfl
theorem fok55 : FnOK Try.prog 55 = true := by kernel_rfl
theorem fok56 : FnOK Try.prog 56 = true := by kernel_rfl
theorem fok57 : FnOK Try.prog 57 = true := by kernel_rfl
theorem fok58 : FnOK Try.prog 58 = true := by kernel_rfl
theorem fok59 : FnOK Try.prog 59 = true := by kernel_rfl
theorem fok60 : FnOK Try.prog 60 = true := by kernel_rfl
theorem fok61 : FnOK Try.prog 61 = true := by kernel_rfl
theorem fok66 : FnOK Try.prog 66 = true := by kernel_rfl
theorem fok67 : FnOK Try.prog 67 = true := by kernel_rfl
theorem fok68 : FnOK Try.prog 68 = true := by kernel_rfl
theorem fok69 : FnOK Try.prog 69 = true := by kernel_rfl
theorem fok70 : FnOK Try.prog 70 = true := by kernel_rfl
theorem fok71 : FnOK Try.prog 71 = true := by kernel_rfl
theorem fok73 : FnOK Try.prog 73 = true := by kernel_rfl
theorem fok74 : FnOK Try.prog 74 = true := by kernel_rfl
theorem fok75 : FnOK Try.prog 75 = true := by kernel_rfl
theorem fok76 : FnOK Try.prog 76 = true := by kernel_rfl
theorem fok77 : FnOK Try.prog 77 = true := by kernel_rfl
theorem fok78 : FnOK Try.prog 78 = true := by kernel_rfl
theorem fok79 : FnOK Try.prog 79 = true := by kernel_rfl
theorem fok80 : FnOK Try.prog 80 = true := by kernel_rfl
theorem fok96 : FnOK Try.prog 96 = true := by kernel_rfl
theorem fok97 : FnOK Try.prog 97 = true := by kernel_rfl
theorem fok98 : FnOK Try.prog 98 = true := by kernel_rfl
theorem fok99 : FnOK Try.prog 99 = true := by kernel_rfl
theorem fok100 : FnOK Try.prog 100 = true := by kernel_rfl
theorem fok101 : FnOK Try.prog 101 = true := by kernel_rfl
theorem fok102 : FnOK Try.prog 102 = true := by kernel_rfl
theorem fok103 : FnOK Try.prog 103 = true := by kernel_rfl
theorem fok104 : FnOK Try.prog 104 = true := by kernel_rfl
theorem fok105 : FnOK Try.prog 105 = true := by kernel_rfl
theorem fok106 : FnOK Try.prog 106 = true := by kernel_rfl
theorem fok107 : FnOK Try.prog 107 = true := by kernel_rfl
theorem fok108 : FnOK Try.prog 108 = true := by kernel_rfl
theorem fok109 : FnOK Try.prog 109 = true := by kernel_rfl
theorem fok110 : FnOK Try.prog 110 = true := by kernel_rfl
theorem cc74 : Program.concrete Try.prog 74 = true := by kernel_rfl
theorem cc75 : Program.concrete Try.prog 75 = true := by kernel_rfl
theorem cc76 : Program.concrete Try.prog 76 = true := by kernel_rfl
theorem cc77 : Program.concrete Try.prog 77 = true := by kernel_rfl
theorem cc78 : Program.concrete Try.prog 78 = true := by kernel_rfl
theorem cc79 : Program.concrete Try.prog 79 = true := by kernel_rfl
theorem cc80 : Program.concrete Try.prog 80 = true := by kernel_rfl
theorem mt96 : ∀ v w, (method (Try.prog.types.size + Made.depth) 74 v "darkslide/line.work").run Try.prog w = .ok (96, v) w := by
  intro v w
  kernel_rfl
theorem mt99 : ∀ v w, (method (Try.prog.types.size + Made.depth) 75 v "darkslide/line.work").run Try.prog w = .ok (99, v) w := by
  intro v w
  kernel_rfl
theorem mt100 : ∀ v w, (method (Try.prog.types.size + Made.depth) 76 v "darkslide/line.work").run Try.prog w = .ok (100, v) w := by
  intro v w
  kernel_rfl
theorem mt103 : ∀ v w, (method (Try.prog.types.size + Made.depth) 77 v "darkslide/line.work").run Try.prog w = .ok (103, v) w := by
  intro v w
  kernel_rfl
theorem mt108 : ∀ v w, (method (Try.prog.types.size + Made.depth) 78 v "darkslide/line.work").run Try.prog w = .ok (108, v) w := by
  intro v w
  kernel_rfl
theorem mt109 : ∀ v w, (method (Try.prog.types.size + Made.depth) 79 v "darkslide/line.work").run Try.prog w = .ok (109, v) w := by
  intro v w
  kernel_rfl
theorem mt110 : ∀ v w, (method (Try.prog.types.size + Made.depth) 80 v "darkslide/line.work").run Try.prog w = .ok (110, v) w := by
  intro v w
  kernel_rfl
end Go.Proofs.Ytpmnfhifmmfglab

namespace Go.Proofs.Ytpmnfhifmmfglab
open Go.RowKit
set_option maxRecDepth 100000 in
set_option maxHeartbeats 4000000 in
theorem W_darkslidelaw_choose (N : Nat) (c : Int) (n : Int) (w0 : World)  (r : Int) (h : D_darkslidelaw_choose N c n = some r) :
    Calls Try.prog 25 #[I c, I n] w0 fun e w' => ∃ v, e = .returned v ∧ v = I r ∧ Mem w0.heap.size w0 w' [] := by
  refine X_enter Try.func25 rfl Try.ntmps25 rfl ?_
  intro a K
  have M := Mem.start w0
  have K : Kn a 13 [(0, I c), (1, I n)] := K
  unfold D_darkslidelaw_choose at h
  refine wp_seq (X_reg ?_)
  refine X_o K M ?_; clear K; intro a K
  refine wpList_nil (then_n (wp_seq (wp_seq (X_reg ?_))))
  refine X_o K M ?_; clear K
  refine Y_o M ?_; intro a K
  refine wpList_nil (then_n ?_)
  refine X_cond K rfl (fun hb => ?_) (fun hb => ?_)
  · have h := ctrue hb h
    refine X_reg ?_
    refine X_o K M ?_; clear K
    refine Y_o M ?_
    refine Y_r (fun _ K => rd_neg rfl K rfl) M ?_
    obtain ⟨c2, hx, h⟩ := olet h
    refine Y_r (fun _ K => rdi hx (rd_assign rfl K rfl)) M ?_; intro a K
    refine wpList_nil (then_n (wp_seq (X_reg ?_)))
    refine X_o K M ?_; clear K
    refine Y_o M ?_; intro a K
    obtain ⟨_, h0, h⟩ := obind h
    have h0 := nz_spec h0
    refine X_r K (rd_rem rfl K rfl rfl h0) M ?_; clear K
    refine Y_o M ?_; intro a K
    refine wpList_nil (then_n (wp_ret ?_))
    cases h
    exact ret1 K rfl (res_tmp K rfl) ⟨_, rfl, rfl, ((M).pick [] (by decide))⟩
  have h := cfalse hb h
  refine wp_skip (then_n (wp_seq (X_reg ?_)))
  refine X_o K M ?_; clear K
  refine Y_o M ?_; intro a K
  obtain ⟨_, h0, h⟩ := obind h
  have h0 := nz_spec h0
  refine X_r K (rd_rem rfl K rfl rfl h0) M ?_; clear K
  refine Y_o M ?_; intro a K
  refine wpList_nil (then_n (wp_ret ?_))
  cases h
  exact ret1 K rfl (res_tmp K rfl) ⟨_, rfl, rfl, ((M).pick [] (by decide))⟩
end Go.Proofs.Ytpmnfhifmmfglab

namespace Go.Proofs.Ytpmnfhifmmfglab
open Go.RowKit
set_option maxRecDepth 100000 in
set_option maxHeartbeats 4000000 in
theorem W_darkslidelaw_line2 (N : Nat)  (w0 : World)  (r : List (Int × Int)) (h : D_darkslidelaw_line2 N  = some r) :
    Calls Try.prog 38 #[] w0 fun e w' => ∃ v, e = .returned v ∧ ∃ A0 c0, v = .slice A0 r.length c0 ∧ Mem w0.heap.size w0 w' [.row 70 2 A0 r.length c0 (cII.all r)] := by
  refine X_enter Try.func38 rfl Try.ntmps38 rfl ?_
  intro a K
  have M := Mem.start w0
  have K : Kn a 4 [] := K
  unfold D_darkslidelaw_line2 at h
  refine wp_seq (X_reg ?_)
  refine X_o K M ?_; clear K; intro a K
  refine wpList_nil (then_n (wp_seq (X_reg ?_)))
  refine X_r K (rd_build rfl K (vs := []) (cs := [I 0, I 0]) rfl (by kernel_rfl)) M ?_; clear K
  refine Y_r (fun _ K => rd_build rfl K (vs := [(0, I 65535), (1, I 65535)]) (cs := [I 65535, I 65535]) rfl (by kernel_rfl)) M ?_; intro a K
  refine X_a K (ac_bslice rfl sl40 z70 K (vs := [(0, .agg #[I 0, I 0]), (1, .agg #[I 65535, I 65535])]) (cs := [I 0, I 0, I 65535, I 65535]) rfl (by kernel_rfl) rfl rfl M) ?_
  have M0 := M; clear K M; rintro _ a w ⟨gs, rfl, M⟩ K
  replace M := M.asRow 0 rfl cII ([(0, 0), (65535, 65535)] : List (Int × Int)) (n := 2) rfl rfl rfl
  clear M0
  refine X_o K M ?_; clear K; intro a K
  refine wpList_nil (then_n (wp_ret ?_))
  cases h
  exact ret1 K rfl (res_tmp K rfl) ⟨_, rfl, _, _, rfl, ((M).pick [0] (by decide))⟩
end Go.Proofs.Ytpmnfhifmmfglab

namespace Go.Proofs.Ytpmnfhifmmfglab
open Go.RowKit
set_option maxRecDepth 100000 in
set_option maxHeartbeats 4000000 in
theorem W_darkslidelaw_plain (N : Nat)  (w0 : World)  (r : Int × Int × Int × Int × Int × Int × List (Int × Int) × Int × Int × Int × Int × Int × Int × Int × Int × Int × Int × Int × Int × List (Int × Int) × Int) (h : D_darkslidelaw_plain N  = some r) :
    Calls Try.prog 47 #[] w0 fun e w' => ∃ v, e = .returned v ∧ ∃ A6 c6 A19 c19, v = .agg #[I r.1, I r.2.1, I r.2.2.1, I r.2.2.2.1, I r.2.2.2.2.1, I r.2.2.2.2.2.1, .slice A6 r.2.2.2.2.2.2.1.length c6, I r.2.2.2.2.2.2.2.1, I r.2.2.2.2.2.2.2.2.1, I r.2.2.2.2.2.2.2.2.2.1, I r.2.2.2.2.2.2.2.2.2.2.1, I r.2.2.2.2.2.2.2.2.2.2.2.1, I r.2.2.2.2.2.2.2.2.2.2.2.2.1, I r.2.2.2.2.2.2.2.2.2.2.2.2.2.1, I r.2.2.2.2.2.2.2.2.2.2.2.2.2.2.1, I r.2.2.2.2.2.2.2.2.2.2.2.2.2.2.2.1, I r.2.2.2.2.2.2.2.2.2.2.2.2.2.2.2.2.1, I r.2.2.2.2.2.2.2.2.2.2.2.2.2.2.2.2.2.1, I r.2.2.2.2.2.2.2.2.2.2.2.2.2.2.2.2.2.2.1, .slice A19 r.2.2.2.2.2.2.2.2.2.2.2.2.2.2.2.2.2.2.2.1.length c19, I r.2.2.2.2.2.2.2.2.2.2.2.2.2.2.2.2.2.2.2.2] ∧ Mem w0.heap.size w0 w' [.row 106 2 A6 r.2.2.2.2.2.2.1.length c6 (cII.all r.2.2.2.2.2.2.1), .row 70 2 A19 r.2.2.2.2.2.2.2.2.2.2.2.2.2.2.2.2.2.2.2.1.length c19 (cII.all r.2.2.2.2.2.2.2.2.2.2.2.2.2.2.2.2.2.2.2.1)] := by
  refine X_enter Try.func47 rfl Try.ntmps47 rfl ?_
  intro a K
  have M := Mem.start w0
  have K : Kn a 5 [] := K
  unfold D_darkslidelaw_plain at h
  refine wp_seq (X_reg ?_)
  refine X_a K (ac_alloc rfl z42 M) ?_
  clear K M; rintro _ a w ⟨g_x, rfl, M⟩ K
  refine wpList_nil (then_n (wp_seq (X_reg ?_)))
  refine X_r K (rd_build rfl K (vs := [(0, I 256), (1, I 256), (2, I 256)]) (cs := [I 256, I 256, I 256]) rfl (by kernel_rfl)) M ?_; clear K
  refine Y_r (fun _ K => rd_build rfl K (vs := [(0, I 4096), (1, I 0), (2, I 0), (3, I 0), (4, I 4096), (5, I 0), (6, I 0), (7, I 0), (8, I 4096)]) (cs := [I 4096, I 0, I 0, I 0, I 4096, I 0, I 0, I 0, I 4096]) rfl (by kernel_rfl)) M ?_; intro a K
  obtain ⟨r2, h_r2, h⟩ := obind h
  refine X_a K (ac_call (vs := []) (cap := []) rfl fok38 K rfl rfl (W_darkslidelaw_line2 N  _  r2 h_r2)) ?_
  have M0 := M; clear K M; rintro _ a w ⟨A, c, rfl, M⟩ K
  replace M := M0.call M; clear M0
  refine X_r K (rd_build rfl K (vs := [(2, I 65535), (4, .agg #[I 256, I 256, I 256]), (5, .agg #[I 4096, I 0, I 0, I 0, I 4096, I 0, I 0, I 0, I 4096]), (6, .slice A r2.length c), (7, I 64)]) (cs := [I 0, I 0, I 0, I 0, I 0, I 65535, .slice none (([] : List (Int × Int))).length 0, I 256, I 256, I 256, I 4096, I 0, I 0, I 0, I 4096, I 0, I 0, I 0, I 4096, .slice A r2.length c, I 64]) rfl (by kernel_rfl)) M ?_; clear K; intro a K
  refine X_b K (ac_storeA rfl ty42 K rfl (ds := [I 0, I 0, I 0, I 0, I 0, I 65535, .slice none (([] : List (Int × Int))).length 0, I 256, I 256, I 256, I 4096, I 0, I 0, I 0, I 4096, I 0, I 0, I 0, I 4096, .slice A r2.length c, I 64]) rfl rfl 1 M rfl rfl rfl) ?_
  clear K M; rintro _ a w M K
  refine wpList_nil (then_n (wp_ret ?_))
  cases h
  exact ret1 K rfl (res_cellA K rfl ty42 (M.blkAt (i := 1) rfl) rfl) ⟨_, rfl, _, _, _, _, rfl, (((Mem.nilrow 106 2 cII M)).pick [0,1] (by decide))⟩
end Go.Proofs.Ytpmnfhifmmfglab

namespace Go.Proofs.Ytpmnfhifmmfglab
open Go.RowKit
set_option maxRecDepth 100000 in
set_option maxHeartbeats 4000000 in
theorem W_darkslidelaw_tall (N : Nat)  (w0 : World)  (r : Int × Int × List Int) (h : D_darkslidelaw_tall N  = some r) :
    Calls Try.prog 48 #[] w0 fun e w' => ∃ v, e = .returned v ∧ ∃ A2 c2, v = .agg #[I r.1, I r.2.1, .slice A2 r.2.2.length c2] ∧ Mem w0.heap.size w0 w' [.row 3 1 A2 r.2.2.length c2 ((cI .i64).all r.2.2)] := by
  refine X_enter Try.func48 rfl Try.ntmps48 rfl ?_
  intro a K
  have M := Mem.start w0
  have K : Kn a 17 [] := K
  unfold D_darkslidelaw_tall at h
  refine wp_seq (X_reg ?_)
  refine X_a K (ac_alloc rfl z45 M) ?_
  clear K M; rintro _ a w ⟨g_x, rfl, M⟩ K
  refine wpList_nil (then_n (wp_seq (X_reg ?_)))
  refine X_r K (rd_build rfl K (vs := [(0, I 2), (1, I 12)]) (cs := [I 2, I 12, .slice none ([] : List Int).length 0]) rfl (by kernel_rfl)) M ?_; clear K; intro a K
  refine X_a K (ac_alloc rfl z45 M) ?_
  clear K M; rintro _ a w ⟨g_p, rfl, M⟩ K
  refine X_b K (ac_storeA rfl ty45 K rfl (ds := [I 2, I 12, .slice none ([] : List Int).length 0]) rfl rfl 0 M rfl rfl rfl) ?_
  clear K M; rintro _ a w M K
  refine wpList_nil (then_n (wp_seq (wp_seq (X_reg ?_))))
  refine X_o K M ?_; clear K; intro a K
  refine wpList_nil (then_n (wp_block ?_))
  replace M := Mem.nilrow 3 1 (cI .i64) M
  refine X_lp (id := 0) (Rel := fun (⟨p_P, i⟩ : List Int × Int) a w => ∃ (A : Option Addr) (c : Nat), Kn a 17 [(0, .pointer (some ⟨g_x, 0, none⟩)), (1, .pointer (some ⟨g_p, 0, none⟩)), (2, I i)] ∧ Mem w0.heap.size w0 w [.row 3 1 A p_P.length c ((cI .i64).all p_P), .blk g_p 45 [I 2, I 12, .slice A p_P.length c], .blk g_x 45 [I 0, I 0, .slice none ([] : List Int).length 0]]) h (fun _ _ => rfl) ⟨none, 0, K.pick [0,1,2], M.pick [0,1,2] (by decide)⟩ ?_ ?_
  · clear K M h
    rintro ⟨p_P4, i4⟩ a w ⟨A4, c4, K, M⟩ h
    try dsimp only at h
    refine inb_e ?_
    refine then_n (wp_seq (X_reg ?_))
    refine X_r K (rd_ldA rfl ty45 K rfl (inM 1 rfl) rfl rfl) M ?_; clear K; intro a K
    refine X_b K (ac_storeA rfl ty45 K rfl (ds := [I 2, I 12, .slice A4 p_P4.length c4]) rfl rfl 2 M rfl rfl rfl) ?_
    clear K M; rintro _ a w M K
    refine wpList_nil (then_n (wp_ret ?_))
    cases h
    exact ret1 K rfl (res_cellA K rfl ty45 (M.blkAt (i := 2) rfl) rfl) ⟨_, rfl, _, _, rfl, ((M).pick [0] (by decide))⟩
  clear K M h
  rintro kk fuel ⟨p_P, i⟩ a w hk1 ⟨A, c, K, M⟩ h
  unfold D_darkslidelaw_tall_l1 at h
  refine wp_seq (wp_seq (X_reg ?_))
  refine X_o K M ?_; clear K
  refine Y_o M ?_; intro a K
  refine wpList_nil (then_n ?_)
  refine X_cond K rfl (fun hb => ?_) (fun hb => ?_)
  · have h := ctrue hb h
    refine wp_skip (then_n (wp_seq (wp_block (X_reg ?_))))
    refine X_r K (rd_field rfl fld45_2 K rfl) M ?_; clear K
    refine Y_r (fun _ K => rd_ldC rfl sc43 K rfl (inM 1 rfl) rfl) M ?_
    iterate 2 (refine Y_o M ?_)
    refine Y_r (fun _ K => rd_rem rfl K rfl rfl (by decide)) M ?_; intro a K
    refine X_a K (ac_bslice rfl sl43 z3 K (vs := [(0, I (Int.tmod (IntKind.i64.wrap (i * 1000)) 7919))]) (cs := [I (Int.tmod (IntKind.i64.wrap (i * 1000)) 7919)]) rfl (by kernel_rfl) rfl rfl M) ?_
    have M0 := M; clear K M; rintro _ a w ⟨gs2, rfl, M⟩ K
    replace M := M.asRow 0 rfl (cI .i64) ([Int.tmod (IntKind.i64.wrap (i * 1000)) 7919] : List Int) (n := 1) rfl rfl rfl
    clear M0
    obtain ⟨p_P3, h_p_P3, h⟩ := obind h
    refine X_a K (ac_app (C := (cI .i64)) (xs := p_P) (ys := ([Int.tmod (IntKind.i64.wrap (i * 1000)) 7919] : List Int)) rfl sl43 rfl z3 rfl rfl K rfl rfl 1 M rfl ((inR (C := (cI .i64)) 0 rfl rfl) _ M) h_p_P3) ?_
    clear K M; rintro _ a w ⟨A3, c3, rfl, M⟩ K
    refine X_r K (rd_field rfl fld45_2 K rfl) M ?_; clear K; intro a K
    refine X_b K (ac_storeC rfl sc43 K rfl rfl rfl 2 M rfl rfl) ?_
    clear K M; rintro _ a w M K
    refine wpList_nil (inb_n (then_n (X_reg ?_)))
    refine X_o K M ?_; clear K
    refine Y_o M ?_
    obtain ⟨i3, hx, h⟩ := olet h
    refine Y_r (fun _ K => rdi hx (rd_assign rfl K rfl)) M ?_; intro a K
    refine wpList_nil ?_
    exact then_n ⟨(p_P3, i3), ⟨A3, c3, K.pick [0,1,2], M.pick [1,2,3] (by decide)⟩, h⟩
  have h := cfalse hb h
  refine wp_exit ?_
  refine then_e ?_
  exact then_e (hk1 (p_P, i) _ _ ⟨A, c, K.pick [0,1,2], M.pick [0,1,2] (by decide)⟩ h)
end Go.Proofs.Ytpmnfhifmmfglab

namespace Go.Proofs.Ytpmnfhifmmfglab
open Go.RowKit
set_option maxRecDepth 100000 in
set_option maxHeartbeats 4000000 in
theorem W_slices_Clone__api_Pixel_api_Pixel (N : Nat) (s : List (Int × Int × Int)) (A_s : Option Addr) (c_s : Nat) (w0 : World) (R_s : SL w0 cIII A_s s) (C_s : s.length ≤ c_s) (r : List (Int × Int × Int)) (h : D_slices_Clone__api_Pixel_api_Pixel N s = some r) :
    Calls Try.prog 55 #[.slice A_s s.length c_s] w0 fun e w' => ∃ v, e = .returned v ∧ ∃ A0 c0, v = .slice A0 r.length c0 ∧ Mem w0.heap.size w0 w' [.row 34 3 A0 r.length c0 (cIII.all r)] := by
  refine X_enter Try.func55 rfl Try.ntmps55 rfl ?_
  intro a K
  have M := Mem.start w0
  have K : Kn a 8 [(0, .slice A_s s.length c_s)] := K
  unfold D_slices_Clone__api_Pixel_api_Pixel at h
  refine wp_seq (X_reg ?_)
  refine X_o K M ?_; clear K; intro a K
  refine wpList_nil (then_n (wp_seq (wp_seq (X_reg ?_))))
  refine X_o K M ?_; clear K
  obtain ⟨_, h0, h⟩ := obind h
  refine Y_r (fun _ K => rd_eqNil rfl un22 K rfl rfl (inA R_s) h0) M ?_; intro a K
  refine wpList_nil (then_n ?_)
  refine X_condF K rfl ?_
  refine wp_skip (then_n (wp_seq (X_reg ?_)))
  refine X_a K (ac_bslice0 (C := cIII) rfl sl22 rfl K M) ?_
  clear K M; rintro _ a w ⟨gs, rfl, M⟩ K
  refine X_o K M ?_; clear K; intro a K
  obtain ⟨l2, h_l2, h⟩ := obind h
  refine X_a K (ac_app (C := cIII) (xs := ([] : List (Int × Int × Int))) (ys := s) rfl sl22 rfl z34 rfl rfl K rfl rfl 0 M rfl ((inA R_s) _ M) h_l2) ?_
  clear K M; rintro _ a w ⟨A, c, rfl, M⟩ K
  refine X_o K M ?_; clear K; intro a K
  refine wpList_nil (then_n (wp_ret ?_))
  cases h
  exact ret1 K rfl (res_tmp K rfl) ⟨_, rfl, _, _, rfl, ((M).pick [0] (by decide))⟩
end Go.Proofs.Ytpmnfhifmmfglab
