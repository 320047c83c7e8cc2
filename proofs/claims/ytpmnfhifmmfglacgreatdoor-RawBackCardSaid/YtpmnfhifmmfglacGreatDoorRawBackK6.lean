/- Texts of the claim RawBack, joined and made small by a program. -/
import Derived.Test.YtpmnfhifmmfglacGreatDoorRawBackK5
set_option linter.unusedVariables false
set_option linter.unusedSimpArgs false
set_option linter.unusedSectionVars false
set_option maxRecDepth 100000
set_option maxHeartbeats 8000000
namespace Go.Proofs.YtpmnfhifmmfglacGreatDoor
section
open Go
abbrev Pt := Int × Int
def cX (l : List Pt) (i : Nat) : Int := (l.getD i (0, 0)).1
def cY (l : List Pt) (i : Nat) : Int := (l.getD i (0, 0)).2
def JO (l : List Pt) (i : Nat) : Prop := cX l i < cX l (i + 1) ∧ cY l i ≤ cY l (i + 1)
structure qS (l : List Pt) : Prop where
 len : 2 ≤ l.length ∧ l.length ≤ 16
 x0 : cX l 0 = 0
 xn : cX l (l.length - 1) = 65535
 y0 : 0 ≤ cY l 0
 yn : cY l (l.length - 1) ≤ 65535
 step : ∀ i, i + 1 < l.length → JO l i
theorem rX (l : List Pt) {k : Nat} (h : k < l.length) : idx l (k : Int) = some (l.getD k (0, 0)) := by
 rw [eX, List.getD_eq_getElem?_getD, List.getElem?_eq_getElem h]; rfl
theorem Ha (l : List Pt) (h : 1 ≤ l.length ∧ l.length ≤ 1000000) : idx l (IntKind.i64.wrap ((l.length : Int) - 1)) = some (l.getD (l.length - 1) (0, 0)) := by
 rw [gE (by omega), show (l.length : Int) - 1 = ((l.length - 1 : Nat) : Int) by omega, rX l (by omega)]
theorem MJ {l : List Pt} {j : Nat} (h : ∀ i, i < j → JO l i) {i : Nat} (hij : i ≤ j) : cX l i ≤ cX l j ∧ cY l i ≤ cY l j ∧ (i < j → cX l i < cX l j) := by
  induction j with
  | zero => obtain rfl : i = 0 := by omega
            exact ⟨Int.le_refl _, Int.le_refl _, fun h => by omega⟩
  | succ j ih =>
    by_cases e : i = j + 1
    · subst e; exact ⟨Int.le_refl _, Int.le_refl _, fun h => by omega⟩
    · obtain ⟨a, b, _⟩ := ih (fun i hi => h i (by omega)) (by omega)
      obtain ⟨c, d⟩ := h j (by omega)
      exact ⟨by omega, by omega, fun _ => by omega⟩
theorem qS.mono {l : List Pt} (h : qS l) {i j : Nat} (hij : i ≤ j) (hj : j < l.length) : cX l i ≤ cX l j ∧ cY l i ≤ cY l j ∧ (i < j → cX l i < cX l j) := MJ (fun i hi => h.step i (by omega)) hij
theorem qS.bd {l : List Pt} (h : qS l) {i : Nat} (hi : i < l.length) : 0 ≤ cX l i ∧ cX l i ≤ 65535 ∧ 0 ≤ cY l i ∧ cY l i ≤ 65535 := by
 obtain ⟨a, b, _⟩ := h.mono (i := 0) (j := i) (by omega) hi;obtain ⟨c, d, _⟩ := h.mono (i := i) (j := l.length - 1) (by omega) (by omega);have := h.x0;have := h.xn;have := h.y0;have := h.yn
 omega
theorem QR (N : Nat) (l l2 : List Pt) (hl : l2.length + 1 = l.length) (hb : l.length ≤ 16) : ∀ (d k fuel : Nat), k + d = l2.length → d < fuel →
  ∃ b, pU N l l2 (fun _ => some true) fuel (k : Int) = some b ∧ (b = true ↔ ∀ i, k ≤ i → i + 1 < l.length → JO l i) := by
 intro d
 induction d with
 | zero =>
  intro k fuel hk hf;obtain ⟨fuel, rfl⟩ : ∃ m, fuel = m + 1 := ⟨fuel - 1, by omega⟩
  refine ⟨true, ?_, by simp only [true_iff]; intro i h1 h2; omega⟩;unfold pU;rw [cF (dF (by omega))]
 | succ d ih =>
  intro k fuel hk hf;obtain ⟨fuel, rfl⟩ : ∃ m, fuel = m + 1 := ⟨fuel - 1, by omega⟩
  unfold pU;rw [cT (dT (by omega)), gE (by omega), show (k : Int) + 1 = ((k + 1 : Nat) : Int) by omega];simp only [rX l (show k < l.length by omega), rX l (show k + 1 < l.length by omega), aD]
  by_cases h1 : (l.getD (k + 1) (0, 0)).1 ≤ (l.getD k (0, 0)).1
  ·rw [cT (dT h1)];refine ⟨false, rfl, by simp only [Bool.false_eq_true, false_iff]; intro h; have := (h k (Nat.le_refl _) (by omega)).1; simp only [cX] at this; omega⟩
  rw [cF (dF h1)]
  by_cases h2 : (l.getD (k + 1) (0, 0)).2 < (l.getD k (0, 0)).2
  ·rw [cT (dT h2)];refine ⟨false, rfl, by simp only [Bool.false_eq_true, false_iff]; intro h; have := (h k (Nat.le_refl _) (by omega)).2; simp only [cY] at this; omega⟩
  rw [cF (dF h2)];obtain ⟨b, e, hb'⟩ := ih (k + 1) fuel (by omega) (by omega);refine ⟨b, e, hb'.trans ⟨fun h i hi hn => ?_, fun h i hi hn => h i (by omega) hn⟩⟩
  by_cases hik : i = k
  ·subst hik; exact ⟨by simp only [cX]; omega, by simp only [cY]; omega⟩
  ·exact h i (by omega) hn
theorem right_eq (N : Nat) (l : List Pt) (hN : 5000 ≤ N) : ∃ b, jT N l = some b ∧ (b = true ↔ qS l) := by
 unfold jT
 by_cases h1 : (l.length : Int) < 2
 ·rw [cT (dT h1)]; exact ⟨false, rfl, by simp only [Bool.false_eq_true, false_iff]; intro h; have := h.len; omega⟩
 rw [cF (dF h1)]
 by_cases h2 : 16 < (l.length : Int)
 ·rw [cT (dT h2)]; exact ⟨false, rfl, by simp only [Bool.false_eq_true, false_iff]; intro h; have := h.len; omega⟩
 rw [cF (dF h2)];have i0 : idx l 0 = some (l.getD 0 (0, 0)) := rX l (k := 0) (by omega);have il := Ha l (by omega);simp only [i0, il, aD]
 by_cases h3 : cX l 0 = 0
 rotate_left
 ·rw [cT (by simp only [cX] at h3; rw [dF h3]; rfl)]; exact ⟨false, rfl, by simp only [Bool.false_eq_true, false_iff]; intro h; exact h3 h.x0⟩
 rw [cF (by simp only [cX] at h3; rw [dT h3]; rfl)]
 by_cases h4 : cX l (l.length - 1) = 65535
 rotate_left
 ·rw [cT (by simp only [cX] at h4; rw [dF h4]; rfl)]; exact ⟨false, rfl, by simp only [Bool.false_eq_true, false_iff]; intro h; exact h4 h.xn⟩
 rw [cF (by simp only [cX] at h4; rw [dT h4]; rfl)]
 by_cases h5 : (l.getD 0 (0, 0)).2 < 0
 ·rw [cT (dT h5)]; exact ⟨false, rfl, by simp only [Bool.false_eq_true, false_iff]; intro h; have := h.y0; simp only [cY] at this; omega⟩
 rw [cF (dF h5)]
 by_cases h6 : 65535 < (l.getD (l.length - 1) (0, 0)).2
 ·rw [cT (dT h6)]; exact ⟨false, rfl, by simp only [Bool.false_eq_true, false_iff]; intro h; have := h.yn; simp only [cY] at this; omega⟩
 rw [cF (dF h6), Bm (by omega), aD];obtain ⟨b, e, hb⟩ := QR N l ((l.take (l.length : Int).toNat).drop (1 : Int).toNat) (by simp; omega) (by omega) (l.length - 1) 0 N (by simp) (by omega);refine ⟨b, e, hb.trans ⟨fun h => ⟨by omega, h3, h4, by simp only [cY]; omega, by simp only [cY]; omega, fun i hi => h i (Nat.zero_le _) hi⟩, fun h i _ hi => h.step i hi⟩⟩
theorem JP (N : Nat) (l : List Pt) (hb : l.length ≤ 16) : ∀ (d k fuel : Nat), k + d = l.length → d < fuel →
  ∃ b, iT N l (fun _ => some true) fuel (k : Int) = some b ∧ (b = true ↔ ∀ i, k ≤ i → i < l.length → (0 ≤ cY l i ∧ cY l i ≤ 65535) ∧ (0 < i → JO l (i - 1))) := by
 intro d
 induction d with
 | zero =>
  intro k fuel hk hf;obtain ⟨fuel, rfl⟩ : ∃ m, fuel = m + 1 := ⟨fuel - 1, by omega⟩
  refine ⟨true, ?_, by simp only [true_iff]; intro i h1 h2; omega⟩;unfold iT;rw [cF (dF (by omega))]
 | succ d ih =>
  intro k fuel hk hf;obtain ⟨fuel, rfl⟩ : ∃ m, fuel = m + 1 := ⟨fuel - 1, by omega⟩
  have no : ∀ {Q : Prop}, ¬ Q → ∃ b, some false = some b ∧ (b = true ↔ Q) := fun h => ⟨false, rfl, by simp [h]⟩
  unfold iT;rw [cT (dT (by omega)), rX l (show k < l.length by omega), aD, o6, aD];obtain ⟨b, e, hb'⟩ := ih (k + 1) fuel (by omega) (by omega)
  by_cases h1 : 0 ≤ cY l k ∧ cY l k ≤ 65535
  rotate_left
  ·rw [cT (by simp only [cY] at h1; rw [dF h1]; rfl)];exact no fun h => h1 (h k (Nat.le_refl _) (by omega)).1
  rw [cF (by simp only [cY] at h1; rw [dT h1]; rfl)]
  by_cases h2 : 0 < k
  ·rw [cT (dT (by omega)), aD, gE (x := (k : Int) - 1) (by omega), show (k : Int) - 1 = ((k - 1 : Nat) : Int) by omega, rX l (show k - 1 < l.length by omega)];simp only [aD];have hk1 : k - 1 + 1 = k := by omega
   by_cases h3 : (l.getD k (0, 0)).1 ≤ (l.getD (k - 1) (0, 0)).1
   ·rw [cT (dT h3)];exact no fun h => by have := ((h k (Nat.le_refl _) (by omega)).2 h2).1; rw [hk1] at this; simp only [cX] at this; omega
   rw [cF (dF h3)]
   by_cases h4 : (l.getD k (0, 0)).2 < (l.getD (k - 1) (0, 0)).2
   ·rw [cT (dT h4)];exact no fun h => by have := ((h k (Nat.le_refl _) (by omega)).2 h2).2; rw [hk1] at this; simp only [cY] at this; omega
   rw [cF (dF h4), gE (by omega)];refine ⟨b, e, hb'.trans ⟨fun h i hi hn => ?_, fun h i hi hn => h i (by omega) hn⟩⟩
   by_cases hik : i = k
   ·subst hik; exact ⟨h1, fun _ => ⟨by rw [hk1]; simp only [cX]; omega, by rw [hk1]; simp only [cY]; omega⟩⟩
   ·exact h i (by omega) hn
  ·rw [cF (dF (by omega)), aD, gE (by omega)];refine ⟨b, e, hb'.trans ⟨fun h i hi hn => ?_, fun h i hi hn => h i (by omega) hn⟩⟩
   by_cases hik : i = k
   ·subst hik; exact ⟨h1, fun h => absurd h h2⟩
   ·exact h i (by omega) hn
theorem JQ (N : Nat) (l : List Pt) (hN : 5000 ≤ N) : ∃ b, iQ N l = some b ∧ (b = true ↔ qS l) := by
 unfold iQ;have no : ∀ {Q : Prop}, ¬ Q → ∃ b, some false = some b ∧ (b = true ↔ Q) := fun h => ⟨false, rfl, by simp [h]⟩
 rw [o6, aD]
 by_cases h1 : (2 : Int) ≤ l.length ∧ (l.length : Int) ≤ 16
 rotate_left
 ·rw [cT (by rw [dF h1]; rfl)];exact no fun h => h1 (by have := h.len; omega)
 rw [cF (by rw [dT h1]; rfl)];have i0 : idx l 0 = some (l.getD 0 (0, 0)) := rX l (k := 0) (by omega);have il := Ha l (by omega);simp only [i0, il, aD]
 by_cases h3 : cX l 0 = 0
 rotate_left
 ·rw [cT (by simp only [cX] at h3; rw [dF h3]; rfl)]; exact no fun h => h3 h.x0
 rw [cF (by simp only [cX] at h3; rw [dT h3]; rfl)]
 by_cases h4 : cX l (l.length - 1) = 65535
 rotate_left
 ·rw [cT (by simp only [cX] at h4; rw [dF h4]; rfl)]; exact no fun h => h4 h.xn
 rw [cF (by simp only [cX] at h4; rw [dT h4]; rfl)];obtain ⟨b, e, hb⟩ := JP N l (by omega) l.length 0 N (by omega) (by omega);refine ⟨b, e, hb.trans ⟨fun h => ⟨by omega, h3, h4, (h 0 (Nat.le_refl _) (by omega)).1.1, (h (l.length - 1) (Nat.zero_le _) (by omega)).1.2, fun i hi => (h (i + 1) (Nat.zero_le _) hi).2 (by omega)⟩, fun h i _ hi => ⟨(h.bd hi).2.2, fun h0 => h.step (i - 1) (by omega)⟩⟩⟩
def seg (l : List Pt) (i : Nat) (x : Int) : Int := cY l (i - 1) + ((cY l i - cY l (i - 1)) * (x - cX l (i - 1))) / (cX l i - cX l (i - 1))
section
variable {l : List Pt}
theorem QS {i : Nat} : seg l i (cX l (i - 1)) = cY l (i - 1) := by
 unfold seg;rw [Int.sub_self, Int.mul_zero, Int.zero_ediv, Int.add_zero]
variable (h : qS l)
include h
theorem ON {i : Nat} (hi : 1 ≤ i ∧ i < l.length) {x : Int} (hx : cX l (i - 1) ≤ x ∧ x ≤ cX l i) : cY l (i - 1) ≤ seg l i x ∧ seg l i x ≤ cY l i := by
 obtain ⟨s1, s2⟩ := h.step (i - 1) (by omega);rw [show i - 1 + 1 = i by omega] at s1 s2;unfold seg;have h0 : 0 ≤ (cY l i - cY l (i - 1)) * (x - cX l (i - 1)) := Int.mul_nonneg (by omega) (by omega);have h1 := Int.ediv_nonneg h0 (show 0 ≤ cX l i - cX l (i - 1) by omega);have h2 : (cY l i - cY l (i - 1)) * (x - cX l (i - 1)) ≤ (cY l i - cY l (i - 1)) * (cX l i - cX l (i - 1)) := Int.mul_le_mul_of_nonneg_left (by omega) (by omega);have h3 := Int.ediv_le_of_le_mul (show 0 < cX l i - cX l (i - 1) by omega) h2
 omega
theorem IW {i : Nat} (hi : 1 ≤ i ∧ i < l.length) : seg l i (cX l i) = cY l i := by
 obtain ⟨s1, s2⟩ := h.step (i - 1) (by omega);rw [show i - 1 + 1 = i by omega] at s1 s2;unfold seg;rw [Int.mul_ediv_cancel _ (by omega)]
 omega
theorem Tv {i j : Nat} (hi : 1 ≤ i ∧ i < l.length) (hj : 1 ≤ j ∧ j < l.length) {x : Int} (hx : cX l (i - 1) ≤ x ∧ x ≤ cX l i) (hx' : cX l (j - 1) ≤ x ∧ x ≤ cX l j) : seg l i x = seg l j x := by
 have key : ∀ {i j : Nat}, 1 ≤ i → i < j → j < l.length → x ≤ cX l i → cX l (j - 1) ≤ x → seg l i x = seg l j x := by
  intro i j h1 h2 h3 h4 h5;have m1 := h.mono (i := i) (j := j - 1) (by omega) (by omega);have e : x = cX l i := by omega
  have e2 : i = j - 1 := by
   by_cases e2 : i = j - 1
   ·exact e2
   ·have := m1.2.2 (by omega); omega
  subst e;rw [IW h ⟨h1, by omega⟩];subst e2;rw [QS]
 rcases Nat.lt_trichotomy i j with hij | hij | hij
 ·exact key hi.1 hij hj.2 hx.2 hx'.1
 ·rw [hij]
 ·exact (key hj.1 hij hi.2 hx'.2 hx.1).symm
theorem Lf {i : Nat} (hi : 1 ≤ i ∧ i < l.length) {x : Int} (hx : cX l (i - 1) ≤ x ∧ x ≤ cX l i) :
  (Option.bind (nz (IntKind.i64.wrap (cX l i - cX l (i - 1)))) fun _ => Option.bind (some (IntKind.i64.wrap (cY l (i - 1) + IntKind.i64.wrap (Int.tdiv (IntKind.i64.wrap (IntKind.i64.wrap (cY l i - cY l (i - 1)) * IntKind.i64.wrap (x - cX l (i - 1)))) (IntKind.i64.wrap (cX l i - cX l (i - 1))))))) fun x3 => some x3) = some (seg l i x) := by
 obtain ⟨s1, s2⟩ := h.step (i - 1) (by omega);rw [show i - 1 + 1 = i by omega] at s1 s2;have b1 := h.bd hi.2;have b2 := h.bd (i := i - 1) (by omega);have sf := ON h hi hx;unfold seg at sf ⊢;have h0 : 0 ≤ (cY l i - cY l (i - 1)) * (x - cX l (i - 1)) := Int.mul_nonneg (by omega) (by omega);have h2 := WF (a := 65535) (b := 65535) (x := cY l i - cY l (i - 1)) (y := x - cX l (i - 1)) (by omega) (by omega);rw [gE (x := cX l i - cX l (i - 1)) (by omega), gE (x := cY l i - cY l (i - 1)) (by omega), gE (x := x - cX l (i - 1)) (by omega), gE (x := (cY l i - cY l (i - 1)) * (x - cX l (i - 1))) (by omega)];rw [Int.tdiv_eq_ediv_of_nonneg h0, gE (x := _ / _) (by omega), gE (by omega), Le (by omega)]
 rfl
theorem OO (N : Nat) (x : Int) (kk) : ∀ (d i j fuel : Nat), j - i ≤ d → i ≤ j → j ≤ l.length → d < fuel → (∀ k, k < i → cX l k ≤ x) → (∀ k, j ≤ k → k < l.length → x < cX l k) →
  ∃ r : Nat, r ≤ l.length ∧ (∀ k, k < r → cX l k ≤ x) ∧ (∀ k, r ≤ k → k < l.length → x < cX l k) ∧ fD N l x kk fuel ((i : Int), (j : Int)) = kk ((r : Int), (r : Int)) := by
 have hlen := h.len;intro d
 induction d with
 | zero =>
  intro i j fuel hd hij hj hf h1 h2;obtain ⟨fuel, rfl⟩ : ∃ m, fuel = m + 1 := ⟨fuel - 1, by omega⟩
  obtain rfl : i = j := by omega
  refine ⟨i, hj, h1, h2, ?_⟩;unfold fD;rw [cF (dF (by omega))]
 | succ d ih =>
  intro i j fuel hd hij hj hf h1 h2;obtain ⟨fuel, rfl⟩ : ∃ m, fuel = m + 1 := ⟨fuel - 1, by omega⟩
  by_cases hlt : i < j
  ·unfold fD
   have hh : IntKind.i64.wrap (iZ .u64 (IntKind.u64.wrap (IntKind.i64.wrap ((i : Int) + j))) 1) = (((i + j) / 2 : Nat) : Int) := by
    rw [gE (x := (i : Int) + j) (by omega), IntWalk.u64_in _ (by omega)]
    have : iZ .u64 ((i : Int) + j) 1 = ((i : Int) + j) / 2 := by
     unfold iZ;exact Int.fdiv_eq_ediv_of_nonneg _ (by decide)
    rw [this, gE (by omega)]
    omega
   rw [cT (dT (by omega)), hh, aD];obtain ⟨m, hm⟩ : ∃ m, (i + j) / 2 = m := ⟨_, rfl⟩
   have hm1 : i ≤ m ∧ m < j := by omega
   rw [hm];unfold AQ;rw [rX l (show m < l.length by omega), aD, aD]
   by_cases hc : x < cX l m
   ·rw [cF (by simp only [cX] at hc; rw [dT hc]; rfl)]
    exact ih i m fuel (by omega) (by omega) (by omega) (by omega) h1 fun k hk hk' => by
     have := (h.mono hk hk').1; omega
   ·rw [cT (by simp only [cX] at hc; rw [dF hc]; rfl), aD, gE (by omega)]
    exact ih (m + 1) j fuel (by omega) (by omega) (by omega) (by omega) (fun k hk => by
     have := (h.mono (i := k) (j := m) (by omega) (by omega)).1; omega) h2
  ·obtain rfl : i = j := by omega
   refine ⟨i, hj, h1, h2, ?_⟩;unfold fD;rw [cF (dF (by omega))]
theorem Zi (N : Nat) (hN : 5000 ≤ N) {x : Int} (hx : 0 ≤ x ∧ x ≤ 65535) : ∃ i, (1 ≤ i ∧ i < l.length) ∧ (cX l (i - 1) ≤ x ∧ x ≤ cX l i) ∧ wE N l x = some (seg l i x) := by
 have hlen := h.len;have hx0 := h.x0;have hxn := h.xn;unfold wE nL;obtain ⟨r, hr, h1, h2, e⟩ := OO h N x (fun (i4, j2) => some i4) l.length 0 l.length N (by omega) (by omega) (Nat.le_refl _) (by omega) (fun k hk => by omega) (fun k hk hk' => by omega);have e' : fD N l x (fun (i4, j2) => some i4) N (0, (l.length : Int)) = some (r : Int) := e
 have hr1 : 1 ≤ r := by
  by_cases h0 : r = 0
  ·have := h2 0 (by omega) (by omega); omega
  ·omega
 rw [e', aD];have il := Ha l (by omega)
 by_cases hn : r = l.length
 ·subst hn;rw [cT (dT rfl), il, aD];have hle := h1 (l.length - 1) (by omega);have hxe : x = cX l (l.length - 1) := by omega
  have hm := (h.mono (i := l.length - 1 - 1) (j := l.length - 1) (by omega) (by omega)).1;refine ⟨l.length - 1, by omega, by omega, ?_⟩;rw [hxe, IW h (by omega)]
  rfl
 ·rw [cF (dF (by omega)), gE (x := (r : Int) - 1) (by omega), show (r : Int) - 1 = ((r - 1 : Nat) : Int) by omega, rX l (show r - 1 < l.length by omega), rX l (show r < l.length by omega), aD, aD];have hx' : cX l (r - 1) ≤ x ∧ x ≤ cX l r := ⟨h1 _ (by omega), by have := h2 r (Nat.le_refl _) (by omega); omega⟩
  exact ⟨r, by omega, hx', Lf h (by omega) hx'⟩
theorem MK (N : Nat) {x : Int} (hx : 0 ≤ x ∧ x ≤ 65535) (kk) : ∀ (d i fuel : Nat), i + d = l.length → d ≤ fuel → 1 ≤ i → i < l.length → (cX l (i - 1) ≤ x) →
  ∃ r : Nat, (1 ≤ r ∧ r < l.length) ∧ (cX l (r - 1) ≤ x ∧ x ≤ cX l r) ∧ mV N l x kk fuel (i : Int) = kk (r : Int) := by
 have hlen := h.len;have hxn := h.xn;intro d
 induction d with
 | zero => intro i fuel hd hf h1 h2 h3; omega
 | succ d ih =>
  intro i fuel hd hf h1 h2 h3;obtain ⟨fuel, rfl⟩ : ∃ m, fuel = m + 1 := ⟨fuel - 1, by omega⟩
  unfold mV;rw [rX l h2, aD]
  by_cases hc : cX l i < x
  ·rw [cT (by simp only [cX] at hc; rw [dT hc]), aD, gE (by omega)];have hne : i ≠ l.length - 1 := fun e => by rw [e] at hc; omega
   exact ih (i + 1) fuel (by omega) (by omega) (by omega) (by omega) (by show cX l i ≤ x; omega)
  ·rw [cF (by simp only [cX] at hc; rw [dF hc])];exact ⟨i, ⟨h1, h2⟩, ⟨h3, by omega⟩, rfl⟩
theorem ML (N : Nat) (hN : 5000 ≤ N) {x : Int} (hx : 0 ≤ x ∧ x ≤ 65535) : ∃ i, (1 ≤ i ∧ i < l.length) ∧ (cX l (i - 1) ≤ x ∧ x ≤ cX l i) ∧ oP N l x = some (seg l i x) := by
 have hlen := h.len;unfold oP
 obtain ⟨r, hr, hx', e⟩ := MK h N hx (fun i4 => Option.bind (idx l (IntKind.i64.wrap (i4 - 1))) fun e3 =>
  Option.bind (idx l i4) fun e4 => Option.bind (nz (IntKind.i64.wrap (e4.1 - e3.1))) fun _ =>
  Option.bind (some (IntKind.i64.wrap (e3.2 + (IntKind.i64.wrap (Int.tdiv (IntKind.i64.wrap ((IntKind.i64.wrap (e4.2 - e3.2)) * (IntKind.i64.wrap (x - e3.1)))) (IntKind.i64.wrap (e4.1 - e3.1))))))) fun x3 => some x3) (l.length - 1) 1 N (by omega) (by omega) (by omega) (by omega) (by show cX l 0 ≤ x; rw [h.x0]; exact hx.1)
 refine ⟨r, hr, hx', e.trans ?_⟩;rw [gE (x := (r : Int) - 1) (by omega), show (r : Int) - 1 = ((r - 1 : Nat) : Int) by omega, rX l (show r - 1 < l.length by omega), rX l (show r < l.length by omega), aD, aD];exact Lf h hr hx'
end
theorem Tw {l : List Pt} (h : qS l) {x : Int} (hx : 0 ≤ x ∧ x ≤ 65535) : ∃ v, wE 8589934592 l x = some v ∧ oP 8589934592 l x = some v := by
 obtain ⟨i, a, b, e⟩ := Zi h 8589934592 (by omega) hx;obtain ⟨j, a', b', e'⟩ := ML h 8589934592 (by omega) hx;exact ⟨_, e, by rw [e', Tv h a' a b' b]⟩
def onV (l : List Pt) (x : Int) : Int := (wE 8589934592 l x).getD 0
theorem QT {l : List Pt} (h : qS l) {x : Int} (hx : 0 ≤ x ∧ x ≤ 65535) : wE 8589934592 l x = some (onV l x) ∧ oP 8589934592 l x = some (onV l x) := by
 obtain ⟨v, e, e'⟩ := Tw h hx;unfold onV;rw [e, e'];exact ⟨rfl, rfl⟩
theorem QU {l : List Pt} {b : Bool} (hb : jT 8589934592 l = some b) (hc : b = true ↔ qS l) (x : Int) : wU 8589934592 l x = some (if b = false then (0, 1) else if 0 ≤ x ∧ x ≤ 65535 then (onV l x, 0) else (0, 3)) := by
 unfold wU;rw [hb, aD];cases b
 ·rfl
 have h := hc.1 rfl;rw [cF (by rfl), if_neg (by simp)]
 by_cases h1 : x < 0
 ·rw [cT (dT h1), if_neg (by omega)]
 rw [cF (dF h1)]
 by_cases h2 : 65535 < x
 ·rw [cT (dT h2), if_neg (by omega)]
 rw [cF (dF h2), (QT h (by omega)).1, if_pos (by omega)]; rfl
theorem Hb (l : List Pt) : ∃ b, jT 8589934592 l = some b ∧ iQ 8589934592 l = some b ∧ (b = true ↔ qS l) := by
 obtain ⟨b, hb, hc⟩ := right_eq 8589934592 l (by omega);obtain ⟨b', hb', hc'⟩ := JQ 8589934592 l (by omega);have : b' = b := Bool.eq_iff_iff.2 (hc'.trans hc.symm);exact ⟨b, hb, by rw [hb', this], hc⟩
def z7 (lo hi n : Int) : Bool := decide (lo ≤ n ∧ n ≤ hi)
theorem Zj (N : Nat) (s : List Int) (lo hi : Int) (hl : s.length ≤ 4096) : ∀ (d k fuel : Nat), k + d = s.length → d < fuel →
  ∃ r, eK N s lo hi (fun _ => some (-1)) fuel (k : Int) = some r ∧ decide (0 ≤ r) = !((s.drop k).all (z7 lo hi)) := by
 intro d
 induction d with
 | zero =>
  intro k fuel hk hf;obtain ⟨fuel, rfl⟩ : ∃ m, fuel = m + 1 := ⟨fuel - 1, by omega⟩
  obtain rfl : k = s.length := by omega
  unfold eK;rw [cF (dF (by omega))];exact ⟨_, rfl, by simp⟩
 | succ d ih =>
  intro k fuel hk hf;obtain ⟨fuel, rfl⟩ : ∃ m, fuel = m + 1 := ⟨fuel - 1, by omega⟩
  have hlt : k < s.length := by omega
  unfold eK AP;rw [cT (dT (by omega)), eX, List.getElem?_eq_getElem hlt, aD, List.drop_eq_getElem_cons hlt, List.all_cons]
  by_cases h1 : s[k] < lo
  ·rw [cT (dT h1), aD, cT (by rfl)];refine ⟨_, rfl, ?_⟩;have : z7 lo hi s[k] = false := dF (by omega);rw [this, dT (by omega)]; rfl
  rw [cF (dF h1), aD]
  by_cases h2 : hi < s[k]
  ·rw [cT (dT h2)];refine ⟨_, rfl, ?_⟩;have : z7 lo hi s[k] = false := dF (by omega);rw [this, dT (by omega)]; rfl
  rw [cF (dF h2), gE (by omega)];have : z7 lo hi s[k] = true := dT (by omega);rw [this, Bool.true_and];exact ih (k + 1) fuel (by omega) (by omega)
theorem C3 (lo hi : Int) (s : List Int) (hl : s.length ≤ 4096) : pR 8589934592 lo hi s = some (s.all (z7 lo hi)) := by
 obtain ⟨r, hr, hd⟩ := Zj 8589934592 s lo hi hl s.length 0 8589934592 (by omega) (by omega);unfold pR hZ iM;rw [show (0 : Int) = ((0 : Nat) : Int) from rfl] ;rw [hr, aD, aD];rw [List.drop_zero] at hd;have hd' : decide (((0 : Nat) : Int) ≤ r) = !(s.all (z7 lo hi)) := hd;rw [hd', Bool.not_not]
theorem QV {W H : Int} (hW : -1000 ≤ W ∧ W ≤ 1000) (hH : -1000 ≤ H ∧ H ≤ 1000) (x y : Int) : t7 8589934592 x y W H = some (!(kD W H (x, y))) := by
 unfold t7;rw [gE (by omega), gE (by omega), C3 _ _ _ (by simp), aD, C3 _ _ _ (by simp)];simp only [List.all_cons, List.all_nil, Bool.and_true]
 by_cases h1 : 0 ≤ x ∧ x ≤ W - 1
 ·have e1 : z7 0 (W - 1) x = true := dT h1;rw [e1, cF (by rfl), aD]
  congr 2
  unfold kD z7;rw [dT (show (0 : Int) ≤ x by omega), dT (show x < W by omega), Bool.true_and, Bool.true_and]
  by_cases h2 : 0 ≤ y ∧ y ≤ H - 1
  ·rw [dT h2, dT (show (0 : Int) ≤ y by omega), dT (show y < H by omega)]; rfl
  ·rw [dF h2]
   by_cases h3 : 0 ≤ y
   ·rw [dF (show ¬ y < H by omega)]; simp
   ·rw [dF h3]; rfl
 ·have e1 : z7 0 (W - 1) x = false := dF h1;rw [e1, cT (by rfl)]
  congr 1
  unfold kD
  by_cases h3 : 0 ≤ x
  ·rw [dF (show ¬ x < W by omega)]; simp
  ·rw [dF h3]; rfl
theorem QW (s : List (Int × Int)) {W H : Int} (hW : -1000 ≤ W ∧ W ≤ 1000) (hH : -1000 ≤ H ∧ H ≤ 1000) (hl : s.length ≤ 4096) : ∀ (d k fuel : Nat), k + d = s.length → d < fuel →
  ∃ r, dH 8589934592 s W H (fun _ => some (-1)) fuel (k : Int) = some r ∧ decide (0 ≤ r) = !((s.drop k).all (kD W H)) := by
 intro d
 induction d with
 | zero =>
  intro k fuel hk hf;obtain ⟨fuel, rfl⟩ : ∃ m, fuel = m + 1 := ⟨fuel - 1, by omega⟩
  obtain rfl : k = s.length := by omega
  unfold dH;rw [cF (dF (by omega))];exact ⟨_, rfl, by simp⟩
 | succ d ih =>
  intro k fuel hk hf;obtain ⟨fuel, rfl⟩ : ∃ m, fuel = m + 1 := ⟨fuel - 1, by omega⟩
  have hlt : k < s.length := by omega
  unfold dH;rw [cT (dT (by omega)), eX, List.getElem?_eq_getElem hlt, aD, List.drop_eq_getElem_cons hlt, List.all_cons, QV hW hH, aD];cases h : kD W H s[k]
  ·rw [cT (by rfl)];refine ⟨_, rfl, ?_⟩;rw [dT (by omega)]; rfl
  ·rw [cF (by rfl), gE (by omega), Bool.true_and];exact ih (k + 1) fuel (by omega) (by omega)
theorem OP (s : List (Int × Int)) {W H : Int} (hW : -1000 ≤ W ∧ W ≤ 1000) (hH : -1000 ≤ H ∧ H ≤ 1000) (hl : s.length ≤ 4096) : wT 8589934592 s W H = some (s.all (kD W H)) := by
 obtain ⟨r, hr, hd⟩ := QW s hW hH hl s.length 0 8589934592 (by omega) (by omega);have hr' : dH 8589934592 s W H (fun _ => some (-1)) 8589934592 0 = some r := hr;unfold wT eR fP;rw [hr', aD, aD, hd, List.drop_zero, Bool.not_not]
theorem MM (s : List (Int × Int)) {W H : Int} (hW : -1000 ≤ W ∧ W ≤ 1000) (hH : -1000 ≤ H ∧ H ≤ 1000) (hl : s.length ≤ 4096) : ∀ (d k fuel : Nat), k + d = s.length → d < fuel →
  kY 8589934592 s W H (fun _ => some true) fuel (k : Int) = some ((s.drop k).all (kD W H)) := by
 intro d
 induction d with
 | zero =>
  intro k fuel hk hf;obtain ⟨fuel, rfl⟩ : ∃ m, fuel = m + 1 := ⟨fuel - 1, by omega⟩
  obtain rfl : k = s.length := by omega
  unfold kY;rw [cF (dF (by omega))]
  simp
 | succ d ih =>
  intro k fuel hk hf;obtain ⟨fuel, rfl⟩ : ∃ m, fuel = m + 1 := ⟨fuel - 1, by omega⟩
  have hlt : k < s.length := by omega
  unfold kY;rw [cT (dT (by omega)), eX, List.getElem?_eq_getElem hlt, aD, aD, aD, List.drop_eq_getElem_cons hlt, List.all_cons, gE (x := W - 1) (by omega), gE (x := H - 1) (by omega), o6, aD, o6, aD]
  by_cases h1 : 0 ≤ s[k].1 ∧ s[k].1 ≤ W - 1
  ·rw [cF (by rw [dT h1]; rfl)]
   by_cases h2 : 0 ≤ s[k].2 ∧ s[k].2 ≤ H - 1
   ·rw [cF (by rw [dT h2]; rfl), gE (by omega)]
    have : kD W H s[k] = true := by
     unfold kD;simp only [Bool.and_eq_true, decide_eq_true_eq]; omega
    rw [this, Bool.true_and];exact ih (k + 1) fuel (by omega) (by omega)
   ·rw [cT (by rw [dF h2]; rfl)]
    have : kD W H s[k] = false := by
     unfold kD;simp only [Bool.and_eq_false_iff, decide_eq_false_iff_not]; omega
    rw [this]; rfl
  ·rw [cT (by rw [dF h1]; rfl)]
   have : kD W H s[k] = false := by
    unfold kD;simp only [Bool.and_eq_false_iff, decide_eq_false_iff_not]; omega
   rw [this]; rfl
theorem Hc (s : List (Int × Int)) {W H : Int} (hW : -1000 ≤ W ∧ W ≤ 1000) (hH : -1000 ≤ H ∧ H ≤ 1000) (hl : s.length ≤ 4096) : sI 8589934592 s W H = some (s.all (kD W H)) := by
 have := MM s hW hH hl s.length 0 8589934592 (by omega) (by omega);rw [List.drop_zero] at this;exact this
section
variable (ph b0 b1 b2 b3 w : Int) (sp : List (Int × Int)) (g0 g1 g2 m0 m1 m2 m3 m4 m5 m6 m7 m8 : Int) (cv : List (Int × Int)) (am : Int)
def Cu : Bool := z7 0 3 ph && (z7 1 65535 w && ([b0, b1, b2, b3].all (z7 0 (w - 1)) && (decide (sp.length ≤ 64) && (sp.all (kD 64 64) && ([g0, g1, g2].all (z7 0 65535) && (C2 m0 m1 m2 m3 m4 m5 m6 m7 m8 && z7 0 1024 am))))))
theorem QX {b : Bool} (hb : jT 8589934592 cv = some b) (hc : b = true ↔ qS cv) : wV 8589934592 ph b0 b1 b2 b3 w sp g0 g1 g2 m0 m1 m2 m3 m4 m5 m6 m7 m8 cv am = some (if Cu ph b0 b1 b2 b3 w sp g0 g1 g2 m0 m1 m2 m3 m4 m5 m6 m7 m8 am = false then 3 else if b = false then 1 else 0) := by
 unfold wV Cu;rw [C3 _ _ _ (by simp), aD];simp only [List.all_cons, List.all_nil, Bool.and_true];cases h1 : z7 0 3 ph
 ·rfl
 rw [cF (by rfl), C3 _ _ _ (by simp), aD];simp only [List.all_cons, List.all_nil, Bool.and_true, Bool.true_and];cases h2 : z7 1 65535 w
 ·rfl
 have h2' : 1 ≤ w ∧ w ≤ 65535 := of_decide_eq_true h2;rw [cF (by rfl), gE (by omega), C3 _ _ _ (by simp), aD];simp only [List.all_cons, List.all_nil, Bool.and_true, Bool.true_and];cases h3 : (z7 0 (w - 1) b0 && (z7 0 (w - 1) b1 && (z7 0 (w - 1) b2 && z7 0 (w - 1) b3)))
 ·rfl
 rw [cF (by rfl)]
 by_cases h4 : sp.length ≤ 64
 rotate_left
 ·rw [cT (dT (by omega)), dF h4]; rfl
 rw [cF (dF (by omega)), dT h4, OP sp (by omega) (by omega) (by omega), aD];simp only [Bool.true_and];cases h5 : sp.all (kD 64 64)
 ·rfl
 rw [cF (by rfl), C3 _ _ _ (by simp), aD];simp only [List.all_cons, List.all_nil, Bool.and_true, Bool.true_and];cases h6 : (z7 0 65535 g0 && (z7 0 65535 g1 && z7 0 65535 g2))
 ·rfl
 rw [cF (by rfl), C3 _ _ _ (by simp), aD, show [m0, m1, m2, m3, m4, m5, m6, m7, m8].all (z7 (-32768) 32768) = C2 m0 m1 m2 m3 m4 m5 m6 m7 m8 from rfl];simp only [Bool.true_and];cases h7 : C2 m0 m1 m2 m3 m4 m5 m6 m7 m8
 ·rfl
 rw [cF (by rfl), C3 _ _ _ (by simp), aD];simp only [List.all_cons, List.all_nil, Bool.and_true, Bool.true_and];cases h8 : z7 0 1024 am
 ·rfl
 rw [cF (by rfl), QU hb hc 0, aD]
 cases b <;> rfl
theorem OQ (hw : 1 ≤ w ∧ w ≤ 65535) (kk : Int → Option Int) : fF 8589934592 b0 b1 b2 b3 w kk 8589934592 0 = if [b0, b1, b2, b3].all (z7 0 (w - 1)) then kk 4 else some 3 := by
 have one : ∀ (fuel : Nat) (i : Nat) (b : Int), i < 4 → idx [b0, b1, b2, b3] (i : Int) = some b → fF 8589934592 b0 b1 b2 b3 w kk (fuel + 1) (i : Int) = if z7 0 (w - 1) b then fF 8589934592 b0 b1 b2 b3 w kk fuel ((i + 1 : Nat) : Int) else some 3 := fun fuel i b hi hx => by
  conv => lhs; unfold fF
  rw [cT (dT (by omega)), QQ (by omega), aD, hx, aD, gE (x := w - 1) (by omega), o6, aD, gE (by omega), aD, show decide (0 ≤ b ∧ b ≤ w - 1) = z7 0 (w - 1) b from rfl]
  cases z7 0 (w - 1) b <;> rfl
 have h0 := one 8589934591 0 b0 (by decide) rfl;have h1 := one 8589934590 1 b1 (by decide) rfl;have h2 := one 8589934589 2 b2 (by decide) rfl;have h3 := one 8589934588 3 b3 (by decide) rfl
 have h4 : fF 8589934592 b0 b1 b2 b3 w kk 8589934588 ((3 + 1 : Nat) : Int) = kk 4 := by
  show fF 8589934592 b0 b1 b2 b3 w kk (8589934587 + 1) 4 = kk 4;unfold fF;rw [cF (by decide)]
 refine h0.trans ?_;simp only [List.all_cons, List.all_nil, Bool.and_true];cases z7 0 (w - 1) b0
 ·rfl
 refine h1.trans ?_;cases z7 0 (w - 1) b1
 ·rfl
 refine h2.trans ?_;cases z7 0 (w - 1) b2
 ·rfl
 refine h3.trans ?_;cases z7 0 (w - 1) b3
 ·rfl
 exact h4
theorem QY (kk : Int → Option Int) : fE 8589934592 g0 g1 g2 kk 8589934592 0 = if [g0, g1, g2].all (z7 0 65535) then kk 3 else some 3 := by
 have one : ∀ (fuel : Nat) (i : Nat) (b : Int), i < 3 → idx [g0, g1, g2] (i : Int) = some b → fE 8589934592 g0 g1 g2 kk (fuel + 1) (i : Int) = if z7 0 65535 b then fE 8589934592 g0 g1 g2 kk fuel ((i + 1 : Nat) : Int) else some 3 := fun fuel i b hi hx => by
  conv => lhs; unfold fE
  rw [cT (dT (by omega)), QQ (by omega), aD, hx, aD, o6, aD, gE (by omega), aD, show decide (0 ≤ b ∧ b ≤ 65535) = z7 0 65535 b from rfl]
  cases z7 0 65535 b <;> rfl
 have h0 := one 8589934591 0 g0 (by decide) rfl;have h1 := one 8589934590 1 g1 (by decide) rfl;have h2 := one 8589934589 2 g2 (by decide) rfl
 have h3 : fE 8589934592 g0 g1 g2 kk 8589934589 ((2 + 1 : Nat) : Int) = kk 3 := by
  show fE 8589934592 g0 g1 g2 kk (8589934588 + 1) 3 = kk 3;unfold fE;rw [cF (by decide)]
 refine h0.trans ?_;simp only [List.all_cons, List.all_nil, Bool.and_true];cases z7 0 65535 g0
 ·rfl
 refine h1.trans ?_;cases z7 0 65535 g1
 ·rfl
 refine h2.trans ?_;cases z7 0 65535 g2
 ·rfl
 exact h3
theorem JR {b : Bool} (hb : iQ 8589934592 cv = some b) : qM 8589934592 ph b0 b1 b2 b3 w sp g0 g1 g2 m0 m1 m2 m3 m4 m5 m6 m7 m8 cv am = some (if Cu ph b0 b1 b2 b3 w sp g0 g1 g2 m0 m1 m2 m3 m4 m5 m6 m7 m8 am = false then 3 else if b = false then 1 else 0) := by
 unfold qM Cu;rw [o6, aD, show decide (0 ≤ ph ∧ ph ≤ 3) = z7 0 3 ph from rfl];cases h1 : z7 0 3 ph
 ·rfl
 rw [cF (by rfl), o6, aD, show decide (1 ≤ w ∧ w ≤ 65535) = z7 1 65535 w from rfl];simp only [Bool.true_and];cases h2 : z7 1 65535 w
 ·rfl
 have h2' : 1 ≤ w ∧ w ≤ 65535 := of_decide_eq_true h2;rw [cF (by rfl)]
 by_cases h4 : sp.length ≤ 64
 rotate_left
 ·rw [cT (dT (by omega)), dF h4]; simp
 rw [cF (dF (by omega)), dT h4, Hc sp (by omega) (by omega) (by omega), aD];cases h5 : sp.all (kD 64 64)
 ·simp
 rw [cF (by rfl), MI 8589934592 m0 m1 m2 m3 m4 m5 m6 m7 m8 (by omega), aD];cases h7 : C2 m0 m1 m2 m3 m4 m5 m6 m7 m8
 ·simp
 rw [cF (by rfl), o6, aD, show decide (0 ≤ am ∧ am ≤ 1024) = z7 0 1024 am from rfl];cases h8 : z7 0 1024 am
 ·simp
 rw [cF (by rfl), OQ b0 b1 b2 b3 w h2'];cases h3 : [b0, b1, b2, b3].all (z7 0 (w - 1))
 ·rfl
 rw [if_pos rfl, QY g0 g1 g2];cases h6 : [g0, g1, g2].all (z7 0 65535)
 ·rfl
 rw [if_pos rfl, hb, aD]
 cases b <;> rfl
end
theorem ways {o : Int} (h : 1 ≤ o ∧ o ≤ 8) : o = 1 ∨ o = 2 ∨ o = 3 ∨ o = 4 ∨ o = 5 ∨ o = 6 ∨ o = 7 ∨ o = 8 := by omega
def lZ (B : Nat) : Nat → Nat → List Nat
 | 0, _ => []
 | n + 1, x => lZ B n (x / B) ++ [x % B]
def num (B : Nat) (l : List Nat) : Nat := l.foldl (fun a x => a * B + x) 0
theorem iP (B : Nat) : ∀ n x, (lZ B n x).length = n
 | 0, _ => rfl
 | n + 1, x => by simp [lZ, iP B n]
theorem xT {B : Nat} (hB : 0 < B) : ∀ n x, ∀ y ∈ lZ B n x, y < B
 | 0, _, y, h => by simp [lZ] at h
 | n + 1, x, y, h => by
  rcases List.mem_append.1 h with h | h
  ·exact xT hB n _ y h
  ·rw [List.mem_singleton.1 h]; exact Nat.mod_lt _ hB
theorem sM (B m : Nat) : ∀ q x, lZ B (m + q) x = lZ B m (x / B ^ q) ++ lZ B q x
 | 0, x => by simp [lZ]
 | q + 1, x => by
  show lZ B (m + q) (x / B) ++ [x % B] = _ ++ (lZ B q (x / B) ++ [x % B]);rw [sM B m q, List.append_assoc, Nat.div_div_eq_div_mul, Nat.pow_succ, Nat.mul_comm B]
theorem DE (B : Nat) : ∀ n x, lZ B n (x % B ^ n) = lZ B n x
 | 0, _ => rfl
 | n + 1, x => by
  show lZ B n (x % B ^ (n + 1) / B) ++ [x % B ^ (n + 1) % B] = lZ B n (x / B) ++ [x % B];rw [Nat.pow_succ, Nat.mul_comm, Nat.mod_mul_right_div_self, DE B n, Nat.mod_mul_right_mod]
theorem Hd {B n x y : Nat} (h : x % B ^ n = y % B ^ n) : lZ B n x = lZ B n y := by rw [← DE B n x, h, DE]
theorem yY (B : Nat) (l : List Nat) (x : Nat) : num B (l ++ [x]) = num B l * B + x := by simp [num]
theorem yL (B : Nat) : ∀ n x, num B (lZ B n x) = x % B ^ n
 | 0, x => by simp [lZ, num, Nat.mod_one]
 | n + 1, x => by
  show num B (lZ B n (x / B) ++ [x % B]) = _;rw [yY, yL B n, Nat.pow_succ, Nat.mul_comm (B ^ n), Nat.mod_mul, Nat.mul_comm, Nat.add_comm]
theorem fold_eq (B : Nat) : ∀ (l : List Nat) (a : Nat), l.foldl (fun a x => a * B + x) a = a * B ^ l.length + num B l
 | [], a => by simp [num]
 | x :: l, a => by
  have h1 := fold_eq B l (a * B + x);have h2 := fold_eq B l (0 * B + x);unfold num;rw [List.foldl_cons, List.foldl_cons, h1, h2, List.length_cons, Nat.pow_succ, Nat.zero_mul, Nat.zero_add, Nat.add_mul, Nat.mul_assoc, Nat.mul_comm B, Nat.add_assoc]
theorem EQ (B x : Nat) (l : List Nat) : num B (x :: l) = x * B ^ l.length + num B l := by
 have := fold_eq B l (0 * B + x);unfold num at this ⊢;rw [List.foldl_cons, this, Nat.zero_mul, Nat.zero_add]
theorem u7 {B : Nat} : ∀ (l : List Nat), (∀ y ∈ l, y < B) → num B l < B ^ l.length
 | [], _ => by simp [num]
 | x :: l, h => by
  have h1 := u7 l fun y hy => h y (by simp [hy])
  have h2 := h x (by simp);rw [EQ, List.length_cons, Nat.pow_succ];have : (x + 1) * B ^ l.length ≤ B * B ^ l.length := Nat.mul_le_mul_right _ h2;rw [Nat.add_mul, Nat.one_mul, Nat.mul_comm B] at this
  omega
theorem B6 {B : Nat} : ∀ (l : List Nat), (∀ y ∈ l, y < B) → lZ B l.length (num B l) = l
 | [], _ => rfl
 | x :: l, h => by
  have hl := fun y hy => h y (List.mem_cons_of_mem x hy)
  have h1 := u7 l hl;have h2 := h x (by simp);rw [EQ, List.length_cons, Nat.add_comm l.length 1, sM];have hpos : 0 < B ^ l.length := by omega
  have e1 : (x * B ^ l.length + num B l) / B ^ l.length = x := by
   rw [Nat.mul_comm, Nat.mul_add_div hpos, Nat.div_eq_of_lt h1, Nat.add_zero]
  have e2 : (x * B ^ l.length + num B l) % B ^ l.length = num B l % B ^ l.length := by
   rw [Nat.mul_comm, Nat.mul_add_mod]
  rw [e1, Hd e2, B6 l hl];show [] ++ [x % B] ++ l = x :: l;rw [Nat.mod_eq_of_lt h2]; rfl
theorem Ej (q : Nat) : 256 ^ q = 2 ^ (8 * q) := by rw [show 256 = 2 ^ 8 by decide, ← Nat.pow_mul]
theorem OR (d q : Nat) : (2 ^ d) ^ q = 2 ^ (d * q) := by rw [← Nat.pow_mul]
theorem DF {h k : Nat} (hk : k ≤ 64) : iZ .i64 (h : Int) (k : Int) = ((h / 2 ^ k : Nat) : Int) := by
 unfold iZ
 have : min ((k : Int)).toNat IntKind.i64.bits = k := by
  rw [Int.toNat_natCast];exact Nat.min_eq_left hk
 rw [this, show (2 : Int) ^ k = ((2 ^ k : Nat) : Int) by simp, ← Int.ofNat_fdiv]
theorem uW {h k : Nat} (hk : k ≤ 64) (hb : h * 2 ^ k < 9223372036854775808) : nX .i64 (h : Int) (k : Int) = ((h * 2 ^ k : Nat) : Int) := by
 unfold nX
 have : min ((k : Int)).toNat IntKind.i64.bits = k := by
  rw [Int.toNat_natCast];exact Nat.min_eq_left hk
 rw [this, show (2 : Int) ^ k = ((2 ^ k : Nat) : Int) by simp, ← Int.natCast_mul, gE (by omega)]
theorem He {h k : Nat} (hh : h < 9223372036854775808) (hk : k < 63) : Fz .i64 (h : Int) ((2 ^ k - 1 : Nat) : Int) = ((h % 2 ^ k : Nat) : Int) := by
 have hk2 : 2 ^ k ≤ 2 ^ 62 := Nat.pow_le_pow_right (by decide) (by omega);unfold Fz
 have e : (BitVec.ofInt IntKind.i64.bits (h : Int) &&& BitVec.ofInt IntKind.i64.bits ((2 ^ k - 1 : Nat) : Int)).toNat = h % 2 ^ k := by
  rw [BitVec.toNat_and, BitVec.ofInt_natCast, BitVec.ofInt_natCast, BitVec.toNat_ofNat, BitVec.toNat_ofNat];have hb : IntKind.i64.bits = 64 := rfl;rw [hb, Nat.mod_eq_of_lt (show h < 2 ^ 64 by omega), Nat.mod_eq_of_lt (show 2 ^ k - 1 < 2 ^ 64 by omega), Nat.and_two_pow_sub_one_eq_mod]
 rw [e];have := Nat.mod_le h (2 ^ k);exact gE (by omega)
theorem FI {h d e : Nat} (he : e < 2 ^ d) (hb : h * 2 ^ d + e < 9223372036854775808) : Iu .i64 ((h * 2 ^ d : Nat) : Int) (e : Int) = ((h * 2 ^ d + e : Nat) : Int) := by
 unfold Iu;have hb' : IntKind.i64.bits = 64 := rfl
 have e1 : (BitVec.ofInt IntKind.i64.bits ((h * 2 ^ d : Nat) : Int) ||| BitVec.ofInt IntKind.i64.bits (e : Int)).toNat = h * 2 ^ d + e := by
  rw [BitVec.toNat_or, BitVec.ofInt_natCast, BitVec.ofInt_natCast, BitVec.toNat_ofNat, BitVec.toNat_ofNat, hb', Nat.mod_eq_of_lt (show h * 2 ^ d < 2 ^ 64 by omega), Nat.mod_eq_of_lt (show e < 2 ^ 64 by omega)];rw [Nat.mul_comm h, Nat.two_pow_add_eq_or_of_lt he]
 rw [e1];exact gE (by omega)
theorem AA (n : Nat) : IntKind.u8.wrap (n : Int) = ((n % 256 : Nat) : Int) := by
 simp [IntKind.wrap, IntKind.bits, IntKind.signed]
def mW (l : List Nat) : List Int := l.map fun n : Nat => (n : Int)
theorem hF (l : List Nat) : (mW l).length = l.length := by simp [mW]
theorem yM (l m : List Nat) : mW (l ++ m) = mW l ++ mW m := by simp [mW]
theorem rY (n : Nat) : nn (n : Int) = some () := by unfold nn; rw [if_pos (by omega)]
theorem C4 {X d e L : Nat} (he : e < 2 ^ d) : X % 2 ^ L * 2 ^ d + e = (X * 2 ^ d + e) % 2 ^ (L + d) := by
 have h1 : X * 2 ^ d + e = 2 ^ (L + d) * (X / 2 ^ L) + (X % 2 ^ L * 2 ^ d + e) := by
  have h3 := Nat.div_add_mod X (2 ^ L);have h2 : X * 2 ^ d = 2 ^ L * (X / 2 ^ L) * 2 ^ d + X % 2 ^ L * 2 ^ d := by rw [← Nat.add_mul, h3]
  rw [h2, Nat.pow_add, Nat.mul_assoc, Nat.mul_comm (X / 2 ^ L), ← Nat.mul_assoc, Nat.add_assoc]
 have h2 : X % 2 ^ L * 2 ^ d + e < 2 ^ (L + d) := by
  have : X % 2 ^ L < 2 ^ L := Nat.mod_lt _ (Nat.two_pow_pos L);have h3 : (X % 2 ^ L + 1) * 2 ^ d ≤ 2 ^ L * 2 ^ d := Nat.mul_le_mul_right _ this;rw [← Nat.pow_add, Nat.add_mul, Nat.one_mul] at h3
  omega
 rw [h1, Nat.mul_add_mod, Nat.mod_eq_of_lt h2]
theorem JS {X d e : Nat} (he : e < 2 ^ d) : (X * 2 ^ d + e) / 2 ^ d = X := by
 rw [Nat.mul_comm, Nat.mul_add_div (Nat.two_pow_pos d), Nat.div_eq_of_lt he, Nat.add_zero]
theorem QZ {X d e L q r : Nat} (m : Nat) (he : e < 2 ^ d) (hq : L + d = 8 * q + r) : lZ 256 m (X / 2 ^ L) ++ lZ 256 q ((X % 2 ^ L * 2 ^ d + e) / 2 ^ r) = lZ 256 (m + q) ((X * 2 ^ d + e) / 2 ^ r) := by
 rw [sM]
 congr 1
 ·rw [Ej, Nat.div_div_eq_div_mul, ← Nat.pow_add, show r + 8 * q = d + L by omega, Nat.pow_add, ← Nat.div_div_eq_div_mul, JS he]
 ·rw [C4 he, show L + d = r + 8 * q by omega, Nat.pow_add, Nat.mod_mul_right_div_self, ← Ej, DE]
theorem step_mod {X d e L q r : Nat} (he : e < 2 ^ d) (hq : L + d = 8 * q + r) : (X % 2 ^ L * 2 ^ d + e) % 2 ^ r = (X * 2 ^ d + e) % 2 ^ r := by
 rw [C4 he, show L + d = r + 8 * q by omega, Nat.pow_add, Nat.mod_mul_right_mod]
theorem Tx (N h : Nat) (kk) {r : Nat} (hr : r < 8) : ∀ (q fuel : Nat) (out : List Int), 8 * q + r ≤ 60 → out.length + q ≤ 100000 → q < fuel →
  rD N (h : Int) kk fuel (out, ((8 * q + r : Nat) : Int)) = kk (out ++ mW (lZ 256 q (h / 2 ^ r)), (r : Int)) := by
 intro q
 induction q with
 | zero =>
  intro fuel out hq ho hf;obtain ⟨fuel, rfl⟩ : ∃ m, fuel = m + 1 := ⟨fuel - 1, by omega⟩
  unfold rD;rw [cF (dF (by omega)), Nat.mul_zero, Nat.zero_add]
  simp [lZ, mW]
 | succ q ih =>
  intro fuel out hq ho hf;obtain ⟨fuel, rfl⟩ : ∃ m, fuel = m + 1 := ⟨fuel - 1, by omega⟩
  have e1 : IntKind.i64.wrap (((8 * (q + 1) + r : Nat) : Int) - 8) = ((8 * q + r : Nat) : Int) := by rw [gE (by omega)]; omega
  have e2 : IntKind.u8.wrap (iZ .i64 (h : Int) ((8 * q + r : Nat) : Int)) = ((h / 2 ^ (8 * q + r) % 256 : Nat) : Int) := by rw [DF (by omega), AA]
  have e3 : lZ 256 (q + 1) (h / 2 ^ r) = [h / 2 ^ (8 * q + r) % 256] ++ lZ 256 q (h / 2 ^ r) := by
   rw [Nat.add_comm q 1, sM, Ej, Nat.div_div_eq_div_mul, ← Nat.pow_add, Nat.add_comm r]
   rfl
  unfold rD;rw [cT (dT (by omega)), e1, aD, rY, aD, e2, iO (by simp; omega), aD, ih fuel _ (by omega) (by simp; omega) (by omega), e3, yM, List.append_assoc]
  rfl
def CP (d : Nat) (l : List Int) (k : Nat) : Nat := num (2 ^ d) ((l.take k).map Int.toNat)
def KL (d : Nat) (e : Int) : Bool := decide (0 ≤ e ∧ e < ((2 ^ d : Nat) : Int))
theorem Lg {d : Nat} {l : List Int} {k : Nat} (hk : k < l.length) : CP d l (k + 1) = CP d l k * 2 ^ d + l[k].toNat := by
 unfold CP;rw [List.take_succ_eq_append_getElem hk, List.map_append, List.map_cons, List.map_nil, yY]
abbrev PSt := List Int × Int × Int × Int
def UV (d : Nat) (l : List Int) (k : Nat) : PSt := (mW (lZ 256 (k * d / 8) (CP d l k / 2 ^ (k * d % 8))), ((CP d l k % 2 ^ (k * d % 8) : Nat) : Int), ((k * d % 8 : Nat) : Int), (k : Int))
theorem vI {d : Nat} (h : d ≤ 16) : 2 ^ d ≤ 65536 := by
 have := Nat.pow_le_pow_right (show 0 < 2 by decide) h;exact this
theorem Ty (N : Nat) (hN : 100000 ≤ N) {d : Nat} (hd : 1 ≤ d ∧ d ≤ 16) (l : List Int) (hl : l.length ≤ 4096) (kk) : ∀ (j k fuel : Nat), k + j = l.length → j < fuel →
  rE N l (d : Int) kk fuel (UV d l k) = if (l.drop k).all (KL d) = true then kk (UV d l l.length) else some ([], 3) := by
 intro j
 induction j with
 | zero =>
  intro k fuel hk hf;obtain ⟨fuel, rfl⟩ : ∃ m, fuel = m + 1 := ⟨fuel - 1, by omega⟩
  obtain rfl : k = l.length := by omega
  unfold UV rE;rw [cF (dF (by omega)), List.drop_length]
  rfl
 | succ j ih =>
  intro k fuel hk hf;obtain ⟨fuel, rfl⟩ : ∃ m, fuel = m + 1 := ⟨fuel - 1, by omega⟩
  have hlt : k < l.length := by omega
  have hp := vI hd.2;have hih := ih (k + 1) fuel (by omega) (by omega);have hpos : 0 < 2 ^ d := Nat.two_pow_pos d
  have esh : nX .i64 1 (d : Int) = ((2 ^ d : Nat) : Int) := by
   have := uW (h := 1) (k := d) (by omega) (by omega);rw [Nat.one_mul] at this;exact this
  rw [List.drop_eq_getElem_cons hlt, List.all_cons];unfold UV rE;rw [cT (dT (by omega)), eX, List.getElem?_eq_getElem hlt, aD]
  by_cases h1 : l[k] < 0
  ·have : KL d l[k] = false := dF (by omega);rw [cT (dT h1), this]; rfl
  rw [cF (dF h1), rY, aD, esh]
  by_cases h2 : ((2 ^ d : Nat) : Int) ≤ l[k]
  ·have : KL d l[k] = false := dF (by omega);rw [cT (dT h2), this]; rfl
  have hin : KL d l[k] = true := dT (by omega);rw [cF (dF h2), aD, hin, Bool.true_and];have hsm := Lg (d := d) hlt;obtain ⟨e, he⟩ : ∃ e : Nat, l[k] = e := ⟨l[k].toNat, by omega⟩
  have hed : e < 2 ^ d := by omega
  rw [he, Int.toNat_natCast] at hsm;rw [he];have hL : k * d % 8 < 8 := Nat.mod_lt _ (by decide);have hkd : (k + 1) * d = k * d + d := by rw [Nat.add_mul, Nat.one_mul]
  have hkb : k * d ≤ 4096 * 16 := Nat.mul_le_mul (by omega) hd.2;unfold UV at hih;rw [hsm, hkd] at hih
  generalize CP d l k = X at hih ⊢
  have hdl := iP 256 (k * d / 8) (X / 2 ^ (k * d % 8))
  generalize k * d = T at *
  have eT : (T + d) % 8 = (T % 8 + d) % 8 := by omega
  have eQ : (T + d) / 8 = T / 8 + (T % 8 + d) / 8 := by omega
  rw [eT, eQ] at hih;have hq : T % 8 + d = 8 * ((T % 8 + d) / 8) + (T % 8 + d) % 8 := by omega
  have hr : (T % 8 + d) % 8 < 8 := by omega
  generalize (T % 8 + d) / 8 = q at *
  generalize (T % 8 + d) % 8 = r at *
  have s1 := QZ (X := X) (T / 8) hed hq;have s2 := step_mod (X := X) hed hq
  generalize T / 8 = m at *
  generalize T % 8 = L at *
  have hX : X % 2 ^ L < 128 := Nat.lt_of_lt_of_le (Nat.mod_lt _ (Nat.two_pow_pos L)) (Nat.pow_le_pow_right (show 0 < 2 by decide) (show L ≤ 7 by omega));have hx6 : X % 2 ^ L * 2 ^ d ≤ 128 * 65536 := Nat.mul_le_mul (by omega) hp
  have ex : Iu .i64 (nX .i64 ((X % 2 ^ L : Nat) : Int) (d : Int)) (e : Int) = ((X % 2 ^ L * 2 ^ d + e : Nat) : Int) := by
   rw [uW (by omega) (by omega), FI hed (by omega)]
  have ew : IntKind.i64.wrap ((L : Int) + (d : Int)) = ((8 * q + r : Nat) : Int) := by rw [gE (by omega)]; omega
  have hpr : 2 ^ r ≤ 128 := Nat.pow_le_pow_right (show 0 < 2 by decide) (show r ≤ 7 by omega);have hr0 : 0 < 2 ^ r := Nat.two_pow_pos r
  have em : IntKind.i64.wrap (nX .i64 1 (r : Int) - 1) = ((2 ^ r - 1 : Nat) : Int) := by
   have := uW (h := 1) (k := r) (by omega) (by omega);rw [Nat.one_mul] at this;rw [show (1 : Int) = ((1 : Nat) : Int) from rfl, this, gE (by omega)]
   omega
  rw [ex, aD, ew, aD];refine (Tx N _ _ hr q N _ (by omega) (by rw [hF]; omega) (by omega)).trans ?_
  dsimp only
  rw [rY, aD, em, He (by omega) (by omega), aD, ← yM, s1, s2, gE (x := (k : Int) + 1) (by omega)];exact hih
def xK (d : Nat) (l : List Int) : List Nat := lZ 256 ((l.length * d + 7) / 8) (CP d l l.length * 2 ^ ((l.length * d + 7) / 8 * 8 - l.length * d))
theorem OS (X L m : Nat) (hL : L < 8) (h0 : 0 < L) : lZ 256 m (X / 2 ^ L) ++ [X % 2 ^ L * 2 ^ (8 - L) % 256] = lZ 256 (m + 1) (X * 2 ^ (8 - L)) := by
 have WI : (256 : Nat) = 2 ^ (8 - L) * 2 ^ L := by rw [← Nat.pow_add, show 8 - L + L = 8 by omega]
 show _ = lZ 256 m (X * 2 ^ (8 - L) / 256) ++ [X * 2 ^ (8 - L) % 256]
 have e1 : X * 2 ^ (8 - L) / 256 = X / 2 ^ L := by
  conv => lhs; rw [WI]
  rw [← Nat.div_div_eq_div_mul, Nat.mul_div_cancel _ (Nat.two_pow_pos _)]
 have e2 : X * 2 ^ (8 - L) % 256 = X % 2 ^ L * 2 ^ (8 - L) := by
  conv => lhs; rw [WI]
  rw [Nat.mul_comm X, Nat.mul_mod_mul_left, Nat.mul_comm]
 rw [e1, e2]
 congr 2
 rw [Nat.mod_eq_of_lt];have h1 : X % 2 ^ L < 2 ^ L := Nat.mod_lt _ (Nat.two_pow_pos L);have h2 : (X % 2 ^ L + 1) * 2 ^ (8 - L) ≤ 2 ^ L * 2 ^ (8 - L) := Nat.mul_le_mul_right _ h1;rw [Nat.mul_comm (2 ^ L), ← WI, Nat.add_mul, Nat.one_mul] at h2;have := Nat.two_pow_pos (8 - L)
 omega
theorem DG (l : List Nat) : toB (mW l) = l.map UInt8.ofNat := by
 unfold toB mW;rw [List.map_map]
 rfl
def vU (l : List Int) (o : Int) : Int := if ¬ (1 ≤ o ∧ o ≤ 16) then 3 else if 4096 < l.length then 2 else if l.all (KL o.toNat) = true then 0 else 3
theorem IX (N : Nat) (o : Int) : sX N o = some (decide (1 ≤ o ∧ o ≤ 16)) := by
 unfold sX
 by_cases h : 1 ≤ o
 ·rw [cT (dT h)]; simp [h]
 ·rw [cF (dF h)]; simp [h]
theorem Tz (N : Nat) (hN : 100000 ≤ N) (l : List Int) (o : Int) : yU N l o = some (if vU l o = 0 then ((xK o.toNat l).map UInt8.ofNat, 0) else ([], vU l o)) := by
 unfold yU;rw [IX, aD]
 by_cases h1 : 1 ≤ o ∧ o ≤ 16
 rotate_left
 ·have hpe : vU l o = 3 := by unfold vU; rw [if_pos h1]
  rw [cT (by rw [dF h1]; rfl), hpe]; rfl
 have h1' : ¬ ¬ (1 ≤ o ∧ o ≤ 16) := fun h => h h1
 rw [cF (by rw [dT h1]; rfl)]
 by_cases h2 : 4096 < l.length
 ·have hpe : vU l o = 2 := by unfold vU; rw [if_neg h1', if_pos h2]
  rw [cT (dT (by omega)), hpe]; rfl
 have hpe : vU l o = if l.all (KL o.toNat) = true then 0 else 3 := by unfold vU; rw [if_neg h1', if_neg h2]
 rw [cF (dF (by omega)), hpe];clear hpe h1';obtain ⟨d, rfl⟩ := Int.eq_ofNat_of_zero_le (show 0 ≤ o by omega);rw [Int.toNat_natCast];have hb : l.length * d ≤ 4096 * 16 := Nat.mul_le_mul (by omega) (by omega)
 have e1 : IntKind.i64.wrap (Int.tdiv (IntKind.i64.wrap (IntKind.i64.wrap ((l.length : Int) * (d : Int)) + 7)) 8) = (((l.length * d + 7) / 8 : Nat) : Int) := by
  rw [← Int.natCast_mul, gE (x := ((l.length * d : Nat) : Int)) (by omega), gE (x := ((l.length * d : Nat) : Int) + 7) (by omega), show ((l.length * d : Nat) : Int) + 7 = ((l.length * d + 7 : Nat) : Int) by omega,
   show Int.tdiv ((l.length * d + 7 : Nat) : Int) 8 = (((l.length * d + 7) / 8 : Nat) : Int) from rfl, gE (by omega)]
 have Q4 : Qe 1 (((l.length * d + 7) / 8 : Nat) : Int) = some () := by unfold Qe; rw [if_pos (by omega)]
 rw [e1, Q4, aD]
 have h0 : UV d l 0 = (([] : List Int), (0 : Int), (0 : Int), (0 : Int)) := by
  unfold UV;rw [Nat.zero_mul]
  simp [CP, num, lZ, mW]
 have key := Ty N hN (d := d) (by omega) l (by omega) (fun x : PSt =>
  cond (decide (0 < x.2.2.1)) (
  Option.bind (nn (IntKind.i64.wrap (8 - x.2.2.1))) fun _ =>
  Option.bind (app 1 x.1 (([IntKind.u8.wrap (nX .i64 x.2.1 (IntKind.i64.wrap (8 - x.2.2.1)))] : List Int))) fun l10 =>
  some (toB l10, 0)) (
  some (toB x.1, 0))) l.length 0 N (by omega) (by omega)
 rw [h0, List.drop_zero] at key;refine Eq.trans key ?_;cases hall : l.all (KL d)
 ·rfl
 show _ = some ((xK d l).map UInt8.ofNat, 0);rw [if_pos rfl];unfold UV xK
 dsimp only
 generalize CP d l l.length = X
 have hdl := iP 256 (l.length * d / 8) (X / 2 ^ (l.length * d % 8))
 generalize l.length * d = T at *
 by_cases hr : T % 8 = 0
 ·rw [cF (dF (by omega)), DG, hr, Nat.pow_zero, Nat.div_one, show (T + 7) / 8 = T / 8 by omega, show T / 8 * 8 - T = 0 by omega, Nat.pow_zero, Nat.mul_one]
 ·have hw : IntKind.i64.wrap (8 - ((T % 8 : Nat) : Int)) = ((8 - T % 8 : Nat) : Int) := by rw [gE (by omega)]; omega
  have hX : X % 2 ^ (T % 8) < 128 := Nat.lt_of_lt_of_le (Nat.mod_lt _ (Nat.two_pow_pos _)) (Nat.pow_le_pow_right (show 0 < 2 by decide) (show T % 8 ≤ 7 by omega));have hp2 : 2 ^ (8 - T % 8) ≤ 2 ^ 8 := Nat.pow_le_pow_right (show 0 < 2 by decide) (by omega);have hxx : X % 2 ^ (T % 8) * 2 ^ (8 - T % 8) ≤ 128 * 256 := Nat.mul_le_mul (by omega) hp2;rw [cT (dT (by omega)), hw, rY, aD, uW (by omega) (by omega), AA, iO (by rw [hF]; simp; omega), aD];have e2 := OS X (T % 8) (T / 8) (by omega) (by omega);have e3 : mW (lZ 256 (T / 8) (X / 2 ^ (T % 8))) ++ [((X % 2 ^ (T % 8) * 2 ^ (8 - T % 8) % 256 : Nat) : Int)] = mW (lZ 256 (T / 8 + 1) (X * 2 ^ (8 - T % 8))) := by rw [← e2, yM]; rfl
  rw [e3, DG, show (T + 7) / 8 = T / 8 + 1 by omega, show (T / 8 + 1) * 8 - T = 8 - T % 8 by omega]
theorem OT {w X d e L q r : Nat} (m : Nat) (he : e < 2 ^ d) (hq : L + d = w * q + r) : lZ (2 ^ w) m (X / 2 ^ L) ++ lZ (2 ^ w) q ((X % 2 ^ L * 2 ^ d + e) / 2 ^ r) = lZ (2 ^ w) (m + q) ((X * 2 ^ d + e) / 2 ^ r) := by
 rw [sM]
 congr 1
 ·rw [OR, Nat.div_div_eq_div_mul, ← Nat.pow_add, show r + w * q = d + L by omega, Nat.pow_add, ← Nat.div_div_eq_div_mul, JS he]
 ·rw [C4 he, show L + d = r + w * q by omega, Nat.pow_add, Nat.mod_mul_right_div_self, ← OR, DE]
theorem OU {w X d e L q r : Nat} (he : e < 2 ^ d) (hq : L + d = w * q + r) : (X % 2 ^ L * 2 ^ d + e) % 2 ^ r = (X * 2 ^ d + e) % 2 ^ r := by
 rw [C4 he, show L + d = r + w * q by omega, Nat.pow_add, Nat.mod_mul_right_mod]
theorem OV (N : Nat) {d n : Nat} (hd : 1 ≤ d ∧ d ≤ 16) (hn : n ≤ 4096) (kk) : ∀ (a t h fuel : Nat) (out : List Int), a = min (t / d) (n - out.length) → out.length ≤ n → t ≤ 32 → h < 2 ^ t → a < fuel →
  oY N (d : Int) (n : Int) kk fuel (out, (h : Int), (t : Int)) = kk (out ++ mW (lZ (2 ^ d) a (h / 2 ^ (t - d * a))), ((h % 2 ^ (t - d * a) : Nat) : Int), ((t - d * a : Nat) : Int)) := by
 intro a
 induction a with
 | zero =>
  intro t h fuel out ha hon ht hh hf;obtain ⟨fuel, rfl⟩ : ∃ m, fuel = m + 1 := ⟨fuel - 1, by omega⟩
  have hex : t < d ∨ n = out.length := by
   by_cases q : t < d
   ·exact .inl q
   ·right
    have : 1 ≤ t / d := (Nat.le_div_iff_mul_le (by omega)).2 (by omega)
    omega
  have hfin : kk (out ++ mW (lZ (2 ^ d) 0 (h / 2 ^ (t - d * 0))), ((h % 2 ^ (t - d * 0) : Nat) : Int), ((t - d * 0 : Nat) : Int)) = kk (out, (h : Int), (t : Int)) := by
   rw [Nat.mul_zero, Nat.sub_zero, Nat.mod_eq_of_lt hh]
   simp [lZ, mW]
  rw [hfin];unfold oY
  by_cases q : (d : Int) ≤ t
  ·rw [cT (dT q), cF (dF (by omega))]
  ·rw [cF (dF q)]
 | succ a ih =>
  intro t h fuel out ha hon ht hh hf;obtain ⟨fuel, rfl⟩ : ∃ m, fuel = m + 1 := ⟨fuel - 1, by omega⟩
  have h1 : d ≤ t := by
   rcases Nat.lt_or_ge t d with q | q
   ·rw [Nat.div_eq_of_lt q] at ha; omega
   ·exact q
  have h2 : out.length < n := by omega
  have htd : (t - d) / d = t / d - 1 := by
   have := Nat.sub_mul_div t d 1;rw [Nat.mul_one] at this;exact this
  have hx : IntKind.i64.wrap ((t : Int) - (d : Int)) = ((t - d : Nat) : Int) := by rw [gE (by omega)]; omega
  have hpt : 2 ^ t ≤ 2 ^ 32 := Nat.pow_le_pow_right (by decide) ht;have aDY : 2 ^ (t - d) ≤ 2 ^ 32 := Nat.pow_le_pow_right (by decide) (by omega);have hp0 := Nat.two_pow_pos (t - d)
  have em : IntKind.i64.wrap (nX .i64 1 ((t - d : Nat) : Int) - 1) = ((2 ^ (t - d) - 1 : Nat) : Int) := by
   have := uW (h := 1) (k := t - d) (by omega) (by omega);rw [Nat.one_mul] at this;rw [show (1 : Int) = ((1 : Nat) : Int) from rfl, this, gE (by omega)]
   omega
  have hmul : d * (a + 1) = d + d * a := by rw [Nat.mul_add, Nat.mul_one, Nat.add_comm]
  have hle : d * (a + 1) ≤ t := by
   have := Nat.div_mul_le_self t d;have q : a + 1 ≤ t / d := by omega
   have := Nat.mul_le_mul_left d q;rw [Nat.mul_comm d (t / d)] at this
   omega
  unfold oY;rw [cT (dT (by omega)), cT (dT (by omega)), hx, aD, rY, aD, DF (by omega), iO (by simp; omega), aD, aD, em, He (by omega) (by omega), aD];rw [ih (t - d) (h % 2 ^ (t - d)) fuel (out ++ [((h / 2 ^ (t - d) : Nat) : Int)]) (by rw [htd, List.length_append, List.length_singleton]; omega) (by rw [List.length_append, List.length_singleton]; omega) (by omega) (Nat.mod_lt _ hp0) (by omega)];have er : t - d - d * a = t - d * (a + 1) := by omega
  rw [er]
  have e1 : h % 2 ^ (t - d) % 2 ^ (t - d * (a + 1)) = h % 2 ^ (t - d * (a + 1)) := by
   rw [show t - d = (t - d * (a + 1)) + d * a by omega, Nat.pow_add, Nat.mod_mul_right_mod]
  have e2 : lZ (2 ^ d) (a + 1) (h / 2 ^ (t - d * (a + 1))) = [h / 2 ^ (t - d)] ++ lZ (2 ^ d) a (h % 2 ^ (t - d) / 2 ^ (t - d * (a + 1))) := by
   rw [Nat.add_comm a 1, sM, Nat.add_comm 1 a]
   congr 1
   ·show [h / 2 ^ (t - d * (a + 1)) / (2 ^ d) ^ a % 2 ^ d] = _;rw [OR, Nat.div_div_eq_div_mul, ← Nat.pow_add, show t - d * (a + 1) + d * a = t - d by omega, Nat.mod_eq_of_lt];rw [Nat.div_lt_iff_lt_mul hp0, ← Nat.pow_add, show d + (t - d) = t by omega];exact hh
   ·have : h % 2 ^ (t - d) / 2 ^ (t - d * (a + 1)) = h / 2 ^ (t - d * (a + 1)) % (2 ^ d) ^ a := by
     rw [OR, show t - d = (t - d * (a + 1)) + d * a by omega, Nat.pow_add, Nat.mod_mul_right_div_self]
    rw [this, DE]
  rw [e1, e2, yM, List.append_assoc]
  rfl
def Cv (s : List UInt8) (k : Nat) : Nat := num 256 ((s.take k).map UInt8.toNat)
theorem Hf {s : List UInt8} {k : Nat} (hk : k < s.length) : Cv s (k + 1) = Cv s k * 2 ^ 8 + s[k].toNat := by
 unfold Cv;rw [List.take_succ_eq_append_getElem hk, List.map_append, List.map_cons, List.map_nil, yY]
def cN (d n k : Nat) : Nat := min (8 * k / d) n
def WJ (d n : Nat) (s : List UInt8) (k : Nat) : PSt := (mW (lZ (2 ^ d) (cN d n k) (Cv s k / 2 ^ (8 * k - d * cN d n k))), ((Cv s k % 2 ^ (8 * k - d * cN d n k) : Nat) : Int), ((8 * k - d * cN d n k : Nat) : Int), (k : Int))
theorem OW (N : Nat) (hN : 100000 ≤ N) {d n : Nat} (hd : 1 ≤ d ∧ d ≤ 16) (hn : n ≤ 4096) (s : List UInt8) (hl : s.length = (n * d + 7) / 8) (kk) : ∀ (j k fuel : Nat), k + j = s.length → j < fuel →
  oZ N s (d : Int) (n : Int) kk fuel (WJ d n s k) = kk (WJ d n s s.length) := by
 have hnd : n * d ≤ 4096 * 16 := Nat.mul_le_mul hn hd.2;intro j
 induction j with
 | zero =>
  intro k fuel hk hf;obtain ⟨fuel, rfl⟩ : ∃ m, fuel = m + 1 := ⟨fuel - 1, by omega⟩
  obtain rfl : k = s.length := by omega
  unfold WJ oZ;rw [cF (dF (by omega))]
 | succ j ih =>
  intro k fuel hk hf;obtain ⟨fuel, rfl⟩ : ∃ m, fuel = m + 1 := ⟨fuel - 1, by omega⟩
  have hlt : k < s.length := by omega
  have hih := ih (k + 1) fuel (by omega) (by omega);have hbs := Hf hlt;have hb : s[k].toNat < 2 ^ 8 := s[k].toNat_lt
  have hc : cN d n k = 8 * k / d := by
   unfold cN;have : 8 * k / d < n := (Nat.div_lt_iff_lt_mul (by omega)).2 (by omega)
   omega
  have hL : 8 * k - d * cN d n k = 8 * k % d := by
   have := Nat.div_add_mod (8 * k) d;rw [hc]; omega
  have hLd : 8 * k % d < d := Nat.mod_lt _ (by omega);have hcn : cN d n k ≤ n := Nat.min_le_right _ _
  have ha : cN d n (k + 1) = cN d n k + min ((8 * k % d + 8) / d) (n - cN d n k) := by
   have h1 : (8 * k + 8) / d = 8 * k / d + (8 * k % d + 8) / d := by
    have := Nat.div_add_mod (8 * k) d;have e : 8 * k + 8 = d * (8 * k / d) + (8 * k % d + 8) := by omega
    rw [e, Nat.mul_add_div (by omega)]
   have h2 : cN d n (k + 1) = min ((8 * k + 8) / d) n := by unfold cN; rw [show 8 * (k + 1) = 8 * k + 8 by omega]
   rw [h2, h1, ← hc]
   omega
  have hL2 : 8 * (k + 1) - d * cN d n (k + 1) = 8 * k % d + 8 - d * min ((8 * k % d + 8) / d) (n - cN d n k) := by
   rw [ha, Nat.mul_add d];have h3 := Nat.div_mul_le_self (8 * k) d;rw [← hc, Nat.mul_comm] at h3
   omega
  have aDZ : d * min ((8 * k % d + 8) / d) (n - cN d n k) ≤ 8 * k % d + 8 := by
   have h4 := Nat.div_mul_le_self (8 * k % d + 8) d;have h5 := Nat.mul_le_mul_left d (Nat.min_le_left ((8 * k % d + 8) / d) (n - cN d n k));rw [Nat.mul_comm d ((8 * k % d + 8) / d)] at h5
   omega
  unfold WJ at hih ⊢;rw [hL];rw [hL2, ha, hbs] at hih;have hol := hF (lZ (2 ^ d) (cN d n k) (Cv s k / 2 ^ (8 * k % d)));rw [iP] at hol;have Zk : min ((8 * k % d + 8) / d) (n - cN d n k) = min ((8 * k % d + 8) / d) (n - (mW (lZ (2 ^ d) (cN d n k) (Cv s k / 2 ^ (8 * k % d)))).length) := by rw [hol]
  generalize min ((8 * k % d + 8) / d) (n - cN d n k) = a at *
  generalize Cv s k = X at *
  generalize hbb : s[k].toNat = b at *
  have hlow := C4 (X := X) (L := 8 * k % d) hb;have aD0 : 8 * k % d ≤ 15 := by omega
  generalize 8 * k % d = L at *
  generalize cN d n k = c at *
  have WK : X % 2 ^ L * 2 ^ 8 + b < 2 ^ (L + 8) := by rw [hlow]; exact Nat.mod_lt _ (Nat.two_pow_pos _)
  have Zl : 2 ^ (L + 8) ≤ 8388608 := Nat.pow_le_pow_right (show 0 < 2 by decide) (show L + 8 ≤ 23 by omega)
  have hb8 : X % 2 ^ L * 2 ^ 8 < 8388608 := by
   have := Nat.lt_of_lt_of_le WK Zl;exact Nat.lt_of_le_of_lt (Nat.le_add_right _ b) this
  have hb9 : X % 2 ^ L * 2 ^ 8 + b < 8388608 := Nat.lt_of_lt_of_le WK Zl
  have ex : Iu .i64 (nX .i64 ((X % 2 ^ L : Nat) : Int) 8) (IntKind.i64.wrap (b : Int)) = ((X % 2 ^ L * 2 ^ 8 + b : Nat) : Int) := by
   have q1 := uW (h := X % 2 ^ L) (k := 8) (by decide) (Nat.lt_trans hb8 (by decide));have q2 := FI (h := X % 2 ^ L) (d := 8) (e := b) hb (Nat.lt_trans hb9 (by decide));rw [gE (x := (b : Int)) (by omega), ← q2, ← q1]
   rfl
  have ew : IntKind.i64.wrap ((L : Int) + 8) = ((L + 8 : Nat) : Int) := by rw [gE (by omega)]; omega
  have hq : L + 8 = d * a + (L + 8 - d * a) := by omega
  have s1 := OT (X := X) c hb hq;have s2 := OU (X := X) hb hq;unfold oZ;rw [cT (dT (by omega)), eX, List.getElem?_eq_getElem hlt, aD, hbb, ex, aD, ew, aD];refine (OV N hd hn _ a (L + 8) (X % 2 ^ L * 2 ^ 8 + b) N (mW (lZ (2 ^ d) c (X / 2 ^ L))) Zk (by rw [hol]; exact hcn) (by omega) WK (by omega)).trans ?_
  dsimp only
  rw [← yM, s1, s2, gE (x := (k : Int) + 1) (by omega)];exact hih
def eU (s : List UInt8) (o p : Int) : Int := if ¬ (1 ≤ o ∧ o ≤ 16) then 3 else if p < 0 then 3 else if 4096 < p then 2 else if s.length ≠ (p.toNat * o.toNat + 7) / 8 then 1 else if Cv s s.length % 2 ^ (8 * s.length - o.toNat * p.toNat) ≠ 0 then 1 else 0
def mX (s : List UInt8) (d n : Nat) : List Nat := lZ (2 ^ d) n (Cv s s.length / 2 ^ (8 * s.length - d * n))
theorem OX (N : Nat) (hN : 100000 ≤ N) (s : List UInt8) (hs : s.length ≤ 9223372036854775807) (o p : Int) : vG N s o p = some (if eU s o p = 0 then (mW (mX s o.toNat p.toNat), 0) else ([], eU s o p)) := by
 unfold vG;rw [IX, aD]
 by_cases h1 : 1 ≤ o ∧ o ≤ 16
 rotate_left
 ·have hpe : eU s o p = 3 := by unfold eU; rw [if_pos h1]
  rw [cT (by rw [dF h1]; rfl), hpe]; rfl
 have h1' : ¬ ¬ (1 ≤ o ∧ o ≤ 16) := fun h => h h1
 rw [cF (by rw [dT h1]; rfl)]
 by_cases h2 : p < 0
 ·have hpe : eU s o p = 3 := by unfold eU; rw [if_neg h1', if_pos h2]
  rw [cT (dT h2), hpe]; rfl
 rw [cF (dF h2)]
 by_cases h3 : 4096 < p
 ·have hpe : eU s o p = 2 := by unfold eU; rw [if_neg h1', if_neg h2, if_pos h3]
  rw [cT (dT h3), hpe]; rfl
 rw [cF (dF h3)];obtain ⟨d, rfl⟩ := Int.eq_ofNat_of_zero_le (show 0 ≤ o by omega);obtain ⟨n, rfl⟩ := Int.eq_ofNat_of_zero_le (show 0 ≤ p by omega);have hb : n * d ≤ 4096 * 16 := Nat.mul_le_mul (by omega) (by omega)
 have e1 : IntKind.i64.wrap (Int.tdiv (IntKind.i64.wrap (IntKind.i64.wrap ((n : Int) * (d : Int)) + 7)) 8) = (((n * d + 7) / 8 : Nat) : Int) := by
  rw [← Int.natCast_mul, gE (x := ((n * d : Nat) : Int)) (by omega), gE (x := ((n * d : Nat) : Int) + 7) (by omega), show ((n * d : Nat) : Int) + 7 = ((n * d + 7 : Nat) : Int) by omega,
   show Int.tdiv ((n * d + 7 : Nat) : Int) 8 = (((n * d + 7) / 8 : Nat) : Int) from rfl, gE (by omega)]
 rw [e1]
 by_cases h4 : s.length = (n * d + 7) / 8
 rotate_left
 ·have hpe : eU s d n = 1 := by unfold eU; rw [if_neg h1', if_neg h2, if_neg h3, Int.toNat_natCast, Int.toNat_natCast, if_pos h4]
  rw [cT (by rw [dF (by omega)]; rfl), hpe]; rfl
 rw [cF (by rw [dT (by omega)]; rfl)]
 have h0 : WJ d n s 0 = (([] : List Int), (0 : Int), (0 : Int), (0 : Int)) := by
  unfold WJ cN
  simp [Cv, num, lZ, mW, Nat.mod_one]
 have key := OW N hN (d := d) (n := n) (by omega) (by omega) s h4 (fun x : PSt => cond (!decide (x.2.1 = 0)) (some (([] : List Int), 1)) (some (x.1, 0))) s.length 0 N (by omega) (by omega);rw [h0] at key;refine Eq.trans key ?_
 have hc : cN d n s.length = n := by
  unfold cN;have : n ≤ 8 * s.length / d := (Nat.le_div_iff_mul_le (by omega)).2 (by rw [h4]; omega)
  omega
 unfold WJ;rw [hc]
 dsimp only
 by_cases h5 : Cv s s.length % 2 ^ (8 * s.length - d * n) = 0
 ·have hpe : eU s d n = 0 := by
   unfold eU;rw [if_neg h1', if_neg h2, if_neg h3, Int.toNat_natCast, Int.toNat_natCast, if_neg (by omega), if_neg (by omega)]
  rw [cF (by rw [dT (by omega)]; rfl), hpe, if_pos rfl, Int.toNat_natCast, Int.toNat_natCast]
  rfl
 ·have hpe : eU s d n = 1 := by
   unfold eU;rw [if_neg h1', if_neg h2, if_neg h3, Int.toNat_natCast, Int.toNat_natCast, if_neg (by omega), if_pos h5]
  rw [cT (by rw [dF (by omega)]; rfl), hpe]; rfl
theorem Q5 (N : Nat) (l : List Int) (kk) (hl : l.length ≤ 4611686018427387904) : ∀ (j k fuel : Nat), k + j = l.length → j < fuel → jE N l l kk fuel (k : Int) = kk (l.length : Int) := by
 intro j
 induction j with
 | zero =>
  intro k fuel hk hf;obtain ⟨fuel, rfl⟩ : ∃ m, fuel = m + 1 := ⟨fuel - 1, by omega⟩
  obtain rfl : k = l.length := by omega
  unfold jE;rw [cF (dF (by omega))]
 | succ j ih =>
  intro k fuel hk hf;obtain ⟨fuel, rfl⟩ : ∃ m, fuel = m + 1 := ⟨fuel - 1, by omega⟩
  have hlt : k < l.length := by omega
  unfold jE;rw [cT (dT (by omega)), eX, List.getElem?_eq_getElem hlt, aD, aD, cF (by simp), aD, gE (by omega)];exact ih (k + 1) fuel (by omega) (by omega)
theorem ofNat_toNat {l : List Nat} (h : ∀ y ∈ l, y < 256) : (l.map UInt8.ofNat).map UInt8.toNat = l := by
 rw [List.map_map]
 conv => rhs; rw [← List.map_id l]
 refine List.map_congr_left fun y hy => ?_
 have := h y hy
 simp [UInt8.toNat_ofNat', Nat.mod_eq_of_lt this]
theorem toNat_ofNat (s : List UInt8) : (s.map UInt8.toNat).map UInt8.ofNat = s := by
 rw [List.map_map]
 conv => rhs; rw [← List.map_id s]
 refine List.map_congr_left fun y _ => ?_
 simp
theorem BA (l : List Nat) : (mW l).map Int.toNat = l := by
 unfold mW;rw [List.map_map]
 conv => rhs; rw [← List.map_id l]
 exact List.map_congr_left fun y _ => rfl
theorem IY {l : List Int} (h : ∀ y ∈ l, 0 ≤ y) : mW (l.map Int.toNat) = l := by
 unfold mW;rw [List.map_map]
 conv => rhs; rw [← List.map_id l]
 refine List.map_congr_left fun y hy => ?_
 have := h y hy;show ((y.toNat : Nat) : Int) = y
 omega
section
variable {d n : Nat} (hd : 1 ≤ d ∧ d ≤ 16)
include hd
theorem WL {l : List Int} (h : l.all (KL d) = true) : CP d l l.length < 2 ^ (d * l.length) := by
 unfold CP;rw [List.take_length, ← OR]
 have := u7 (B := 2 ^ d) (l.map Int.toNat) fun y hy => by
  obtain ⟨e, he, rfl⟩ := List.mem_map.1 hy;have := of_decide_eq_true (List.all_eq_true.1 h e he)
  omega
 rwa [List.length_map] at this
theorem Lh {l : List Int} (h : l.all (KL d) = true) : ((xK d l).map UInt8.ofNat).length = (l.length * d + 7) / 8 ∧ Cv ((xK d l).map UInt8.ofNat) ((l.length * d + 7) / 8) = CP d l l.length * 2 ^ (8 * ((l.length * d + 7) / 8) - d * l.length) := by
 have hlen : ((xK d l).map UInt8.ofNat).length = (l.length * d + 7) / 8 := by rw [List.length_map]; exact iP _ _ _
 refine ⟨hlen, ?_⟩;unfold Cv;have ht : ((xK d l).map UInt8.ofNat).take ((l.length * d + 7) / 8) = (xK d l).map UInt8.ofNat := List.take_of_length_le (by omega);have aC6 : ∀ y ∈ xK d l, y < 256 := fun y hy => xT (by decide) _ _ y hy
 rw [ht, ofNat_toNat aC6];unfold xK;rw [yL, Nat.mul_comm l.length d, Nat.mul_comm ((d * l.length + 7) / 8) 8, Nat.mod_eq_of_lt];have h1 := WL hd h;rw [Ej];have h2 : CP d l l.length * 2 ^ (8 * ((d * l.length + 7) / 8) - d * l.length) < 2 ^ (d * l.length) * 2 ^ (8 * ((d * l.length + 7) / 8) - d * l.length) := Nat.mul_lt_mul_of_pos_right h1 (Nat.two_pow_pos _);rw [← Nat.pow_add, show d * l.length + (8 * ((d * l.length + 7) / 8) - d * l.length) = 8 * ((d * l.length + 7) / 8) by omega] at h2;exact h2
theorem unpack_pack {l : List Int} (h : l.all (KL d) = true) (hl : l.length ≤ 4096) : eU ((xK d l).map UInt8.ofNat) d l.length = 0 ∧ mW (mX ((xK d l).map UInt8.ofNat) d l.length) = l := by
 obtain ⟨h1, h2⟩ := Lh hd h
 constructor
 ·unfold eU;rw [if_neg (fun q => q (by omega)), if_neg (by omega), if_neg (by omega), Int.toNat_natCast, Int.toNat_natCast, h1, if_neg (fun q => q rfl), h2, if_neg (fun q => q (Nat.mul_mod_left _ _))]
 ·unfold mX;rw [h1, h2, Nat.mul_div_cancel _ (Nat.two_pow_pos _)];unfold CP;rw [List.take_length]
  have := B6 (B := 2 ^ d) (l.map Int.toNat) fun y hy => by
   obtain ⟨e, he, rfl⟩ := List.mem_map.1 hy;have := of_decide_eq_true (List.all_eq_true.1 h e he)
   omega
  rw [List.length_map] at this;rw [this];exact IY fun y hy => (of_decide_eq_true (List.all_eq_true.1 h y hy) : 0 ≤ y ∧ _).1
theorem Q6 (s : List UInt8) : Cv s s.length < 2 ^ (8 * s.length) := by
 unfold Cv;rw [List.take_length, ← Ej]
 have := u7 (B := 256) (s.map UInt8.toNat) fun y hy => by
  obtain ⟨e, _, rfl⟩ := List.mem_map.1 hy;exact e.toNat_lt
 rwa [List.length_map] at this
theorem Li {s : List UInt8} (hl : s.length = (n * d + 7) / 8) (hn : n ≤ 4096) (hz : Cv s s.length % 2 ^ (8 * s.length - d * n) = 0) :
  vU (mW (mX s d n)) d = 0 ∧ (xK d (mW (mX s d n))).map UInt8.ofNat = s ∧ (mW (mX s d n)).length = n := by
 have hlen : (mW (mX s d n)).length = n := by rw [hF]; exact iP _ _ _
 have hdn : d * n ≤ 8 * s.length := by rw [hl, Nat.mul_comm d]; omega
 refine ⟨?_, ?_, hlen⟩
 ·unfold vU;rw [if_neg (fun q => q (by omega)), if_neg (by omega), Int.toNat_natCast, if_pos];refine List.all_eq_true.2 fun y hy => ?_
  obtain ⟨e, he, rfl⟩ := List.mem_map.1 hy;have := xT (Nat.two_pow_pos d) _ _ e he;exact decide_eq_true (by omega)
 ·unfold xK
  have hS : CP d (mW (mX s d n)) n = Cv s s.length / 2 ^ (8 * s.length - d * n) := by
   unfold CP;rw [List.take_of_length_le (by omega), BA];unfold mX;rw [yL, OR, Nat.mod_eq_of_lt];have := Q6 hd s;rw [show 8 * s.length = d * n + (8 * s.length - d * n) by omega, Nat.pow_add] at this;exact (Nat.div_lt_iff_lt_mul (Nat.two_pow_pos _)).2 (by rw [show 8 * s.length = d * n + (8 * s.length - d * n) by omega]; simpa using this)
  rw [hlen, hS, ← hl, Nat.mul_comm n d, Nat.mul_comm s.length 8, Nat.div_mul_cancel (Nat.dvd_of_mod_eq_zero hz)];unfold Cv;rw [List.take_length]
  have := B6 (B := 256) (s.map UInt8.toNat) fun y hy => by
   obtain ⟨e, _, rfl⟩ := List.mem_map.1 hy;exact e.toNat_lt
  rw [List.length_map] at this;rw [this, toNat_ofNat]
end
def wF (l : List Nat) : List UInt8 := l.map fun b => UInt8.ofNat (48 + b)
theorem mM (l : List Nat) : (wF l).length = l.length := by simp [wF]
theorem ER (l m : List Nat) : wF (l ++ m) = wF l ++ wF m := by simp [wF]
theorem Zm (N : Nat) : ∀ (k fu n : Nat), k < fu → k ≤ 16 → n < 9223372036854775808 → lS N fu (n : Int) (k : Int) = some (wF (lZ 2 k n)) := by
 intro k
 induction k with
 | zero =>
  intro fu n hf _ _;obtain ⟨fu, rfl⟩ : ∃ m, fu = m + 1 := ⟨fu - 1, by omega⟩
  unfold lS;rw [cT (by rfl)]; rfl
 | succ k ih =>
  intro fu n hf hk hn;obtain ⟨fu, rfl⟩ : ∃ m, fu = m + 1 := ⟨fu - 1, by omega⟩
  have e1 : IntKind.i64.wrap (Int.tdiv (n : Int) 2) = ((n / 2 : Nat) : Int) := by rw [show Int.tdiv (n : Int) 2 = ((n / 2 : Nat) : Int) from rfl, gE (by omega)]
  have e2 : IntKind.i64.wrap (((k + 1 : Nat) : Int) - 1) = (k : Int) := by rw [gE (by omega)]; omega
  have e3 : IntKind.u8.wrap (48 + IntKind.u8.wrap (Int.tmod (n : Int) 2)) = ((48 + n % 2 : Nat) : Int) := by
   rw [show Int.tmod (n : Int) 2 = ((n % 2 : Nat) : Int) from rfl, AA, show (48 : Int) + ((n % 2 % 256 : Nat) : Int) = ((48 + n % 2 % 256 : Nat) : Int) by omega, AA]
   omega
  unfold lS;rw [cF (dF (by omega)), e1, e2, ih fu (n / 2) (by omega) (by omega) (by omega), aD, e3];have hl : (wF (lZ 2 k (n / 2))).length = k := by rw [mM, iP]
  have ha : G4 (wF (lZ 2 k (n / 2))) (toB [((48 + n % 2 : Nat) : Int)]) = some (wF (lZ 2 (k + 1) n)) := by
   unfold G4;rw [if_pos (by rw [hl]; simp [toB]; omega)];show some (_ ++ _) = some (wF (lZ 2 k (n / 2) ++ [n % 2]));rw [ER]
   rfl
  rw [ha, aD]
theorem number_eq {N : Nat} (hN : 100 ≤ N) {n k : Nat} (hk : k ≤ 16) (hn : n < 9223372036854775808) : lH N (n : Int) (k : Int) = some (wF (lZ 2 k n)) := Zm N k N n (by omega) hk hn
theorem JT (l m : List UInt8) : qX (l ++ m) = qX l ++ qX m := by simp [qX]
theorem JU (l : List UInt8) : toB (qX l) = l := by
 unfold toB qX;rw [List.map_map]
 conv => rhs; rw [← List.map_id l]
 refine List.map_congr_left fun y _ => ?_
 show UInt8.ofNat (Int.toNat ((y.toNat : Nat) : Int)) = y
 simp
theorem qT (l : List UInt8) : (qX l).length = l.length := by simp [qX]
theorem ES {d e X m : Nat} (he : e < 2 ^ d) : lZ 2 m X ++ lZ 2 d e = lZ 2 (m + d) (X * 2 ^ d + e) := by
 rw [sM, JS he]
 congr 1
 refine Hd ?_;rw [Nat.mul_comm, Nat.mul_add_mod]
theorem OY (N : Nat) (hN : 100000 ≤ N) {d : Nat} (hd : 1 ≤ d ∧ d ≤ 16) {l : List Int} (hl : l.length ≤ 4096) (hall : l.all (KL d) = true) (kk) : ∀ (j k fuel : Nat), k + j = l.length → j < fuel →
  lL N l (d : Int) kk fuel (qX (wF (lZ 2 (k * d) (CP d l k))), (k : Int)) = kk (qX (wF (lZ 2 (l.length * d) (CP d l l.length))), (l.length : Int)) := by
 intro j
 induction j with
 | zero =>
  intro k fuel hk hf;obtain ⟨fuel, rfl⟩ : ∃ m, fuel = m + 1 := ⟨fuel - 1, by omega⟩
  obtain rfl : k = l.length := by omega
  unfold lL;rw [cF (dF (by omega))]
 | succ j ih =>
  intro k fuel hk hf;obtain ⟨fuel, rfl⟩ : ∃ m, fuel = m + 1 := ⟨fuel - 1, by omega⟩
  have hlt : k < l.length := by omega
  have hp := vI hd.2;have hin := of_decide_eq_true (List.all_eq_true.1 hall _ (List.getElem_mem hlt));obtain ⟨e, he⟩ : ∃ e : Nat, l[k] = e := ⟨l[k].toNat, by omega⟩
  have hed : e < 2 ^ d := by omega
  have hsm := Lg (d := d) hlt;rw [he, Int.toNat_natCast] at hsm;have hkb : k * d ≤ 4096 * 16 := Nat.mul_le_mul (by omega) hd.2;have hih := ih (k + 1) fuel (by omega) (by omega);rw [hsm, Nat.add_mul, Nat.one_mul, ← ES hed, ER, JT] at hih;unfold lL;rw [cT (dT (by omega)), eX, List.getElem?_eq_getElem hlt, aD, he, number_eq (by omega) hd.2 (by omega), aD, iO (by rw [qT, qT, mM, mM, iP, iP]; omega), aD, aD, gE (x := (k : Int) + 1) (by omega)];exact hih
def gr (M : Nat) (l : List Nat) : List Nat := (List.range M).map fun g => num 2 ((List.range 8).map fun t => l.getD (8 * g + t) 0)
theorem TA {M : Nat} {a c : List Nat} (ha : a.length = 8 * M) (hc : c.length = 8) : gr (M + 1) (a ++ c) = gr M a ++ [num 2 c] := by
 unfold gr;rw [List.range_succ (n := M), List.map_append, List.map_singleton]
 congr 1
 ·refine List.map_congr_left fun g hg => ?_
  have := List.mem_range.1 hg
  congr 1
  refine List.map_congr_left fun t ht => ?_
  have := List.mem_range.1 ht;rw [List.getD_eq_getElem?_getD, List.getD_eq_getElem?_getD, List.getElem?_append_left (by omega)]
 ·congr 2
  apply List.ext_getElem?
  intro t
  by_cases ht : t < 8
  ·rw [List.getElem?_map, List.getElem?_range ht];show some ((a ++ c).getD (8 * M + t) 0) = _;rw [List.getD_eq_getElem?_getD, List.getElem?_append_right (by omega), show 8 * M + t - a.length = t by omega, List.getElem?_eq_getElem (by omega)]
   rfl
  ·rw [List.getElem?_eq_none (by simp; omega), List.getElem?_eq_none (by omega)]
theorem Hg : ∀ (M Y : Nat), gr M (lZ 2 (8 * M) Y) = lZ 256 M Y
 | 0, _ => rfl
 | M + 1, Y => by
  rw [show 8 * (M + 1) = 8 * M + 8 by omega, sM, TA (iP _ _ _) (iP _ _ _), yL, Hg M]
  rfl
theorem MN (M p : Nat) (l : List Nat) : gr M (l ++ List.replicate p 0) = gr M l := by
 unfold gr;refine List.map_congr_left fun g _ => ?_
 congr 1
 refine List.map_congr_left fun t _ => ?_
 rw [List.getD_eq_getElem?_getD, List.getD_eq_getElem?_getD]
 by_cases h : 8 * g + t < l.length
 ·rw [List.getElem?_append_left h]
 ·rw [List.getElem?_append_right (by omega), List.getElem?_eq_none (l := l) (by omega), List.getElem?_replicate]
  split <;> rfl
theorem Lj (B : Nat) : ∀ n, lZ B n 0 = List.replicate n 0
 | 0 => rfl
 | n + 1 => by
  show lZ B n (0 / B) ++ [0 % B] = _;rw [Nat.zero_div, Nat.zero_mod, Lj B n, List.replicate_succ']
theorem Zn (T X : Nat) : gr ((T + 7) / 8) (lZ 2 T X) = lZ 256 ((T + 7) / 8) (X * 2 ^ ((T + 7) / 8 * 8 - T)) := by
 have h1 : lZ 2 T X ++ List.replicate ((T + 7) / 8 * 8 - T) 0 = lZ 2 (8 * ((T + 7) / 8)) (X * 2 ^ ((T + 7) / 8 * 8 - T)) := by
  rw [show 8 * ((T + 7) / 8) = T + ((T + 7) / 8 * 8 - T) by omega, sM, Nat.mul_div_cancel _ (Nat.two_pow_pos _), ← Lj 2]
  congr 1
  exact Hd (by rw [Nat.mul_mod_left, Nat.zero_mod])
 rw [← Hg, ← h1, MN]
theorem Gz {l : List Nat} {k : Nat} (hk : k < l.length) (h2 : ∀ y ∈ l, y < 2) : idx (wF l) (k : Int) = some (UInt8.ofNat (48 + l.getD k 0)) ∧ ((UInt8.ofNat (48 + l.getD k 0)).toNat : Int) = ((48 + l.getD k 0 : Nat) : Int) ∧ l.getD k 0 < 2 := by
 have hg : l.getD k 0 = l[k] := by rw [List.getD_eq_getElem?_getD, List.getElem?_eq_getElem hk]; rfl
 have h3 := h2 _ (List.getElem_mem hk);rw [hg];refine ⟨?_, ?_, h3⟩
 ·rw [eX, wF, List.getElem?_map, List.getElem?_eq_getElem hk]; rfl
 ·rw [UInt8.toNat_ofNat', Nat.mod_eq_of_lt (by omega)]
theorem Q7 (N : Nat) {l : List Nat} (h2 : ∀ y ∈ l, y < 2) (hl : l.length ≤ 16777216) {i : Nat} (hi : i < l.length) (kk) : ∀ (j t fuel : Nat), t + j = 8 → j < fuel →
  jD N (wF l) (i : Int) kk fuel (((num 2 ((List.range t).map fun t => l.getD (i + t) 0) : Nat) : Int), ((i + t : Nat) : Int)) = kk (((num 2 ((List.range 8).map fun t => l.getD (i + t) 0) : Nat) : Int), ((i + 8 : Nat) : Int)) := by
 intro j
 induction j with
 | zero =>
  intro t fuel hk hf;obtain ⟨fuel, rfl⟩ : ∃ m, fuel = m + 1 := ⟨fuel - 1, by omega⟩
  obtain rfl : t = 8 := by omega
  unfold jD;rw [gE (x := (i : Int) + 8) (by omega), cF (dF (by omega))]
 | succ j ih =>
  intro t fuel hk hf;obtain ⟨fuel, rfl⟩ : ∃ m, fuel = m + 1 := ⟨fuel - 1, by omega⟩
  have hih := ih (t + 1) fuel (by omega) (by omega);rw [List.range_succ, List.map_append, List.map_singleton, yY] at hih
  have hb : num 2 ((List.range t).map fun t => l.getD (i + t) 0) < 256 := by
   have := u7 (B := 2) ((List.range t).map fun t => l.getD (i + t) 0) fun y hy => by
    obtain ⟨q, _, rfl⟩ := List.mem_map.1 hy;rw [List.getD_eq_getElem?_getD]
    by_cases hq : i + q < l.length
    ·rw [List.getElem?_eq_getElem hq]; exact h2 _ (List.getElem_mem hq)
    ·rw [List.getElem?_eq_none (by omega)]; decide
   rw [List.length_map, List.length_range] at this;have h8 : 2 ^ t ≤ 256 := Nat.pow_le_pow_right (show 0 < 2 by decide) (show t ≤ 8 by omega)
   omega
  generalize num 2 ((List.range t).map fun t => l.getD (i + t) 0) = v at *
  unfold jD;rw [gE (x := (i : Int) + 8) (by omega), cT (dT (by omega)), gE (x := 2 * (v : Int)) (by omega), aD]
  by_cases hq : i + t < l.length
  ·obtain ⟨g1, g2, g3⟩ := Gz hq h2;rw [cT (dT (by rw [mM]; omega)), g1, aD, g2]
   generalize l.getD (i + t) 0 = b at *
   by_cases h1 : b = 1
   ·subst h1;rw [cT (dT (by omega)), gE (x := 2 * (v : Int) + 1) (by omega), aD, gE (x := ((i + t : Nat) : Int) + 1) (by omega), aD];rw [show v * 2 + 1 = 2 * v + 1 by omega] at hih;exact hih
   ·obtain rfl : b = 0 := by omega
    rw [cF (dF (by omega)), gE (x := ((i + t : Nat) : Int) + 1) (by omega), aD];rw [show v * 2 + 0 = 2 * v by omega] at hih;exact hih
  ·have hz : l.getD (i + t) 0 = 0 := by rw [List.getD_eq_getElem?_getD, List.getElem?_eq_none (by omega)]; rfl
   rw [hz, show v * 2 + 0 = 2 * v by omega] at hih;rw [cF (dF (by rw [mM]; omega)), gE (x := ((i + t : Nat) : Int) + 1) (by omega), aD];exact hih
theorem Q8 (N : Nat) (hN : 100 ≤ N) {l : List Nat} (h2 : ∀ y ∈ l, y < 2) (hl : l.length ≤ 16777216) (kk) : ∀ (j m fuel : Nat), m + j = (l.length + 7) / 8 → j < fuel →
  kG N (wF l) kk fuel (mW (gr m l), ((8 * m : Nat) : Int)) = kk (mW (gr ((l.length + 7) / 8) l), ((8 * ((l.length + 7) / 8) : Nat) : Int)) := by
 intro j
 induction j with
 | zero =>
  intro m fuel hk hf;obtain ⟨fuel, rfl⟩ : ∃ q, fuel = q + 1 := ⟨fuel - 1, by omega⟩
  obtain rfl : m = (l.length + 7) / 8 := by omega
  unfold kG;rw [cF (dF (by rw [mM]; omega))]
 | succ j ih =>
  intro m fuel hk hf;obtain ⟨fuel, rfl⟩ : ∃ q, fuel = q + 1 := ⟨fuel - 1, by omega⟩
  have hlt : 8 * m < l.length := by omega
  have hih := ih (m + 1) fuel (by omega) (by omega)
  have hg : gr (m + 1) l = gr m l ++ [num 2 ((List.range 8).map fun t => l.getD (8 * m + t) 0)] := by
   unfold gr;rw [List.range_succ (n := m), List.map_append, List.map_singleton]
  have hgl : (gr m l).length = m := by simp [gr]
  have hb : num 2 ((List.range 8).map fun t => l.getD (8 * m + t) 0) < 256 := by
   have := u7 (B := 2) ((List.range 8).map fun t => l.getD (8 * m + t) 0) fun y hy => by
    obtain ⟨q, _, rfl⟩ := List.mem_map.1 hy;rw [List.getD_eq_getElem?_getD]
    by_cases hq : 8 * m + q < l.length
    ·rw [List.getElem?_eq_getElem hq]; exact h2 _ (List.getElem_mem hq)
    ·rw [List.getElem?_eq_none (by omega)]; decide
   rw [List.length_map, List.length_range] at this;exact this
  unfold kG;rw [cT (dT (by rw [mM]; omega))];have key := Q7 N h2 hl hlt (fun x : Int × Int => Option.bind (app 1 (mW (gr m l)) ([IntKind.u8.wrap x.1] : List Int)) fun l4 => Option.bind (some (IntKind.i64.wrap (((8 * m : Nat) : Int) + 8))) fun i3 => kG N (wF l) kk fuel (l4, i3)) 8 0 N (by omega) (by omega);refine Eq.trans key ?_;rw [hg, yM] at hih
  generalize num 2 ((List.range 8).map fun t => l.getD (8 * m + t) 0) = v at *
  dsimp only
  rw [AA, Nat.mod_eq_of_lt hb, iO (by rw [hF, hgl]; simp; omega), aD, gE (by omega), aD, show ((8 * m : Nat) : Int) + 8 = ((8 * (m + 1) : Nat) : Int) by omega];exact hih
theorem Lk (N : Nat) (l : List Nat) (h2 : ∀ y ∈ l, y < 2) (hl : l.length ≤ 16777216) (hN : 100 ≤ N ∧ (l.length + 7) / 8 < N) : kL N (wF l) = some ((gr ((l.length + 7) / 8) l).map UInt8.ofNat) := by
 unfold kL
 have e1 : IntKind.i64.wrap (IntKind.i64.wrap (Int.tdiv ((wF l).length : Int) 8) + 1) = ((l.length / 8 + 1 : Nat) : Int) := by
  rw [mM, show Int.tdiv (l.length : Int) 8 = ((l.length / 8 : Nat) : Int) from rfl, gE (x := ((l.length / 8 : Nat) : Int)) (by omega), gE (by omega)]
  omega
 have Q4 : Qe 1 ((l.length / 8 + 1 : Nat) : Int) = some () := by unfold Qe; rw [if_pos (by omega)]
 rw [e1, Q4, aD];have key := Q8 N hN.1 h2 hl (fun x : List Int × Int => some (toB x.1)) ((l.length + 7) / 8) 0 N (by omega) (by omega);refine Eq.trans key ?_
 dsimp only
 rw [DG]
theorem OZ (N : Nat) (hN : 100000 ≤ N) {d : Nat} (hd : 1 ≤ d ∧ d ≤ 16) {l : List Int} (hl : l.length ≤ 4096) (hall : l.all (KL d) = true) : pJ N l (d : Int) = some ((xK d l).map UInt8.ofNat) := by
 have hkb : l.length * d ≤ 4096 * 16 := Nat.mul_le_mul hl hd.2;unfold pJ;have key := OY N hN hd hl hall (fun x : List Int × Int => Option.bind (kL N (toB x.1)) fun r5 => some r5) l.length 0 N (by omega) (by omega);rw [Nat.zero_mul] at key;refine Eq.trans key ?_
 dsimp only
 rw [JU, Lk N _ (fun y hy => xT (by decide) _ _ y hy) (by rw [iP]; omega) (by rw [iP]; omega), aD, iP, Zn]
 rfl
theorem Ll : ∀ n : Fin 256, Fz .u8 ((n.val : Nat) : Int) 1 = ((n.val % 2 : Nat) : Int) := by decide +kernel
theorem aC7 {b k : Nat} (hk : k ≤ 8) : iZ .u8 (b : Int) (k : Int) = ((b / 2 ^ k : Nat) : Int) := by
 unfold iZ
 have : min ((k : Int)).toNat IntKind.u8.bits = k := by
  rw [Int.toNat_natCast];exact Nat.min_eq_left hk
 rw [this, show (2 : Int) ^ k = ((2 ^ k : Nat) : Int) by simp, ← Int.ofNat_fdiv]
def xL (l : List Nat) : List Nat := l.map fun b => 48 + b
theorem FJ (l m : List Nat) : xL (l ++ m) = xL l ++ xL m := by simp [xL]
theorem IZ (l : List Nat) : (xL l).map UInt8.ofNat = wF l := by unfold xL wF; rw [List.map_map]; rfl
theorem WM (N : Nat) {s : List UInt8} {i : Nat} (hi : i < s.length) (kk) : ∀ (j fuel : Nat) (out : List Int), j ≤ 8 → out.length + j ≤ 140737488355328 → j < fuel →
  nA N s (i : Int) kk fuel (out, (j : Int) - 1) = kk (out ++ mW (xL (lZ 2 j s[i].toNat)), -1) := by
 intro j
 induction j with
 | zero =>
  intro fuel out _ _ hf;obtain ⟨fuel, rfl⟩ : ∃ m, fuel = m + 1 := ⟨fuel - 1, by omega⟩
  unfold nA;rw [cF (dF (by omega))]
  simp [lZ, xL, mW]
 | succ j ih =>
  intro fuel out hj ho hf;obtain ⟨fuel, rfl⟩ : ∃ m, fuel = m + 1 := ⟨fuel - 1, by omega⟩
  have hb : s[i].toNat < 256 := s[i].toNat_lt;have e0 : ((j + 1 : Nat) : Int) - 1 = (j : Int) := by omega
  generalize hbb : s[i].toNat = b at *
  have hlt : b / 2 ^ j < 256 := Nat.lt_of_le_of_lt (Nat.div_le_self _ _) hb
  have e1 : IntKind.u8.wrap (48 + Fz .u8 (iZ .u8 (b : Int) (j : Int)) 1) = ((48 + b / 2 ^ j % 2 : Nat) : Int) := by
   have := Ll ⟨b / 2 ^ j, hlt⟩;rw [aC7 (by omega), this, show (48 : Int) + ((b / 2 ^ j % 2 : Nat) : Int) = ((48 + b / 2 ^ j % 2 : Nat) : Int) by omega, AA]
   omega
  have e2 : lZ 2 (j + 1) b = [b / 2 ^ j % 2] ++ lZ 2 j b := by rw [Nat.add_comm j 1, sM]; rfl
  unfold nA;rw [e0, cT (dT (by omega)), eX, List.getElem?_eq_getElem hi, aD, hbb, rY, aD, e1, iO (by simp; omega), aD, gE (x := (j : Int) - 1) (by omega), aD];rw [ih fuel (out ++ [((48 + b / 2 ^ j % 2 : Nat) : Int)]) (by omega) (by simp; omega) (by omega), e2, FJ, yM, List.append_assoc]
  rfl
theorem WN (N : Nat) (hN : 100 ≤ N) {s : List UInt8} (hs : s.length ≤ 16777216) (kk) : ∀ (j k fuel : Nat), k + j = s.length → j < fuel →
  lI N s kk fuel (mW (xL (lZ 2 (8 * k) (Cv s k))), (k : Int)) = kk (mW (xL (lZ 2 (8 * s.length) (Cv s s.length))), (s.length : Int)) := by
 intro j
 induction j with
 | zero =>
  intro k fuel hk hf;obtain ⟨fuel, rfl⟩ : ∃ m, fuel = m + 1 := ⟨fuel - 1, by omega⟩
  obtain rfl : k = s.length := by omega
  unfold lI;rw [cF (dF (by omega))]
 | succ j ih =>
  intro k fuel hk hf;obtain ⟨fuel, rfl⟩ : ∃ m, fuel = m + 1 := ⟨fuel - 1, by omega⟩
  have hlt : k < s.length := by omega
  have hih := ih (k + 1) fuel (by omega) (by omega);rw [Hf hlt, Nat.mul_add, Nat.mul_one, ← ES (show s[k].toNat < 2 ^ 8 from s[k].toNat_lt), FJ, yM] at hih;have hlen : (mW (xL (lZ 2 (8 * k) (Cv s k)))).length = 8 * k := by rw [hF]; simp [xL, iP]
  unfold lI;rw [cT (dT (by omega))];have key := WM N hlt (fun x : List Int × Int => Option.bind (some (IntKind.i64.wrap ((k : Int) + 1))) fun i3 => lI N s kk fuel (x.1, i3)) 8 N (mW (xL (lZ 2 (8 * k) (Cv s k)))) (by omega) (by rw [hlen]; omega) (by omega);refine Eq.trans key ?_
  dsimp only
  rw [aD, gE (x := (k : Int) + 1) (by omega)];exact hih
theorem Q9 (N : Nat) {s : List UInt8} (hs : s.length ≤ 16777216) (hN : 100 ≤ N ∧ s.length < N) : sL N s = some (wF (lZ 2 (8 * s.length) (Cv s s.length))) := by
 unfold sL;have Q4 : Qe 1 (IntKind.i64.wrap (8 * (s.length : Int))) = some () := by unfold Qe; rw [gE (by omega), if_pos (by omega)]
 rw [Q4, aD];have key := WN N hN.1 hs (fun x : List Int × Int => some (toB x.1)) s.length 0 N (by omega) (by omega);refine Eq.trans key ?_
 dsimp only
 rw [DG, IZ]
theorem Ra (N : Nat) {l : List Nat} (h2 : ∀ y ∈ l, y < 2) (hl : l.length ≤ 60) (kk) : ∀ (j k fuel : Nat), k + j = l.length → j < fuel →
  lT N (wF l) kk fuel (((num 2 (l.take k) : Nat) : Int), (k : Int)) = kk (((num 2 l : Nat) : Int), (l.length : Int)) := by
 intro j
 induction j with
 | zero =>
  intro k fuel hk hf;obtain ⟨fuel, rfl⟩ : ∃ m, fuel = m + 1 := ⟨fuel - 1, by omega⟩
  obtain rfl : k = l.length := by omega
  unfold lT;rw [cF (dF (by rw [mM]; omega)), List.take_length]
 | succ j ih =>
  intro k fuel hk hf;obtain ⟨fuel, rfl⟩ : ∃ m, fuel = m + 1 := ⟨fuel - 1, by omega⟩
  have hlt : k < l.length := by omega
  have hih := ih (k + 1) fuel (by omega) (by omega);obtain ⟨g1, g2, g3⟩ := Gz hlt h2;have hg : l.getD k 0 = l[k] := by rw [List.getD_eq_getElem?_getD, List.getElem?_eq_getElem hlt]; rfl
  rw [List.take_succ_eq_append_getElem hlt, yY, ← hg] at hih
  have hv : num 2 (l.take k) < 2 ^ 60 := by
   have := u7 (B := 2) (l.take k) fun y hy => h2 y (List.mem_of_mem_take hy)
   rw [List.length_take, Nat.min_eq_left (by omega)] at this;exact Nat.lt_of_lt_of_le this (Nat.pow_le_pow_right (by decide) (by omega))
  generalize num 2 (l.take k) = v at *
  generalize l.getD k 0 = b at *
  have e1 : IntKind.u8.wrap (((48 + b : Nat) : Int) - 48) = (b : Int) := by rw [show ((48 + b : Nat) : Int) - 48 = (b : Int) by omega, AA]; omega
  unfold lT;rw [cT (dT (by rw [mM]; omega)), g1, aD, g2, e1, gE (x := 2 * (v : Int)) (by omega), gE (x := (b : Int)) (by omega), gE (x := 2 * (v : Int) + b) (by omega), aD, gE (x := (k : Int) + 1) (by omega), aD, show 2 * (v : Int) + b = ((v * 2 + b : Nat) : Int) by omega];exact hih
theorem Lm {N : Nat} (hN : 100 ≤ N) {l : List Nat} (h2 : ∀ y ∈ l, y < 2) (hl : l.length ≤ 60) : nR N (wF l) = some ((num 2 l : Nat) : Int) := by
 unfold nR;exact Ra N h2 hl (fun x : Int × Int => some x.1) l.length 0 N (by omega) (by omega)
theorem O0 {T p d Y : Nat} (h : p + d ≤ T) : ((lZ 2 T Y).take (p + d)).drop p = lZ 2 d (Y / 2 ^ (T - p - d)) := by
 have e : lZ 2 T Y = lZ 2 p (Y / 2 ^ (d + (T - p - d))) ++ (lZ 2 d (Y / 2 ^ (T - p - d)) ++ lZ 2 (T - p - d) Y) := by
  conv => lhs; rw [show T = p + (d + (T - p - d)) by omega]
  rw [sM, sM 2 d]
 have l1 := iP 2 p (Y / 2 ^ (d + (T - p - d)));have l2 := iP 2 d (Y / 2 ^ (T - p - d));rw [e, ← List.append_assoc, List.take_append_of_le_length (by rw [List.length_append]; omega), List.take_of_length_le (by rw [List.length_append]; omega), List.drop_append_of_le_length (by omega), List.drop_of_length_le (by omega), List.nil_append]
theorem TB (N : Nat) (hN : 100 ≤ N) {d n : Nat} (hd : 1 ≤ d ∧ d ≤ 16) (hn : n ≤ 4096) {T Y : Nat} (hT : n * d ≤ T) (hT2 : T ≤ 100000) (kk) : ∀ (j k fuel : Nat), k + j = n → j < fuel →
  kN N (d : Int) (n : Int) (wF (lZ 2 T Y)) kk fuel (mW (lZ (2 ^ d) k (Y / 2 ^ (T - d * k))), (k : Int)) = kk (mW (lZ (2 ^ d) n (Y / 2 ^ (T - d * n))), (n : Int)) := by
 intro j
 induction j with
 | zero =>
  intro k fuel hk hf;obtain ⟨fuel, rfl⟩ : ∃ m, fuel = m + 1 := ⟨fuel - 1, by omega⟩
  obtain rfl : k = n := by omega
  unfold kN;rw [cF (dF (by omega))]
 | succ j ih =>
  intro k fuel hk hf;obtain ⟨fuel, rfl⟩ : ∃ m, fuel = m + 1 := ⟨fuel - 1, by omega⟩
  have hlt : k < n := by omega
  have hih := ih (k + 1) fuel (by omega) (by omega);have hk1 : (k + 1) * d ≤ n * d := Nat.mul_le_mul_right d hlt;have hk2 : (k + 1) * d = k * d + d := by rw [Nat.add_mul, Nat.one_mul]
  have hk3 : d * (k + 1) = k * d + d := by rw [Nat.mul_comm, hk2]
  have hk4 : d * k = k * d := Nat.mul_comm _ _
  have eZ : lZ (2 ^ d) (k + 1) (Y / 2 ^ (T - d * (k + 1))) = lZ (2 ^ d) k (Y / 2 ^ (T - d * k)) ++ [Y / 2 ^ (T - d * (k + 1)) % 2 ^ d] := by
   show lZ (2 ^ d) k (Y / 2 ^ (T - d * (k + 1)) / 2 ^ d) ++ _ = _;rw [Nat.div_div_eq_div_mul, ← Nat.pow_add, show T - d * (k + 1) + d = T - d * k by omega]
  rw [eZ, yM] at hih;have e1 : IntKind.i64.wrap ((k : Int) * (d : Int)) = ((k * d : Nat) : Int) := by rw [← Int.natCast_mul, gE (by omega)]
  have e2 : IntKind.i64.wrap (IntKind.i64.wrap ((k : Int) + 1) * (d : Int)) = ((k * d + d : Nat) : Int) := by
   rw [gE (x := (k : Int) + 1) (by omega), show (k : Int) + 1 = ((k + 1 : Nat) : Int) by omega, ← Int.natCast_mul, gE (by omega), hk2]
  have hsl : Bv (wF (lZ 2 T Y)) ((k * d : Nat) : Int) ((k * d + d : Nat) : Int) = some (wF (lZ 2 d (Y / 2 ^ (T - d * (k + 1))))) := by
   rw [Bm (by rw [mM, iP]; omega), Int.toNat_natCast, Int.toNat_natCast];unfold wF;rw [← List.map_take, ← List.map_drop, O0 (by omega), show T - k * d - d = T - d * (k + 1) by omega]
  have hol := hF (lZ (2 ^ d) k (Y / 2 ^ (T - d * k)));rw [iP] at hol;unfold kN;rw [cT (dT (by omega)), e1, e2, hsl, aD, Lm hN (fun y hy => xT (by decide) _ _ y hy) (by rw [iP]; omega), aD, yL, iO (by rw [hol]; simp; omega), aD, aD, gE (x := (k : Int) + 1) (by omega)];exact hih
theorem NI {d n : Nat} (s : List UInt8) : (mW (mX s d n)).all (KL d) = true := by
 refine List.all_eq_true.2 fun y hy => ?_
 obtain ⟨e, he, rfl⟩ := List.mem_map.1 hy;have := xT (Nat.two_pow_pos d) _ _ e he;exact decide_eq_true (by omega)
theorem sN (N : Nat) (n lo hi : Int) : cC N n lo hi = some (decide (lo ≤ n ∧ n ≤ hi)) := by
 unfold cC
 by_cases h1 : lo ≤ n
 ·rw [cT (dT h1)]; simp [h1]
 ·rw [cF (dF h1)]; simp [h1]
theorem TC {d n : Nat} (hd : 1 ≤ d ∧ d ≤ 16) {s : List UInt8} (hl : s.length = (n * d + 7) / 8) (h : (xK d (mW (mX s d n))).map UInt8.ofNat = s) : Cv s s.length % 2 ^ (8 * s.length - d * n) = 0 := by
 have hlen : (mW (mX s d n)).length = n := by rw [hF]; exact iP _ _ _
 obtain ⟨b1, b2⟩ := Lh hd (NI (d := d) (n := n) s);rw [h, hlen, ← hl] at b2;rw [b2];exact Nat.mul_mod_left _ _
theorem Ln (N : Nat) (hN : 100000 ≤ N) (s : List UInt8) (hs : s.length ≤ 9223372036854775807) (o p : Int) : rS N s o p = some (if eU s o p = 0 then (mW (mX s o.toNat p.toNat), 0) else ([], eU s o p)) := by
 unfold rS;rw [sN, aD]
 by_cases h1 : 1 ≤ o ∧ o ≤ 16
 rotate_left
 ·have hpe : eU s o p = 3 := by unfold eU; rw [if_pos h1]
  rw [cT (by rw [dF h1]; rfl), hpe]; rfl
 have h1' : ¬ ¬ (1 ≤ o ∧ o ≤ 16) := fun h => h h1
 rw [cF (by rw [dT h1]; rfl)]
 by_cases h2 : p < 0
 ·have hpe : eU s o p = 3 := by unfold eU; rw [if_neg h1', if_pos h2]
  rw [cT (dT h2), hpe]; rfl
 rw [cF (dF h2)]
 by_cases h3 : 4096 < p
 ·have hpe : eU s o p = 2 := by unfold eU; rw [if_neg h1', if_neg h2, if_pos h3]
  rw [cT (dT h3), hpe]; rfl
 rw [cF (dF h3)];obtain ⟨d, rfl⟩ := Int.eq_ofNat_of_zero_le (show 0 ≤ o by omega);obtain ⟨n, rfl⟩ := Int.eq_ofNat_of_zero_le (show 0 ≤ p by omega);have hb : n * d ≤ 4096 * 16 := Nat.mul_le_mul (by omega) (by omega)
 have e1 : IntKind.i64.wrap (Int.tdiv (IntKind.i64.wrap (IntKind.i64.wrap ((n : Int) * (d : Int)) + 7)) 8) = (((n * d + 7) / 8 : Nat) : Int) := by
  rw [← Int.natCast_mul, gE (x := ((n * d : Nat) : Int)) (by omega), gE (x := ((n * d : Nat) : Int) + 7) (by omega), show ((n * d : Nat) : Int) + 7 = ((n * d + 7 : Nat) : Int) by omega,
   show Int.tdiv ((n * d + 7 : Nat) : Int) 8 = (((n * d + 7) / 8 : Nat) : Int) from rfl, gE (by omega)]
 rw [e1]
 by_cases h4 : s.length = (n * d + 7) / 8
 rotate_left
 ·have hpe : eU s d n = 1 := by unfold eU; rw [if_neg h1', if_neg h2, if_neg h3, Int.toNat_natCast, Int.toNat_natCast, if_pos h4]
  rw [cT (by rw [dF (by omega)]; rfl), hpe]; rfl
 rw [cF (by rw [dT (by omega)]; rfl), Q9 N (by omega) (by omega), aD];have hd : 1 ≤ d ∧ d ≤ 16 := by omega
 have key := TB N (by omega) hd (n := n) (by omega) (T := 8 * s.length) (Y := Cv s s.length) (by omega) (by omega) (fun x : List Int × Int =>
  Option.bind (pJ N x.1 (d : Int)) fun r7 =>
  cond (!decide (r7 = s)) (
  some (([] : List Int), 1)) (
  some (x.1, 0))) n 0 N (by omega) (by omega)
 refine Eq.trans key ?_;have hlen : (mW (mX s d n)).length = n := by rw [hF]; exact iP _ _ _
 have hpk := OZ N hN hd (l := mW (mX s d n)) (by omega) (NI s);unfold mX at hpk
 dsimp only
 rw [hpk, aD]
 by_cases h5 : Cv s s.length % 2 ^ (8 * s.length - d * n) = 0
 ·have hpe : eU s d n = 0 := by
   unfold eU;rw [if_neg h1', if_neg h2, if_neg h3, Int.toNat_natCast, Int.toNat_natCast, if_neg (by omega), if_neg (by omega)]
  have hq := (Li hd h4 (by omega) h5).2.1;unfold mX at hq;rw [cF (by rw [dT hq]; rfl), hpe, if_pos rfl, Int.toNat_natCast, Int.toNat_natCast]
  rfl
 ·have hpe : eU s d n = 1 := by
   unfold eU;rw [if_neg h1', if_neg h2, if_neg h3, Int.toNat_natCast, Int.toNat_natCast, if_neg (by omega), if_pos h5]
  have hq : ¬ (xK d (mW (mX s d n))).map UInt8.ofNat = s := fun h => h5 (TC hd h4 h)
  unfold mX at hq;rw [cT (by rw [dF hq]; rfl), hpe]; rfl
def wO (b : List UInt8) : Bool := b.all fun c => decide (c = 48 ∨ c = 49)
theorem NJ : ∀ b : List UInt8, b.count 48 + b.count 49 ≤ b.length ∧ (b.count 48 + b.count 49 = b.length ↔ wO b = true)
 | [] => by simp [wO]
 | c :: b => by
  obtain ⟨h1, h2⟩ := NJ b;have e : wO (c :: b) = (decide (c = 48 ∨ c = 49) && wO b) := rfl;rw [e, List.count_cons, List.count_cons, List.length_cons]
  by_cases q : c = 48
  ·subst q;have : ((48 : UInt8) == 49) = false := by decide
   rw [this, show decide ((48 : UInt8) = 48 ∨ (48 : UInt8) = 49) = true by decide, Bool.true_and, ← h2, show ((48 : UInt8) == 48) = true by decide]
   constructor
   ·simp; omega
   ·simp; omega
  ·by_cases q2 : c = 49
   ·subst q2;have : ((49 : UInt8) == 48) = false := by decide
    rw [this, show decide ((49 : UInt8) = 48 ∨ (49 : UInt8) = 49) = true by decide, Bool.true_and, ← h2, show ((49 : UInt8) == 49) = true by decide]
    constructor
    ·simp; omega
    ·simp; omega
   ·have q3 : (c == 48) = false := by simpa using q
    have q4 : (c == 49) = false := by simpa using q2
    rw [q3, q4, show decide (c = 48 ∨ c = 49) = false from decide_eq_false (fun h => h.elim q q2), Bool.false_and]
    constructor
    ·simp; omega
    ·simp; omega
theorem UW {p : UInt8 → Bool} : ∀ l : List UInt8, l.all p = true → l.dropWhile p = []
 | [], _ => rfl
 | c :: l, h => by
  rw [List.all_cons, Bool.and_eq_true] at h;rw [List.dropWhile_cons, if_pos h.1];exact UW l h.2
theorem O1 {b : List UInt8} (h : wO b = true) : Go.Lib.trimS b [48, 49] = [] := by
 have hp : b.all (fun c => [(48 : UInt8), 49].contains c) = true := by
  refine List.all_eq_true.2 fun c hc => ?_
  have := of_decide_eq_true (List.all_eq_true.1 h c hc)
  rcases this with rfl | rfl <;> decide
 have hr : b.reverse.all (fun c => [(48 : UInt8), 49].contains c) = true := by rw [List.all_reverse]; exact hp
 unfold Go.Lib.trimS Go.Lib.trimRightS;rw [UW _ hr]
 rfl
theorem all_eq (N : Nat) {b : List UInt8} (hb : b.length ≤ 16777216) : xR N b = some (wO b) := by
 have ht : t6 N b [48, 49] = some (Go.Lib.trimS b [48, 49]) := by
  unfold t6;rw [if_pos ⟨by omega, by decide, by decide⟩]
 have h0 : pQ N b [48] = some ((b.count 48 : Nat) : Int) := rfl;have h1 : pQ N b [49] = some ((b.count 49 : Nat) : Int) := rfl;obtain ⟨c1, c2⟩ := NJ b;have hw : IntKind.i64.wrap (((b.count 48 : Nat) : Int) + ((b.count 49 : Nat) : Int)) = ((b.count 48 + b.count 49 : Nat) : Int) := by rw [gE (by omega)]; omega
 unfold xR;rw [ht, aD, h0, aD, h1, aD, hw]
 by_cases h : wO b = true
 ·rw [O1 h, cT (by rfl), h, dT (by have := c2.2 h; omega)]
 ·have hne : ¬ (b.count 48 + b.count 49 = b.length) := fun q => h (c2.1 q)
  have hf : wO b = false := by simpa using h
  rw [hf, dF (show ¬ (((b.count 48 + b.count 49 : Nat) : Int) = (b.length : Int)) by omega)]
  cases decide (Go.Lib.trimS b [48, 49] = ([] : List UInt8)) <;> rfl
def fC (b : List UInt8) : List Nat := b.map fun c => c.toNat - 48
theorem nC {b : List UInt8} (h : wO b = true) : ∀ y ∈ fC b, y < 2 := fun y hy => by
 obtain ⟨c, hc, rfl⟩ := List.mem_map.1 hy
 rcases of_decide_eq_true (List.all_eq_true.1 h c hc) with rfl | rfl <;> decide
theorem AR {b : List UInt8} (h : wO b = true) : wF (fC b) = b := by
 unfold wF fC;rw [List.map_map]
 conv => rhs; rw [← List.map_id b]
 refine List.map_congr_left fun c hc => ?_
 rcases of_decide_eq_true (List.all_eq_true.1 h c hc) with rfl | rfl <;> rfl
theorem TD {h d e : Nat} (he : e < 2 ^ d) (hb : h * 2 ^ d + e < 256) : Iu .u8 ((h * 2 ^ d : Nat) : Int) (e : Int) = ((h * 2 ^ d + e : Nat) : Int) := by
 unfold Iu;have hb' : IntKind.u8.bits = 8 := rfl
 have e1 : (BitVec.ofInt IntKind.u8.bits ((h * 2 ^ d : Nat) : Int) ||| BitVec.ofInt IntKind.u8.bits (e : Int)).toNat = h * 2 ^ d + e := by
  rw [BitVec.toNat_or, BitVec.ofInt_natCast, BitVec.ofInt_natCast, BitVec.toNat_ofNat, BitVec.toNat_ofNat, hb', Nat.mod_eq_of_lt (show h * 2 ^ d < 2 ^ 8 by omega), Nat.mod_eq_of_lt (show e < 2 ^ 8 by omega)];rw [Nat.mul_comm h, Nat.two_pow_add_eq_or_of_lt he]
 rw [e1, AA, Nat.mod_eq_of_lt hb]
theorem aC8 {b k : Nat} (hk : k ≤ 8) (h : b * 2 ^ k < 256) : nX .u8 (b : Int) (k : Int) = ((b * 2 ^ k : Nat) : Int) := by
 unfold nX
 have : min ((k : Int)).toNat IntKind.u8.bits = k := by
  rw [Int.toNat_natCast];exact Nat.min_eq_left hk
 rw [this, show (2 : Int) ^ k = ((2 ^ k : Nat) : Int) by simp, ← Int.natCast_mul, AA, Nat.mod_eq_of_lt h]
theorem Lo (f : Nat → Nat) : ∀ t r, (∀ q, t ≤ q → f q = 0) → num 2 ((List.range (t + r)).map f) = num 2 ((List.range t).map f) * 2 ^ r
 | t, 0, _ => by simp
 | t, r + 1, h => by
  rw [← Nat.add_assoc, List.range_succ, List.map_append, List.map_singleton, yY, Lo f t r h, h (t + r) (by omega), Nat.add_zero, Nat.pow_succ, Nat.mul_assoc]
theorem WO {M k : Nat} {l : List Nat} (hk : k < l.length) (hM : k / 8 < M) :
  (gr M (l.take k)).getD (k / 8) 0 = num 2 ((List.range (k % 8)).map fun t => l.getD (8 * (k / 8) + t) 0) * 2 ^ (8 - k % 8) ∧
  gr M (l.take (k + 1)) = (gr M (l.take k)).set (k / 8) (num 2 ((List.range (k % 8)).map fun t => l.getD (8 * (k / 8) + t) 0) * 2 ^ (8 - k % 8) + l.getD k 0 * 2 ^ (7 - k % 8)) := by
 have hmod : k % 8 < 8 := Nat.mod_lt _ (by decide);have hdm : 8 * (k / 8) + k % 8 = k := Nat.div_add_mod k 8
 have get : ∀ n i, (l.take n).getD i 0 = if i < n then l.getD i 0 else 0 := fun n i => by
  rw [List.getD_eq_getElem?_getD, List.getD_eq_getElem?_getD, List.getElem?_take]
  split <;> rfl
 have hval : ∀ n, 8 * (k / 8) ≤ n → n ≤ 8 * (k / 8) + 8 → num 2 ((List.range 8).map fun t => (l.take n).getD (8 * (k / 8) + t) 0) = num 2 ((List.range (n - 8 * (k / 8))).map fun t => l.getD (8 * (k / 8) + t) 0) * 2 ^ (8 - (n - 8 * (k / 8))) := fun n h1 h2 => by
  have := Lo (fun t => (l.take n).getD (8 * (k / 8) + t) 0) (n - 8 * (k / 8)) (8 - (n - 8 * (k / 8))) (fun q hq => by rw [get, if_neg (by omega)]);rw [show n - 8 * (k / 8) + (8 - (n - 8 * (k / 8))) = 8 by omega] at this;rw [this]
  congr 2
  refine List.map_congr_left fun t ht => ?_
  have := List.mem_range.1 ht;rw [get, if_pos (by omega)]
 have hv0 := hval k (by omega) (by omega);have hv1 := hval (k + 1) (by omega) (by omega);rw [show k - 8 * (k / 8) = k % 8 by omega] at hv0;rw [show k + 1 - 8 * (k / 8) = k % 8 + 1 by omega, List.range_succ (n := k % 8), List.map_append, List.map_singleton, yY, hdm, Nat.add_mul] at hv1
 have e2 : num 2 ((List.range (k % 8)).map fun t => l.getD (8 * (k / 8) + t) 0) * 2 * 2 ^ (8 - (k % 8 + 1)) = num 2 ((List.range (k % 8)).map fun t => l.getD (8 * (k / 8) + t) 0) * 2 ^ (8 - k % 8) := by
  rw [Nat.mul_assoc, show 8 - k % 8 = 8 - (k % 8 + 1) + 1 by omega, Nat.pow_succ, Nat.mul_comm 2]
 rw [e2, show 8 - (k % 8 + 1) = 7 - k % 8 by omega] at hv1;have hgl : ∀ n, (gr M (l.take n)).length = M := fun n => by simp [gr]
 have hgg : ∀ n g, g < M → (gr M (l.take n))[g]? = some (num 2 ((List.range 8).map fun t => (l.take n).getD (8 * g + t) 0)) := fun n g hg => by
  unfold gr;rw [List.getElem?_map, List.getElem?_range hg]; rfl
 constructor
 ·rw [List.getD_eq_getElem?_getD, hgg k _ hM, hv0]; rfl
 ·apply List.ext_getElem?
  intro g
  by_cases hg : g < M
  ·by_cases he : k / 8 = g
   ·subst he;rw [hgg _ _ hM, List.getElem?_set_self (by rw [hgl]; exact hM), hv1]
   ·rw [List.getElem?_set_ne he, hgg _ _ hg, hgg _ _ hg]
    congr 2
    refine List.map_congr_left fun t ht => ?_
    have := List.mem_range.1 ht;rw [get, get]
    by_cases q : 8 * g + t < k
    ·rw [if_pos (by omega), if_pos q]
    ·rw [if_neg q, if_neg]
     omega
  ·rw [List.getElem?_eq_none (by rw [hgl]; omega), List.getElem?_eq_none (by rw [List.length_set, hgl]; omega)]
theorem GA (l : List Nat) (i v : Nat) : mW (l.set i v) = (mW l).set i (v : Int) := by simp [mW, List.map_set]
theorem GB {l : List Nat} {i : Nat} (h : i < l.length) : idx (mW l) (i : Int) = some ((l.getD i 0 : Nat) : Int) := by
 rw [eX, mW, List.getElem?_map, List.getElem?_eq_getElem h, List.getD_eq_getElem?_getD, List.getElem?_eq_getElem h]; rfl
theorem O2 (N : Nat) {l : List Nat} (h2 : ∀ y ∈ l, y < 2) (hl : l.length ≤ 16777216) (kk) : ∀ (j k fuel : Nat), k + j = l.length → j < fuel →
  pX N (wF l) kk fuel (mW (gr ((l.length + 7) / 8) (l.take k)), (k : Int)) = kk (mW (gr ((l.length + 7) / 8) l), (l.length : Int)) := by
 intro j
 induction j with
 | zero =>
  intro k fuel hk hf;obtain ⟨fuel, rfl⟩ : ∃ m, fuel = m + 1 := ⟨fuel - 1, by omega⟩
  obtain rfl : k = l.length := by omega
  unfold pX;rw [cF (dF (by rw [mM]; omega)), List.take_length]
 | succ j ih =>
  intro k fuel hk hf;obtain ⟨fuel, rfl⟩ : ∃ m, fuel = m + 1 := ⟨fuel - 1, by omega⟩
  have hlt : k < l.length := by omega
  have hih := ih (k + 1) fuel (by omega) (by omega);have hmod : k % 8 < 8 := Nat.mod_lt _ (by decide);have hM : k / 8 < (l.length + 7) / 8 := by omega
  obtain ⟨s1, s2⟩ := WO (M := (l.length + 7) / 8) hlt hM;obtain ⟨g1, g2, g3⟩ := Gz hlt h2;have hgl : (gr ((l.length + 7) / 8) (l.take k)).length = (l.length + 7) / 8 := by simp [gr]
  have hn : num 2 ((List.range (k % 8)).map fun t => l.getD (8 * (k / 8) + t) 0) < 2 ^ (k % 8) := by
   have := u7 (B := 2) ((List.range (k % 8)).map fun t => l.getD (8 * (k / 8) + t) 0) fun y hy => by
    obtain ⟨q, _, rfl⟩ := List.mem_map.1 hy;rw [List.getD_eq_getElem?_getD]
    by_cases hq : 8 * (k / 8) + q < l.length
    ·rw [List.getElem?_eq_getElem hq]; exact h2 _ (List.getElem_mem hq)
    ·rw [List.getElem?_eq_none (by omega)]; decide
   rwa [List.length_map, List.length_range] at this
  rw [s2] at hih;have hold := GB (l := gr ((l.length + 7) / 8) (l.take k)) (i := k / 8) (by omega);rw [s1] at hold
  generalize gr ((l.length + 7) / 8) (l.take k) = G at *
  generalize num 2 ((List.range (k % 8)).map fun t => l.getD (8 * (k / 8) + t) 0) = v at *
  generalize l.getD k 0 = b at *
  have p1 : 2 ^ (8 - k % 8) = 2 * 2 ^ (7 - k % 8) := by rw [show 8 - k % 8 = 7 - k % 8 + 1 by omega, Nat.pow_succ, Nat.mul_comm]
  have p2 : 2 ^ (7 - k % 8) ≤ 128 := Nat.pow_le_pow_right (show 0 < 2 by decide) (show 7 - k % 8 ≤ 7 by omega)
  have p3 : (v + 1) * 2 ^ (8 - k % 8) ≤ 256 := by
   have := Nat.mul_le_mul_right (2 ^ (8 - k % 8)) hn;rw [← Nat.pow_add, show k % 8 + (8 - k % 8) = 8 by omega] at this;exact this
  have p0 := Nat.two_pow_pos (7 - k % 8)
  have p4 : b * 2 ^ (7 - k % 8) < 2 ^ (8 - k % 8) := by
   have := Nat.mul_le_mul_right (2 ^ (7 - k % 8)) (show b ≤ 1 by omega)
   omega
  rw [Nat.add_mul, Nat.one_mul] at p3;have ediv : IntKind.i64.wrap (Int.tdiv (k : Int) 8) = ((k / 8 : Nat) : Int) := by rw [show Int.tdiv (k : Int) 8 = ((k / 8 : Nat) : Int) from rfl, gE (by omega)]
  have aC9 : IntKind.i64.wrap (7 - Int.tmod (k : Int) 8) = ((7 - k % 8 : Nat) : Int) := by rw [show Int.tmod (k : Int) 8 = ((k % 8 : Nat) : Int) from rfl, gE (by omega)]; omega
  have eb : IntKind.u8.wrap (((48 + b : Nat) : Int) - 48) = (b : Int) := by rw [show ((48 + b : Nat) : Int) - 48 = (b : Int) by omega, AA]; omega
  have eor : Iu .u8 ((v * 2 ^ (8 - k % 8) : Nat) : Int) (nX .u8 (b : Int) ((7 - k % 8 : Nat) : Int)) = ((v * 2 ^ (8 - k % 8) + b * 2 ^ (7 - k % 8) : Nat) : Int) := by rw [aC8 (by omega) (by omega), TD p4 (by omega)]
  have hset : v6 (mW G) ((k / 8 : Nat) : Int) ((v * 2 ^ (8 - k % 8) + b * 2 ^ (7 - k % 8) : Nat) : Int) = some (mW (G.set (k / 8) (v * 2 ^ (8 - k % 8) + b * 2 ^ (7 - k % 8)))) := by
   unfold v6;rw [if_pos (by rw [hF]; omega), Int.toNat_natCast, GA]
  unfold pX;rw [cT (dT (by rw [mM]; omega)), ediv, aD, hold, aD, g1, aD, g2, aC9, rY, aD, aD, eb, eor, hset, aD, gE (x := (k : Int) + 1) (by omega)];exact hih
theorem WP (M : Nat) : gr M [] = List.replicate M 0 := by
 unfold gr
 apply List.ext_getElem?
 intro g
 by_cases h : g < M
 ·rw [List.getElem?_map, List.getElem?_range h, List.getElem?_replicate, if_pos h]; rfl
 ·rw [List.getElem?_eq_none (by simp; omega), List.getElem?_eq_none (by simp; omega)]
theorem Hh (N : Nat) {b : List UInt8} (hb : b.length ≤ 16777216) (hN : b.length < N) : sH N b = some (if wO b = true then ((gr ((b.length + 7) / 8) (fC b)).map UInt8.ofNat, 0) else ([], 1)) := by
 unfold sH;rw [all_eq N hb, aD]
 by_cases h : wO b = true
 rotate_left
 ·have hf : wO b = false := by simpa using h
  rw [hf]; rfl
 rw [h, cF (by rfl), if_pos rfl];have hlen : (fC b).length = b.length := by simp [fC]
 have e1 : IntKind.i64.wrap (Int.tdiv (IntKind.i64.wrap ((b.length : Int) + 7)) 8) = (((b.length + 7) / 8 : Nat) : Int) := by
  rw [gE (x := (b.length : Int) + 7) (by omega), show (b.length : Int) + 7 = ((b.length + 7 : Nat) : Int) by omega, show Int.tdiv ((b.length + 7 : Nat) : Int) 8 = (((b.length + 7) / 8 : Nat) : Int) from rfl, gE (by omega)]
 rw [e1, aD, mk_eq (by omega), aD, Int.toNat_natCast];have key := O2 N (l := fC b) (nC h) (by omega) (fun x : List Int × Int => some (toB x.1, (0 : Int))) (fC b).length 0 N (by omega) (by omega);rw [List.take_zero, WP, AR h, hlen] at key;have hz : mW (List.replicate ((b.length + 7) / 8) 0) = List.replicate ((b.length + 7) / 8) 0 := by simp [mW]
 rw [hz] at key;refine Eq.trans key ?_
 dsimp only
 rw [DG]
theorem O3 (N : Nat) {b : List UInt8} (h : wO b = true) (hb : b.length ≤ 16777216) (hN : 100 ≤ N ∧ b.length < N) : kL N b = some ((gr ((b.length + 7) / 8) (fC b)).map UInt8.ofNat) := by
 have hlen : (fC b).length = b.length := by simp [fC]
 have := Lk N (fC b) (nC h) (by omega) (by omega);rw [AR h, hlen] at this;exact this
theorem TE (N : Nat) {l : List Nat} (h2 : ∀ y ∈ l, y < 2) (hl : l.length ≤ 16) (kk) : ∀ (j k fuel : Nat), k + j = l.length → j < fuel →
  pY N (wF l) kk fuel (((num 2 (l.take k) : Nat) : Int), (k : Int)) = kk (((num 2 l : Nat) : Int), (l.length : Int)) := by
 intro j
 induction j with
 | zero =>
  intro k fuel hk hf;obtain ⟨fuel, rfl⟩ : ∃ m, fuel = m + 1 := ⟨fuel - 1, by omega⟩
  obtain rfl : k = l.length := by omega
  unfold pY;rw [cF (dF (by rw [mM]; omega)), List.take_length]
 | succ j ih =>
  intro k fuel hk hf;obtain ⟨fuel, rfl⟩ : ∃ m, fuel = m + 1 := ⟨fuel - 1, by omega⟩
  have hlt : k < l.length := by omega
  have hih := ih (k + 1) fuel (by omega) (by omega);obtain ⟨g1, g2, g3⟩ := Gz hlt h2;have hg : l.getD k 0 = l[k] := by rw [List.getD_eq_getElem?_getD, List.getElem?_eq_getElem hlt]; rfl
  rw [List.take_succ_eq_append_getElem hlt, yY, ← hg] at hih
  have hv : num 2 (l.take k) < 65536 := by
   have := u7 (B := 2) (l.take k) fun y hy => h2 y (List.mem_of_mem_take hy)
   rw [List.length_take, Nat.min_eq_left (by omega)] at this;exact Nat.lt_of_lt_of_le this (Nat.pow_le_pow_right (show 0 < 2 by decide) (show k ≤ 16 by omega))
  generalize num 2 (l.take k) = v at *
  generalize l.getD k 0 = b at *
  have e1 : IntKind.i64.wrap (Fz .u8 ((48 + b : Nat) : Int) 1) = (b : Int) := by
   have := Ll ⟨48 + b, by omega⟩;rw [this, show (48 + b) % 2 = b by omega, gE (by omega)]
  have e2 : nX .i64 (v : Int) 1 = ((v * 2 : Nat) : Int) := uW (k := 1) (by decide) (by omega);unfold pY;rw [cT (dT (by rw [mM]; omega)), g1, aD, g2, e1, e2, show ((v * 2 : Nat) : Int) + (b : Int) = ((v * 2 + b : Nat) : Int) by omega, gE (x := ((v * 2 + b : Nat) : Int)) (by omega), aD, gE (x := (k : Int) + 1) (by omega)];exact hih
theorem MO (N : Nat) (hN : 100 ≤ N) {b : List UInt8} (hb : b.length ≤ 16777216) : wX N b = some (if wO b = true then (if b.length ≤ 16 then (((num 2 (fC b) : Nat) : Int), 0) else (0, 3)) else (0, 1)) := by
 unfold wX;rw [all_eq N hb, aD]
 by_cases h : wO b = true
 rotate_left
 ·have hf : wO b = false := by simpa using h
  rw [hf]; rfl
 rw [h, cF (by rfl), if_pos rfl]
 by_cases h3 : b.length ≤ 16
 rotate_left
 ·rw [cT (dT (by omega)), if_neg h3]
 rw [cF (dF (by omega)), if_pos h3];have hlen : (fC b).length = b.length := by simp [fC]
 have key := TE N (l := fC b) (nC h) (by omega) (fun x : Int × Int => some (x.1, (0 : Int))) (fC b).length 0 N (by omega) (by omega);rw [AR h] at key;exact key
theorem O4 (N : Nat) (hN : 100 ≤ N) {b : List UInt8} (h : wO b = true) (hb : b.length ≤ 16) : nR N b = some ((num 2 (fC b) : Nat) : Int) := by
 have hlen : (fC b).length = b.length := by simp [fC]
 have := Lm hN (l := fC b) (nC h) (by omega);rw [AR h] at this;exact this
theorem TF {T k Y : Nat} (h : k < T) : (lZ 2 T Y)[k]? = some (Y / 2 ^ (T - 1 - k) % 2) := by
 have e : lZ 2 T Y = lZ 2 k (Y / 2 ^ (1 + (T - 1 - k))) ++ ([Y / 2 ^ (T - 1 - k) % 2] ++ lZ 2 (T - 1 - k) Y) := by
  conv => lhs; rw [show T = k + (1 + (T - 1 - k)) by omega]
  rw [sM, sM 2 1]
  rfl
 rw [e, List.getElem?_append_right (by rw [iP]; exact Nat.le_refl _), iP, Nat.sub_self]
 rfl
def Ge (size n k : Nat) : List Int := mW (xL ((lZ 2 size n).take k) ++ List.replicate (size - k) 0)
theorem O5 (N : Nat) {size n : Nat} (hs : size ≤ 16) (hn : n < 9223372036854775808) (kk) : ∀ (j k fuel : Nat), k + j = size → j < fuel →
  oX N (n : Int) (size : Int) kk fuel (Ge size n k, (size : Int), (k : Int)) = kk (Ge size n size, (size : Int), (size : Int)) := by
 intro j
 induction j with
 | zero =>
  intro k fuel hk hf;obtain ⟨fuel, rfl⟩ : ∃ m, fuel = m + 1 := ⟨fuel - 1, by omega⟩
  obtain rfl : k = size := by omega
  unfold oX;rw [cF (dF (by omega))]
 | succ j ih =>
  intro k fuel hk hf;obtain ⟨fuel, rfl⟩ : ∃ m, fuel = m + 1 := ⟨fuel - 1, by omega⟩
  have hlt : k < size := by omega
  have hih := ih (k + 1) fuel (by omega) (by omega);have ew : IntKind.i64.wrap (IntKind.i64.wrap ((size : Int) - 1) - (k : Int)) = ((size - 1 - k : Nat) : Int) := by rw [gE (x := (size : Int) - 1) (by omega), gE (by omega)]; omega
  have eb : Fz .i64 (iZ .i64 (n : Int) ((size - 1 - k : Nat) : Int)) 1 = ((n / 2 ^ (size - 1 - k) % 2 : Nat) : Int) := by
   rw [DF (by omega)];exact He (k := 1) (Nat.lt_of_le_of_lt (Nat.div_le_self _ _) hn) (by decide)
  have hg := TF (Y := n) hlt;have hb2 : n / 2 ^ (size - 1 - k) % 2 < 2 := Nat.mod_lt _ (by decide);have hl := iP 2 size n
  generalize hbv : n / 2 ^ (size - 1 - k) % 2 = b at *
  have hc : idx ([48, 49] : List UInt8) (b : Int) = some (UInt8.ofNat (48 + b)) := by
   rcases (show b = 0 ∨ b = 1 by omega) with rfl | rfl <;> rfl
  have hcn : ((UInt8.ofNat (48 + b)).toNat : Int) = ((48 + b : Nat) : Int) := by rw [UInt8.toNat_ofNat', Nat.mod_eq_of_lt (by omega)]
  have ht : (lZ 2 size n).take (k + 1) = (lZ 2 size n).take k ++ [b] := by
   rw [List.take_add_one, hg]; rfl
  have hl1 : (xL ((lZ 2 size n).take k)).length = k := by simp [xL, hl]; omega
  have hlen : (Ge size n k).length = size := by
   unfold Ge;rw [hF, List.length_append, hl1, List.length_replicate]; omega
  have hget : ∃ e, idx (Ge size n k) (k : Int) = some e := by rw [eX]; exact ⟨_, List.getElem?_eq_getElem (by omega)⟩
  obtain ⟨e, he⟩ := hget
  have hset : v6 (Ge size n k) (k : Int) ((48 + b : Nat) : Int) = some (Ge size n (k + 1)) := by
   unfold v6;rw [if_pos (by omega), Int.toNat_natCast];unfold Ge;rw [← GA, ht, FJ, show size - k = (size - (k + 1)) + 1 by omega, List.replicate_succ, List.append_assoc]
   congr 2
   rw [List.set_append_right _ _ (by omega), hl1, Nat.sub_self]
   rfl
  unfold oX;rw [cT (dT (by omega)), ew, rY, aD, eb, hc, aD, he, aD, hcn, hset, aD, gE (x := (k : Int) + 1) (by omega)];exact hih
theorem I0 (N : Nat) (hN : 100 ≤ N) {size n : Nat} (hs : size ≤ 16) (hn : n < 9223372036854775808) : qJ N (n : Int) (size : Int) = some (wF (lZ 2 size n)) := by
 unfold qJ;rw [mk_eq (by omega), aD, Int.toNat_natCast];have key := O5 N hs hn (fun x : List Int × Int × Int => some (toB x.1)) size 0 N (by omega) (by omega);have h0 : Ge size n 0 = List.replicate size 0 := by unfold Ge; simp [xL, mW]
 have h1 : Ge size n size = mW (xL (lZ 2 size n)) := by
  unfold Ge;rw [Nat.sub_self, List.take_of_length_le (by rw [iP]; exact Nat.le_refl _)]; simp
 rw [h0, h1] at key;rw [List.length_replicate];refine Eq.trans key ?_
 dsimp only
 rw [DG, IZ]
def uK (n size : Int) : Int := if 0 ≤ size ∧ size ≤ 16 then (if 0 ≤ n ∧ n < ((2 ^ size.toNat : Nat) : Int) then 0 else 3) else 3
theorem AS {d : Nat} (hd : d ≤ 16) : nX .i64 1 (d : Int) = ((2 ^ d : Nat) : Int) := by
 have hp := vI hd;have := uW (h := 1) (k := d) (by omega) (by omega);rw [Nat.one_mul] at this;exact this
theorem C5 (N : Nat) (hN : 100 ≤ N) (n size : Int) : lJ N n size = some (if uK n size = 0 then (wF (lZ 2 size.toNat n.toNat), 0) else ([], 3)) := by
 unfold lJ
 by_cases h1 : size < 0
 ·have : uK n size = 3 := by unfold uK; rw [if_neg (by omega)]
  rw [cT (dT h1), this]; rfl
 rw [cF (dF h1)]
 by_cases h2 : 16 < size
 ·have : uK n size = 3 := by unfold uK; rw [if_neg (by omega)]
  rw [cT (dT h2), this]; rfl
 rw [cF (dF h2)];obtain ⟨d, rfl⟩ := Int.eq_ofNat_of_zero_le (show 0 ≤ size by omega);have hp := vI (d := d) (by omega)
 by_cases h3 : n < 0
 ·have : uK n d = 3 := by unfold uK; rw [if_pos (by omega), if_neg (by omega)]
  rw [cT (dT h3), this]; rfl
 rw [cF (dF h3), rY, aD, AS (by omega)]
 by_cases h4 : ((2 ^ d : Nat) : Int) ≤ n
 ·have : uK n d = 3 := by unfold uK; rw [if_pos (by omega), Int.toNat_natCast, if_neg (by omega)]
  rw [cT (dT h4), this]; rfl
 have hz : uK n d = 0 := by unfold uK; rw [if_pos (by omega), Int.toNat_natCast, if_pos (by omega)]
 obtain ⟨m, rfl⟩ := Int.eq_ofNat_of_zero_le (show 0 ≤ n by omega);rw [cF (dF h4), I0 N hN (by omega) (by omega), aD, if_pos hz, Int.toNat_natCast, Int.toNat_natCast]
theorem Hi (N : Nat) (hN : 100 ≤ N) {n size : Int} (h : uK n size = 0) : lH N n size = some (wF (lZ 2 size.toNat n.toNat)) := by
 unfold uK at h
 by_cases h1 : 0 ≤ size ∧ size ≤ 16
 rotate_left
 ·rw [if_neg h1] at h; cases h
 rw [if_pos h1] at h;obtain ⟨d, rfl⟩ := Int.eq_ofNat_of_zero_le h1.1;have hp := vI (d := d) (by omega)
 by_cases h2 : 0 ≤ n ∧ n < ((2 ^ (d : Int).toNat : Nat) : Int)
 rotate_left
 ·rw [if_neg h2] at h; cases h
 rw [Int.toNat_natCast] at h2;obtain ⟨m, rfl⟩ := Int.eq_ofNat_of_zero_le h2.1;rw [Int.toNat_natCast, Int.toNat_natCast];exact number_eq hN (by omega) (by omega)
theorem TG (N : Nat) (hN : 100 ≤ N) {s : List UInt8} (hs : s.length ≤ 16777216) (kk) : ∀ (j k fuel : Nat), k + j = s.length → j < fuel →
  rQ N s kk fuel (wF (lZ 2 (8 * k) (Cv s k)), (k : Int)) = kk (wF (lZ 2 (8 * s.length) (Cv s s.length)), (s.length : Int)) := by
 intro j
 induction j with
 | zero =>
  intro k fuel hk hf;obtain ⟨fuel, rfl⟩ : ∃ m, fuel = m + 1 := ⟨fuel - 1, by omega⟩
  obtain rfl : k = s.length := by omega
  unfold rQ;rw [cF (dF (by omega))]
 | succ j ih =>
  intro k fuel hk hf;obtain ⟨fuel, rfl⟩ : ∃ m, fuel = m + 1 := ⟨fuel - 1, by omega⟩
  have hlt : k < s.length := by omega
  have hb : s[k].toNat < 256 := s[k].toNat_lt;have hih := ih (k + 1) fuel (by omega) (by omega);rw [Hf hlt, Nat.mul_add, Nat.mul_one, ← ES (show s[k].toNat < 2 ^ 8 from hb), ER] at hih;have hd : qJ N (s[k].toNat : Int) 8 = some (wF (lZ 2 8 s[k].toNat)) := I0 N hN (size := 8) (by decide) (by omega)
  have hbw : K9 (wF (lZ 2 (8 * k) (Cv s k))) (wF (lZ 2 8 s[k].toNat)) = some (wF (lZ 2 (8 * k) (Cv s k)) ++ wF (lZ 2 8 s[k].toNat)) := by
   unfold K9;rw [if_pos (by rw [mM, mM, iP, iP]; omega)]
  unfold rQ;rw [cT (dT (by omega)), eX, List.getElem?_eq_getElem hlt, aD, gE (x := (s[k].toNat : Int)) (by omega), hd, aD, hbw, aD, gE (x := (k : Int) + 1) (by omega)];exact hih
theorem TH (N : Nat) {s : List UInt8} (hs : s.length ≤ 16777216) (hN : 100 ≤ N ∧ s.length < N) : uF N s = some (wF (lZ 2 (8 * s.length) (Cv s s.length))) := by
 unfold uF;exact TG N hN.1 hs (fun x : List UInt8 × Int => some x.1) s.length 0 N (by omega) (by omega)
def rm (n : Nat) : Nat := if 0 < n then 2 ^ (15 - n) else 0
theorem UX (n : Nat) : rm n ≤ 16384 := by
 unfold rm
 split
 ·exact Nat.le_trans (Nat.pow_le_pow_right (by decide) (show 15 - n ≤ 14 by omega)) (by decide)
 ·omega
def DP (l : List Int) : Nat := (l.map fun e => rm e.toNat).sum
theorem FK (e : Int) (l : List Int) : DP (e :: l) = rm e.toNat + DP l := by simp [DP]
def DV (e : Int) : Bool := decide (0 ≤ e ∧ e ≤ 15)
def jK (l : List Int) : Int := if l.length < 1 ∨ 17 < l.length then 2 else if l.all DV = true then (if DP l = 0 ∨ 32768 < DP l then 1 else 0) else 3
theorem Rb {e : Int} (h : 0 < e) (h2 : e ≤ 15) : nX .i64 1 (IntKind.i64.wrap (15 - e)) = ((rm e.toNat : Nat) : Int) ∧ nn (IntKind.i64.wrap (15 - e)) = some () := by
 have h0 : IntKind.i64.wrap (15 - e) = ((15 - e.toNat : Nat) : Int) := by rw [gE (by omega)]; omega
 rw [h0, AS (by omega), rY, rm, if_pos (by omega)];exact ⟨rfl, rfl⟩
theorem Rc (N : Nat) {l : List Int} (hl : l.length ≤ 17) (kk) : ∀ (j k fuel : Nat) (room : Int), k + j = l.length → j < fuel → -1000000 - 16384 * (k : Int) ≤ room ∧ room ≤ 1000000 →
  oA N l kk fuel (room, (k : Int)) = if (l.drop k).all DV = true then kk (room - (DP (l.drop k) : Nat), (l.length : Int)) else some 3 := by
 intro j
 induction j with
 | zero =>
  intro k fuel room hk hf hr;obtain ⟨fuel, rfl⟩ : ∃ m, fuel = m + 1 := ⟨fuel - 1, by omega⟩
  obtain rfl : k = l.length := by omega
  unfold oA;rw [cF (dF (by omega)), List.drop_length, if_pos (by rfl), show DP ([] : List Int) = 0 by rfl]
  simp
 | succ j ih =>
  intro k fuel room hk hf hr;obtain ⟨fuel, rfl⟩ : ∃ m, fuel = m + 1 := ⟨fuel - 1, by omega⟩
  have hlt : k < l.length := by omega
  have hnx : IntKind.i64.wrap ((k : Int) + 1) = ((k + 1 : Nat) : Int) := by rw [gE (by omega)]; rfl
  rw [List.drop_eq_getElem_cons hlt, List.all_cons, FK];unfold oA;rw [cT (dT (by omega)), eX, List.getElem?_eq_getElem hlt, aD]
  by_cases h0 : l[k] < 0
  ·rw [cT (dT h0), if_neg];rw [show DV l[k] = false from dF (by omega)]; simp
  ·rw [cF (dF h0)]
   by_cases h1 : 15 < l[k]
   ·rw [cT (dT h1), if_neg];rw [show DV l[k] = false from dF (by omega)]; simp
   ·rw [cF (dF h1), show DV l[k] = true from dT (by omega), Bool.true_and]
    by_cases h2 : 0 < l[k]
    ·obtain ⟨e1, e2⟩ := Rb h2 (by omega);have hr2 := UX l[k].toNat;rw [cT (dT h2), e2, aD, aD, e1, gE (x := room - _) (by omega), hnx, ih (k + 1) fuel _ (by omega) (by omega) (by omega)]
     congr 2
     rw [Prod.mk.injEq]; exact ⟨by omega, rfl⟩
    ·rw [cF (dF h2), hnx, ih (k + 1) fuel _ (by omega) (by omega) (by omega), show rm l[k].toNat = 0 by rw [rm, if_neg (by omega)], Nat.zero_add]
theorem B7 (N : Nat) (hN : 100 ≤ N) (l : List Int) : sG N l = some (jK l) := by
 unfold sG jK
 by_cases h1 : l.length < 1
 ·rw [cT (dT (by omega)), if_pos (.inl h1)]
 rw [cF (dF (by omega))]
 by_cases h2 : 17 < l.length
 ·rw [cT (dT (by omega)), if_pos (.inr h2)]
 rw [cF (dF (by omega)), if_neg (by omega)];have key := Rc N (l := l) (by omega) (fun (G5, i2) => cond (decide (G5 < 0)) (some 1) (cond (decide (G5 = 32768)) (some 1) (some 0))) l.length 0 N 32768 (by omega) (by omega) (by omega);rw [List.drop_zero] at key;refine Eq.trans key ?_
 by_cases h3 : l.all DV = true
 ·rw [if_pos h3, if_pos h3]
  dsimp only
  by_cases h4 : 32768 < DP l
  ·rw [cT (dT (by omega)), if_pos (.inr h4)]
  ·rw [cF (dF (by omega))]
   by_cases h5 : DP l = 0
   ·rw [cT (dT (by omega)), if_pos (.inl h5)]
   ·rw [cF (dF (by omega)), if_neg (by omega)]
 ·rw [if_neg h3, if_neg h3]
theorem Lp (N : Nat) {l : List Int} (hl : l.length ≤ 17) (kk) : ∀ (j k fuel : Nat) (sum : Nat) (used : Bool), k + j = l.length → j < fuel → sum ≤ 1000000 + 16384 * k →
  iS N l kk fuel ((sum : Int), used, (k : Int)) = if (l.drop k).all DV = true then kk (((sum + DP (l.drop k) : Nat) : Int), used || decide (0 < DP (l.drop k)), (l.length : Int)) else some 3 := by
 intro j
 induction j with
 | zero =>
  intro k fuel sum used hk hf hr;obtain ⟨fuel, rfl⟩ : ∃ m, fuel = m + 1 := ⟨fuel - 1, by omega⟩
  obtain rfl : k = l.length := by omega
  unfold iS;rw [cF (dF (by omega)), List.drop_length, if_pos (by rfl), show DP ([] : List Int) = 0 by rfl]
  simp
 | succ j ih =>
  intro k fuel sum used hk hf hr;obtain ⟨fuel, rfl⟩ : ∃ m, fuel = m + 1 := ⟨fuel - 1, by omega⟩
  have hlt : k < l.length := by omega
  have hnx : IntKind.i64.wrap ((k : Int) + 1) = ((k + 1 : Nat) : Int) := by rw [gE (by omega)]; rfl
  rw [List.drop_eq_getElem_cons hlt, List.all_cons, FK];unfold iS;rw [cT (dT (by omega)), eX, List.getElem?_eq_getElem hlt, aD, sN, aD]
  by_cases h0 : 0 ≤ l[k] ∧ l[k] ≤ 15
  ·rw [show DV l[k] = true from dT h0, cF (by rw [dT h0]; rfl), aD, Bool.true_and]
   by_cases h2 : 0 < l[k]
   ·obtain ⟨e1, e2⟩ := Rb h2 (by omega);have hr2 := UX l[k].toNat;have hpos : 0 < rm l[k].toNat := by rw [rm, if_pos (by omega)]; exact Nat.two_pow_pos _
    rw [cT (dT h2), aD, e2, aD, aD, e1, hnx, aD, gE (x := (sum : Int) + _) (by omega), show ((sum : Int) + (rm l[k].toNat : Nat)) = ((sum + rm l[k].toNat : Nat) : Int) by omega, ih (k + 1) fuel _ _ (by omega) (by omega) (by omega)];rw [Bool.true_or, dT (show 0 < rm l[k].toNat + DP (l.drop (k + 1)) by omega), Bool.or_true, Nat.add_assoc]
   ·rw [cF (dF h2), hnx, aD, ih (k + 1) fuel _ _ (by omega) (by omega) (by omega), show rm l[k].toNat = 0 by rw [rm, if_neg (by omega)], Nat.zero_add]
  ·rw [show DV l[k] = false from dF h0, cT (by rw [dF h0]; rfl), if_neg (by simp)]
theorem FL (N : Nat) (hN : 100 ≤ N) (l : List Int) : kA N l = some (jK l) := by
 unfold kA jK;rw [sN, aD]
 by_cases h1 : l.length < 1 ∨ 17 < l.length
 ·rw [cT (by rw [dF (by omega)]; rfl), if_pos h1]
 rw [cF (by rw [dT (by omega)]; rfl), if_neg h1];have key := Lp N (l := l) (by omega) (fun (Ws, QG, i6) => cond (!(QG)) (some 1) (cond (decide (32768 < Ws)) (some 1) (some 0))) l.length 0 N 0 false (by omega) (by omega) (by omega);rw [List.drop_zero] at key;refine Eq.trans key ?_
 by_cases h3 : l.all DV = true
 ·rw [if_pos h3, if_pos h3]
  dsimp only
  rw [Bool.false_or]
  by_cases h5 : DP l = 0
  ·rw [cT (by rw [dF (by omega)]; rfl), if_pos (.inl h5)]
  ·rw [cF (by rw [dT (by omega)]; rfl)]
   by_cases h4 : 32768 < DP l
   ·rw [cT (dT (by omega)), if_pos (.inr h4)]
   ·rw [cF (dF (by omega)), if_neg (by omega)]
 ·rw [if_neg h3, if_neg h3]
def ky (ns : List Nat) (i : Nat) : Nat := ns.getD i 0
def tot (ns o : List Nat) : Nat := (o.map fun i => 2 ^ (15 - ky ns i)).sum
def PR (S n : Nat) : List UInt8 := wF (lZ 2 n (S / 2 ^ (15 - n)))
def NK (ns : List Nat) (st : List (List UInt8) × Nat) (i : Nat) : List (List UInt8) × Nat := (st.1.set i (PR st.2 (ky ns i)), st.2 + 2 ^ (15 - ky ns i))
theorem NL (ns : List Nat) : tot ns [] = 0 := rfl
theorem rZ (ns : List Nat) (i : Nat) (o : List Nat) : tot ns (i :: o) = 2 ^ (15 - ky ns i) + tot ns o := by simp [tot]
theorem yN (ns o p : List Nat) : tot ns (o ++ p) = tot ns o + tot ns p := by simp [tot]
theorem DH (ns : List Nat) : ∀ (o : List Nat) (st : List (List UInt8) × Nat), (o.foldl (NK ns) st).1.length = st.1.length
 | [], _ => rfl
 | i :: o, st => by rw [List.foldl_cons, DH ns o]; simp [NK]
theorem JV (ns : List Nat) : ∀ (o : List Nat) (st : List (List UInt8) × Nat), (o.foldl (NK ns) st).2 = st.2 + tot ns o
 | [], _ => rfl
 | i :: o, st => by rw [List.foldl_cons, JV ns o, rZ]; simp [NK]; omega
section
variable {ns : List Nat} (hn : ∀ n ∈ ns, n ≤ 15) (hl : ns.length ≤ 17)
theorem Hj {i : Nat} (h : i < ns.length) : idx (mW ns) (i : Int) = some ((ky ns i : Nat) : Int) := GB h
include hn in
theorem FX (i : Nat) : ky ns i ≤ 15 := by
 unfold ky;rw [List.getD_eq_getElem?_getD]
 by_cases h : i < ns.length
 ·rw [List.getElem?_eq_getElem h]; exact hn _ (List.getElem_mem h)
 ·rw [List.getElem?_eq_none (by omega)]; exact Nat.zero_le _
theorem Zo (n : Nat) : 2 ^ (15 - n) ≤ 32768 := Nat.le_trans (Nat.pow_le_pow_right (by decide) (show 15 - n ≤ 15 by omega)) (by decide)
include hn hl in
theorem Re (N : Nat) (hN : 100 ≤ N) (o : List Nat) (ho : ∀ i ∈ o, i < ns.length) (hol : o.length ≤ 17) (kk) : ∀ (j k fuel : Nat) (out : List (List UInt8)) (S : Nat), k + j = o.length → j < fuel → out.length = ns.length → S + tot ns (o.drop k) ≤ 32768 →
  mQ N (mW ns) (mW o) kk fuel (out, (S : Int), (k : Int)) = kk (((o.drop k).foldl (NK ns) (out, S)).1, ((S + tot ns (o.drop k) : Nat) : Int), (o.length : Int)) := by
 intro j
 induction j with
 | zero =>
  intro k fuel out S hk hf hout hS;obtain ⟨fuel, rfl⟩ : ∃ m, fuel = m + 1 := ⟨fuel - 1, by omega⟩
  obtain rfl : k = o.length := by omega
  unfold mQ;rw [cF (dF (by rw [hF]; omega)), List.drop_length]; rfl
 | succ j ih =>
  intro k fuel out S hk hf hout hS;obtain ⟨fuel, rfl⟩ : ∃ m, fuel = m + 1 := ⟨fuel - 1, by omega⟩
  have hlt : k < o.length := by omega
  have hi : o[k] < ns.length := ho _ (List.getElem_mem hlt);have aD1 := FX hn o[k];rw [List.drop_eq_getElem_cons hlt, rZ] at hS ⊢;have hp := Zo (ky ns o[k]);have hp0 := Nat.two_pow_pos (15 - ky ns o[k]);have UY : IntKind.i64.wrap (15 - (ky ns o[k] : Nat)) = ((15 - ky ns o[k] : Nat) : Int) := by rw [gE (by omega)]; omega
  have hget : idx (mW o) (k : Int) = some ((o[k] : Nat) : Int) := by rw [GB hlt, List.getD_eq_getElem?_getD, List.getElem?_eq_getElem hlt]; rfl
  have aDa : uK ((S / 2 ^ (15 - ky ns o[k]) : Nat) : Int) ((ky ns o[k] : Nat) : Int) = 0 := by
   have : S / 2 ^ (15 - ky ns o[k]) < 2 ^ ky ns o[k] := by
    refine Nat.div_lt_of_lt_mul ?_;rw [← Nat.pow_add, show 15 - ky ns o[k] + ky ns o[k] = 15 by omega];show S < 32768
    omega
   unfold uK;rw [if_pos (by omega), Int.toNat_natCast, if_pos ⟨Int.natCast_nonneg _, Int.ofNat_lt.2 this⟩]
  have hset : ∀ v, v6 out (o[k] : Int) v = some (out.set o[k] v) := fun v => by rw [DD (by omega), Int.toNat_natCast]
  have hio : ∃ e, idx out (o[k] : Int) = some e := by rw [eX]; exact ⟨_, List.getElem?_eq_getElem (by omega)⟩
  obtain ⟨e, he⟩ := hio;have hnx : IntKind.i64.wrap ((k : Int) + 1) = ((k + 1 : Nat) : Int) := by rw [gE (by omega)]; rfl
  have hih := ih (k + 1) fuel (out.set o[k] (PR S (ky ns o[k]))) (S + 2 ^ (15 - ky ns o[k])) (by omega) (by omega) (by rw [List.length_set]; exact hout) (by omega);unfold mQ;rw [cT (dT (by rw [hF]; omega)), hget, aD, Hj hi, aD, UY, rY, aD, aD, DF (by omega), C5 N hN, if_pos aDa, aD, he, aD, hset, aD, aD, UY, rY, aD, AS (by omega), gE (x := (S : Int) + _) (by omega), aD, hnx, Int.toNat_natCast, Int.toNat_natCast, show (S : Int) + ((2 ^ (15 - ky ns o[k]) : Nat) : Int) = ((S + 2 ^ (15 - ky ns o[k]) : Nat) : Int) by omega];refine Eq.trans hih ?_;rw [List.foldl_cons, Nat.add_assoc]
  rfl
def pos (ns : List Nat) (i : Nat) : Bool := decide (0 < ky ns i)
include hl in
theorem Rf (N : Nat) (kk) : ∀ (j k fuel : Nat) (A : List Nat), k + j = ns.length → j < fuel → A.length ≤ k →
  oD N (mW ns) kk fuel (mW A, (k : Int)) = kk (mW (A ++ (List.range' k j).filter (pos ns)), (ns.length : Int)) := by
 intro j
 induction j with
 | zero =>
  intro k fuel A hk hf hA;obtain ⟨fuel, rfl⟩ : ∃ m, fuel = m + 1 := ⟨fuel - 1, by omega⟩
  obtain rfl : k = ns.length := by omega
  unfold oD;rw [cF (dF (by rw [hF]; omega))]; simp
 | succ j ih =>
  intro k fuel A hk hf hA;obtain ⟨fuel, rfl⟩ : ∃ m, fuel = m + 1 := ⟨fuel - 1, by omega⟩
  have hlt : k < ns.length := by omega
  have hnx : IntKind.i64.wrap ((k : Int) + 1) = ((k + 1 : Nat) : Int) := by rw [gE (by omega)]; rfl
  unfold oD;rw [cT (dT (by rw [hF]; omega)), Hj hlt, aD, List.range'_succ]
  by_cases h : 0 < ky ns k
  ·have happ : app 8 (mW A) ([(k : Int)] : List Int) = some (mW (A ++ [k])) := by
    rw [iO (by rw [hF]; simp; omega), yM]; rfl
   rw [cT (dT (by omega)), happ, aD, hnx, ih (k + 1) fuel _ (by omega) (by omega) (by simp; omega), List.filter_cons, if_pos (show pos ns k = true from dT h), List.append_assoc]
   rfl
  ·rw [cF (dF (by omega)), hnx, ih (k + 1) fuel _ (by omega) (by omega) (by omega), List.filter_cons, if_neg (by rw [show pos ns k = false from dF h]; simp)]
def IA (f : Nat → Nat) (x : Nat) : List Nat → List Nat → List Nat
 | [], B => x :: B
 | y :: A, B => if f x < f y then IA f x A (y :: B) else (y :: A).reverse ++ x :: B
theorem NM (f : Nat → Nat) (x : Nat) : ∀ A B C, IA f x A (B ++ C) = IA f x A B ++ C
 | [], B, C => rfl
 | y :: A, B, C => by
  unfold IA
  split
  ·rw [← List.cons_append, NM f x A]
  ·simp
theorem NN (f : Nat → Nat) (x : Nat) : ∀ A B, (IA f x A B).length = A.length + B.length + 1
 | [], B => by simp [IA]
 | y :: A, B => by
  unfold IA
  split
  ·rw [NN f x A]; simp; omega
  ·simp; omega
theorem Lq (f : Nat → Nat) (x : Nat) (A1 : List Nat) (h1 : ∀ y ∈ A1, f y ≤ f x) : ∀ (R : List Nat) (B : List Nat), (∀ y ∈ R, f x < f y) → IA f x (R ++ A1.reverse) B = A1 ++ x :: (R.reverse ++ B)
 | [], B, _ => by
  rcases hA : A1.reverse with _ | ⟨y, A⟩
  ·have : A1 = [] := by simpa using hA
   subst this; rfl
  ·have hy : f y ≤ f x := h1 y (by rw [← List.mem_reverse, hA]; simp);rw [List.nil_append];unfold IA;rw [if_neg (by omega), ← hA, List.reverse_reverse]; rfl
 | y :: R, B, h => by
  have hy := h y (by simp);show IA f x (y :: (R ++ A1.reverse)) B = _;unfold IA;rw [if_pos hy, Lq f x A1 h1 R (y :: B) (fun z hz => h z (by simp [hz]))]
  simp
theorem cmp_eq (N : Nat) {a b : Nat} (ha : a < ns.length) (hb : b < ns.length) : t8 N (a : Int) (b : Int) (mW ns) = some (if ky ns a < ky ns b then -1 else if ky ns b < ky ns a then 1 else 0) := by
 unfold t8;rw [Hj ha, aD, Hj hb, aD];unfold tP sS;rw [aD, aD, cF (by simp), cF (by simp)]
 by_cases h1 : ky ns a < ky ns b
 ·rw [cT (dT (by omega)), if_pos h1]; rfl
 ·rw [cF (dF (by omega)), if_neg h1]
  by_cases h2 : ky ns b < ky ns a
  ·rw [cT (dT (by omega)), if_pos h2]; rfl
  ·rw [cF (dF (by omega)), if_neg h2]; rfl
theorem MP {A : List Nat} {i x : Nat} (h : A[i]? = some x) : idx (mW A) (i : Int) = some (x : Int) := by
 rw [eX, mW, List.getElem?_map, h]; rfl
theorem Rg (N : Nat) (kk : List Int × Int → Option (List (List UInt8) × Int)) (r) (x : Nat) (hx : x < ns.length) : ∀ (A B : List Nat) (fuel : Nat), (∀ y ∈ A, y < ns.length) → A.length ≤ 1000 → A.length < fuel → (∀ j, kk (mW (IA (ky ns) x A B), j) = r) →
  pW N (mW ns) kk fuel (mW (A.reverse ++ x :: B), (A.length : Int)) = r := by
 intro A
 induction A with
 | nil =>
  intro B fuel hA hA2 hf hk;obtain ⟨fuel, rfl⟩ : ∃ m, fuel = m + 1 := ⟨fuel - 1, by simp at hf; omega⟩
  unfold pW;rw [cF (dF (by simp))];exact hk _
 | cons y A ih =>
  intro B fuel hA hA2 hf hk;simp only [List.length_cons] at hf hA2;obtain ⟨fuel, rfl⟩ : ∃ m, fuel = m + 1 := ⟨fuel - 1, by omega⟩
  have hy : y < ns.length := hA y (by simp);have g1 : ∀ u v : Nat, (A.reverse ++ u :: v :: B)[A.length]? = some u := fun u v => by rw [List.getElem?_append_right (by simp)]; simp
  have g2 : ∀ u v : Nat, (A.reverse ++ u :: v :: B)[A.length + 1]? = some v := fun u v => by rw [List.getElem?_append_right (by simp)]; simp
  have eq : (y :: A).reverse ++ x :: B = A.reverse ++ y :: x :: B := by simp
  have hm1 : IntKind.i64.wrap (((A.length + 1 : Nat) : Int) - 1) = (A.length : Int) := by rw [gE (by omega)]; omega
  rw [List.length_cons, eq];unfold pW;rw [cT (dT (by omega)), MP (g2 y x), aD, hm1, MP (g1 y x), aD, cmp_eq N hx hy, aD];unfold IA at hk
  by_cases h : ky ns x < ky ns y
  ·rw [if_pos h] at hk
   have s1 : v6 (mW (A.reverse ++ y :: x :: B)) (((A.length + 1 : Nat) : Int)) ((y : Nat) : Int) = some (mW (A.reverse ++ y :: y :: B)) := by
    rw [DD (by rw [hF]; simp; omega), Int.toNat_natCast, ← GA]
    congr 2
    rw [List.set_append, if_neg (by simp)]; simp
   have s2 : v6 (mW (A.reverse ++ y :: y :: B)) ((A.length : Nat) : Int) ((x : Nat) : Int) = some (mW (A.reverse ++ x :: y :: B)) := by
    rw [DD (by rw [hF]; simp; omega), Int.toNat_natCast, ← GA]
    congr 2
    rw [List.set_append, if_neg (by simp)]; simp
   rw [if_pos h, cT (by decide), aD, aD, aD, s1, aD, MP (g1 y y), aD, s2, aD, aD];exact ih (y :: B) fuel (fun z hz => hA z (by simp [hz])) (by omega) (by omega) hk
  ·rw [if_neg h] at hk;rw [if_neg h, cF (by split <;> decide), ← eq];exact hk _
def JW (f : Nat → Nat) (o : List Nat) : List Nat := o.foldl (fun A x => IA f x A.reverse []) []
theorem Lr (f : Nat → Nat) (o : List Nat) (x : Nat) : JW f (o ++ [x]) = IA f x (JW f o).reverse [] := by simp [JW]
theorem NO (f : Nat → Nat) (o : List Nat) : (JW f o).length = o.length := by
 have : ∀ (o A : List Nat), (o.foldl (fun A x => IA f x A.reverse []) A).length = A.length + o.length := by
  intro o
  induction o with
  | nil => intro A; rfl
  | cons x o ih => intro A; rw [List.foldl_cons, ih, NN]; simp; omega
 rw [JW, this]; simp
end
section
variable {ns : List Nat} (hn : ∀ n ∈ ns, n ≤ 15) (hl : ns.length ≤ 17)
theorem Rh (N : Nat) (hN : 100 ≤ N) (kk : List Int × Int × Int → Option (List (List UInt8) × Int)) (r) {o : List Nat} (ho : ∀ i ∈ o, i < ns.length) (hol : o.length ≤ 17) (hk : ∀ b j, kk (mW (JW (ky ns) o), b, j) = r) : ∀ (j k fuel : Nat), k + j = o.length → j < fuel →
  lN N (mW ns) kk fuel (mW (JW (ky ns) (o.take k) ++ o.drop k), (o.length : Int), (k : Int)) = r := by
 intro j
 induction j with
 | zero =>
  intro k fuel hkj hf;obtain ⟨fuel, rfl⟩ : ∃ m, fuel = m + 1 := ⟨fuel - 1, by omega⟩
  obtain rfl : k = o.length := by omega
  unfold lN;rw [cF (dF (by omega)), List.take_length, List.drop_length, List.append_nil];exact hk _ _
 | succ j ih =>
  intro k fuel hkj hf;obtain ⟨fuel, rfl⟩ : ∃ m, fuel = m + 1 := ⟨fuel - 1, by omega⟩
  have hlt : k < o.length := by omega
  have hnx : IntKind.i64.wrap ((k : Int) + 1) = ((k + 1 : Nat) : Int) := by rw [gE (by omega)]; rfl
  have hih := ih (k + 1) fuel (by omega) (by omega);have htk : o.take (k + 1) = o.take k ++ [o[k]] := by rw [List.take_add_one, List.getElem?_eq_getElem hlt]; rfl
  rw [htk, Lr] at hih;have hlen : (JW (ky ns) (o.take k)).length = k := by rw [NO, List.length_take]; omega
  have hmem : ∀ y ∈ JW (ky ns) (o.take k), y < ns.length := fun y hy => by
   refine ho y (List.mem_of_mem_take (i := k) ?_)
   have key : ∀ (p A : List Nat), (∀ z ∈ A, z ∈ o.take k) → (∀ z ∈ p, z ∈ o.take k) → ∀ z ∈ p.foldl (fun A x => IA (ky ns) x A.reverse []) A, z ∈ o.take k := by
    intro p
    induction p with
    | nil => intro A hA _ z hz; exact hA z hz
    | cons x p ihp =>
     intro A hA hp z hz;rw [List.foldl_cons] at hz;refine ihp _ ?_ (fun z hz => hp z (by simp [hz])) z hz;intro u hu
     have sub : ∀ (R B : List Nat), ∀ z ∈ IA (ky ns) x R B, z ∈ R ∨ z = x ∨ z ∈ B := by
      intro R
      induction R with
      | nil => intro B z hz; simp [IA] at hz; rcases hz with rfl | hz; exact .inr (.inl rfl); exact .inr (.inr hz)
      | cons q R ihR =>
       intro B z hz;unfold IA at hz
       split at hz
       ·rcases ihR _ z hz with h | h | h
        ·exact .inl (by simp [h])
        ·exact .inr (.inl h)
        ·rcases List.mem_cons.1 h with rfl | h
         ·exact .inl (by simp)
         ·exact .inr (.inr h)
       ·simp at hz
        rcases hz with h | h | h | h
        ·exact .inl (by simp [h])
        ·exact .inl (by simp [h])
        ·exact .inr (.inl h)
        ·exact .inr (.inr h)
     rcases sub _ _ u hu with h | h | h
     ·exact hA u (by simpa using h)
     ·subst h; exact hp u (by simp)
     ·cases h
   exact key (o.take k) [] (fun z hz => by cases hz) (fun z hz => hz) y hy
  unfold lN;rw [cT (dT (by omega)), List.drop_eq_getElem_cons hlt]
  have h3 := Rg (ns := ns) N (fun (Y0, j9) => Option.bind (some (IntKind.i64.wrap ((k : Int) + 1))) fun i6 => lN N (mW ns) kk fuel (Y0, (o.length : Int), i6)) r o[k] (ho _ (List.getElem_mem hlt)) (JW (ky ns) (o.take k)).reverse (o.drop (k + 1)) N (fun y hy => hmem y (by simpa using hy)) (by simp; omega) (by simp; omega) (fun q => by
   show (Option.bind (some (IntKind.i64.wrap ((k : Int) + 1))) fun i6 => lN N (mW ns) kk fuel (mW (IA (ky ns) o[k] (JW (ky ns) (o.take k)).reverse (o.drop (k + 1))), (o.length : Int), i6)) = r;rw [hnx, aD];have e := NM (ky ns) o[k] (JW (ky ns) (o.take k)).reverse [] (o.drop (k + 1));rw [List.nil_append] at e;rw [e]
   exact hih)
  rw [List.reverse_reverse, List.length_reverse, hlen] at h3;exact h3
def vJ (f : Nat → Nat) (o : List Nat) : List Nat := (List.range' 1 15).flatMap fun s => o.filter fun i => decide (f i = s)
theorem I1 (f : Nat → Nat) (o : List Nat) {x : Nat} (hx : 1 ≤ f x ∧ f x ≤ 15) : ∃ A1 A2, vJ f o = A1 ++ A2 ∧ vJ f (o ++ [x]) = A1 ++ x :: A2 ∧ (∀ y ∈ A1, f y ≤ f x) ∧ ∀ y ∈ A2, f x < f y := by
 have hsp : List.range' 1 15 = List.range' 1 (f x - 1) ++ (f x :: List.range' (f x + 1) (15 - f x)) := by
  have h1 : List.range' 1 (f x - 1) ++ List.range' (1 + (f x - 1)) (15 - (f x - 1)) = List.range' 1 15 := by
   have := List.range'_append (s := 1) (m := f x - 1) (n := 15 - (f x - 1)) (step := 1);rw [Nat.one_mul] at this;rw [this]; congr 1; omega
  rw [← h1, show 1 + (f x - 1) = f x by omega, show 15 - (f x - 1) = (15 - f x) + 1 by omega, List.range'_succ]
 have hne : ∀ L : List Nat, (∀ s ∈ L, s ≠ f x) → (L.flatMap fun s => (o ++ [x]).filter fun i => decide (f i = s)) = L.flatMap fun s => o.filter fun i => decide (f i = s) := by
  intro L hL
  induction L with
  | nil => rfl
  | cons s L ih =>
   rw [List.flatMap_cons, List.flatMap_cons, ih (fun s hs => hL s (by simp [hs])), List.filter_append]
   congr 1
   rw [List.filter_cons, if_neg (by simpa using fun h => hL s (by simp) h.symm)]; simp
 refine ⟨((List.range' 1 (f x - 1)).flatMap fun s => o.filter fun i => decide (f i = s)) ++ o.filter (fun i => decide (f i = f x)), (List.range' (f x + 1) (15 - f x)).flatMap (fun s => o.filter fun i => decide (f i = s)), ?_, ?_, ?_, ?_⟩
 ·unfold vJ; rw [hsp, List.flatMap_append, List.flatMap_cons, List.append_assoc]
 ·unfold vJ;rw [hsp, List.flatMap_append, List.flatMap_cons, hne _ (fun s hs => by have := (List.mem_range'_1.1 hs); omega), hne _ (fun s hs => by have := (List.mem_range'_1.1 hs); omega), List.filter_append, List.filter_cons, if_pos (by simp)]
  simp
 ·intro y hy
  rcases List.mem_append.1 hy with h | h
  ·obtain ⟨s, hs, h⟩ := List.mem_flatMap.1 h;have h1 := List.mem_range'_1.1 hs;have h2 := (List.mem_filter.1 h).2
   simp at h2
   omega
  ·have h2 := (List.mem_filter.1 h).2
   simp at h2
   omega
 ·intro y hy;obtain ⟨s, hs, h⟩ := List.mem_flatMap.1 hy;have h1 := List.mem_range'_1.1 hs;have h2 := (List.mem_filter.1 h).2
  simp at h2
  omega
theorem Lt {P : List Nat → Prop} (o : List Nat) (h0 : P []) (hs : ∀ k (hk : k < o.length), P (o.take k) → P (o.take k ++ [o[k]])) : P o := by
 have : ∀ k, k ≤ o.length → P (o.take k) := by
  intro k
  induction k with
  | zero => intro _; exact h0
  | succ k ih =>
   intro hk;have := hs k (by omega) (ih (by omega))
   rwa [show o.take k ++ [o[k]] = o.take (k + 1) by rw [List.take_add_one, List.getElem?_eq_getElem (by omega)]; rfl] at this
 have := this o.length (Nat.le_refl _)
 rwa [List.take_length] at this
theorem Ri (f : Nat → Nat) : vJ f [] = [] := by
 unfold vJ;rw [List.flatMap_eq_nil_iff];intro s _; rfl
theorem TI (f : Nat → Nat) (o : List Nat) (ho : ∀ x ∈ o, 1 ≤ f x ∧ f x ≤ 15) : JW f o = vJ f o := by
 refine Lt (P := fun p => JW f p = vJ f p) o ?_ fun k hk ih => ?_
 ·show ([] : List Nat) = _;unfold vJ;rw [eq_comm, List.flatMap_eq_nil_iff];intro s _; rfl
 ·obtain ⟨A1, A2, h1, h2, h3, h4⟩ := I1 f (o.take k) (ho _ (List.getElem_mem hk));have := Lq f o[k] A1 h3 A2.reverse [] (fun y hy => h4 y (by simpa using hy));show JW f (o.take k ++ [o[k]]) = vJ f (o.take k ++ [o[k]]);rw [Lr, h2, show JW f (o.take k) = vJ f (o.take k) from ih, h1, List.reverse_append, this]
  simp
theorem JX (o : List Nat) (ho : ∀ x ∈ o, 1 ≤ ky ns x ∧ ky ns x ≤ 15) : tot ns (vJ (ky ns) o) = tot ns o := by
 refine Lt (P := fun p => tot ns (vJ (ky ns) p) = tot ns p) o ?_ fun k hk ih => ?_
 ·show tot ns (vJ (ky ns) []) = tot ns [];rw [Ri]
 ·obtain ⟨A1, A2, h1, h2, h3, h4⟩ := I1 (ky ns) (o.take k) (ho _ (List.getElem_mem hk));have ih' : tot ns (vJ (ky ns) (o.take k)) = tot ns (o.take k) := ih;show tot ns (vJ (ky ns) (o.take k ++ [o[k]])) = tot ns (o.take k ++ [o[k]]);rw [h2, yN, rZ, yN, ← ih', h1, yN, rZ, NL]
  omega
def ups (ns : List Nat) (k j : Nat) : List Nat := (List.range' k j).filter (pos ns)
theorem Rj : ∀ (j k : Nat), k + j = ns.length → DP ((mW ns).drop k) = tot ns (ups ns k j) := by
 intro j
 induction j with
 | zero =>
  intro k hk;rw [List.drop_eq_nil_iff.2 (by rw [hF]; omega)]; rfl
 | succ j ih =>
  intro k hk;have hlt : k < (mW ns).length := by rw [hF]; omega
  have hv : (mW ns)[k].toNat = ky ns k := by
   have := GB (l := ns) (i := k) (by omega);rw [eX, List.getElem?_eq_getElem hlt] at this;rw [Option.some.inj this, Int.toNat_natCast]; rfl
  rw [List.drop_eq_getElem_cons hlt, FK, ih (k + 1) (by omega), hv];unfold ups;rw [List.range'_succ, List.filter_cons]
  by_cases h : 0 < ky ns k
  ·rw [if_pos (show pos ns k = true from dT h), rZ, rm, if_pos h]
  ·rw [if_neg (by rw [show pos ns k = false from dF h]; simp), rm, if_neg h, Nat.zero_add]
theorem JY (k j : Nat) : vJ (ky ns) (ups ns k j) = vJ (ky ns) (List.range' k j) := by
 unfold vJ ups
 have : ∀ L : List Nat, (∀ s ∈ L, 1 ≤ s) → (L.flatMap fun s => ((List.range' k j).filter (pos ns)).filter fun i => decide (ky ns i = s)) = L.flatMap fun s => (List.range' k j).filter fun i => decide (ky ns i = s) := by
  intro L hL
  induction L with
  | nil => rfl
  | cons s L ih =>
   rw [List.flatMap_cons, List.flatMap_cons, ih (fun s hs => hL s (by simp [hs])), List.filter_filter]
   congr 1
   refine List.filter_congr fun i _ => ?_
   have := hL s (by simp);unfold pos
   by_cases h : ky ns i = s
   ·rw [dT h, dT (by omega)]; rfl
   ·rw [dF h]; rfl
 exact this _ fun s hs => (List.mem_range'_1.1 hs).1
theorem GC {k j i : Nat} (h : i ∈ ups ns k j) : k ≤ i ∧ i < k + j ∧ 0 < ky ns i := by
 obtain ⟨h1, h2⟩ := List.mem_filter.1 h;have := List.mem_range'_1.1 h1;exact ⟨this.1, this.2, of_decide_eq_true h2⟩
def u9 (ns : List Nat) : List (List UInt8) := ((vJ (ky ns) (List.range' 0 ns.length)).foldl (NK ns) (List.replicate ns.length [], 0)).1
end
end
end Go.Proofs.YtpmnfhifmmfglacGreatDoor
