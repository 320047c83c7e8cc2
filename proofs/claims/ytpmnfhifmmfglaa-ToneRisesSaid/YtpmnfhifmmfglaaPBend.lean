/- The laws ToneBends and ToneRises hold of the plain programs. -/
import Derived.Test.YtpmnfhifmmfglaaPCurve
import Derived.Test.YtpmnfhifmmfglaaPEachB
import Derived.Test.YtpmnfhifmmfglaaPToneB
import Derived.Test.YtpmnfhifmmfglaaPChoose
set_option linter.unusedVariables false
set_option linter.unusedSimpArgs false
set_option linter.unusedSectionVars false
namespace Go.Proofs.Ytpmnfhifmmfglaa
open Go

theorem on_same {l : List Pt} (h : curveP l) {x : Int} (hx : 0 ≤ x ∧ x ≤ 65535) : ∃ v, D_tone_on 5000 l x = some v ∧ D_darkslideref_OnCurve 5000 l x = some v := by
  obtain ⟨i, a, b, e⟩ := on_eq h 5000 (by omega) hx
  obtain ⟨j, a', b', e'⟩ := onCurve_eq h 5000 (by omega) hx
  exact ⟨_, e, by rw [e', seg_one h a' a b' b]⟩
def onV (l : List Pt) (x : Int) : Int := (D_tone_on 5000 l x).getD 0
theorem onV_code {l : List Pt} (h : curveP l) {x : Int} (hx : 0 ≤ x ∧ x ≤ 65535) : D_tone_on 5000 l x = some (onV l x) ∧ D_darkslideref_OnCurve 5000 l x = some (onV l x) := by
  obtain ⟨v, e, e'⟩ := on_same h hx
  unfold onV
  rw [e, e']
  exact ⟨rfl, rfl⟩
def bendP (l : List Pt) (p : Px) : Px := (onV l p.1, onV l p.2.1, onV l p.2.2)
theorem bend_1 {l : List Pt} (h : curveP l) {p : Px} (hp : okPx p = true) (x y : Int) : D_tone_Bend_1 5000 p.1 p.2.1 p.2.2 x y l = some (bendP l p) := by
  simp only [okPx, decide_eq_true_eq] at hp
  unfold D_tone_Bend_1
  rw [(onV_code h (show 0 ≤ p.1 ∧ p.1 ≤ 65535 by omega)).1, bsome, (onV_code h (show 0 ≤ p.2.1 ∧ p.2.1 ≤ 65535 by omega)).1, bsome, (onV_code h (show 0 ≤ p.2.2 ∧ p.2.2 ≤ 65535 by omega)).1]; rfl
theorem bend_eq {l : List Pt} {b : Bool} (hb : D_tone_right 5000 l = some b) (hc : b = true ↔ curveP l) (W H : Int) (P : List Px) : D_tone_Bend 5000 W H P l =
    some (if b = false then (0, 0, [], 1) else if picF W H P = false then (0, 0, [], 1) else (W, H, (List.range P.length).map (fun i => bendP l (P.getD i px0)), 0)) := by
  unfold D_tone_Bend
  rw [hb, bsome]
  cases b
  · rfl
  have h := hc.1 rfl
  rw [cF (by rfl)]
  cases hp : picF W H P
  · rw [eachB_no 5000 (by omega) l hp]; rfl
  · have hs := picF_side hp
    obtain ⟨W, rfl⟩ : ∃ n : Nat, W = n := ⟨W.toNat, by have := hs.1; omega⟩
    obtain ⟨H, rfl⟩ : ∃ n : Nat, H = n := ⟨H.toNat, by have := hs.2.2.1; omega⟩
    rw [eachB_eq 5000 (by omega) l hp (fun i => bendP l (P.getD i px0)) (fun i p hi => by rw [bend_1 h (okPx_of hp hi), List.getD_eq_getElem?_getD, hi]; rfl)]
    rfl
theorem bent_l1 {l : List Pt} (h : curveP l) {W H : Int} {P : List Px} (hp : picF W H P = true) (kk) : ∀ (d k fuel : Nat), k + d = P.length → d < fuel →
    D_darkslideref_Bent_l1 5000 P l kk fuel ((List.range k).map (fun i => bendP l (P.getD i px0)), (k : Int)) = kk ((List.range P.length).map (fun i => bendP l (P.getD i px0)), (P.length : Int)) := by
  have hl := side_len (picF_side hp)
  intro d
  induction d with
  | zero =>
    intro k fuel hk hf
    obtain ⟨fuel, rfl⟩ : ∃ m, fuel = m + 1 := ⟨fuel - 1, by omega⟩
    obtain rfl : k = P.length := by omega
    unfold D_darkslideref_Bent_l1
    rw [cF (dF (by omega))]
  | succ d ih =>
    intro k fuel hk hf
    obtain ⟨fuel, rfl⟩ : ∃ m, fuel = m + 1 := ⟨fuel - 1, by omega⟩
    have hlt : k < P.length := by omega
    have hx := List.getElem?_eq_getElem hlt
    obtain ⟨p, hpe⟩ : ∃ p, P[k] = p := ⟨_, rfl⟩
    rw [hpe] at hx
    have hok := okPx_of hp hx
    simp only [okPx, decide_eq_true_eq] at hok
    have hg : P.getD k px0 = p := by rw [List.getD_eq_getElem?_getD, hx]; rfl
    unfold D_darkslideref_Bent_l1
    rw [cT (dT (by omega)), idx_nat, hx, bsome, (onV_code h (show 0 ≤ p.1 ∧ p.1 ≤ 65535 by omega)).2, bsome, (onV_code h (show 0 ≤ p.2.1 ∧ p.2.1 ≤ 65535 by omega)).2, bsome, (onV_code h (show 0 ≤ p.2.2 ∧ p.2.2 ≤ 65535 by omega)).2, bsome]
    have e : (onV l p.1, onV l p.2.1, onV l p.2.2) = bendP l (P.getD k px0) := by rw [hg]; rfl
    rw [e, app_eq (by simp; omega), bsome, bsome, w64 (by omega), map_snoc (fun i => bendP l (P.getD i px0))]
    exact ih (k + 1) fuel (by omega) (by omega)
theorem bent_eq {l : List Pt} (h : curveP l) {W H : Int} {P : List Px} (hp : picF W H P = true) : D_darkslideref_Bent 5000 W H P l = some (W, H, (List.range P.length).map (fun i => bendP l (P.getD i px0))) := by
  have hl := side_len (picF_side hp)
  unfold D_darkslideref_Bent
  exact bent_l1 h hp (fun x => some (W, H, x.1)) P.length 0 5000 (by omega) (by omega)
theorem curve_eq {l : List Pt} {b : Bool} (hb : D_tone_right 5000 l = some b) (hc : b = true ↔ curveP l) (x : Int) : D_tone_Curve 5000 l x = some (if b = false then (0, 1) else if 0 ≤ x ∧ x ≤ 65535 then (onV l x, 0) else (0, 3)) := by
  unfold D_tone_Curve
  rw [hb, bsome]
  cases b
  · rfl
  have h := hc.1 rfl
  rw [cF (by rfl), if_neg (by simp)]
  by_cases h1 : x < 0
  · rw [cT (dT h1), if_neg (by omega)]
  rw [cF (dF h1)]
  by_cases h2 : 65535 < x
  · rw [cT (dT h2), if_neg (by omega)]
  rw [cF (dF h2), (onV_code h (by omega)).1, if_pos (by omega)]; rfl
theorem right_both (l : List Pt) : ∃ b, D_tone_right 5000 l = some b ∧ D_darkslideref_CurveFine 5000 l = some b ∧ (b = true ↔ curveP l) := by
  obtain ⟨b, hb, hc⟩ := right_eq 5000 l (by omega)
  obtain ⟨b', hb', hc'⟩ := curveFine_eq 5000 l (by omega)
  have : b' = b := Bool.eq_iff_iff.2 (hc'.trans hc.symm)
  exact ⟨b, hb, by rw [hb', this], hc⟩
theorem toneBends_true (W H : Int) (P : List Px) (l : List Pt) (x : Int) : D_darkslidelaw_ToneBends 5000 W H P l x = some true := by
  have h0 := same_eq 5000 0 0 [] (by simp) (by simp)
  obtain ⟨b, hb, hf, hc⟩ := right_both l
  unfold D_darkslidelaw_ToneBends
  rw [bend_eq hb hc, bsome, curve_eq hb hc, bsome, hf, bsome, pictureFine_eq 5000 W H P (by omega)]
  cases b
  · rw [cond_false]
    unfold D_darkslidelaw_ToneBends_j5
    simp only [if_true, toneBegun_eq, bsome, h0]
    rfl
  have h := hc.1 rfl
  rw [cond_true]
  have j1 : ∀ kk, D_darkslidelaw_ToneBends_j1 5000 x kk = kk (decide (0 ≤ x ∧ x ≤ 65535)) := fun kk => by
    unfold D_darkslidelaw_ToneBends_j1
    by_cases h1 : 0 ≤ x
    · rw [cT (dT h1)]; simp [h1]
    · rw [cF (dF h1)]; simp [h1]
  have j2 : ∀ kk, D_darkslidelaw_ToneBends_j2 5000 l x (decide (0 ≤ x ∧ x ≤ 65535)) kk = kk (if 0 ≤ x ∧ x ≤ 65535 then (0, onV l x) else (3, 0)) := fun kk => by
    unfold D_darkslidelaw_ToneBends_j2
    by_cases h1 : 0 ≤ x ∧ x ≤ 65535
    · rw [cT (dT h1), (onV_code h h1).2, if_pos h1]; rfl
    · rw [cF (dF h1), if_neg h1]
  rw [j1, j2]
  cases hp : picF W H P
  · by_cases h1 : 0 ≤ x ∧ x ≤ 65535
    · rw [if_pos h1, if_pos h1]
      unfold D_darkslidelaw_ToneBends_j4
      simp only [bsome, Bool.true_eq_false, if_false, if_true, eq_self, toneBegun_eq, h0, cond_true, cond_false, decide_true]
    · rw [if_neg h1, if_neg h1]
      unfold D_darkslidelaw_ToneBends_j4
      simp only [bsome, Bool.true_eq_false, if_false, if_true, eq_self, toneBegun_eq, h0, cond_true, cond_false, decide_true]
  · have hl := side_len (picF_side hp)
    have hsm := same_any 5000 W H P.length ((List.range P.length).map (fun i => bendP l (P.getD i px0))) (by simp) hl.1 (by omega)
    by_cases h1 : 0 ≤ x ∧ x ≤ 65535
    · rw [if_pos h1, if_pos h1]
      unfold D_darkslidelaw_ToneBends_j3
      simp only [bsome, Bool.true_eq_false, if_false, bent_eq h hp, toneBegun_eq, hsm, cond_true, cond_false, decide_true]
    · rw [if_neg h1, if_neg h1]
      unfold D_darkslidelaw_ToneBends_j3
      simp only [bsome, Bool.true_eq_false, if_false, bent_eq h hp, toneBegun_eq, hsm, cond_true, cond_false, decide_true]
theorem onV_rise {l : List Pt} (h : curveP l) {x y : Int} (hx : 0 ≤ x) (hxy : x ≤ y) (hy : y ≤ 65535) : onV l x ≤ onV l y := by
  obtain ⟨i, a, b, e⟩ := on_eq h 5000 (by omega) (x := x) (by omega)
  obtain ⟨j, a', b', e'⟩ := on_eq h 5000 (by omega) (x := y) (by omega)
  unfold onV
  rw [e, e']
  show seg l i x ≤ seg l j y
  have f1 := seg_facts h a b
  have f2 := seg_facts h a' b'
  rcases Nat.lt_trichotomy i j with hij | hij | hij
  · have := (h.mono (i := i) (j := j - 1) (by omega) (by omega)).2.1
    omega
  · subst hij
    obtain ⟨s1, s2⟩ := h.step (i - 1) (by omega)
    rw [show i - 1 + 1 = i by omega] at s1 s2
    unfold seg
    have := Int.ediv_le_ediv (show 0 < cX l i - cX l (i - 1) by omega) (Int.mul_le_mul_of_nonneg_left (show x - cX l (i - 1) ≤ y - cX l (i - 1) by omega) (show 0 ≤ cY l i - cY l (i - 1) by omega))
    omega
  · have := (h.mono (i := j) (j := i - 1) (by omega) (by omega)).1
    have e : x = y := by omega
    subst e
    rw [seg_one h a a' b b']
    exact Int.le_refl _
theorem onV_point {l : List Pt} (h : curveP l) {k : Nat} (hk : k < l.length) : onV l (cX l k) = cY l k := by
  have hb := h.bd hk
  have hlen := h.len
  obtain ⟨i, a, b, e⟩ := on_eq h 5000 (by omega) (x := cX l k) (by omega)
  unfold onV
  rw [e]
  show seg l i (cX l k) = cY l k
  by_cases h0 : k = 0
  · subst h0
    have : cX l ((1 : Nat) - 1) ≤ cX l 0 ∧ cX l 0 ≤ cX l 1 := ⟨Int.le_refl _, (h.mono (i := 0) (j := 1) (by omega) (by omega)).1⟩
    rw [seg_one h a (j := 1) (by omega) b this]
    exact seg_left (i := 1)
  · rw [seg_one h a (j := k) (by omega) b ⟨(h.mono (by omega) hk).1, Int.le_refl _⟩]
    exact seg_right h (by omega)
theorem toneRises_true (l : List Pt) (o p k : Int) (hk : -9223372036854775808 ≤ k ∧ k ≤ 9223372036854775807) : D_darkslidelaw_ToneRises 5000 l o p k = some true := by
  obtain ⟨b, hb, hf, hc⟩ := right_both l
  have hcv := curve_eq hb hc
  unfold D_darkslidelaw_ToneRises
  cases b
  · replace hcv : ∀ x, D_tone_Curve 5000 l x = some (0, 1) := fun x => by rw [hcv x, if_pos rfl]
    rw [hcv o, bsome, hcv p, bsome]
    dsimp only
    rw [cF (by decide)]
    by_cases h0 : l.length = 0
    · rw [cT (dT (by omega)), toneBegun_eq]; rfl
    · rw [cF (dF (by omega))]
      obtain ⟨i, hi, e⟩ := choose_eq 5000 k l.length (by omega) hk
      rw [e, bsome, idx_getD l hi, bsome, hcv, bsome, toneBegun_eq]; rfl
  · have h := hc.1 rfl
    have hl := h.len
    replace hcv : ∀ x, D_tone_Curve 5000 l x = some (if 0 ≤ x ∧ x ≤ 65535 then (onV l x, 0) else (0, 3)) := fun x => by rw [hcv x, if_neg (by simp)]
    have tail : (cond (decide ((l.length : Int) = 0)) (Option.bind (D_darkslidelaw_toneBegun 5000) fun r16 => cond r16 (some (decide ((if 0 ≤ o ∧ o ≤ 65535 then (onV l o, (0 : Int)) else (0, 3)).2 = 1))) (some false)) (
      Option.bind (D_darkslidelaw_choose 5000 k (l.length : Int)) fun r17 => Option.bind (idx l r17) fun e4 => Option.bind (D_tone_Curve 5000 l e4.1) fun r18 =>
      Option.bind (D_darkslidelaw_toneBegun 5000) fun r19 => cond r19 (cond (!decide (r18.2 = 0)) (some true) (some (decide (r18.1 = e4.2)))) (some false))) = some true := by
      rw [cF (dF (by omega))]
      obtain ⟨i, hi, e⟩ := choose_eq 5000 k l.length (by omega) hk
      have hb := h.bd hi
      have hpt := onV_point h hi
      simp only [cX, cY] at hb hpt
      rw [e, bsome, idx_getD l hi, bsome, hcv, bsome, toneBegun_eq, bsome, cond_true, if_pos (by omega)]
      rw [cF (by rfl), hpt]
      simp
    rw [hcv o, bsome, hcv p, bsome]
    by_cases ho : 0 ≤ o ∧ o ≤ 65535
    · rw [if_pos ho] at tail ⊢
      by_cases hp : 0 ≤ p ∧ p ≤ 65535
      · rw [if_pos hp, cT (dT rfl), cT (dT rfl)]
        by_cases hop : o ≤ p
        · have := onV_rise h ho.1 hop hp.2
          rw [cT (dT hop), cF (dF (by dsimp only; omega))]
          exact tail
        · rw [cF (dF hop)]
          exact tail
      · rw [if_neg hp, cT (dT rfl), cF (by decide)]
        exact tail
    · rw [if_neg ho] at tail ⊢
      rw [cF (by decide)]
      exact tail
end Go.Proofs.Ytpmnfhifmmfglaa
