/- The law ToneMixes holds of the plain programs. -/
import Derived.Test.YtpmnfhifmmfglaaPEachM
import Derived.Test.YtpmnfhifmmfglaaPDown
import Derived.Test.YtpmnfhifmmfglaaPToneB
set_option linter.unusedVariables false
set_option linter.unusedSimpArgs false
set_option linter.unusedSectionVars false
namespace Go.Proofs.Ytpmnfhifmmfglaa
open Go

def okM (m : Int) : Bool := decide (-32768 ≤ m ∧ m ≤ 32768)
section
variable (N : Nat) (m0 m1 m2 m3 m4 m5 m6 m7 m8 : Int)
theorem mix_l1 (kk) : ∀ (d k fuel : Nat) (b : Bool), k + d = 9 → d < fuel →
    D_tone_Mix_l1 N m0 m1 m2 m3 m4 m5 m6 m7 m8 kk fuel (b, (k : Int)) = kk (b && ([m0, m1, m2, m3, m4, m5, m6, m7, m8].drop k).all okM, 9) := by
  intro d
  induction d with
  | zero =>
    intro k fuel b hk hf
    obtain ⟨fuel, rfl⟩ : ∃ m, fuel = m + 1 := ⟨fuel - 1, by omega⟩
    obtain rfl : k = 9 := by omega
    unfold D_tone_Mix_l1
    rw [cF (dF (by omega))]
    simp
  | succ d ih =>
    intro k fuel b hk hf
    obtain ⟨fuel, rfl⟩ : ∃ m, fuel = m + 1 := ⟨fuel - 1, by omega⟩
    have hlt : k < [m0, m1, m2, m3, m4, m5, m6, m7, m8].length := by show k < 9; omega
    unfold D_tone_Mix_l1
    rw [cT (dT (by omega)), idx_nat, List.getElem?_eq_getElem hlt, bsome, w64 (by omega), List.drop_eq_getElem_cons hlt, List.all_cons]
    obtain ⟨e, he⟩ : ∃ e, [m0, m1, m2, m3, m4, m5, m6, m7, m8][k] = e := ⟨_, rfl⟩
    rw [he]
    have key : ∀ c, D_tone_Mix_l1 N m0 m1 m2 m3 m4 m5 m6 m7 m8 kk fuel (c, (k : Int) + 1) = kk (c && ([m0, m1, m2, m3, m4, m5, m6, m7, m8].drop (k + 1)).all okM, 9) := fun c => ih (k + 1) fuel c (by omega) (by omega)
    rw [key, key]
    cases b
    · rfl
    · rw [cond_true]
      by_cases h1 : -32768 ≤ e
      · rw [cT (dT h1), okM]
        by_cases h2 : e ≤ 32768
        · rw [dT h2, dT ⟨h1, h2⟩]; simp
        · rw [dF h2, dF (fun h => h2 h.2)]; simp
      · rw [cF (dF h1), okM, dF (fun h => h1 h.1)]; simp
theorem mixFine_l1 (kk) : ∀ (d k fuel : Nat), k + d = 9 → d < fuel →
    D_darkslideref_MixFine_l1 N m0 m1 m2 m3 m4 m5 m6 m7 m8 kk fuel (k : Int) = if ([m0, m1, m2, m3, m4, m5, m6, m7, m8].drop k).all okM then kk 9 else some false := by
  intro d
  induction d with
  | zero =>
    intro k fuel hk hf
    obtain ⟨fuel, rfl⟩ : ∃ m, fuel = m + 1 := ⟨fuel - 1, by omega⟩
    obtain rfl : k = 9 := by omega
    unfold D_darkslideref_MixFine_l1
    rw [cF (dF (by omega))]
    simp
  | succ d ih =>
    intro k fuel hk hf
    obtain ⟨fuel, rfl⟩ : ∃ m, fuel = m + 1 := ⟨fuel - 1, by omega⟩
    have hlt : k < [m0, m1, m2, m3, m4, m5, m6, m7, m8].length := by show k < 9; omega
    unfold D_darkslideref_MixFine_l1
    rw [cT (dT (by omega)), show inr (k : Int) 9 = some () from by unfold inr; rw [if_pos (by omega)], bsome, idx_nat, List.getElem?_eq_getElem hlt, bsome, within_eq, bsome, List.drop_eq_getElem_cons hlt, List.all_cons]
    obtain ⟨e, he⟩ : ∃ e, [m0, m1, m2, m3, m4, m5, m6, m7, m8][k] = e := ⟨_, rfl⟩
    rw [he]
    have hih := ih (k + 1) fuel (by omega) (by omega)
    by_cases h : -32768 ≤ e ∧ e ≤ 32768
    · rw [cF (by simp [h]), bsome, w64 (by omega), okM, dT h, Bool.true_and]
      exact hih
    · rw [cT (by simp only [Bool.not_eq_true', decide_eq_false_iff_not]; exact h), okM, dF h]; simp
def mixAll : Bool := [m0, m1, m2, m3, m4, m5, m6, m7, m8].all okM
theorem mixFine_eq (hN : 5000 ≤ N) : D_darkslideref_MixFine N m0 m1 m2 m3 m4 m5 m6 m7 m8 = some (mixAll m0 m1 m2 m3 m4 m5 m6 m7 m8) := by
  unfold D_darkslideref_MixFine
  refine (mixFine_l1 N m0 m1 m2 m3 m4 m5 m6 m7 m8 _ 9 0 N (by omega) (by omega)).trans ?_
  rw [List.drop_zero, ← mixAll]
  cases mixAll m0 m1 m2 m3 m4 m5 m6 m7 m8 <;> rfl
/-- One part of a mixed pixel, as the code makes it. -/
def mix1 (a b c : Int) (p : Px) : Int := max 0 (min (shrI .i64 (IntKind.i64.wrap (IntKind.i64.wrap (IntKind.i64.wrap (a * p.1) + IntKind.i64.wrap (b * p.2.1)) + IntKind.i64.wrap (c * p.2.2))) 12) 65535)
def mixP (p : Px) : Px := (mix1 m0 m1 m2 p, mix1 m3 m4 m5 p, mix1 m6 m7 m8 p)
theorem mix_2 (p : Px) (x y : Int) : D_tone_Mix_2 N p.1 p.2.1 p.2.2 x y m0 m1 m2 m3 m4 m5 m6 m7 m8 = some (mixP m0 m1 m2 m3 m4 m5 m6 m7 m8 p) := rfl
theorem mix_eq (hN : 5000 ≤ N) (W H : Int) (P : List Px) : D_tone_Mix N W H P m0 m1 m2 m3 m4 m5 m6 m7 m8 =
    some (if picF W H P = false then (0, 0, [], 1) else if mixAll m0 m1 m2 m3 m4 m5 m6 m7 m8 = false then (0, 0, [], 3) else (W, H, (List.range P.length).map (fun i => mixP m0 m1 m2 m3 m4 m5 m6 m7 m8 (P.getD i px0)), 0)) := by
  unfold D_tone_Mix
  refine (mix_l1 N m0 m1 m2 m3 m4 m5 m6 m7 m8 _ 9 0 N true (by omega) (by omega)).trans ?_
  rw [List.drop_zero, ← mixAll, Bool.true_and]
  cases hp : picF W H P
  · simp only [eachM_no N hN m0 m1 m2 m3 m4 m5 m6 m7 m8 hp, bsome]
    rw [cF (by decide)]; rfl
  · have hs := picF_side hp
    obtain ⟨W, rfl⟩ : ∃ n : Nat, W = n := ⟨W.toNat, by have := hs.1; omega⟩
    obtain ⟨H, rfl⟩ : ∃ n : Nat, H = n := ⟨H.toNat, by have := hs.2.2.1; omega⟩
    have := eachM_eq N hN m0 m1 m2 m3 m4 m5 m6 m7 m8 hp (fun i => mixP m0 m1 m2 m3 m4 m5 m6 m7 m8 (P.getD i px0)) (fun i p hi => by rw [mix_2, List.getD_eq_getElem?_getD, hi]; rfl)
    simp only [this, bsome]
    rw [cT (by rfl), if_neg (by simp)]
    cases mixAll m0 m1 m2 m3 m4 m5 m6 m7 m8 <;> rfl
theorem mixed_l2 (N fuel : Nat) (r6 : Px) (kk) : D_darkslideref_Mixed_l2 N m0 m1 m2 m3 m4 m5 m6 m7 m8 r6 kk (fuel + 4) (0, 0, 0, 0) =
    Option.bind (D_darkslideref_down N (IntKind.i64.wrap (IntKind.i64.wrap (IntKind.i64.wrap (m0 * r6.1) + IntKind.i64.wrap (m1 * r6.2.1)) + IntKind.i64.wrap (m2 * r6.2.2))) 4096) fun a =>
    Option.bind (D_darkslideref_clamp N a) fun a' =>
    Option.bind (D_darkslideref_down N (IntKind.i64.wrap (IntKind.i64.wrap (IntKind.i64.wrap (m3 * r6.1) + IntKind.i64.wrap (m4 * r6.2.1)) + IntKind.i64.wrap (m5 * r6.2.2))) 4096) fun b =>
    Option.bind (D_darkslideref_clamp N b) fun b' =>
    Option.bind (D_darkslideref_down N (IntKind.i64.wrap (IntKind.i64.wrap (IntKind.i64.wrap (m6 * r6.1) + IntKind.i64.wrap (m7 * r6.2.1)) + IntKind.i64.wrap (m8 * r6.2.2))) 4096) fun c =>
    Option.bind (D_darkslideref_clamp N c) fun c' => kk (a', b', c', 3) := by kernel_rfl
theorem mix1_eq {a b c : Int} {p : Px} (ha : okM a = true) (hb : okM b = true) (hc : okM c = true) (hp : okPx p = true) (N : Nat) :
    (Option.bind (D_darkslideref_down N (IntKind.i64.wrap (IntKind.i64.wrap (IntKind.i64.wrap (a * p.1) + IntKind.i64.wrap (b * p.2.1)) + IntKind.i64.wrap (c * p.2.2))) 4096) fun r => D_darkslideref_clamp N r) = some (mix1 a b c p) := by
  simp only [okM, okPx, decide_eq_true_eq] at ha hb hc hp
  have h1 := mul_in (a := 32768) (b := 65535) (x := a) (y := p.1) (by omega) (by omega)
  have h2 := mul_in (a := 32768) (b := 65535) (x := b) (y := p.2.1) (by omega) (by omega)
  have h3 := mul_in (a := 32768) (b := 65535) (x := c) (y := p.2.2) (by omega) (by omega)
  unfold mix1
  rw [w64 (x := a * p.1) (by omega), w64 (x := b * p.2.1) (by omega), w64 (x := c * p.2.2) (by omega), w64 (x := a * p.1 + b * p.2.1) (by omega), w64 (by omega), down_eq N (by omega) (by omega), bsome, shr12]
  rfl
end
section
variable (m0 m1 m2 m3 m4 m5 m6 m7 m8 : Int)
theorem mixed_l1 {W H : Int} {P : List Px} (hp : picF W H P = true) (hm : mixAll m0 m1 m2 m3 m4 m5 m6 m7 m8 = true) (kk) : ∀ (d k fuel : Nat), k + d = P.length → d < fuel →
    D_darkslideref_Mixed_l1 5000 P m0 m1 m2 m3 m4 m5 m6 m7 m8 kk fuel ((List.range k).map (fun i => mixP m0 m1 m2 m3 m4 m5 m6 m7 m8 (P.getD i px0)), (k : Int)) = kk ((List.range P.length).map (fun i => mixP m0 m1 m2 m3 m4 m5 m6 m7 m8 (P.getD i px0)), (P.length : Int)) := by
  have hl := side_len (picF_side hp)
  simp only [mixAll, List.all_cons, List.all_nil, Bool.and_eq_true] at hm
  obtain ⟨o0, o1, o2, o3, o4, o5, o6, o7, o8, _⟩ := hm
  intro d
  induction d with
  | zero =>
    intro k fuel hk hf
    obtain ⟨fuel, rfl⟩ : ∃ m, fuel = m + 1 := ⟨fuel - 1, by omega⟩
    obtain rfl : k = P.length := by omega
    unfold D_darkslideref_Mixed_l1
    rw [cF (dF (by omega))]
  | succ d ih =>
    intro k fuel hk hf
    obtain ⟨fuel, rfl⟩ : ∃ m, fuel = m + 1 := ⟨fuel - 1, by omega⟩
    have hlt : k < P.length := by omega
    have hx := List.getElem?_eq_getElem hlt
    obtain ⟨p, hpe⟩ : ∃ p, P[k] = p := ⟨_, rfl⟩
    rw [hpe] at hx
    have hok : okPx p = true := by have := picF_all hp hx; simpa [okPx] using this
    have hg : P.getD k px0 = p := by rw [List.getD_eq_getElem?_getD, hx]; rfl
    unfold D_darkslideref_Mixed_l1
    rw [cT (dT (by omega)), idx_nat, hx, bsome]
    unfold D_darkslideref_parts
    rw [bsome]
    refine (mixed_l2 m0 m1 m2 m3 m4 m5 m6 m7 m8 5000 4996 (p.1, p.2.1, p.2.2) _).trans ?_
    rw [bind2, mix1_eq (p := p) o0 o1 o2 hok, bsome, bind2, mix1_eq (p := p) o3 o4 o5 hok, bsome, bind2, mix1_eq (p := p) o6 o7 o8 hok, bsome]
    unfold D_darkslideref_pixel
    dsimp only
    have e : (mix1 m0 m1 m2 p, mix1 m3 m4 m5 p, mix1 m6 m7 m8 p) = mixP m0 m1 m2 m3 m4 m5 m6 m7 m8 (P.getD k px0) := by rw [hg]; rfl
    rw [bsome, e, app_eq (by simp; omega), bsome, bsome, w64 (by omega), map_snoc (fun i => mixP m0 m1 m2 m3 m4 m5 m6 m7 m8 (P.getD i px0))]
    exact ih (k + 1) fuel (by omega) (by omega)
theorem mixed_eq {W H : Int} {P : List Px} (hp : picF W H P = true) (hm : mixAll m0 m1 m2 m3 m4 m5 m6 m7 m8 = true) :
    D_darkslideref_Mixed 5000 W H P m0 m1 m2 m3 m4 m5 m6 m7 m8 = some (W, H, (List.range P.length).map (fun i => mixP m0 m1 m2 m3 m4 m5 m6 m7 m8 (P.getD i px0))) := by
  have hl := side_len (picF_side hp)
  unfold D_darkslideref_Mixed
  exact mixed_l1 m0 m1 m2 m3 m4 m5 m6 m7 m8 hp hm (fun x => some (W, H, x.1)) P.length 0 5000 (by omega) (by omega)
theorem toneMixes_true (W H : Int) (P : List Px) : D_darkslidelaw_ToneMixes 5000 W H P m0 m1 m2 m3 m4 m5 m6 m7 m8 = some true := by
  have h0 := same_eq 5000 0 0 [] (by simp) (by simp)
  unfold D_darkslidelaw_ToneMixes
  rw [mix_eq 5000 m0 m1 m2 m3 m4 m5 m6 m7 m8 (by omega), bsome, pictureFine_eq 5000 W H P (by omega), bsome, mixFine_eq 5000 m0 m1 m2 m3 m4 m5 m6 m7 m8 (by omega), toneBegun_eq]
  cases hp : picF W H P
  · simp only [if_true, bsome, h0]; rfl
  · cases hm : mixAll m0 m1 m2 m3 m4 m5 m6 m7 m8
    · simp only [if_true, bsome, h0]; rfl
    · have hl := side_len (picF_side hp)
      simp only [bsome, mixed_eq m0 m1 m2 m3 m4 m5 m6 m7 m8 hp hm]
      rw [if_neg (by simp), if_neg (by simp)]
      have hsm := same_any 5000 W H P.length ((List.range P.length).map (fun i => mixP m0 m1 m2 m3 m4 m5 m6 m7 m8 (P.getD i px0))) (by simp) hl.1 (by omega)
      simp only [hsm]
      rfl
end
end Go.Proofs.Ytpmnfhifmmfglaa
