/- The laws MosaicFills and MosaicKeeps hold of the plain programs. -/
import Derived.Test.YtpmnfhifmmfglaaPMos
set_option linter.unusedVariables false
set_option linter.unusedSimpArgs false
set_option linter.unusedSectionVars false
namespace Go.Proofs.Ytpmnfhifmmfglaa
open Go

theorem fill_eq (W H : Int) (P : List Int) (phase : Int) (hl : P.length ≤ 9223372036854775807) : D_mosaic_Fill 5000 W H P phase = some (if planeFine W H P = false then (0, 0, [], 1) else if 0 ≤ phase ∧ phase ≤ 3 then (W, H, mkL W.toNat H.toNat (pF W.toNat H.toNat P phase), 0) else (0, 0, [], 3)) := by
  unfold D_mosaic_Fill
  rw [repair_nil 5000 W H P hl, bsome]
  cases hq : planeFine W H P
  · rfl
  · obtain ⟨w, h, rfl, rfl, w1, w2, w3, w4, hlen, hm, hall⟩ := plane_nat hq
    rw [if_neg (by simp), if_neg (by simp), cF (by rfl)]
    by_cases a1 : phase < 0
    · rw [cT (dT a1), if_neg (by omega)]
    rw [cF (dF a1)]
    by_cases a2 : 3 < phase
    · rw [cT (dT a2), if_neg (by omega)]
    rw [cF (dF a2), if_pos (by omega), Int.toNat_natCast, Int.toNat_natCast]
    exact fill_full ⟨w1, w2, w3, w4⟩ hlen (plane_up hlen hall) (by omega) _
/-! ### Taking the places' own colours -/
def partC (c : Int) (p : Px) : Int := if c = 0 then p.1 else if c = 1 then p.2.1 else p.2.2
def takeL (W : Nat) (P : List Px) (phase : Int) : List Int := (List.range P.length).map fun i => partC (colI phase ((i % W : Nat) : Int) ((i / W : Nat) : Int)) (P.getD i px0)
section
variable {W H : Nat} {P : List Px} (hp : picF W H P = true) {phase : Int} (hph : 0 ≤ phase ∧ phase ≤ 3)
include hp hph
theorem takeP_l1 (kk) : ∀ (d k fuel : Nat), k + d = P.length → d < fuel →
    D_mosaic_Take_l1 5000 W P phase kk fuel ((List.range k).map (fun i => partC (colI phase ((i % W : Nat) : Int) ((i / W : Nat) : Int)) (P.getD i px0)), (k : Int)) = kk (takeL W P phase, (P.length : Int)) := by
  obtain ⟨h1, h2, h3, h4, h5, h6⟩ := side_nat W H P (picF_side hp)
  intro d
  induction d with
  | zero =>
    intro k fuel hk hf
    obtain ⟨fuel, rfl⟩ : ∃ m, fuel = m + 1 := ⟨fuel - 1, by omega⟩
    obtain rfl : k = P.length := by omega
    unfold D_mosaic_Take_l1
    rw [cF (dF (by omega))]; rfl
  | succ d ih =>
    intro k fuel hk hf
    obtain ⟨fuel, rfl⟩ : ∃ m, fuel = m + 1 := ⟨fuel - 1, by omega⟩
    have hlt : k < P.length := by omega
    obtain ⟨t1, t2⟩ := tdm k (show 0 < W by omega)
    obtain ⟨l1, l2, _⟩ := lt_of_place (show k < W * H by omega)
    have hx := List.getElem?_eq_getElem hlt
    have hg : P.getD k px0 = P[k] := by rw [List.getD_eq_getElem?_getD, hx]; rfl
    have q0 : (0 : Int) ≤ ((k % W : Nat) : Int) := Int.natCast_nonneg _
    have q1 : (0 : Int) ≤ ((k / W : Nat) : Int) := Int.natCast_nonneg _
    have hr := colI_in phase ((k % W : Nat) : Int) ((k / W : Nat) : Int)
    have hs := map_snoc (fun i => partC (colI phase ((i % W : Nat) : Int) ((i / W : Nat) : Int)) (P.getD i px0)) k
    have hih := ih (k + 1) fuel (by omega) (by omega)
    rw [← hs] at hih
    have cu : ((k % W : Nat) : Int) < 64 := by have : k % W < 64 := by omega
                                               exact_mod_cast this
    have cv : ((k / W : Nat) : Int) < 64 := by have : k / W < 64 := by omega
                                               exact_mod_cast this
    unfold D_mosaic_Take_l1
    rw [cT (dT (by omega)), nz_eq (by omega), bsome, bsome, t1, t2, w64 (x := ((k / W : Nat) : Int)) ⟨by omega, by omega⟩, colour_eq 5000 hph ⟨q0, cu⟩ ⟨q1, cv⟩, bsome, idx_nat, hx, bsome]
    rw [app_eq (by simp; omega), app_eq (by simp; omega), app_eq (by simp; omega), bsome, bsome, bsome, w64 (x := (k : Int) + 1) (by omega)]
    dsimp only at hih ⊢
    rw [hg] at hih
    have hcc : colI phase ((k % W : Nat) : Int) ((k / W : Nat) : Int) = 0 ∨ colI phase ((k % W : Nat) : Int) ((k / W : Nat) : Int) = 1 ∨ colI phase ((k % W : Nat) : Int) ((k / W : Nat) : Int) = 2 := by omega
    rcases hcc with hcc | hcc | hcc
    · rw [hcc] at hih ⊢; rw [cT (by decide)]; exact hih
    · rw [hcc] at hih ⊢; rw [cF (by decide), cT (by decide)]; exact hih
    · rw [hcc] at hih ⊢; rw [cF (by decide), cF (by decide)]; exact hih
theorem taken_l1 (kk) : ∀ (d k fuel : Nat), k + d = P.length → d < fuel →
    D_darkslideref_Taken_l1 5000 W P phase kk fuel ((List.range k).map (fun i => partC (colI phase ((i % W : Nat) : Int) ((i / W : Nat) : Int)) (P.getD i px0)), (k : Int)) = kk (takeL W P phase, (P.length : Int)) := by
  obtain ⟨h1, h2, h3, h4, h5, h6⟩ := side_nat W H P (picF_side hp)
  intro d
  induction d with
  | zero =>
    intro k fuel hk hf
    obtain ⟨fuel, rfl⟩ : ∃ m, fuel = m + 1 := ⟨fuel - 1, by omega⟩
    obtain rfl : k = P.length := by omega
    unfold D_darkslideref_Taken_l1
    rw [cF (dF (by omega))]; rfl
  | succ d ih =>
    intro k fuel hk hf
    obtain ⟨fuel, rfl⟩ : ∃ m, fuel = m + 1 := ⟨fuel - 1, by omega⟩
    have hlt : k < P.length := by omega
    obtain ⟨t1, t2⟩ := tdm k (show 0 < W by omega)
    obtain ⟨l1, l2, _⟩ := lt_of_place (show k < W * H by omega)
    have hx := List.getElem?_eq_getElem hlt
    have hg : P.getD k px0 = P[k] := by rw [List.getD_eq_getElem?_getD, hx]; rfl
    have q0 : (0 : Int) ≤ ((k % W : Nat) : Int) := Int.natCast_nonneg _
    have q1 : (0 : Int) ≤ ((k / W : Nat) : Int) := Int.natCast_nonneg _
    have hr := colI_in phase ((k % W : Nat) : Int) ((k / W : Nat) : Int)
    have hs := map_snoc (fun i => partC (colI phase ((i % W : Nat) : Int) ((i / W : Nat) : Int)) (P.getD i px0)) k
    have hih := ih (k + 1) fuel (by omega) (by omega)
    rw [← hs] at hih
    have cu : ((k % W : Nat) : Int) < 64 := by have : k % W < 64 := by omega
                                               exact_mod_cast this
    have cv : ((k / W : Nat) : Int) < 64 := by have : k / W < 64 := by omega
                                               exact_mod_cast this
    have hix : idx [P[k].1, P[k].2.1, P[k].2.2] (colI phase ((k % W : Nat) : Int) ((k / W : Nat) : Int)) = some (partC (colI phase ((k % W : Nat) : Int) ((k / W : Nat) : Int)) P[k]) := by
      have hcc : colI phase ((k % W : Nat) : Int) ((k / W : Nat) : Int) = 0 ∨ colI phase ((k % W : Nat) : Int) ((k / W : Nat) : Int) = 1 ∨ colI phase ((k % W : Nat) : Int) ((k / W : Nat) : Int) = 2 := by omega
      rcases hcc with hcc | hcc | hcc <;> rw [hcc] <;> rfl
    unfold D_darkslideref_Taken_l1
    rw [cT (dT (by omega)), idx_nat, hx, bsome]
    unfold D_darkslideref_parts
    rw [bsome, nz_eq (by omega), bsome, bsome, t1, t2, w64 (x := ((k / W : Nat) : Int)) ⟨by omega, by omega⟩, colourAt_eq 5000 hph ⟨q0, cu⟩ ⟨q1, cv⟩, bsome, hix, bsome, app_eq (by simp; omega), bsome, bsome, w64 (x := (k : Int) + 1) (by omega)]
    skip
    rw [hg] at hih
    exact hih
end
theorem take_eq (W H : Int) (P : List Px) (phase : Int) : D_mosaic_Take 5000 W H P phase = some (if picF W H P = false then (0, 0, [], 1) else if 0 ≤ phase ∧ phase ≤ 3 then (W, H, takeL W.toNat P phase, 0) else (0, 0, [], 3)) := by
  unfold D_mosaic_Take
  rw [fine_eq 5000 W H P (by omega), bsome]
  cases hp : picF W H P
  · rfl
  · have hs := picF_side hp
    obtain ⟨W, rfl⟩ : ∃ n : Nat, W = n := ⟨W.toNat, by have := hs.1; omega⟩
    obtain ⟨H, rfl⟩ : ∃ n : Nat, H = n := ⟨H.toNat, by have := hs.2.2.1; omega⟩
    obtain ⟨h1, h2, h3, h4, h5, h6⟩ := side_nat W H P hs
    rw [cF (by rfl), if_neg (by simp)]
    by_cases a1 : phase < 0
    · rw [cT (dT a1), if_neg (by omega)]
    rw [cF (dF a1)]
    by_cases a2 : 3 < phase
    · rw [cT (dT a2), if_neg (by omega)]
    rw [cF (dF a2), if_pos (by omega), Int.toNat_natCast]
    exact takeP_l1 hp (by omega) _ P.length 0 5000 (by omega) (by omega)
theorem taken_eq {W H : Int} {P : List Px} (hp : picF W H P = true) {phase : Int} (hph : 0 ≤ phase ∧ phase ≤ 3) : D_darkslideref_Taken 5000 W H P phase = some (W, H, takeL W.toNat P phase) := by
  have hs := picF_side hp
  obtain ⟨W, rfl⟩ : ∃ n : Nat, W = n := ⟨W.toNat, by have := hs.1; omega⟩
  obtain ⟨H, rfl⟩ : ∃ n : Nat, H = n := ⟨H.toNat, by have := hs.2.2.1; omega⟩
  obtain ⟨h1, h2, h3, h4, h5, h6⟩ := side_nat W H P hs
  unfold D_darkslideref_Taken
  rw [Int.toNat_natCast]
  exact taken_l1 hp hph _ P.length 0 5000 (by omega) (by omega)
theorem mosaicBegun_eq : D_darkslidelaw_mosaicBegun 5000 = some true := by kernel_rfl
theorem mosaicFills_true (W H : Int) (P : List Int) (qW qH : Int) (Q : List Px) (phase : Int) (hl : P.length ≤ 9223372036854775807) : D_darkslidelaw_MosaicFills 5000 W H P qW qH Q phase = some true := by
  have h0 := same_eq 5000 0 0 [] (by simp) (by simp)
  have h1 := samePlanes_eq 5000 0 0 [] (by simp) (by omega)
  unfold D_darkslidelaw_MosaicFills
  rw [fill_eq W H P phase hl, bsome, take_eq qW qH Q phase, bsome, planeFine_eq 5000 W H P (by omega), pictureFine_eq 5000 qW qH Q (by omega), mosaicBegun_eq]
  by_cases hph : 0 ≤ phase ∧ phase ≤ 3
  · rw [cT (dT hph.1), bsome]
    rw [if_pos hph, if_pos hph]
    cases hf : planeFine W H P
    · cases hg : picF qW qH Q
      · simp only [bsome, cond_false, cond_true, if_true, h0, h1]; rfl
      · have hs := side_len (picF_side hg)
        have h2 := samePlanes_eq 5000 qW qH (takeL qW.toNat Q phase) (by simp [takeL]; omega) (by omega)
        simp only [bsome, cond_false, cond_true, if_true, h0, taken_eq hg hph, dT hph.2, Bool.true_eq_false, if_false, decide_true, h2]
    · obtain ⟨w, h, rfl, rfl, w1, w2, w3, w4, hlen, hm, hall⟩ := plane_nat hf
      have hfl := filled_eq ⟨w1, w2, w3, w4⟩ hlen (plane_up hlen hall) hph
      have h3 := same_any 5000 w h (w * h) (mkL w h (pF w h P phase)) (mkL_len _ _ _) hm (by omega)
      cases hg : picF qW qH Q
      · simp only [bsome, cond_false, cond_true, if_true, dT hph.2, hfl, Bool.true_eq_false, if_false, Int.toNat_natCast, h3, h1, decide_true]
      · have hs := side_len (picF_side hg)
        have h2 := samePlanes_eq 5000 qW qH (takeL qW.toNat Q phase) (by simp [takeL]; omega) (by omega)
        simp only [bsome, cond_false, cond_true, if_true, dT hph.2, hfl, Bool.true_eq_false, if_false, Int.toNat_natCast, h3, taken_eq hg hph, decide_true, h2]
  · rw [if_neg hph, if_neg hph]
    by_cases a1 : 0 ≤ phase
    · have a2 : ¬ phase ≤ 3 := by omega
      rw [cT (dT a1), bsome]
      cases hf : planeFine W H P <;> cases hg : picF qW qH Q <;> simp only [bsome, cond_false, cond_true, if_true, dF a2, Bool.true_eq_false, if_false, h0, h1, decide_true] <;> rfl
    · rw [cF (dF a1), bsome]
      cases hf : planeFine W H P <;> cases hg : picF qW qH Q <;> simp only [bsome, cond_false, cond_true, if_true, Bool.true_eq_false, if_false, h0, h1, decide_true] <;> rfl
/-! ### What stays -/
theorem dv_bd {n s top : Int} (ht : 0 ≤ top) (hn : 0 ≤ n) (hs : 0 ≤ s ∧ s ≤ top * n) : 0 ≤ dv n s ∧ dv n s ≤ top := by
  unfold dv
  by_cases h : 0 < n
  · rw [if_pos h]
    exact ⟨Int.ediv_nonneg hs.1 hn, Int.ediv_le_of_le_mul h hs.2⟩
  · rw [if_neg h]
    have : n = 0 := by omega
    subst this
    simp at hs
    omega
theorem pix_bd {W H : Nat} {P : List Int} {top : Int} (ht : 0 ≤ top) (hP : upTo P top) (phase : Int) (x y : Nat) : (0 ≤ (pF W H P phase x y).1 ∧ (pF W H P phase x y).1 ≤ top) ∧ (0 ≤ (pF W H P phase x y).2.1 ∧ (pF W H P phase x y).2.1 ≤ top) ∧ (0 ≤ (pF W H P phase x y).2.2 ∧ (pF W H P phase x y).2.2 ≤ top) := by
  have own : 0 ≤ pAt W P ((x : Int), (y : Int)) ∧ pAt W P ((x : Int), (y : Int)) ≤ top := hP _
  have d : ∀ c, 0 ≤ dv (cnt phase c (fullL W H x y)) (sm W P phase c (fullL W H x y)) ∧ dv (cnt phase c (fullL W H x y)) (sm W P phase c (fullL W H x y)) ≤ top := fun c => dv_bd ht (cnt_bd _ _ _).1 (sm_bd hP phase c _)
  unfold pF pixV setC
  split
  · exact ⟨own, d 1, d 2⟩
  · split
    · exact ⟨d 0, own, d 2⟩
    · exact ⟨d 0, d 1, own⟩
theorem part_own {W H : Nat} {P : List Int} {phase : Int} (x y : Nat) : partC (colI phase (x : Int) (y : Int)) (pF W H P phase x y) = pAt W P ((x : Int), (y : Int)) := by
  unfold pF pixV setC partC
  split
  · rfl
  · split <;> rfl
theorem takeL_fill {W H : Nat} {P : List Int} (hl : P.length = W * H) (phase : Int) : takeL W (mkL W H (pF W H P phase)) phase = P := by
  unfold takeL
  apply List.ext_getElem?
  intro i
  rw [mkL_len]
  by_cases hi : i < W * H
  · obtain ⟨h1, h2, h3⟩ := lt_of_place hi
    rw [List.getElem?_map, List.getElem?_range hi, Option.map_some, List.getD_eq_getElem?_getD, mkL_get _ hi]
    show some (partC (colI phase ((i % W : Nat) : Int) ((i / W : Nat) : Int)) (pF W H P phase (i % W) (i / W))) = _
    rw [part_own]
    unfold pAt
    have e : (((i / W : Nat) : Int) * (W : Int) + ((i % W : Nat) : Int)).toNat = i := by
      rw [← Int.natCast_mul, ← Int.natCast_add, Int.toNat_natCast, Nat.div_add_mod']
    dsimp only
    rw [e, List.getD_eq_getElem?_getD, List.getElem?_eq_getElem (by omega)]; rfl
  · rw [List.getElem?_eq_none (by simp; omega), List.getElem?_eq_none (by omega)]
theorem keeps_l1 (P : List Int) (hP : P.length ≤ 4096) (kk) : ∀ (d k fuel : Nat) (t : Int), k + d = P.length → d < fuel → 0 ≤ t → (∀ j, j < k → P.getD j 0 ≤ t) →
    ∃ top, 0 ≤ top ∧ (∀ j, j < P.length → P.getD j 0 ≤ top) ∧ D_darkslidelaw_MosaicKeeps_l1 5000 P kk fuel (t, (k : Int)) = kk (top, (P.length : Int)) := by
  intro d
  induction d with
  | zero =>
    intro k fuel t hk hf ht hj
    obtain ⟨fuel, rfl⟩ : ∃ m, fuel = m + 1 := ⟨fuel - 1, by omega⟩
    obtain rfl : k = P.length := by omega
    refine ⟨t, ht, hj, ?_⟩
    unfold D_darkslidelaw_MosaicKeeps_l1
    rw [cF (dF (by omega))]
  | succ d ih =>
    intro k fuel t hk hf ht hj
    obtain ⟨fuel, rfl⟩ : ∃ m, fuel = m + 1 := ⟨fuel - 1, by omega⟩
    have hlt : k < P.length := by omega
    have hx := List.getElem?_eq_getElem hlt
    have hg : P.getD k 0 = P[k] := by rw [List.getD_eq_getElem?_getD, hx]; rfl
    obtain ⟨top, a, b, c⟩ := ih (k + 1) fuel (max t P[k]) (by omega) (by omega) (by omega) (fun j hjk => by
      by_cases e : j = k
      · subst e; rw [hg]; omega
      · have := hj j (by omega); omega)
    refine ⟨top, a, b, ?_⟩
    unfold D_darkslidelaw_MosaicKeeps_l1
    rw [cT (dT (by omega)), idx_nat, hx, bsome, bsome, bsome, w64 (by omega)]
    exact c
theorem mosaicKeeps_true (W H : Int) (P : List Int) (phase at_ : Int) (hl : P.length ≤ 9223372036854775807) (ha : -9223372036854775808 ≤ at_ ∧ at_ ≤ 9223372036854775807) : D_darkslidelaw_MosaicKeeps 5000 W H P phase at_ = some true := by
  unfold D_darkslidelaw_MosaicKeeps
  rw [fill_eq W H P phase hl, bsome, mosaicBegun_eq]
  cases hf : planeFine W H P
  · rfl
  rw [if_neg (by simp)]
  by_cases hph : 0 ≤ phase ∧ phase ≤ 3
  rotate_left
  · rw [if_neg hph]; rfl
  obtain ⟨w, h, rfl, rfl, w1, w2, w3, w4, hlen, hm, hall⟩ := plane_nat hf
  rw [if_pos hph, Int.toNat_natCast, Int.toNat_natCast]
  dsimp only
  rw [cF (by rfl)]
  have hpic : picF w h (mkL w h (pF w h P phase)) = true := picF_mk ⟨w1, w2, w3, w4⟩ fun x y _ _ => by
    obtain ⟨a, b, c⟩ := pix_bd (W := w) (H := h) (by omega) (plane_up hlen hall) phase x y
    simp only [okPx, decide_eq_true_eq]; omega
  have htk := take_eq w h (mkL w h (pF w h P phase)) phase
  rw [hpic, if_neg (by simp), if_pos hph, Int.toNat_natCast, takeL_fill hlen] at htk
  rw [htk, bsome]
  obtain ⟨top, t1, t2, t3⟩ := keeps_l1 P (by omega) (fun (x : Int × Int) =>
    cond (decide (((mkL w h (pF w h P phase)).length : Int) = 0)) (some false) (
    Option.bind (D_darkslidelaw_choose 5000 at_ ((mkL w h (pF w h P phase)).length : Int)) fun r5 =>
    Option.bind (idx (mkL w h (pF w h P phase)) r5) fun e3 =>
    Option.bind (some true) fun r6 => cond r6 (cond (decide ((0 : Int) = 0)) (
    Option.bind (D_darkslideref_SamePlanes 5000 w h P w h P) fun r7 =>
    cond r7 (cond (decide (e3.1 ≤ x.1)) (cond (decide (e3.2.1 ≤ x.1)) (some (decide (e3.2.2 ≤ x.1))) (some false)) (some false)) (some false)) (some false)) (some false))) P.length 0 5000 0 (by omega) (by omega) (by omega) (fun j hj => by omega)
  refine t3.trans ?_
  dsimp only
  have hpos := Nat.mul_pos (show 0 < w by omega) (show 0 < h by omega)
  rw [mkL_len, cF (dF (by omega))]
  obtain ⟨k, hk, e⟩ := choose_eq 5000 at_ (w * h) (by omega) ha
  have hup : upTo P top := fun i => by
    by_cases hi : i < w * h
    · exact ⟨(hall i hi).1, t2 i (by omega)⟩
    · rw [List.getD_eq_getElem?_getD, List.getElem?_eq_none (by omega)]; exact ⟨Int.le_refl _, t1⟩
  obtain ⟨a, b, c⟩ := pix_bd (W := w) (H := h) t1 hup phase (k % w) (k / w)
  rw [e, bsome, idx_nat, mkL_get _ hk, bsome, bsome, cond_true, cT (by rfl), samePlanes_eq 5000 w h P (by omega) (by omega), bsome, cond_true, cT (dT a.2), cT (dT b.2), dT c.2]
end Go.Proofs.Ytpmnfhifmmfglaa
