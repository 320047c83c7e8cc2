/- The law TurnBack holds of the plain programs. -/
import Derived.Test.YtpmnfhifmmfglaaPTurn3
set_option linter.unusedVariables false
set_option linter.unusedSimpArgs false
set_option linter.unusedSectionVars false
namespace Go.Proofs.Ytpmnfhifmmfglaa
open Go

theorem rowsOf_pre {W H : Nat} {P : List Px} (hs : sideOK W H P.length) {x y w h : Nat} (hr : rectOK W H x y w h) : ∀ k, k ≤ h → rowsOf W P x y w k = pre w (fun u v => pxOf P W (x + u) (y + v)) (k * w)
  | 0, _ => by simp [rowsOf, pre]
  | k + 1, hk => by
    have hb := row_bd hs hr k (by omega)
    rw [rowsOf, rowsOf_pre hs hr k (by omega), pre_rowF]
    congr 1
    have e1 : (((y : Int) + k) * W + x + w).toNat = ((y + k) * W + x) + w := by
      rw [show ((y : Int) + k) * W + x + w = ((((y + k) * W + x) + w : Nat) : Int) by rw [Int.natCast_add, Int.natCast_add, Int.natCast_mul, Int.natCast_add], Int.toNat_natCast]
    have e2 : (((y : Int) + k) * W + x).toNat = (y + k) * W + x := by
      rw [show ((y : Int) + k) * W + x = (((y + k) * W + x : Nat) : Int) by rw [Int.natCast_add, Int.natCast_mul, Int.natCast_add], Int.toNat_natCast]
    rw [e1, e2, list_split P px0 _ w (by
      have e3 : ((((y + k) * W + x) + w : Nat) : Int) = ((y : Int) + k) * W + x + w := by rw [Int.natCast_add, Int.natCast_add, Int.natCast_mul, Int.natCast_add]
      omega)]
    refine List.map_congr_left fun u _ => ?_
    show _ = P.getD ((y + k) * W + (x + u)) px0
    rw [Nat.add_assoc]
/-- A turned picture by its places. -/
def tF (sw m fl : Bool) (W H : Nat) (f : Nat → Nat → Px) (x y : Nat) : Px :=
  cond sw (f (cond fl (cond sw W H - 1 - y) y) (cond m (cond sw H W - 1 - x) x)) (f (cond m (cond sw H W - 1 - x) x) (cond fl (cond sw W H - 1 - y) y))
theorem cond_lt (b : Bool) {x W : Nat} (h : x < W) : cond b (W - 1 - x) x < W := by cases b <;> simp <;> omega
section
variable {W H : Nat} {f : Nat → Nat → Px} (h : 1 ≤ W ∧ W ≤ 64 ∧ 1 ≤ H ∧ H ≤ 64)
theorem tF_inv (Q : Px → Prop) (hf : ∀ x y, x < W → y < H → Q (f x y)) (sw m fl : Bool) {x y : Nat} (hx : x < cond sw H W) (hy : y < cond sw W H) : Q (tF sw m fl W H f x y) := by
  have h1 := cond_lt m hx
  have h2 := cond_lt fl hy
  unfold tF
  cases sw
  · exact hf _ _ h1 h2
  · exact hf _ _ h2 h1
include h in
theorem side_cond (sw : Bool) : 1 ≤ cond sw H W ∧ cond sw H W ≤ 64 ∧ 1 ≤ cond sw W H ∧ cond sw W H ≤ 64 := by cases sw <;> simp <;> omega
include h in
theorem turn_mk (hf : ∀ x y, x < W → y < H → okPx (f x y) = true) {N : Nat} (hN : 5000 ≤ N) {o : Int} (ho : 1 ≤ o ∧ o ≤ 8) :
    D_turn_Turn N W H (mkL W H f) o = some (((cond (swO o) H W : Nat) : Int), ((cond (swO o) W H : Nat) : Int), mkL (cond (swO o) H W) (cond (swO o) W H) (tF (swO o) (miO o) (flO o) W H f), 0) := by
  have hp := picF_mk h hf
  obtain ⟨a, b, l, ht⟩ := take_code N W H (mkL W H f) hN
  rw [hp, if_pos rfl] at ht
  rw [turn_by N W H _ o ho, ht]
  refine (turnC_eq _ _ _ N W H _ (picF_side hp) hN).trans ?_
  refine congrArg (fun l => some (_, _, l, _)) (mkL_ext fun x y hx hy => ?_)
  have h1 := cond_lt (miO o) hx
  have h2 := cond_lt (flO o) hy
  unfold tPx tF
  revert hx hy h1 h2
  cases swO o
  · intro hx hy h1 h2; exact pxOf_mkL f h1 h2
  · intro hx hy h1 h2; exact pxOf_mkL f h2 h1
/-- Two turns are one. -/
theorem tF_two (sw m fl sw' m' fl' : Bool) {x y : Nat} (hx : x < cond sw' (cond sw W H) (cond sw H W)) (hy : y < cond sw' (cond sw H W) (cond sw W H)) :
    tF sw' m' fl' (cond sw H W) (cond sw W H) (tF sw m fl W H f) x y = tF (cond sw' (!sw) sw) (cond sw' (fl != m') (m != m')) (cond sw' (m != fl') (fl != fl')) W H f x y := by
  cases sw <;> cases m <;> cases fl <;> cases sw' <;> cases m' <;> cases fl' <;> simp only [tF, cond_true, cond_false, Bool.not_true, Bool.not_false, bne_self_eq_false, Bool.true_bne, Bool.false_bne] at hx hy ⊢ <;> congr 1 <;> omega
end
theorem wayOf_parts : ∀ a b c : Bool, swO (wayOf a b c) = a ∧ miO (wayOf a b c) = b ∧ flO (wayOf a b c) = c := by decide
theorem wayOf_in : ∀ a b c : Bool, 1 ≤ wayOf a b c ∧ wayOf a b c ≤ 8 := by decide
theorem bothT_parts (o p : Int) : swO (bothT o p) = cond (swO p) (!swO o) (swO o) ∧ miO (bothT o p) = cond (swO p) (flO o != miO p) (miO o != miO p) ∧ flO (bothT o p) = cond (swO p) (miO o != flO p) (flO o != flO p) := by
  unfold bothT
  cases swO p
  · exact wayOf_parts _ _ _
  · exact wayOf_parts _ _ _
theorem bothT_in (o p : Int) : 1 ≤ bothT o p ∧ bothT o p ≤ 8 := by
  unfold bothT
  cases swO p
  · exact wayOf_in _ _ _
  · exact wayOf_in _ _ _
theorem backT_in {o : Int} (h : 1 ≤ o ∧ o ≤ 8) : 1 ≤ backT o ∧ backT o ≤ 8 := by
  unfold backT
  split
  · omega
  · split <;> omega
theorem backT_one {o : Int} (h : 1 ≤ o ∧ o ≤ 8) : cond (swO (backT o)) (!swO o) (swO o) = false ∧ cond (swO (backT o)) (flO o != miO (backT o)) (miO o != miO (backT o)) = false ∧ cond (swO (backT o)) (miO o != flO (backT o)) (flO o != flO (backT o)) = false := by
  rcases ways h with rfl | rfl | rfl | rfl | rfl | rfl | rfl | rfl <;> decide
theorem cond_cond (a b : Bool) (W H : Nat) : cond b (cond a W H) (cond a H W) = cond (cond b (!a) a) H W := by cases a <;> cases b <;> rfl

/-- Where a turned part lies in what was turned. -/
theorem part_at {W H : Nat} (f : Nat → Nat → Px) {X Y w h : Nat} (hX : X + w ≤ W) (hY : Y + h ≤ H) (sw m fl : Bool) :
    ∃ x0 y0, x0 + cond sw h w ≤ cond sw H W ∧ y0 + cond sw w h ≤ cond sw W H ∧ ∀ x y, x < cond sw h w → y < cond sw w h → tF sw m fl W H f (x0 + x) (y0 + y) = tF sw m fl w h (fun u v => f (X + u) (Y + v)) x y := by
  refine ⟨cond m (cond sw (H - Y - h) (W - X - w)) (cond sw Y X), cond fl (cond sw (W - X - w) (H - Y - h)) (cond sw X Y), ?_, ?_, ?_⟩
  · cases sw <;> cases m <;> simp <;> omega
  · cases sw <;> cases fl <;> simp <;> omega
  · intro x y hx hy
    cases sw <;> cases m <;> cases fl <;> simp only [tF, cond_true, cond_false] at hx hy ⊢ <;> congr 1 <;> omega
section
variable {W H w h : Nat} {f g : Nat → Nat → Px} (hW : 1 ≤ W ∧ W ≤ 64 ∧ 1 ≤ H ∧ H ≤ 64) (hw : 1 ≤ w ∧ w ≤ W ∧ 1 ≤ h ∧ h ≤ H) (hf : ∀ x y, x < W → y < H → okPx (f x y) = true)
include hW hf in
theorem cut_mk {x y : Nat} (hw : 1 ≤ w ∧ w ≤ W ∧ 1 ≤ h ∧ h ≤ H) (hx : x + w ≤ W) (hy : y + h ≤ H) : D_turn_Cut 5000 W H (mkL W H f) x y w h = some ((w : Int), (h : Int), mkL w h (fun u v => f (x + u) (y + v)), 0) := by
  have hr : rectOK (W : Int) (H : Int) x y w h := ⟨by omega, by omega, by omega, by omega, by omega, by omega, by omega, by omega⟩
  rw [cut_eq 5000 W H _ x y w h (by omega), picF_mk hW hf, if_neg (by simp), if_pos hr]
  rw [Int.toNat_natCast, rowsOf_pre (mkL_side hW f) hr h (Nat.le_refl _), ← mkL_pre]
  refine congrArg (fun l => some (_, _, l, _)) (mkL_ext fun u v hu hv => ?_)
  exact pxOf_mkL f (by omega) (by omega)
include hW hw hf
/-- The search for a part that is there. -/
theorem tb_l2 (i : Nat) (hi : i + h ≤ H) (kk) : ∀ (d x fuel : Nat), x + d = W + 1 → d < fuel →
    D_darkslidelaw_TurnBack_l2 5000 (W, H, mkL W H f, 0) (w, h, mkL w h g, 0) i kk fuel (x : Int) = some true ∨
    (∃ z : Int, D_darkslidelaw_TurnBack_l2 5000 (W, H, mkL W H f, 0) (w, h, mkL w h g, 0) i kk fuel (x : Int) = kk z) ∧ ∀ x', x ≤ x' → x' + w ≤ W → mkL w h (fun u v => f (x' + u) (i + v)) ≠ mkL w h g := by
  intro d
  induction d with
  | zero =>
    intro x fuel hk hf'
    obtain ⟨fuel, rfl⟩ : ∃ m, fuel = m + 1 := ⟨fuel - 1, by omega⟩
    refine .inr ⟨⟨(x : Int), ?_⟩, fun x' _ _ => by omega⟩
    unfold D_darkslidelaw_TurnBack_l2
    rw [w64 (by show _ ∧ _; dsimp only; omega), cF (dF (by dsimp only; omega))]
  | succ d ih =>
    intro x fuel hk hf'
    obtain ⟨fuel, rfl⟩ : ∃ m, fuel = m + 1 := ⟨fuel - 1, by omega⟩
    by_cases hx : x + w ≤ W
    · unfold D_darkslidelaw_TurnBack_l2
      simp only []
      rw [w64 (x := (x : Int) + w) (by omega), cT (dT (by omega)), cut_mk hW hf hw hx hi]
      simp only [bsome, decide_true, cond_true]
      have hb : w * h ≤ 4096 := Nat.mul_le_mul (show w ≤ 64 by omega) (show h ≤ 64 by omega)
      rw [same_list _ _ _ _ (by rw [mkL_len, mkL_len]) (by rw [mkL_len]; exact hb)]
      simp only [bsome]
      by_cases e : mkL w h (fun u v => f (x + u) (i + v)) = mkL w h g
      · refine .inl ?_
        rw [cT (dT e), turnBegun_eq]; rfl
      · rw [cF (dF e), w64 (by omega)]
        rcases ih (x + 1) fuel (by omega) (by omega) with h1 | ⟨h1, h2⟩
        · exact .inl h1
        · refine .inr ⟨h1, fun x' a b => ?_⟩
          by_cases e' : x' = x
          · subst e'; exact e
          · exact h2 x' (by omega) b
    · refine .inr ⟨⟨(x : Int), ?_⟩, fun x' _ _ => by omega⟩
      unfold D_darkslidelaw_TurnBack_l2
      rw [w64 (by show _ ∧ _; dsimp only; omega), cF (dF (by dsimp only; omega))]
theorem tb_l1 (kk) {x0 y0 : Nat} (hx : x0 + w ≤ W) (hy : y0 + h ≤ H) (he : mkL w h (fun u v => f (x0 + u) (y0 + v)) = mkL w h g) : ∀ (d y fuel : Nat), y + d = y0 → d < fuel →
    D_darkslidelaw_TurnBack_l1 5000 (W, H, mkL W H f, 0) (w, h, mkL w h g, 0) kk fuel (y : Int) = some true := by
  intro d
  induction d with
  | zero =>
    intro y fuel hk hf'
    obtain ⟨fuel, rfl⟩ : ∃ m, fuel = m + 1 := ⟨fuel - 1, by omega⟩
    obtain rfl : y = y0 := by omega
    unfold D_darkslidelaw_TurnBack_l1
    simp only []
    rw [w64 (x := (y : Int) + h) (by omega), cT (dT (by omega))]
    rcases tb_l2 (g := g) hW hw hf y hy (fun _ => (some (IntKind.i64.wrap ((y : Int) + 1))).bind fun x9 => D_darkslidelaw_TurnBack_l1 5000 (W, H, mkL W H f, 0) (w, h, mkL w h g, 0) kk fuel x9) (W + 1) 0 5000 (by omega) (by omega) with h1 | ⟨_, h2⟩
    · exact h1
    · exact absurd he (h2 x0 (by omega) hx)
  | succ d ih =>
    intro y fuel hk hf'
    obtain ⟨fuel, rfl⟩ : ∃ m, fuel = m + 1 := ⟨fuel - 1, by omega⟩
    unfold D_darkslidelaw_TurnBack_l1
    simp only []
    rw [w64 (x := (y : Int) + h) (by omega), cT (dT (by omega))]
    rcases tb_l2 (g := g) hW hw hf y (by omega) (fun _ => (some (IntKind.i64.wrap ((y : Int) + 1))).bind fun x9 => D_darkslidelaw_TurnBack_l1 5000 (W, H, mkL W H f, 0) (w, h, mkL w h g, 0) kk fuel x9) (W + 1) 0 5000 (by omega) (by omega) with h1 | ⟨⟨z, h1⟩, _⟩
    · exact h1
    · refine h1.trans ?_
      rw [bsome, w64 (by omega)]
      exact ih (y + 1) fuel (by omega) (by omega)
end
theorem turnBack_true (W H : Int) (P : List Px) (o p X Y w h : Int) : D_darkslidelaw_TurnBack 5000 W H P o p X Y w h = some true := by
  have hT := turn_eq 5000 W H P o (by omega)
  unfold D_darkslidelaw_TurnBack
  have bad : ∀ e : Int, D_turn_Turn 5000 0 0 [] p = some (0, 0, [], 1) := fun _ => turn_eq 5000 0 0 [] p (by omega)
  cases hp : picF W H P
  · rw [hp, if_pos rfl] at hT
    rw [hT]
    simp only [bsome, bad 0]
    rw [turnBegun_eq]; rfl
  rw [hp, if_neg (by simp)] at hT
  by_cases ho : 1 ≤ o ∧ o ≤ 8
  rotate_left
  · rw [if_neg ho] at hT
    rw [hT]
    simp only [bsome, bad 0]
    rw [turnBegun_eq]; rfl
  clear hT
  have hs := picF_side hp
  obtain ⟨W, rfl⟩ : ∃ n : Nat, W = n := ⟨W.toNat, by have := hs.1; omega⟩
  obtain ⟨H, rfl⟩ : ∃ n : Nat, H = n := ⟨H.toNat, by have := hs.2.2.1; omega⟩
  obtain ⟨h1, h2, h3, h4, h5, h6⟩ := side_nat W H P hs
  have hW : 1 ≤ W ∧ W ≤ 64 ∧ 1 ≤ H ∧ H ≤ 64 := by omega
  obtain ⟨f, hf⟩ : ∃ f, pxOf P W = f := ⟨_, rfl⟩
  obtain rfl : mkL W H f = P := by rw [← hf]; exact mkL_self h5
  have hfx : ∀ x y, x < W → y < H → okPx (f x y) = true := by
    intro x y hx hy
    have := picF_all hp (mkL_get f (place_lt hx hy))
    obtain ⟨e1, e2⟩ := dm y hx
    rw [e1, e2] at this
    simpa [okPx] using this
  clear hf
  have hW1 := side_cond hW (swO o)
  have hfx1 : ∀ x y, x < cond (swO o) H W → y < cond (swO o) W H → okPx (tF (swO o) (miO o) (flO o) W H f x y) = true := fun x y hx hy => tF_inv (fun q => okPx q = true) hfx _ _ _ hx hy
  rw [turn_mk hW hfx (by omega) ho]
  simp only [bsome]
  by_cases hq : 1 ≤ p ∧ p ≤ 8
  rotate_left
  · have := turn_eq 5000 ((cond (swO o) H W : Nat) : Int) ((cond (swO o) W H : Nat) : Int) (mkL (cond (swO o) H W) (cond (swO o) W H) (tF (swO o) (miO o) (flO o) W H f)) p (by omega)
    rw [picF_mk hW1 hfx1, if_neg (by simp), if_neg hq] at this
    rw [this]
    simp only [bsome]
    rw [cF (by simp), cT (by simp), turnBegun_eq]; rfl
  rw [turn_mk hW1 hfx1 (by omega) hq]
  simp only [bsome]
  rw [cF (by simp), cF (by simp), back_eq ho, both_eq ho hq]
  simp only [bsome]
  rw [turn_mk hW1 hfx1 (by omega) (backT_in ho), turn_mk hW hfx (by omega) (bothT_in o p)]
  simp only [bsome]
  rw [cF (by simp), cF (by simp), cF (by simp), cF (by simp)]
  obtain ⟨k1, k2, k3⟩ := backT_one ho
  obtain ⟨b1, b2, b3⟩ := bothT_parts o p
  have eW : cond (swO (backT o)) (cond (swO o) W H) (cond (swO o) H W) = W := by rw [cond_cond, k1]; rfl
  have eH : cond (swO (backT o)) (cond (swO o) H W) (cond (swO o) W H) = H := by rw [cond_cond, k1]; rfl
  have e1 : mkL W H (tF (swO (backT o)) (miO (backT o)) (flO (backT o)) (cond (swO o) H W) (cond (swO o) W H) (tF (swO o) (miO o) (flO o) W H f)) = mkL W H f := mkL_ext fun x y hx hy => by
    rw [tF_two _ _ _ _ _ _ (by rw [eW]; exact hx) (by rw [eH]; exact hy), k1, k2, k3]; rfl
  rw [eW, eH, e1, same_eq 5000 W H _ (by rw [mkL_len]; omega) (by rw [mkL_len]; omega)]
  simp only [bsome]
  rw [cF (by simp)]
  have fW : cond (swO p) (cond (swO o) W H) (cond (swO o) H W) = cond (swO (bothT o p)) H W := by rw [cond_cond, b1]
  have fH : cond (swO p) (cond (swO o) H W) (cond (swO o) W H) = cond (swO (bothT o p)) W H := by rw [cond_cond, b1]
  have e2 : mkL (cond (swO (bothT o p)) H W) (cond (swO (bothT o p)) W H) (tF (swO p) (miO p) (flO p) (cond (swO o) H W) (cond (swO o) W H) (tF (swO o) (miO o) (flO o) W H f)) = mkL (cond (swO (bothT o p)) H W) (cond (swO (bothT o p)) W H) (tF (swO (bothT o p)) (miO (bothT o p)) (flO (bothT o p)) W H f) := mkL_ext fun x y hx hy => by
    rw [tF_two _ _ _ _ _ _ (by rw [fW]; exact hx) (by rw [fH]; exact hy), b1, b2, b3]
  have hW2 := side_cond hW (swO (bothT o p))
  have hm2 := Nat.mul_le_mul hW2.2.1 hW2.2.2.2
  rw [fW, fH, e2, same_eq 5000 _ _ _ (by rw [mkL_len]; omega) (by rw [mkL_len]; omega)]
  simp only [bsome]
  rw [cF (by simp)]
  by_cases hr : rectOK W H X Y w h
  rotate_left
  · have := cut_eq 5000 W H (mkL W H f) X Y w h (by omega)
    rw [picF_mk hW hfx, if_neg (by simp), if_neg hr] at this
    rw [this]
    simp only [bsome]
    rw [cT (by simp), turnBegun_eq]; rfl
  obtain ⟨r1, r2, r3, r4, r5, r6, r7, r8⟩ := hr
  obtain ⟨X, rfl⟩ : ∃ n : Nat, X = n := ⟨X.toNat, by omega⟩
  obtain ⟨Y, rfl⟩ : ∃ n : Nat, Y = n := ⟨Y.toNat, by omega⟩
  obtain ⟨w, rfl⟩ : ∃ n : Nat, w = n := ⟨w.toNat, by omega⟩
  obtain ⟨h, rfl⟩ : ∃ n : Nat, h = n := ⟨h.toNat, by omega⟩
  rw [cut_mk hW hfx (by omega) (by omega) (by omega)]
  simp only [bsome]
  have hw3 : 1 ≤ w ∧ w ≤ 64 ∧ 1 ≤ h ∧ h ≤ 64 := by omega
  rw [cF (by simp), turn_mk hw3 (fun x y hx hy => hfx (X + x) (Y + y) (by omega) (by omega)) (by omega) ho]
  simp only [bsome]
  obtain ⟨x0, y0, hx, hy, he⟩ := part_at f (show X + w ≤ W by omega) (show Y + h ≤ H by omega) (swO o) (miO o) (flO o)
  refine tb_l1 hW1 ?_ hfx1 _ hx hy (mkL_ext fun x y hx hy => he x y hx hy) y0 0 5000 (by omega) (by omega)
  cases swO o <;> simp <;> omega
end Go.Proofs.Ytpmnfhifmmfglaa
