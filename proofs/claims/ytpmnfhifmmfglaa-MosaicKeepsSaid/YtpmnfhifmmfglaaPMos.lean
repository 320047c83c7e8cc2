/- The laws MosaicFills and MosaicKeeps hold of the plain programs. -/
import Derived.Test.YtpmnfhifmmfglaaPFill
import Derived.Test.YtpmnfhifmmfglaaPChoose
set_option linter.unusedVariables false
set_option linter.unusedSimpArgs false
set_option linter.unusedSectionVars false
namespace Go.Proofs.Ytpmnfhifmmfglaa
open Go

theorem repair_nil (N : Nat) (W H : Int) (P : List Int) (hl : P.length ≤ 9223372036854775807) : D_sensor_Repair N W H P [] = some (if planeFine W H P = false then (0, 0, [], 1) else (W, H, (List.range P.length).map (repairL W H [] P), 0)) := by
  unfold D_sensor_Repair
  rw [if_neg (by omega)]
  cases planeFine W H P
  · rfl
  · rw [if_neg (by simp), if_neg (by simp), if_neg (by simp), if_neg (by simp)]
section
variable {W H : Nat} {P : List Int} (hW : 1 ≤ W ∧ W ≤ 64 ∧ 1 ≤ H ∧ H ≤ 64) (hl : P.length = W * H) (hP : upTo P 65535) {phase : Int} (hp : 0 ≤ phase ∧ phase ≤ 3)
def pF (W H : Nat) (P : List Int) (phase : Int) (x y : Nat) : Px := pixV W H P phase x y
include hW hl in
theorem pixC_nat {x y : Nat} (hx : x < W) (hy : y < H) : pixC (W : Int) (H : Int) P x y := ⟨by omega, by omega, by omega, by omega, by omega, by omega, by rw [hl, Int.natCast_mul]⟩
include hW hl hP hp
theorem fill_l2 (kk) {y : Nat} (hy : y < H) : ∀ (d x fuel : Nat), x + d = W → d < fuel →
    D_mosaic_Fill_l2 5000 W H P phase y kk fuel (pre W (pF W H P phase) (y * W + x), (x : Int)) = kk (pre W (pF W H P phase) ((y + 1) * W + 0), (W : Int)) := by
  have hm := Nat.mul_le_mul hW.2.1 hW.2.2.2
  intro d
  induction d with
  | zero =>
    intro x fuel hk hf
    obtain ⟨fuel, rfl⟩ : ∃ m, fuel = m + 1 := ⟨fuel - 1, by omega⟩
    obtain rfl : x = W := by omega
    unfold D_mosaic_Fill_l2
    rw [cF (dF (by omega)), pre_row]
  | succ d ih =>
    intro x fuel hk hf
    obtain ⟨fuel, rfl⟩ : ∃ m, fuel = m + 1 := ⟨fuel - 1, by omega⟩
    have hx : x < W := by omega
    have hpl := place_lt hx hy
    unfold D_mosaic_Fill_l2
    rw [cT (dT (by omega)), pixel_eq (pixC_nat hW hl hx hy) hp hP, bsome]
    have e : ((pixV (W : Int) (H : Int) P phase x y).1, (pixV (W : Int) (H : Int) P phase x y).2.1, (pixV (W : Int) (H : Int) P phase x y).2.2) = pF W H P phase x y := rfl
    rw [e, app_eq (by rw [pre_len]; simp; omega), bsome, w64 (by omega), ← pre_succ (pF W H P phase) y hx]
    exact ih (x + 1) fuel (by omega) (by omega)
theorem fill_l1 (kk) : ∀ (d y fuel : Nat), y + d = H → d < fuel →
    D_mosaic_Fill_l1 5000 W H P phase kk fuel (pre W (pF W H P phase) (y * W + 0), (y : Int)) = kk (pre W (pF W H P phase) (H * W + 0), (H : Int)) := by
  intro d
  induction d with
  | zero =>
    intro y fuel hk hf
    obtain ⟨fuel, rfl⟩ : ∃ m, fuel = m + 1 := ⟨fuel - 1, by omega⟩
    obtain rfl : y = H := by omega
    unfold D_mosaic_Fill_l1
    rw [cF (dF (by omega))]
  | succ d ih =>
    intro y fuel hk hf
    obtain ⟨fuel, rfl⟩ : ∃ m, fuel = m + 1 := ⟨fuel - 1, by omega⟩
    unfold D_mosaic_Fill_l1
    rw [cT (dT (by omega))]
    refine (fill_l2 hW hl hP hp _ (y := y) (by omega) W 0 5000 (by omega) (by omega)).trans ?_
    dsimp only
    rw [w64 (by omega)]
    exact ih (y + 1) fuel (by omega) (by omega)
theorem fill_full (kk : List Px × Int → Option (Int × Int × List Px × Int)) : D_mosaic_Fill_l1 5000 W H P phase kk 5000 ([], 0) = kk (mkL W H (pF W H P phase), (H : Int)) := by
  have := fill_l1 hW hl hP hp kk H 0 5000 (by omega) (by omega)
  simp only [Nat.zero_mul, Nat.add_zero, pre, List.range_zero, List.map_nil] at this
  refine this.trans ?_
  rw [mkL, Nat.mul_comm]
/-! ### The document's sums -/
theorem doc_l4 {x y : Nat} (hx : x < W) {v : Int} (hv : 0 ≤ v ∧ v < H) (kk) : ∀ (k : Nat) (u : Int) (L : List (Int × Int)) (fuel : Nat), 0 ≤ u → (x : Int) + 1 - u < k → L.length + k ≤ 99 → k < fuel →
    ∃ z, D_darkslideref_Filled_l4 5000 W H P phase x v kk fuel ((accOf W P phase L).1, (accOf W P phase L).2.1, (accOf W P phase L).2.2.1, (accOf W P phase L).2.2.2.1, (accOf W P phase L).2.2.2.2.1, (accOf W P phase L).2.2.2.2.2, u) =
      kk ((accOf W P phase (L ++ fuU W x v k u)).1, (accOf W P phase (L ++ fuU W x v k u)).2.1, (accOf W P phase (L ++ fuU W x v k u)).2.2.1, (accOf W P phase (L ++ fuU W x v k u)).2.2.2.1, (accOf W P phase (L ++ fuU W x v k u)).2.2.2.2.1, (accOf W P phase (L ++ fuU W x v k u)).2.2.2.2.2, z) := by
  intro k
  induction k with
  | zero =>
    intro u L fuel hu hk hL hf
    obtain ⟨fuel, rfl⟩ : ∃ m, fuel = m + 1 := ⟨fuel - 1, by omega⟩
    refine ⟨u, ?_⟩
    unfold D_darkslideref_Filled_l4
    rw [w64 (x := (W : Int) - 1) (by omega), w64 (x := (x : Int) + 1) (by omega), cF (dF (by omega)), fuU, List.append_nil]
  | succ k ih =>
    intro u L fuel hu hk hL hf
    obtain ⟨fuel, rfl⟩ : ∃ m, fuel = m + 1 := ⟨fuel - 1, by omega⟩
    by_cases hc : u ≤ min ((W : Int) - 1) ((x : Int) + 1)
    · obtain ⟨z, hz⟩ := ih (u + 1) (L ++ [(u, v)]) fuel (by omega) (by omega) (by simp; omega) (by omega)
      refine ⟨z, ?_⟩
      rw [fuU, if_pos hc]
      have hC := pixC_nat hW hl hx (show 0 < H by omega)
      obtain ⟨e1, _, _, e2⟩ := pix_at hC (u := u) (v := v) ⟨hu, by omega, hv.1, hv.2⟩
      have c0 := cnt_bd phase 0 L
      have c1 := cnt_bd phase 1 L
      have c2 := cnt_bd phase 2 L
      have s0 := sm_bd2 (W := W) hP phase 0 L (by omega)
      have s1 := sm_bd2 (W := W) hP phase 1 L (by omega)
      have s2 := sm_bd2 (W := W) hP phase 2 L (by omega)
      have hpv := hP (v * W + u).toNat
      have hr := colI_in phase u v
      have hat : D_darkslideref_At 5000 W H P u v = some (P.getD (v * W + u).toNat 0) := by
        unfold D_darkslideref_At
        rw [e1, e2]; rfl
      have ee : L ++ (u, v) :: fuU W x v k (u + 1) = L ++ [(u, v)] ++ fuU W x v k (u + 1) := by simp
      rw [ee, ← hz]
      conv => lhs; unfold D_darkslideref_Filled_l4
      rw [w64 (x := (W : Int) - 1) (by omega), w64 (x := (x : Int) + 1) (by omega), cT (dT hc), colourAt_eq 5000 hp (by omega) (by omega), bsome, hat]
      simp only [accOf, cnt_snoc, sm_snoc, bsome]
      have e : pAt W P (u, v) = P.getD (v * W + u).toNat 0 := rfl
      rw [w64 (x := u + 1) (by omega)]
      have hcc : colI phase u v = 0 ∨ colI phase u v = 1 ∨ colI phase u v = 2 := by omega
      rcases hcc with hcc | hcc | hcc
      · rw [hcc, cT (by decide), w64 (by omega), w64 (by omega), e]; rfl
      · rw [hcc, cF (by decide), cT (by decide), w64 (by omega), w64 (by omega), e]; rfl
      · rw [hcc, cF (by decide), cF (by decide), cT (by decide), w64 (by omega), w64 (by omega), e]; rfl
    · refine ⟨u, ?_⟩
      unfold D_darkslideref_Filled_l4
      rw [w64 (x := (W : Int) - 1) (by omega), w64 (x := (x : Int) + 1) (by omega), cF (dF hc), fuU, if_neg hc, List.append_nil]
theorem doc_l3 {x y : Nat} (hx : x < W) (hy : y < H) (kk) : ∀ (k : Nat) (v : Int) (L : List (Int × Int)) (fuel : Nat), 0 ≤ v → (y : Int) + 1 - v < k → L.length + 4 * k ≤ 60 → k < fuel →
    ∃ z, D_darkslideref_Filled_l3 5000 W H P phase y x kk fuel ((accOf W P phase L).1, (accOf W P phase L).2.1, (accOf W P phase L).2.2.1, (accOf W P phase L).2.2.2.1, (accOf W P phase L).2.2.2.2.1, (accOf W P phase L).2.2.2.2.2, v) =
      kk ((accOf W P phase (L ++ fuV W H x y k v)).1, (accOf W P phase (L ++ fuV W H x y k v)).2.1, (accOf W P phase (L ++ fuV W H x y k v)).2.2.1, (accOf W P phase (L ++ fuV W H x y k v)).2.2.2.1, (accOf W P phase (L ++ fuV W H x y k v)).2.2.2.2.1, (accOf W P phase (L ++ fuV W H x y k v)).2.2.2.2.2, z) := by
  intro k
  induction k with
  | zero =>
    intro v L fuel hv hk hL hf
    obtain ⟨fuel, rfl⟩ : ∃ m, fuel = m + 1 := ⟨fuel - 1, by omega⟩
    refine ⟨v, ?_⟩
    unfold D_darkslideref_Filled_l3
    rw [w64 (x := (H : Int) - 1) (by omega), w64 (x := (y : Int) + 1) (by omega), cF (dF (by omega)), fuV, List.append_nil]
  | succ k ih =>
    intro v L fuel hv hk hL hf
    obtain ⟨fuel, rfl⟩ : ∃ m, fuel = m + 1 := ⟨fuel - 1, by omega⟩
    by_cases hc : v ≤ min ((H : Int) - 1) ((y : Int) + 1)
    · obtain ⟨a, _⟩ := fuU_in W x v 4 (max 0 ((x : Int) - 1)) (by omega)
      obtain ⟨z, hz⟩ := ih (v + 1) (L ++ fuU W x v 4 (max 0 ((x : Int) - 1))) fuel (by omega) (by omega) (by rw [List.length_append]; omega) (by omega)
      refine ⟨z, ?_⟩
      rw [fuV, if_pos hc, ← List.append_assoc, ← hz]
      conv => lhs; unfold D_darkslideref_Filled_l3
      rw [w64 (x := (H : Int) - 1) (by omega), w64 (x := (y : Int) + 1) (by omega), cT (dT hc), w64 (x := (x : Int) - 1) (by omega), bsome]
      obtain ⟨z2, hz2⟩ := doc_l4 hW hl hP hp (y := y) hx (v := v) (by omega) (fun (x017, x121, x218, x018, x122, x219, i13) => (some (IntKind.i64.wrap (v + 1))).bind fun x52 => D_darkslideref_Filled_l3 5000 W H P phase y x kk fuel (x017, x121, x218, x018, x122, x219, x52)) 4 (max 0 ((x : Int) - 1)) L 5000 (by omega) (by omega) (by omega) (by omega)
      refine hz2.trans ?_
      dsimp only
      rw [bsome, w64 (x := v + 1) (by omega)]
    · refine ⟨v, ?_⟩
      unfold D_darkslideref_Filled_l3
      rw [w64 (x := (H : Int) - 1) (by omega), w64 (x := (y : Int) + 1) (by omega), cF (dF hc), fuV, if_neg hc, List.append_nil]
omit hW hl hP hp in
theorem doc_l5 (N fuel : Nat) (a b c : Int) (s : Px) (kk) : D_darkslideref_Filled_l5 N a b c s.1 s.2.1 s.2.2 kk (fuel + 4) (0, 0, 0, 0) =
    Option.bind (nz (max a 1)) fun _ => Option.bind (nz (max b 1)) fun _ => Option.bind (nz (max c 1)) fun _ => kk (IntKind.i64.wrap (Int.tdiv s.1 (max a 1)), IntKind.i64.wrap (Int.tdiv s.2.1 (max b 1)), IntKind.i64.wrap (Int.tdiv s.2.2 (max c 1)), 3) := by kernel_rfl
omit hW hl hP hp in
theorem dv_max {n s : Int} (hn : 0 ≤ n) (hs : 0 ≤ s ∧ s ≤ 6553500) : IntKind.i64.wrap (Int.tdiv s (max n 1)) = dv n s := by
  have h1 := Int.ediv_nonneg hs.1 (show 0 ≤ max n 1 by omega)
  have h2 := Int.ediv_le_self (max n 1) hs.1
  rw [Int.tdiv_eq_ediv_of_nonneg hs.1, w64 (by omega)]
  unfold dv
  by_cases h : 0 < n
  · rw [if_pos h, Int.max_eq_left (by omega)]
  · rw [if_neg h, Int.max_eq_right (by omega), Int.ediv_one]
theorem doc_l2 (kk) {y : Nat} (hy : y < H) : ∀ (d x fuel : Nat), x + d = W → d < fuel →
    D_darkslideref_Filled_l2 5000 W H P phase y kk fuel (pre W (pF W H P phase) (y * W + x), (x : Int)) = kk (pre W (pF W H P phase) ((y + 1) * W + 0), (W : Int)) := by
  have hm := Nat.mul_le_mul hW.2.1 hW.2.2.2
  intro d
  induction d with
  | zero =>
    intro x fuel hk hf
    obtain ⟨fuel, rfl⟩ : ∃ m, fuel = m + 1 := ⟨fuel - 1, by omega⟩
    obtain rfl : x = W := by omega
    unfold D_darkslideref_Filled_l2
    rw [cF (dF (by omega)), pre_row]
  | succ d ih =>
    intro x fuel hk hf
    obtain ⟨fuel, rfl⟩ : ∃ m, fuel = m + 1 := ⟨fuel - 1, by omega⟩
    have hx : x < W := by omega
    have hpl := place_lt hx hy
    have hih := ih (x + 1) fuel (by omega) (by omega)
    have hC := pixC_nat hW hl hx hy
    obtain ⟨e1, _, _, e2⟩ := pix_at hC (u := x) (v := y) (by omega)
    have hat : D_darkslideref_At 5000 W H P x y = some (pAt W P (x, y)) := by
      unfold D_darkslideref_At
      rw [e1, e2]; rfl
    have L0 : fullL (W : Int) (H : Int) x y = [] ++ fuV W H x y 4 (max 0 ((y : Int) - 1)) := rfl
    obtain ⟨fl, _⟩ := fuV_in (W : Int) (H : Int) x y 4 (max 0 ((y : Int) - 1)) (by omega)
    have c0 := cnt_bd phase 0 (fullL (W : Int) (H : Int) x y)
    have c1 := cnt_bd phase 1 (fullL (W : Int) (H : Int) x y)
    have c2 := cnt_bd phase 2 (fullL (W : Int) (H : Int) x y)
    have hfl : (fullL (W : Int) (H : Int) x y).length ≤ 100 := by rw [L0]; simp; omega
    have s0 := sm_bd2 (W := W) hP phase 0 (fullL (W : Int) (H : Int) x y) hfl
    have s1 := sm_bd2 (W := W) hP phase 1 (fullL (W : Int) (H : Int) x y) hfl
    have s2 := sm_bd2 (W := W) hP phase 2 (fullL (W : Int) (H : Int) x y) hfl
    have hr := colI_in phase x y
    unfold D_darkslideref_Filled_l2
    rw [cT (dT (by omega)), w64 (x := (y : Int) - 1) (by omega), bsome]
    refine (doc_l3 hW hl hP hp hx hy _ 4 (max 0 ((y : Int) - 1)) [] 5000 (by omega) (by omega) (by simp) (by omega)).elim fun z hz => hz.trans ?_
    rw [← L0]
    dsimp only [accOf]
    refine (doc_l5 5000 4996 _ _ _ (sm W P phase 0 (fullL W H x y), sm W P phase 1 (fullL W H x y), sm W P phase 2 (fullL W H x y)) _).trans ?_
    rw [nz_eq (by omega), bsome, nz_eq (by omega), bsome, nz_eq (by omega), bsome]
    dsimp only
    rw [dv_max c0.1 s0, dv_max c1.1 s1, dv_max c2.1 s2, colourAt_eq 5000 hp (by omega) (by omega), bsome, hat, bsome]
    unfold D_darkslideref_pixel
    simp only [bsome]
    rw [w64 (x := (x : Int) + 1) (by omega)]
    have hcc : colI phase x y = 0 ∨ colI phase x y = 1 ∨ colI phase x y = 2 := by omega
    have fin : ∀ p : Px, p = pF W H P phase x y → (Option.bind (app 24 (pre W (pF W H P phase) (y * W + x)) ([(p.1, p.2.1, p.2.2)] : List Px)) fun xP => D_darkslideref_Filled_l2 5000 W H P phase y kk fuel (xP, (x : Int) + 1)) = kk (pre W (pF W H P phase) ((y + 1) * W + 0), (W : Int)) := fun p hpe => by
      subst hpe
      rw [app_eq (by rw [pre_len]; simp; omega), bsome]
      have := pre_succ (pF W H P phase) y hx
      rw [show ((pF W H P phase x y).1, (pF W H P phase x y).2.1, (pF W H P phase x y).2.2) = pF W H P phase x y from rfl, ← this]
      exact hih
    rcases hcc with hcc | hcc | hcc
    · rw [hcc, cT (by decide)]
      exact fin (pAt W P (x, y), _, _) (by unfold pF pixV; rw [hcc]; rfl)
    · rw [hcc, cF (by decide), cT (by decide)]
      exact fin (_, pAt W P (x, y), _) (by unfold pF pixV; rw [hcc]; rfl)
    · rw [hcc, cF (by decide), cF (by decide), cT (by decide)]
      exact fin (_, _, pAt W P (x, y)) (by unfold pF pixV; rw [hcc]; rfl)
theorem doc_l1 (kk) : ∀ (d y fuel : Nat), y + d = H → d < fuel →
    D_darkslideref_Filled_l1 5000 W H P phase kk fuel (pre W (pF W H P phase) (y * W + 0), (y : Int)) = kk (pre W (pF W H P phase) (H * W + 0), (H : Int)) := by
  intro d
  induction d with
  | zero =>
    intro y fuel hk hf
    obtain ⟨fuel, rfl⟩ : ∃ m, fuel = m + 1 := ⟨fuel - 1, by omega⟩
    obtain rfl : y = H := by omega
    unfold D_darkslideref_Filled_l1
    rw [cF (dF (by omega))]
  | succ d ih =>
    intro y fuel hk hf
    obtain ⟨fuel, rfl⟩ : ∃ m, fuel = m + 1 := ⟨fuel - 1, by omega⟩
    unfold D_darkslideref_Filled_l1
    rw [cT (dT (by omega))]
    refine (doc_l2 hW hl hP hp _ (y := y) (by omega) W 0 5000 (by omega) (by omega)).trans ?_
    dsimp only
    rw [bsome, w64 (by omega)]
    exact ih (y + 1) fuel (by omega) (by omega)
theorem filled_eq : D_darkslideref_Filled 5000 W H P phase = some ((W : Int), (H : Int), mkL W H (pF W H P phase)) := by
  unfold D_darkslideref_Filled
  have := doc_l1 hW hl hP hp (fun x : List Px × Int => some ((W : Int), (H : Int), x.1)) H 0 5000 (by omega) (by omega)
  simp only [Nat.zero_mul, Nat.add_zero, pre, List.range_zero, List.map_nil] at this
  refine this.trans ?_
  rw [mkL, Nat.mul_comm]
end
end Go.Proofs.Ytpmnfhifmmfglaa
