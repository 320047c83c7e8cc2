/- Filling in colours: what the code makes of a place, and what the document does. -/
import Derived.Test.YtpmnfhifmmfglaaPCol
import Derived.Test.YtpmnfhifmmfglaaPPixB
set_option linter.unusedVariables false
set_option linter.unusedSimpArgs false
set_option linter.unusedSectionVars false
namespace Go.Proofs.Ytpmnfhifmmfglaa
open Go

abbrev Six := Int × Int × Int × Int × Int × Int
def ofC (phase c : Int) (L : List (Int × Int)) : List (Int × Int) := L.filter fun q => decide (colI phase q.1 q.2 = c)
def pAt (W : Int) (P : List Int) (q : Int × Int) : Int := P.getD (q.2 * W + q.1).toNat 0
def cnt (phase c : Int) (L : List (Int × Int)) : Int := ((ofC phase c L).length : Nat)
def sm (W : Int) (P : List Int) (phase c : Int) (L : List (Int × Int)) : Int := ((ofC phase c L).map (pAt W P)).sum
def accOf (W : Int) (P : List Int) (phase : Int) (L : List (Int × Int)) : Six := (cnt phase 0 L, cnt phase 1 L, cnt phase 2 L, sm W P phase 0 L, sm W P phase 1 L, sm W P phase 2 L)
theorem ofC_snoc (phase c : Int) (L : List (Int × Int)) (q : Int × Int) : ofC phase c (L ++ [q]) = if colI phase q.1 q.2 = c then ofC phase c L ++ [q] else ofC phase c L := by
  unfold ofC
  rw [List.filter_append]
  by_cases h : colI phase q.1 q.2 = c
  · rw [if_pos h]; simp [h]
  · rw [if_neg h]; simp [h]
theorem cnt_snoc (phase c : Int) (L : List (Int × Int)) (q : Int × Int) : cnt phase c (L ++ [q]) = if colI phase q.1 q.2 = c then cnt phase c L + 1 else cnt phase c L := by
  unfold cnt
  rw [ofC_snoc]
  split <;> simp
theorem sm_snoc (W : Int) (P : List Int) (phase c : Int) (L : List (Int × Int)) (q : Int × Int) : sm W P phase c (L ++ [q]) = if colI phase q.1 q.2 = c then sm W P phase c L + pAt W P q else sm W P phase c L := by
  unfold sm
  rw [ofC_snoc]
  split <;> simp
theorem cnt_bd (phase c : Int) (L : List (Int × Int)) : 0 ≤ cnt phase c L ∧ cnt phase c L ≤ L.length := by
  have := List.length_filter_le (fun q : Int × Int => decide (colI phase q.1 q.2 = c)) L
  unfold cnt ofC
  omega
theorem sum_bd (top : Int) : ∀ l : List Int, (∀ x ∈ l, 0 ≤ x ∧ x ≤ top) → 0 ≤ l.sum ∧ l.sum ≤ top * l.length
  | [], _ => by simp
  | x :: l, h => by
    have h1 := h x (by simp)
    have h2 := sum_bd top l fun y hy => h y (by simp [hy])
    rw [List.sum_cons, List.length_cons]
    have : top * ((l.length + 1 : Nat) : Int) = top * l.length + top := by rw [Int.natCast_add, Int.mul_add]; simp
    omega
/-- All samples lie from 0 to top. -/
def upTo (P : List Int) (top : Int) : Prop := ∀ i : Nat, 0 ≤ P.getD i 0 ∧ P.getD i 0 ≤ top
theorem sm_bd {W : Int} {P : List Int} {top : Int} (hP : upTo P top) (phase c : Int) (L : List (Int × Int)) : 0 ≤ sm W P phase c L ∧ sm W P phase c L ≤ top * cnt phase c L := by
  have := sum_bd top ((ofC phase c L).map (pAt W P)) fun x hx => by
    obtain ⟨q, _, rfl⟩ := List.mem_map.1 hx
    exact hP _
  rw [List.length_map] at this
  exact this
theorem sm_bd2 {W : Int} {P : List Int} (hP : upTo P 65535) (phase c : Int) (L : List (Int × Int)) (hL : L.length ≤ 100) : 0 ≤ sm W P phase c L ∧ sm W P phase c L ≤ 6553500 := by
  have h1 := sm_bd (W := W) hP phase c L
  have h2 := cnt_bd phase c L
  omega
theorem plane_up {P : List Int} {n : Nat} (hl : P.length = n) (h : ∀ i, i < n → 0 ≤ P.getD i 0 ∧ P.getD i 0 ≤ 65535) : upTo P 65535 := fun i => by
  by_cases hi : i < n
  · exact h i hi
  · rw [List.getD_eq_getElem?_getD, List.getElem?_eq_none (by omega)]; simp
section
variable {W H x y phase : Int} {P : List Int} (hC : pixC W H P x y) (hp : 0 ≤ phase ∧ phase ≤ 3) (hP : upTo P 65535)
include hC hp hP
theorem code_add {L : List (Int × Int)} (hL : L.length ≤ 99) {u v : Int} (hq : 0 ≤ u ∧ u < W ∧ 0 ≤ v ∧ v < H) :
    D_mosaic_pixel_b 5000 W P phase u v (accOf W P phase L).1 (accOf W P phase L).2.1 (accOf W P phase L).2.2.1 (accOf W P phase L).2.2.2.1 (accOf W P phase L).2.2.2.2.1 (accOf W P phase L).2.2.2.2.2 = some (accOf W P phase (L ++ [(u, v)])) := by
  have hC' := hC
  obtain ⟨k1, k2, k3, k4, k5, k6, k7⟩ := hC'
  obtain ⟨h1, _, _, h2⟩ := pix_at hC hq
  have c0 := cnt_bd phase 0 L
  have c1 := cnt_bd phase 1 L
  have c2 := cnt_bd phase 2 L
  have s0 := sm_bd2 (W := W) hP phase 0 L (by omega)
  have s1 := sm_bd2 (W := W) hP phase 1 L (by omega)
  have s2 := sm_bd2 (W := W) hP phase 2 L (by omega)
  have hpv := hP (v * W + u).toNat
  have hr := colI_in phase u v
  unfold D_mosaic_pixel_b
  rw [colour_eq 5000 hp (by omega) (by omega), bsome, h1, h2]
  simp only [accOf, cnt_snoc, sm_snoc, bsome]
  have e : pAt W P (u, v) = P.getD (v * W + u).toNat 0 := rfl
  have hc : colI phase u v = 0 ∨ colI phase u v = 1 ∨ colI phase u v = 2 := by omega
  rcases hc with hc | hc | hc
  · rw [hc, cT (by decide), cT (by decide), w64 (by omega), w64 (by omega), e]; rfl
  · rw [hc, cF (by decide), cT (by decide), cF (by decide), cT (by decide), w64 (by omega), w64 (by omega), e]; rfl
  · rw [hc, cF (by decide), cF (by decide), cF (by decide), cF (by decide), w64 (by omega), w64 (by omega), e]; rfl
theorem code_fold : ∀ (L pre : List (Int × Int)), (pre ++ L).length ≤ 99 → (∀ q ∈ L, 0 ≤ q.1 ∧ q.1 < W ∧ 0 ≤ q.2 ∧ q.2 < H) → List.foldl (D_mosaic_pixel_s 5000 W P phase) (accOf W P phase pre) L = accOf W P phase (pre ++ L)
  | [], pre, _, _ => by simp
  | (u, v) :: L, pre, hl, hq => by
    have h1 := code_add hC hp hP (L := pre) (by simp at hl; omega) (hq (u, v) (by simp))
    rw [List.foldl_cons]
    have : D_mosaic_pixel_s 5000 W P phase (accOf W P phase pre) (u, v) = accOf W P phase (pre ++ [(u, v)]) := by
      unfold D_mosaic_pixel_s
      rw [h1]; rfl
    rw [this, code_fold L (pre ++ [(u, v)]) (by simpa using hl) (fun q h => hq q (by simp [h]))]
    simp
end
/-! ### The places: the code leaves out the one in the middle, the document does not -/
def fuU (W x v : Int) : Nat → Int → List (Int × Int)
  | 0, _ => []
  | k + 1, u => if u ≤ min (W - 1) (x + 1) then (u, v) :: fuU W x v k (u + 1) else []
def fuV (W H x y : Int) : Nat → Int → List (Int × Int)
  | 0, _ => []
  | k + 1, v => if v ≤ min (H - 1) (y + 1) then fuU W x v 4 (max 0 (x - 1)) ++ fuV W H x y k (v + 1) else []
def fullL (W H x y : Int) : List (Int × Int) := fuV W H x y 4 (max 0 (y - 1))
theorem arU_eq (W x y v : Int) : ∀ (k : Nat) (u : Int), arU W x y v k u = (fuU W x v k u).filter fun q => decide (q ≠ (x, y))
  | 0, _ => rfl
  | k + 1, u => by
    unfold arU fuU
    by_cases h : u ≤ x + 1 ∧ u < W
    · rw [if_pos h, if_pos (show u ≤ min (W - 1) (x + 1) by omega), List.filter_cons]
      by_cases h2 : u ≠ x ∨ v ≠ y
      · rw [if_pos h2, if_pos (by simp; omega), arU_eq W x y v k (u + 1)]
      · rw [if_neg h2, if_neg (by simp; omega), arU_eq W x y v k (u + 1)]
    · rw [if_neg h, if_neg (show ¬ u ≤ min (W - 1) (x + 1) by omega)]; rfl
theorem arV_eq (W H x y : Int) : ∀ (k : Nat) (v : Int), arV W H x y k v = (fuV W H x y k v).filter fun q => decide (q ≠ (x, y))
  | 0, _ => rfl
  | k + 1, v => by
    unfold arV fuV
    by_cases h : v ≤ y + 1 ∧ v < H
    · rw [if_pos h, if_pos (show v ≤ min (H - 1) (y + 1) by omega), List.filter_append, arU_eq, arV_eq W H x y k (v + 1), Int.max_comm]
    · rw [if_neg h, if_neg (by omega)]; rfl
theorem around_eq (W H x y : Int) : aroundL W H x y = (fullL W H x y).filter fun q => decide (q ≠ (x, y)) := by
  unfold aroundL fullL
  rw [arV_eq, Int.max_comm]
theorem fuU_in (W x v : Int) : ∀ (k : Nat) (u : Int), 0 ≤ u → (fuU W x v k u).length ≤ k ∧ ∀ q ∈ fuU W x v k u, 0 ≤ q.1 ∧ q.1 < W ∧ q.2 = v
  | 0, _, _ => by simp [fuU]
  | k + 1, u, h => by
    unfold fuU
    by_cases h1 : u ≤ min (W - 1) (x + 1)
    · rw [if_pos h1]
      obtain ⟨a, b⟩ := fuU_in W x v k (u + 1) (by omega)
      refine ⟨by simp; omega, fun q hq => ?_⟩
      rcases List.mem_cons.1 hq with rfl | hq
      · exact ⟨h, by show u < W; omega, rfl⟩
      · exact b q hq
    · rw [if_neg h1]; simp
theorem fuV_in (W H x y : Int) : ∀ (k : Nat) (v : Int), 0 ≤ v → (fuV W H x y k v).length ≤ 4 * k ∧ ∀ q ∈ fuV W H x y k v, 0 ≤ q.1 ∧ q.1 < W ∧ 0 ≤ q.2 ∧ q.2 < H
  | 0, _, _ => by simp [fuV]
  | k + 1, v, h => by
    unfold fuV
    by_cases h1 : v ≤ min (H - 1) (y + 1)
    · rw [if_pos h1]
      obtain ⟨a, b⟩ := fuV_in W H x y k (v + 1) (by omega)
      obtain ⟨a', b'⟩ := fuU_in W x v 4 (max 0 (x - 1)) (by omega)
      refine ⟨by rw [List.length_append]; omega, fun q hq => ?_⟩
      rcases List.mem_append.1 hq with hq | hq
      · obtain ⟨c1, c2, c3⟩ := b' q hq
        exact ⟨c1, c2, by omega, by omega⟩
      · exact b q hq
    · rw [if_neg h1]; simp
theorem ofC_around (W H x y phase c : Int) (hc : c ≠ colI phase x y) : ofC phase c (aroundL W H x y) = ofC phase c (fullL W H x y) := by
  rw [around_eq]
  unfold ofC
  rw [List.filter_filter]
  refine List.filter_congr fun q _ => ?_
  by_cases h : colI phase q.1 q.2 = c
  · have hq : q ≠ (x, y) := fun e => by subst e; exact hc h.symm
    simp [h, hq]
  · simp [h]
/-- The mean of what is there. -/
def dv (n s : Int) : Int := if 0 < n then s / n else s
def setC (c v : Int) (p : Px) : Px := if c = 0 then (v, p.2.1, p.2.2) else if c = 1 then (p.1, v, p.2.2) else (p.1, p.2.1, v)
def pixV (W H : Int) (P : List Int) (phase x y : Int) : Px := setC (colI phase x y) (pAt W P (x, y)) (dv (cnt phase 0 (fullL W H x y)) (sm W P phase 0 (fullL W H x y)), dv (cnt phase 1 (fullL W H x y)) (sm W P phase 1 (fullL W H x y)), dv (cnt phase 2 (fullL W H x y)) (sm W P phase 2 (fullL W H x y)))
theorem one_l1 (N fuel : Nat) (a b c : Int) (kk) (s : Px) : D_mosaic_pixel_l1 N a b c kk (fuel + 1) (s.1, s.2.1, s.2.2, 0) = D_mosaic_pixel_l1 N a b c kk fuel ((if 0 < a then IntKind.i64.wrap (Int.tdiv s.1 a) else s.1), s.2.1, s.2.2, 1) := by
  conv => lhs; unfold D_mosaic_pixel_l1
  rw [cT (by decide), cT (by decide), w64 (x := 0 + 1) (by omega)]
  by_cases h : 0 < a
  · rw [cT (dT h), if_pos h, cT (by decide), nz_eq (by omega)]; rfl
  · rw [cF (dF h), if_neg h]; rfl
theorem two_l1 (N fuel : Nat) (a b c : Int) (kk) (s : Px) : D_mosaic_pixel_l1 N a b c kk (fuel + 1) (s.1, s.2.1, s.2.2, 1) = D_mosaic_pixel_l1 N a b c kk fuel (s.1, (if 0 < b then IntKind.i64.wrap (Int.tdiv s.2.1 b) else s.2.1), s.2.2, 2) := by
  conv => lhs; unfold D_mosaic_pixel_l1
  rw [cT (by decide), cF (by decide), cT (by decide), w64 (x := 1 + 1) (by omega)]
  by_cases h : 0 < b
  · rw [cT (dT h), if_pos h, cF (by decide), cT (by decide), nz_eq (by omega)]; rfl
  · rw [cF (dF h), if_neg h]; rfl
theorem three_l1 (N fuel : Nat) (a b c : Int) (kk) (s : Px) : D_mosaic_pixel_l1 N a b c kk (fuel + 2) (s.1, s.2.1, s.2.2, 2) = kk (s.1, s.2.1, (if 0 < c then IntKind.i64.wrap (Int.tdiv s.2.2 c) else s.2.2), 3) := by
  conv => lhs; unfold D_mosaic_pixel_l1
  rw [cT (by decide), cF (by decide), cF (by decide), w64 (x := 2 + 1) (by omega)]
  have e : ∀ t : Px, D_mosaic_pixel_l1 N a b c kk (fuel + 1) (t.1, t.2.1, t.2.2, 2 + 1) = kk (t.1, t.2.1, t.2.2, 3) := fun t => by
    unfold D_mosaic_pixel_l1
    rw [cF (by decide)]; rfl
  by_cases h : 0 < c
  · rw [cT (dT h), if_pos h, cF (by decide), cF (by decide), nz_eq (by omega), bsome]; exact e (s.1, s.2.1, IntKind.i64.wrap (Int.tdiv s.2.2 c))
  · rw [cF (dF h), if_neg h]; exact e s
theorem dv_tdiv {n s : Int} (hs : 0 ≤ s ∧ s ≤ 6553500) : (if 0 < n then IntKind.i64.wrap (Int.tdiv s n) else s) = dv n s := by
  unfold dv
  split
  · rename_i h
    have h1 := Int.ediv_nonneg hs.1 (show 0 ≤ n by omega)
    have h2 := Int.ediv_le_self n hs.1
    rw [Int.tdiv_eq_ediv_of_nonneg hs.1, w64 (by omega)]
  · rfl
section
variable {W H x y phase : Int} {P : List Int} (hC : pixC W H P x y) (hp : 0 ≤ phase ∧ phase ≤ 3) (hP : upTo P 65535)
include hC hp hP
theorem pixel_eq : D_mosaic_pixel 5000 W H P phase x y = some (pixV W H P phase x y) := by
  have hC' := hC
  obtain ⟨k1, k2, k3, k4, k5, k6, k7⟩ := hC'
  obtain ⟨fl, fi⟩ := fuV_in W H x y 4 (max 0 (y - 1)) (by omega)
  have al : (aroundL W H x y).length ≤ 16 := by
    rw [around_eq]
    exact Nat.le_trans (List.length_filter_le _ _) fl
  have ai : ∀ q ∈ aroundL W H x y, 0 ≤ q.1 ∧ q.1 < W ∧ 0 ≤ q.2 ∧ q.2 < H := fun q hq => by
    rw [around_eq] at hq
    exact fi q (List.mem_filter.1 hq).1
  have hf := code_fold hC hp hP (aroundL W H x y) [] (by simp; omega) ai
  have s0 := sm_bd2 (W := W) hP phase 0 (aroundL W H x y) (by omega)
  have s1 := sm_bd2 (W := W) hP phase 1 (aroundL W H x y) (by omega)
  have s2 := sm_bd2 (W := W) hP phase 2 (aroundL W H x y) (by omega)
  obtain ⟨e1, _, _, e2⟩ := pix_at hC (u := x) (v := y) (by omega)
  unfold D_mosaic_pixel
  rw [cT (dT hC)]
  have hf' : List.foldl (D_mosaic_pixel_s 5000 W P phase) (0, 0, 0, 0, 0, 0) (aroundL W H x y) = accOf W P phase (aroundL W H x y) := hf
  rw [hf']
  unfold D_mosaic_pixel_r accOf
  dsimp only
  rw [one_l1 5000 4999 _ _ _ _ (sm W P phase 0 (aroundL W H x y), sm W P phase 1 (aroundL W H x y), sm W P phase 2 (aroundL W H x y))]
  dsimp only
  rw [two_l1 5000 4998 _ _ _ _ (_, sm W P phase 1 (aroundL W H x y), sm W P phase 2 (aroundL W H x y))]
  dsimp only
  rw [three_l1 5000 4996 _ _ _ _ (_, _, sm W P phase 2 (aroundL W H x y))]
  dsimp only
  rw [dv_tdiv s0, dv_tdiv s1, dv_tdiv s2, colour_eq 5000 hp (by omega) (by omega), bsome, e1, e2]
  have hr := colI_in phase x y
  have other : ∀ c, c ≠ colI phase x y → cnt phase c (aroundL W H x y) = cnt phase c (fullL W H x y) ∧ sm W P phase c (aroundL W H x y) = sm W P phase c (fullL W H x y) := fun c hc => by
    unfold cnt sm
    rw [ofC_around W H x y phase c hc]; exact ⟨rfl, rfl⟩
  unfold pixV setC
  have ep : pAt W P (x, y) = P.getD (y * W + x).toNat 0 := rfl
  have hc : colI phase x y = 0 ∨ colI phase x y = 1 ∨ colI phase x y = 2 := by omega
  rcases hc with hc | hc | hc
  · rw [(other 1 (by omega)).1, (other 1 (by omega)).2, (other 2 (by omega)).1, (other 2 (by omega)).2, hc, cT (by decide), ep]; rfl
  · rw [(other 0 (by omega)).1, (other 0 (by omega)).2, (other 2 (by omega)).1, (other 2 (by omega)).2, hc, cF (by decide), cT (by decide), ep]; rfl
  · rw [(other 0 (by omega)).1, (other 0 (by omega)).2, (other 1 (by omega)).1, (other 1 (by omega)).2, hc, cF (by decide), cF (by decide), ep]; rfl
end
end Go.Proofs.Ytpmnfhifmmfglaa
