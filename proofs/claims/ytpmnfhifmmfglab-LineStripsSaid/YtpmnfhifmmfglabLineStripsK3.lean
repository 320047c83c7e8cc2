/- Texts of the claim LineStrips, joined: PFill, PMos, PDown, PSens, PRep, PEachM, PMixE, PCurve, PEachB, PBendE, PEachS, PSharp, PSharpE. -/
import Derived.Test.YtpmnfhifmmfglabLineStripsK2
set_option linter.unusedVariables false
set_option linter.unusedSimpArgs false
set_option linter.unusedSectionVars false
namespace Go.Proofs.Ytpmnfhifmmfglab
open Go
abbrev Six := Int × Int × Int × Int × Int × Int
def ofC (phase c : Int) (L : List (Int × Int)) : List (Int × Int) := L.filter fun q => decide (colI phase q.1 q.2 = c)
def pAt (W : Int) (P : List Int) (q : Int × Int) : Int := P.getD (q.2 * W + q.1).toNat 0
def cnt (phase c : Int) (L : List (Int × Int)) : Int := ((ofC phase c L).length : Nat)
def sm (W : Int) (P : List Int) (phase c : Int) (L : List (Int × Int)) : Int := ((ofC phase c L).map (pAt W P)).sum
def accOf (W : Int) (P : List Int) (phase : Int) (L : List (Int × Int)) : Six := (cnt phase 0 L, cnt phase 1 L, cnt phase 2 L, sm W P phase 0 L, sm W P phase 1 L, sm W P phase 2 L)
theorem ofC_snoc (phase c : Int) (L : List (Int × Int)) (q : Int × Int) : ofC phase c (L ++ [q]) = if colI phase q.1 q.2 = c then ofC phase c L ++ [q] else ofC phase c L := by
  unfold ofC
  rw [List.filter_append]
  by_cases h : colI phase q.1 q.2 = c
  · rw [if_pos h]; simp [h]
  · rw [if_neg h]; simp [h]
theorem cnt_snoc (phase c : Int) (L : List (Int × Int)) (q : Int × Int) : cnt phase c (L ++ [q]) = if colI phase q.1 q.2 = c then cnt phase c L + 1 else cnt phase c L := by
  unfold cnt
  rw [ofC_snoc]
  split <;> simp
theorem sm_snoc (W : Int) (P : List Int) (phase c : Int) (L : List (Int × Int)) (q : Int × Int) : sm W P phase c (L ++ [q]) = if colI phase q.1 q.2 = c then sm W P phase c L + pAt W P q else sm W P phase c L := by
  unfold sm
  rw [ofC_snoc]
  split <;> simp
theorem cnt_bd (phase c : Int) (L : List (Int × Int)) : 0 ≤ cnt phase c L ∧ cnt phase c L ≤ L.length := by
  have := List.length_filter_le (fun q : Int × Int => decide (colI phase q.1 q.2 = c)) L
  unfold cnt ofC
  omega
theorem sum_bd (top : Int) : ∀ l : List Int, (∀ x ∈ l, 0 ≤ x ∧ x ≤ top) → 0 ≤ l.sum ∧ l.sum ≤ top * l.length
  | [], _ => by simp
  | x :: l, h => by
    have h1 := h x (by simp)
    have h2 := sum_bd top l fun y hy => h y (by simp [hy])
    rw [List.sum_cons, List.length_cons]
    have : top * ((l.length + 1 : Nat) : Int) = top * l.length + top := by rw [Int.natCast_add, Int.mul_add]; simp
    omega
/-- All samples lie from 0 to top. -/
def upTo (P : List Int) (top : Int) : Prop := ∀ i : Nat, 0 ≤ P.getD i 0 ∧ P.getD i 0 ≤ top
theorem sm_bd {W : Int} {P : List Int} {top : Int} (hP : upTo P top) (phase c : Int) (L : List (Int × Int)) : 0 ≤ sm W P phase c L ∧ sm W P phase c L ≤ top * cnt phase c L := by
  have := sum_bd top ((ofC phase c L).map (pAt W P)) fun x hx => by
    obtain ⟨q, _, rfl⟩ := List.mem_map.1 hx
    exact hP _
  rw [List.length_map] at this
  exact this
theorem sm_bd2 {W : Int} {P : List Int} (hP : upTo P 65535) (phase c : Int) (L : List (Int × Int)) (hL : L.length ≤ 100) : 0 ≤ sm W P phase c L ∧ sm W P phase c L ≤ 6553500 := by
  have h1 := sm_bd (W := W) hP phase c L
  have h2 := cnt_bd phase c L
  omega
theorem plane_up {P : List Int} {n : Nat} (hl : P.length = n) (h : ∀ i, i < n → 0 ≤ P.getD i 0 ∧ P.getD i 0 ≤ 65535) : upTo P 65535 := fun i => by
  by_cases hi : i < n
  · exact h i hi
  · rw [List.getD_eq_getElem?_getD, List.getElem?_eq_none (by omega)]; simp
section
variable {W H x y phase : Int} {P : List Int} (hC : pixC W H P x y) (hp : 0 ≤ phase ∧ phase ≤ 3) (hP : upTo P 65535)
include hC hp hP
theorem code_add {L : List (Int × Int)} (hL : L.length ≤ 99) {u v : Int} (hq : 0 ≤ u ∧ u < W ∧ 0 ≤ v ∧ v < H) :
    D_mosaic_pixel_b 5000 W P phase u v (accOf W P phase L).1 (accOf W P phase L).2.1 (accOf W P phase L).2.2.1 (accOf W P phase L).2.2.2.1 (accOf W P phase L).2.2.2.2.1 (accOf W P phase L).2.2.2.2.2 = some (accOf W P phase (L ++ [(u, v)])) := by
  have hC' := hC
  obtain ⟨k1, k2, k3, k4, k5, k6, k7⟩ := hC'
  obtain ⟨h1, _, _, h2⟩ := pix_at hC hq
  have c0 := cnt_bd phase 0 L
  have c1 := cnt_bd phase 1 L
  have c2 := cnt_bd phase 2 L
  have s0 := sm_bd2 (W := W) hP phase 0 L (by omega)
  have s1 := sm_bd2 (W := W) hP phase 1 L (by omega)
  have s2 := sm_bd2 (W := W) hP phase 2 L (by omega)
  have hpv := hP (v * W + u).toNat
  have hr := colI_in phase u v
  unfold D_mosaic_pixel_b
  rw [colour_eq 5000 hp (by omega) (by omega), bsome, h1, h2]
  simp only [accOf, cnt_snoc, sm_snoc, bsome]
  have e : pAt W P (u, v) = P.getD (v * W + u).toNat 0 := rfl
  have hc : colI phase u v = 0 ∨ colI phase u v = 1 ∨ colI phase u v = 2 := by omega
  rcases hc with hc | hc | hc
  · rw [hc, cT (by decide), cT (by decide), w64 (by omega), w64 (by omega), e]; rfl
  · rw [hc, cF (by decide), cT (by decide), cF (by decide), cT (by decide), w64 (by omega), w64 (by omega), e]; rfl
  · rw [hc, cF (by decide), cF (by decide), cF (by decide), cF (by decide), w64 (by omega), w64 (by omega), e]; rfl
theorem code_fold : ∀ (L pre : List (Int × Int)), (pre ++ L).length ≤ 99 → (∀ q ∈ L, 0 ≤ q.1 ∧ q.1 < W ∧ 0 ≤ q.2 ∧ q.2 < H) → List.foldl (D_mosaic_pixel_s 5000 W P phase) (accOf W P phase pre) L = accOf W P phase (pre ++ L)
  | [], pre, _, _ => by simp
  | (u, v) :: L, pre, hl, hq => by
    have h1 := code_add hC hp hP (L := pre) (by simp at hl; omega) (hq (u, v) (by simp))
    rw [List.foldl_cons]
    have : D_mosaic_pixel_s 5000 W P phase (accOf W P phase pre) (u, v) = accOf W P phase (pre ++ [(u, v)]) := by
      unfold D_mosaic_pixel_s
      rw [h1]; rfl
    rw [this, code_fold L (pre ++ [(u, v)]) (by simpa using hl) (fun q h => hq q (by simp [h]))]
    simp
end
def fuU (W x v : Int) : Nat → Int → List (Int × Int)
  | 0, _ => []
  | k + 1, u => if u ≤ min (W - 1) (x + 1) then (u, v) :: fuU W x v k (u + 1) else []
def fuV (W H x y : Int) : Nat → Int → List (Int × Int)
  | 0, _ => []
  | k + 1, v => if v ≤ min (H - 1) (y + 1) then fuU W x v 4 (max 0 (x - 1)) ++ fuV W H x y k (v + 1) else []
def fullL (W H x y : Int) : List (Int × Int) := fuV W H x y 4 (max 0 (y - 1))
theorem arU_eq (W x y v : Int) : ∀ (k : Nat) (u : Int), arU W x y v k u = (fuU W x v k u).filter fun q => decide (q ≠ (x, y))
  | 0, _ => rfl
  | k + 1, u => by
    unfold arU fuU
    by_cases h : u ≤ x + 1 ∧ u < W
    · rw [if_pos h, if_pos (show u ≤ min (W - 1) (x + 1) by omega), List.filter_cons]
      by_cases h2 : u ≠ x ∨ v ≠ y
      · rw [if_pos h2, if_pos (by simp; omega), arU_eq W x y v k (u + 1)]
      · rw [if_neg h2, if_neg (by simp; omega), arU_eq W x y v k (u + 1)]
    · rw [if_neg h, if_neg (show ¬ u ≤ min (W - 1) (x + 1) by omega)]; rfl
theorem arV_eq (W H x y : Int) : ∀ (k : Nat) (v : Int), arV W H x y k v = (fuV W H x y k v).filter fun q => decide (q ≠ (x, y))
  | 0, _ => rfl
  | k + 1, v => by
    unfold arV fuV
    by_cases h : v ≤ y + 1 ∧ v < H
    · rw [if_pos h, if_pos (show v ≤ min (H - 1) (y + 1) by omega), List.filter_append, arU_eq, arV_eq W H x y k (v + 1), Int.max_comm]
    · rw [if_neg h, if_neg (by omega)]; rfl
theorem around_eq (W H x y : Int) : aroundL W H x y = (fullL W H x y).filter fun q => decide (q ≠ (x, y)) := by
  unfold aroundL fullL
  rw [arV_eq, Int.max_comm]
theorem fuU_in (W x v : Int) : ∀ (k : Nat) (u : Int), 0 ≤ u → (fuU W x v k u).length ≤ k ∧ ∀ q ∈ fuU W x v k u, 0 ≤ q.1 ∧ q.1 < W ∧ q.2 = v
  | 0, _, _ => by simp [fuU]
  | k + 1, u, h => by
    unfold fuU
    by_cases h1 : u ≤ min (W - 1) (x + 1)
    · rw [if_pos h1]
      obtain ⟨a, b⟩ := fuU_in W x v k (u + 1) (by omega)
      refine ⟨by simp; omega, fun q hq => ?_⟩
      rcases List.mem_cons.1 hq with rfl | hq
      · exact ⟨h, by show u < W; omega, rfl⟩
      · exact b q hq
    · rw [if_neg h1]; simp
theorem fuV_in (W H x y : Int) : ∀ (k : Nat) (v : Int), 0 ≤ v → (fuV W H x y k v).length ≤ 4 * k ∧ ∀ q ∈ fuV W H x y k v, 0 ≤ q.1 ∧ q.1 < W ∧ 0 ≤ q.2 ∧ q.2 < H
  | 0, _, _ => by simp [fuV]
  | k + 1, v, h => by
    unfold fuV
    by_cases h1 : v ≤ min (H - 1) (y + 1)
    · rw [if_pos h1]
      obtain ⟨a, b⟩ := fuV_in W H x y k (v + 1) (by omega)
      obtain ⟨a', b'⟩ := fuU_in W x v 4 (max 0 (x - 1)) (by omega)
      refine ⟨by rw [List.length_append]; omega, fun q hq => ?_⟩
      rcases List.mem_append.1 hq with hq | hq
      · obtain ⟨c1, c2, c3⟩ := b' q hq
        exact ⟨c1, c2, by omega, by omega⟩
      · exact b q hq
    · rw [if_neg h1]; simp
theorem ofC_around (W H x y phase c : Int) (hc : c ≠ colI phase x y) : ofC phase c (aroundL W H x y) = ofC phase c (fullL W H x y) := by
  rw [around_eq]
  unfold ofC
  rw [List.filter_filter]
  refine List.filter_congr fun q _ => ?_
  by_cases h : colI phase q.1 q.2 = c
  · have hq : q ≠ (x, y) := fun e => by subst e; exact hc h.symm
    simp [h, hq]
  · simp [h]
/-- The mean of what is there. -/
def dv (n s : Int) : Int := if 0 < n then s / n else s
def setC (c v : Int) (p : Px) : Px := if c = 0 then (v, p.2.1, p.2.2) else if c = 1 then (p.1, v, p.2.2) else (p.1, p.2.1, v)
def pixV (W H : Int) (P : List Int) (phase x y : Int) : Px := setC (colI phase x y) (pAt W P (x, y)) (dv (cnt phase 0 (fullL W H x y)) (sm W P phase 0 (fullL W H x y)), dv (cnt phase 1 (fullL W H x y)) (sm W P phase 1 (fullL W H x y)), dv (cnt phase 2 (fullL W H x y)) (sm W P phase 2 (fullL W H x y)))
theorem one_l1 (N fuel : Nat) (a b c : Int) (kk) (s : Px) : D_mosaic_pixel_l1 N a b c kk (fuel + 1) (s.1, s.2.1, s.2.2, 0) = D_mosaic_pixel_l1 N a b c kk fuel ((if 0 < a then IntKind.i64.wrap (Int.tdiv s.1 a) else s.1), s.2.1, s.2.2, 1) := by
  conv => lhs; unfold D_mosaic_pixel_l1
  rw [cT (by decide), cT (by decide), w64 (x := 0 + 1) (by omega)]
  by_cases h : 0 < a
  · rw [cT (dT h), if_pos h, cT (by decide), nz_eq (by omega)]; rfl
  · rw [cF (dF h), if_neg h]; rfl
theorem two_l1 (N fuel : Nat) (a b c : Int) (kk) (s : Px) : D_mosaic_pixel_l1 N a b c kk (fuel + 1) (s.1, s.2.1, s.2.2, 1) = D_mosaic_pixel_l1 N a b c kk fuel (s.1, (if 0 < b then IntKind.i64.wrap (Int.tdiv s.2.1 b) else s.2.1), s.2.2, 2) := by
  conv => lhs; unfold D_mosaic_pixel_l1
  rw [cT (by decide), cF (by decide), cT (by decide), w64 (x := 1 + 1) (by omega)]
  by_cases h : 0 < b
  · rw [cT (dT h), if_pos h, cF (by decide), cT (by decide), nz_eq (by omega)]; rfl
  · rw [cF (dF h), if_neg h]; rfl
theorem three_l1 (N fuel : Nat) (a b c : Int) (kk) (s : Px) : D_mosaic_pixel_l1 N a b c kk (fuel + 2) (s.1, s.2.1, s.2.2, 2) = kk (s.1, s.2.1, (if 0 < c then IntKind.i64.wrap (Int.tdiv s.2.2 c) else s.2.2), 3) := by
  conv => lhs; unfold D_mosaic_pixel_l1
  rw [cT (by decide), cF (by decide), cF (by decide), w64 (x := 2 + 1) (by omega)]
  have e : ∀ t : Px, D_mosaic_pixel_l1 N a b c kk (fuel + 1) (t.1, t.2.1, t.2.2, 2 + 1) = kk (t.1, t.2.1, t.2.2, 3) := fun t => by
    unfold D_mosaic_pixel_l1
    rw [cF (by decide)]; rfl
  by_cases h : 0 < c
  · rw [cT (dT h), if_pos h, cF (by decide), cF (by decide), nz_eq (by omega), bsome]; exact e (s.1, s.2.1, IntKind.i64.wrap (Int.tdiv s.2.2 c))
  · rw [cF (dF h), if_neg h]; exact e s
theorem dv_tdiv {n s : Int} (hs : 0 ≤ s ∧ s ≤ 6553500) : (if 0 < n then IntKind.i64.wrap (Int.tdiv s n) else s) = dv n s := by
  unfold dv
  split
  · rename_i h
    have h1 := Int.ediv_nonneg hs.1 (show 0 ≤ n by omega)
    have h2 := Int.ediv_le_self n hs.1
    rw [Int.tdiv_eq_ediv_of_nonneg hs.1, w64 (by omega)]
  · rfl
section
variable {W H x y phase : Int} {P : List Int} (hC : pixC W H P x y) (hp : 0 ≤ phase ∧ phase ≤ 3) (hP : upTo P 65535)
include hC hp hP
theorem pixel_eq : D_mosaic_pixel 5000 W H P phase x y = some (pixV W H P phase x y) := by
  have hC' := hC
  obtain ⟨k1, k2, k3, k4, k5, k6, k7⟩ := hC'
  obtain ⟨fl, fi⟩ := fuV_in W H x y 4 (max 0 (y - 1)) (by omega)
  have al : (aroundL W H x y).length ≤ 16 := by
    rw [around_eq]
    exact Nat.le_trans (List.length_filter_le _ _) fl
  have ai : ∀ q ∈ aroundL W H x y, 0 ≤ q.1 ∧ q.1 < W ∧ 0 ≤ q.2 ∧ q.2 < H := fun q hq => by
    rw [around_eq] at hq
    exact fi q (List.mem_filter.1 hq).1
  have hf := code_fold hC hp hP (aroundL W H x y) [] (by simp; omega) ai
  have s0 := sm_bd2 (W := W) hP phase 0 (aroundL W H x y) (by omega)
  have s1 := sm_bd2 (W := W) hP phase 1 (aroundL W H x y) (by omega)
  have s2 := sm_bd2 (W := W) hP phase 2 (aroundL W H x y) (by omega)
  obtain ⟨e1, _, _, e2⟩ := pix_at hC (u := x) (v := y) (by omega)
  unfold D_mosaic_pixel
  rw [cT (dT hC)]
  have hf' : List.foldl (D_mosaic_pixel_s 5000 W P phase) (0, 0, 0, 0, 0, 0) (aroundL W H x y) = accOf W P phase (aroundL W H x y) := hf
  rw [hf']
  unfold D_mosaic_pixel_r accOf
  dsimp only
  rw [one_l1 5000 4999 _ _ _ _ (sm W P phase 0 (aroundL W H x y), sm W P phase 1 (aroundL W H x y), sm W P phase 2 (aroundL W H x y))]
  dsimp only
  rw [two_l1 5000 4998 _ _ _ _ (_, sm W P phase 1 (aroundL W H x y), sm W P phase 2 (aroundL W H x y))]
  dsimp only
  rw [three_l1 5000 4996 _ _ _ _ (_, _, sm W P phase 2 (aroundL W H x y))]
  dsimp only
  rw [dv_tdiv s0, dv_tdiv s1, dv_tdiv s2, colour_eq 5000 hp (by omega) (by omega), bsome, e1, e2]
  have hr := colI_in phase x y
  have other : ∀ c, c ≠ colI phase x y → cnt phase c (aroundL W H x y) = cnt phase c (fullL W H x y) ∧ sm W P phase c (aroundL W H x y) = sm W P phase c (fullL W H x y) := fun c hc => by
    unfold cnt sm
    rw [ofC_around W H x y phase c hc]; exact ⟨rfl, rfl⟩
  unfold pixV setC
  have ep : pAt W P (x, y) = P.getD (y * W + x).toNat 0 := rfl
  have hc : colI phase x y = 0 ∨ colI phase x y = 1 ∨ colI phase x y = 2 := by omega
  rcases hc with hc | hc | hc
  · rw [(other 1 (by omega)).1, (other 1 (by omega)).2, (other 2 (by omega)).1, (other 2 (by omega)).2, hc, cT (by decide), ep]; rfl
  · rw [(other 0 (by omega)).1, (other 0 (by omega)).2, (other 2 (by omega)).1, (other 2 (by omega)).2, hc, cF (by decide), cT (by decide), ep]; rfl
  · rw [(other 0 (by omega)).1, (other 0 (by omega)).2, (other 1 (by omega)).1, (other 1 (by omega)).2, hc, cF (by decide), cF (by decide), ep]; rfl
end
end Go.Proofs.Ytpmnfhifmmfglab

namespace Go.Proofs.Ytpmnfhifmmfglab
open Go
theorem repair_nil (N : Nat) (W H : Int) (P : List Int) (hl : P.length ≤ 9223372036854775807) : D_sensor_Repair N W H P [] = some (if planeFine W H P = false then (0, 0, [], 1) else (W, H, (List.range P.length).map (repairL W H [] P), 0)) := by
  unfold D_sensor_Repair
  rw [if_neg (by omega)]
  cases planeFine W H P
  · rfl
  · rw [if_neg (by simp), if_neg (by simp), if_neg (by simp), if_neg (by simp)]
section
variable {W H : Nat} {P : List Int} (hW : 1 ≤ W ∧ W ≤ 64 ∧ 1 ≤ H ∧ H ≤ 64) (hl : P.length = W * H) (hP : upTo P 65535) {phase : Int} (hp : 0 ≤ phase ∧ phase ≤ 3)
def pF (W H : Nat) (P : List Int) (phase : Int) (x y : Nat) : Px := pixV W H P phase x y
include hW hl in
theorem pixC_nat {x y : Nat} (hx : x < W) (hy : y < H) : pixC (W : Int) (H : Int) P x y := ⟨by omega, by omega, by omega, by omega, by omega, by omega, by rw [hl, Int.natCast_mul]⟩
include hW hl hP hp
theorem fill_l2 (kk) {y : Nat} (hy : y < H) : ∀ (d x fuel : Nat), x + d = W → d < fuel →
    D_mosaic_Fill_l2 5000 W H P phase y kk fuel (pre W (pF W H P phase) (y * W + x), (x : Int)) = kk (pre W (pF W H P phase) ((y + 1) * W + 0), (W : Int)) := by
  have hm := Nat.mul_le_mul hW.2.1 hW.2.2.2
  intro d
  induction d with
  | zero =>
    intro x fuel hk hf
    obtain ⟨fuel, rfl⟩ : ∃ m, fuel = m + 1 := ⟨fuel - 1, by omega⟩
    obtain rfl : x = W := by omega
    unfold D_mosaic_Fill_l2
    rw [cF (dF (by omega)), pre_row]
  | succ d ih =>
    intro x fuel hk hf
    obtain ⟨fuel, rfl⟩ : ∃ m, fuel = m + 1 := ⟨fuel - 1, by omega⟩
    have hx : x < W := by omega
    have hpl := place_lt hx hy
    unfold D_mosaic_Fill_l2
    rw [cT (dT (by omega)), pixel_eq (pixC_nat hW hl hx hy) hp hP, bsome]
    have e : ((pixV (W : Int) (H : Int) P phase x y).1, (pixV (W : Int) (H : Int) P phase x y).2.1, (pixV (W : Int) (H : Int) P phase x y).2.2) = pF W H P phase x y := rfl
    rw [e, app_eq (by rw [pre_len]; simp; omega), bsome, w64 (by omega), ← pre_succ (pF W H P phase) y hx]
    exact ih (x + 1) fuel (by omega) (by omega)
theorem fill_l1 (kk) : ∀ (d y fuel : Nat), y + d = H → d < fuel →
    D_mosaic_Fill_l1 5000 W H P phase kk fuel (pre W (pF W H P phase) (y * W + 0), (y : Int)) = kk (pre W (pF W H P phase) (H * W + 0), (H : Int)) := by
  intro d
  induction d with
  | zero =>
    intro y fuel hk hf
    obtain ⟨fuel, rfl⟩ : ∃ m, fuel = m + 1 := ⟨fuel - 1, by omega⟩
    obtain rfl : y = H := by omega
    unfold D_mosaic_Fill_l1
    rw [cF (dF (by omega))]
  | succ d ih =>
    intro y fuel hk hf
    obtain ⟨fuel, rfl⟩ : ∃ m, fuel = m + 1 := ⟨fuel - 1, by omega⟩
    unfold D_mosaic_Fill_l1
    rw [cT (dT (by omega))]
    refine (fill_l2 hW hl hP hp _ (y := y) (by omega) W 0 5000 (by omega) (by omega)).trans ?_
    dsimp only
    rw [w64 (by omega)]
    exact ih (y + 1) fuel (by omega) (by omega)
theorem fill_full (kk : List Px × Int → Option (Int × Int × List Px × Int)) : D_mosaic_Fill_l1 5000 W H P phase kk 5000 ([], 0) = kk (mkL W H (pF W H P phase), (H : Int)) := by
  have := fill_l1 hW hl hP hp kk H 0 5000 (by omega) (by omega)
  simp only [Nat.zero_mul, Nat.add_zero, pre, List.range_zero, List.map_nil] at this
  refine this.trans ?_
  rw [mkL, Nat.mul_comm]
theorem mdoc_l4 {x y : Nat} (hx : x < W) {v : Int} (hv : 0 ≤ v ∧ v < H) (kk) : ∀ (k : Nat) (u : Int) (L : List (Int × Int)) (fuel : Nat), 0 ≤ u → (x : Int) + 1 - u < k → L.length + k ≤ 99 → k < fuel →
    ∃ z, D_darkslideref_Filled_l4 5000 W H P phase x v kk fuel ((accOf W P phase L).1, (accOf W P phase L).2.1, (accOf W P phase L).2.2.1, (accOf W P phase L).2.2.2.1, (accOf W P phase L).2.2.2.2.1, (accOf W P phase L).2.2.2.2.2, u) =
      kk ((accOf W P phase (L ++ fuU W x v k u)).1, (accOf W P phase (L ++ fuU W x v k u)).2.1, (accOf W P phase (L ++ fuU W x v k u)).2.2.1, (accOf W P phase (L ++ fuU W x v k u)).2.2.2.1, (accOf W P phase (L ++ fuU W x v k u)).2.2.2.2.1, (accOf W P phase (L ++ fuU W x v k u)).2.2.2.2.2, z) := by
  intro k
  induction k with
  | zero =>
    intro u L fuel hu hk hL hf
    obtain ⟨fuel, rfl⟩ : ∃ m, fuel = m + 1 := ⟨fuel - 1, by omega⟩
    refine ⟨u, ?_⟩
    unfold D_darkslideref_Filled_l4
    rw [w64 (x := (W : Int) - 1) (by omega), w64 (x := (x : Int) + 1) (by omega), cF (dF (by omega)), fuU, List.append_nil]
  | succ k ih =>
    intro u L fuel hu hk hL hf
    obtain ⟨fuel, rfl⟩ : ∃ m, fuel = m + 1 := ⟨fuel - 1, by omega⟩
    by_cases hc : u ≤ min ((W : Int) - 1) ((x : Int) + 1)
    · obtain ⟨z, hz⟩ := ih (u + 1) (L ++ [(u, v)]) fuel (by omega) (by omega) (by simp; omega) (by omega)
      refine ⟨z, ?_⟩
      rw [fuU, if_pos hc]
      have hC := pixC_nat hW hl hx (show 0 < H by omega)
      obtain ⟨e1, _, _, e2⟩ := pix_at hC (u := u) (v := v) ⟨hu, by omega, hv.1, hv.2⟩
      have c0 := cnt_bd phase 0 L
      have c1 := cnt_bd phase 1 L
      have c2 := cnt_bd phase 2 L
      have s0 := sm_bd2 (W := W) hP phase 0 L (by omega)
      have s1 := sm_bd2 (W := W) hP phase 1 L (by omega)
      have s2 := sm_bd2 (W := W) hP phase 2 L (by omega)
      have hpv := hP (v * W + u).toNat
      have hr := colI_in phase u v
      have hat : D_darkslideref_At 5000 W H P u v = some (P.getD (v * W + u).toNat 0) := by
        unfold D_darkslideref_At
        rw [e1, e2]; rfl
      have ee : L ++ (u, v) :: fuU W x v k (u + 1) = L ++ [(u, v)] ++ fuU W x v k (u + 1) := by simp
      rw [ee, ← hz]
      conv => lhs; unfold D_darkslideref_Filled_l4
      rw [w64 (x := (W : Int) - 1) (by omega), w64 (x := (x : Int) + 1) (by omega), cT (dT hc), colourAt_eq 5000 hp (by omega) (by omega), bsome, hat]
      simp only [accOf, cnt_snoc, sm_snoc, bsome]
      have e : pAt W P (u, v) = P.getD (v * W + u).toNat 0 := rfl
      rw [w64 (x := u + 1) (by omega)]
      have hcc : colI phase u v = 0 ∨ colI phase u v = 1 ∨ colI phase u v = 2 := by omega
      rcases hcc with hcc | hcc | hcc
      · rw [hcc, cT (by decide), w64 (by omega), w64 (by omega), e]; rfl
      · rw [hcc, cF (by decide), cT (by decide), w64 (by omega), w64 (by omega), e]; rfl
      · rw [hcc, cF (by decide), cF (by decide), cT (by decide), w64 (by omega), w64 (by omega), e]; rfl
    · refine ⟨u, ?_⟩
      unfold D_darkslideref_Filled_l4
      rw [w64 (x := (W : Int) - 1) (by omega), w64 (x := (x : Int) + 1) (by omega), cF (dF hc), fuU, if_neg hc, List.append_nil]
theorem mdoc_l3 {x y : Nat} (hx : x < W) (hy : y < H) (kk) : ∀ (k : Nat) (v : Int) (L : List (Int × Int)) (fuel : Nat), 0 ≤ v → (y : Int) + 1 - v < k → L.length + 4 * k ≤ 60 → k < fuel →
    ∃ z, D_darkslideref_Filled_l3 5000 W H P phase y x kk fuel ((accOf W P phase L).1, (accOf W P phase L).2.1, (accOf W P phase L).2.2.1, (accOf W P phase L).2.2.2.1, (accOf W P phase L).2.2.2.2.1, (accOf W P phase L).2.2.2.2.2, v) =
      kk ((accOf W P phase (L ++ fuV W H x y k v)).1, (accOf W P phase (L ++ fuV W H x y k v)).2.1, (accOf W P phase (L ++ fuV W H x y k v)).2.2.1, (accOf W P phase (L ++ fuV W H x y k v)).2.2.2.1, (accOf W P phase (L ++ fuV W H x y k v)).2.2.2.2.1, (accOf W P phase (L ++ fuV W H x y k v)).2.2.2.2.2, z) := by
  intro k
  induction k with
  | zero =>
    intro v L fuel hv hk hL hf
    obtain ⟨fuel, rfl⟩ : ∃ m, fuel = m + 1 := ⟨fuel - 1, by omega⟩
    refine ⟨v, ?_⟩
    unfold D_darkslideref_Filled_l3
    rw [w64 (x := (H : Int) - 1) (by omega), w64 (x := (y : Int) + 1) (by omega), cF (dF (by omega)), fuV, List.append_nil]
  | succ k ih =>
    intro v L fuel hv hk hL hf
    obtain ⟨fuel, rfl⟩ : ∃ m, fuel = m + 1 := ⟨fuel - 1, by omega⟩
    by_cases hc : v ≤ min ((H : Int) - 1) ((y : Int) + 1)
    · obtain ⟨a, _⟩ := fuU_in W x v 4 (max 0 ((x : Int) - 1)) (by omega)
      obtain ⟨z, hz⟩ := ih (v + 1) (L ++ fuU W x v 4 (max 0 ((x : Int) - 1))) fuel (by omega) (by omega) (by rw [List.length_append]; omega) (by omega)
      refine ⟨z, ?_⟩
      rw [fuV, if_pos hc, ← List.append_assoc, ← hz]
      conv => lhs; unfold D_darkslideref_Filled_l3
      rw [w64 (x := (H : Int) - 1) (by omega), w64 (x := (y : Int) + 1) (by omega), cT (dT hc), w64 (x := (x : Int) - 1) (by omega), bsome]
      obtain ⟨z2, hz2⟩ := mdoc_l4 hW hl hP hp (y := y) hx (v := v) (by omega) (fun (x017, x121, x218, x018, x122, x219, i13) => (some (IntKind.i64.wrap (v + 1))).bind fun x52 => D_darkslideref_Filled_l3 5000 W H P phase y x kk fuel (x017, x121, x218, x018, x122, x219, x52)) 4 (max 0 ((x : Int) - 1)) L 5000 (by omega) (by omega) (by omega) (by omega)
      refine hz2.trans ?_
      dsimp only
      rw [bsome, w64 (x := v + 1) (by omega)]
    · refine ⟨v, ?_⟩
      unfold D_darkslideref_Filled_l3
      rw [w64 (x := (H : Int) - 1) (by omega), w64 (x := (y : Int) + 1) (by omega), cF (dF hc), fuV, if_neg hc, List.append_nil]
omit hW hl hP hp in
theorem mdoc_l5 (N fuel : Nat) (a b c : Int) (s : Px) (kk) : D_darkslideref_Filled_l5 N a b c s.1 s.2.1 s.2.2 kk (fuel + 4) (0, 0, 0, 0) =
    Option.bind (nz (max a 1)) fun _ => Option.bind (nz (max b 1)) fun _ => Option.bind (nz (max c 1)) fun _ => kk (IntKind.i64.wrap (Int.tdiv s.1 (max a 1)), IntKind.i64.wrap (Int.tdiv s.2.1 (max b 1)), IntKind.i64.wrap (Int.tdiv s.2.2 (max c 1)), 3) := by kernel_rfl
omit hW hl hP hp in
theorem dv_max {n s : Int} (hn : 0 ≤ n) (hs : 0 ≤ s ∧ s ≤ 6553500) : IntKind.i64.wrap (Int.tdiv s (max n 1)) = dv n s := by
  have h1 := Int.ediv_nonneg hs.1 (show 0 ≤ max n 1 by omega)
  have h2 := Int.ediv_le_self (max n 1) hs.1
  rw [Int.tdiv_eq_ediv_of_nonneg hs.1, w64 (by omega)]
  unfold dv
  by_cases h : 0 < n
  · rw [if_pos h, Int.max_eq_left (by omega)]
  · rw [if_neg h, Int.max_eq_right (by omega), Int.ediv_one]
theorem mdoc_l2 (kk) {y : Nat} (hy : y < H) : ∀ (d x fuel : Nat), x + d = W → d < fuel →
    D_darkslideref_Filled_l2 5000 W H P phase y kk fuel (pre W (pF W H P phase) (y * W + x), (x : Int)) = kk (pre W (pF W H P phase) ((y + 1) * W + 0), (W : Int)) := by
  have hm := Nat.mul_le_mul hW.2.1 hW.2.2.2
  intro d
  induction d with
  | zero =>
    intro x fuel hk hf
    obtain ⟨fuel, rfl⟩ : ∃ m, fuel = m + 1 := ⟨fuel - 1, by omega⟩
    obtain rfl : x = W := by omega
    unfold D_darkslideref_Filled_l2
    rw [cF (dF (by omega)), pre_row]
  | succ d ih =>
    intro x fuel hk hf
    obtain ⟨fuel, rfl⟩ : ∃ m, fuel = m + 1 := ⟨fuel - 1, by omega⟩
    have hx : x < W := by omega
    have hpl := place_lt hx hy
    have hih := ih (x + 1) fuel (by omega) (by omega)
    have hC := pixC_nat hW hl hx hy
    obtain ⟨e1, _, _, e2⟩ := pix_at hC (u := x) (v := y) (by omega)
    have hat : D_darkslideref_At 5000 W H P x y = some (pAt W P (x, y)) := by
      unfold D_darkslideref_At
      rw [e1, e2]; rfl
    have L0 : fullL (W : Int) (H : Int) x y = [] ++ fuV W H x y 4 (max 0 ((y : Int) - 1)) := rfl
    obtain ⟨fl, _⟩ := fuV_in (W : Int) (H : Int) x y 4 (max 0 ((y : Int) - 1)) (by omega)
    have c0 := cnt_bd phase 0 (fullL (W : Int) (H : Int) x y)
    have c1 := cnt_bd phase 1 (fullL (W : Int) (H : Int) x y)
    have c2 := cnt_bd phase 2 (fullL (W : Int) (H : Int) x y)
    have hfl : (fullL (W : Int) (H : Int) x y).length ≤ 100 := by rw [L0]; simp; omega
    have s0 := sm_bd2 (W := W) hP phase 0 (fullL (W : Int) (H : Int) x y) hfl
    have s1 := sm_bd2 (W := W) hP phase 1 (fullL (W : Int) (H : Int) x y) hfl
    have s2 := sm_bd2 (W := W) hP phase 2 (fullL (W : Int) (H : Int) x y) hfl
    have hr := colI_in phase x y
    unfold D_darkslideref_Filled_l2
    rw [cT (dT (by omega)), w64 (x := (y : Int) - 1) (by omega), bsome]
    refine (mdoc_l3 hW hl hP hp hx hy _ 4 (max 0 ((y : Int) - 1)) [] 5000 (by omega) (by omega) (by simp) (by omega)).elim fun z hz => hz.trans ?_
    rw [← L0]
    dsimp only [accOf]
    refine (mdoc_l5 5000 4996 _ _ _ (sm W P phase 0 (fullL W H x y), sm W P phase 1 (fullL W H x y), sm W P phase 2 (fullL W H x y)) _).trans ?_
    rw [nz_eq (by omega), bsome, nz_eq (by omega), bsome, nz_eq (by omega), bsome]
    dsimp only
    rw [dv_max c0.1 s0, dv_max c1.1 s1, dv_max c2.1 s2, colourAt_eq 5000 hp (by omega) (by omega), bsome, hat, bsome]
    unfold D_darkslideref_pixel
    simp only [bsome]
    rw [w64 (x := (x : Int) + 1) (by omega)]
    have hcc : colI phase x y = 0 ∨ colI phase x y = 1 ∨ colI phase x y = 2 := by omega
    have fin : ∀ p : Px, p = pF W H P phase x y → (Option.bind (app 24 (pre W (pF W H P phase) (y * W + x)) ([(p.1, p.2.1, p.2.2)] : List Px)) fun xP => D_darkslideref_Filled_l2 5000 W H P phase y kk fuel (xP, (x : Int) + 1)) = kk (pre W (pF W H P phase) ((y + 1) * W + 0), (W : Int)) := fun p hpe => by
      subst hpe
      rw [app_eq (by rw [pre_len]; simp; omega), bsome]
      have := pre_succ (pF W H P phase) y hx
      rw [show ((pF W H P phase x y).1, (pF W H P phase x y).2.1, (pF W H P phase x y).2.2) = pF W H P phase x y from rfl, ← this]
      exact hih
    rcases hcc with hcc | hcc | hcc
    · rw [hcc, cT (by decide)]
      exact fin (pAt W P (x, y), _, _) (by unfold pF pixV; rw [hcc]; rfl)
    · rw [hcc, cF (by decide), cT (by decide)]
      exact fin (_, pAt W P (x, y), _) (by unfold pF pixV; rw [hcc]; rfl)
    · rw [hcc, cF (by decide), cF (by decide), cT (by decide)]
      exact fin (_, _, pAt W P (x, y)) (by unfold pF pixV; rw [hcc]; rfl)
theorem mdoc_l1 (kk) : ∀ (d y fuel : Nat), y + d = H → d < fuel →
    D_darkslideref_Filled_l1 5000 W H P phase kk fuel (pre W (pF W H P phase) (y * W + 0), (y : Int)) = kk (pre W (pF W H P phase) (H * W + 0), (H : Int)) := by
  intro d
  induction d with
  | zero =>
    intro y fuel hk hf
    obtain ⟨fuel, rfl⟩ : ∃ m, fuel = m + 1 := ⟨fuel - 1, by omega⟩
    obtain rfl : y = H := by omega
    unfold D_darkslideref_Filled_l1
    rw [cF (dF (by omega))]
  | succ d ih =>
    intro y fuel hk hf
    obtain ⟨fuel, rfl⟩ : ∃ m, fuel = m + 1 := ⟨fuel - 1, by omega⟩
    unfold D_darkslideref_Filled_l1
    rw [cT (dT (by omega))]
    refine (mdoc_l2 hW hl hP hp _ (y := y) (by omega) W 0 5000 (by omega) (by omega)).trans ?_
    dsimp only
    rw [bsome, w64 (by omega)]
    exact ih (y + 1) fuel (by omega) (by omega)
theorem filled_eq : D_darkslideref_Filled 5000 W H P phase = some ((W : Int), (H : Int), mkL W H (pF W H P phase)) := by
  unfold D_darkslideref_Filled
  have := mdoc_l1 hW hl hP hp (fun x : List Px × Int => some ((W : Int), (H : Int), x.1)) H 0 5000 (by omega) (by omega)
  simp only [Nat.zero_mul, Nat.add_zero, pre, List.range_zero, List.map_nil] at this
  refine this.trans ?_
  rw [mkL, Nat.mul_comm]
end
theorem fill_eq (W H : Int) (P : List Int) (phase : Int) (hl : P.length ≤ 9223372036854775807) : D_mosaic_Fill 5000 W H P phase = some (if planeFine W H P = false then (0, 0, [], 1) else if 0 ≤ phase ∧ phase ≤ 3 then (W, H, mkL W.toNat H.toNat (pF W.toNat H.toNat P phase), 0) else (0, 0, [], 3)) := by
  unfold D_mosaic_Fill
  rw [repair_nil 5000 W H P hl, bsome]
  cases hq : planeFine W H P
  · rfl
  · obtain ⟨w, h, rfl, rfl, w1, w2, w3, w4, hlen, hm, hall⟩ := plane_nat hq
    rw [if_neg (by simp), if_neg (by simp), cF (by rfl)]
    by_cases a1 : phase < 0
    · rw [cT (dT a1), if_neg (by omega)]
    rw [cF (dF a1)]
    by_cases a2 : 3 < phase
    · rw [cT (dT a2), if_neg (by omega)]
    rw [cF (dF a2), if_pos (by omega), Int.toNat_natCast, Int.toNat_natCast]
    exact fill_full ⟨w1, w2, w3, w4⟩ hlen (plane_up hlen hall) (by omega) _
theorem dv_bd {n s top : Int} (ht : 0 ≤ top) (hn : 0 ≤ n) (hs : 0 ≤ s ∧ s ≤ top * n) : 0 ≤ dv n s ∧ dv n s ≤ top := by
  unfold dv
  by_cases h : 0 < n
  · rw [if_pos h]
    exact ⟨Int.ediv_nonneg hs.1 hn, Int.ediv_le_of_le_mul h hs.2⟩
  · rw [if_neg h]
    have : n = 0 := by omega
    subst this
    simp at hs
    omega
theorem pix_bd {W H : Nat} {P : List Int} {top : Int} (ht : 0 ≤ top) (hP : upTo P top) (phase : Int) (x y : Nat) : (0 ≤ (pF W H P phase x y).1 ∧ (pF W H P phase x y).1 ≤ top) ∧ (0 ≤ (pF W H P phase x y).2.1 ∧ (pF W H P phase x y).2.1 ≤ top) ∧ (0 ≤ (pF W H P phase x y).2.2 ∧ (pF W H P phase x y).2.2 ≤ top) := by
  have own : 0 ≤ pAt W P ((x : Int), (y : Int)) ∧ pAt W P ((x : Int), (y : Int)) ≤ top := hP _
  have d : ∀ c, 0 ≤ dv (cnt phase c (fullL W H x y)) (sm W P phase c (fullL W H x y)) ∧ dv (cnt phase c (fullL W H x y)) (sm W P phase c (fullL W H x y)) ≤ top := fun c => dv_bd ht (cnt_bd _ _ _).1 (sm_bd hP phase c _)
  unfold pF pixV setC
  split
  · exact ⟨own, d 1, d 2⟩
  · split
    · exact ⟨d 0, own, d 2⟩
    · exact ⟨d 0, d 1, own⟩
theorem fill_pic {W H : Nat} {P : List Int} (h : 1 ≤ W ∧ W ≤ 64 ∧ 1 ≤ H ∧ H ≤ 64) (hP : upTo P 65535) (phase : Int) : picF W H (mkL W H (pF W H P phase)) = true := picF_mk h fun x y _ _ => by
  obtain ⟨a, b, c⟩ := pix_bd (W := W) (H := H) (by omega) hP phase x y
  simp only [okPx, decide_eq_true_eq]; omega
end Go.Proofs.Ytpmnfhifmmfglab

namespace Go.Proofs.Ytpmnfhifmmfglab
open Go
theorem down_eq (N : Nat) {n b : Int} (hb : 1 ≤ b ∧ b ≤ 1000000) (hn : -4611686018427387904 ≤ n ∧ n ≤ 4611686018427387904) : D_darkslideref_down N n b = some (n / b) := by
  have hd := Int.mul_ediv_add_emod n b
  have hr0 := Int.emod_nonneg n (show b ≠ 0 by omega)
  have hr1 := Int.emod_lt_of_pos n (show 0 < b by omega)
  obtain ⟨q, hq⟩ : ∃ q, n / b = q := ⟨_, rfl⟩
  obtain ⟨r, hr⟩ : ∃ r, n % b = r := ⟨_, rfl⟩
  rw [hq, hr] at hd
  rw [hr] at hr0 hr1
  have hqb : -4611686018427387905 ≤ q ∧ q ≤ 4611686018427387904 := by
    have h1 : q ≤ 4611686018427387904 := by
      rw [← hq]
      exact Int.le_trans (Int.ediv_le_ediv (by omega) hn.2) (Int.ediv_le_of_le_mul (by omega) (by omega))
    have h2 : -4611686018427387905 ≤ q := by
      rw [← hq]
      exact Int.le_ediv_of_mul_le (by omega) (by omega)
    exact ⟨h2, h1⟩
  unfold D_darkslideref_down
  rw [nz_eq (by omega), bsome, bsome, Int.tdiv_eq_ediv, hq]
  by_cases h : 0 ≤ n ∨ b ∣ n
  · rw [if_pos h, Int.add_zero, w64 (x := q) (by omega), Int.mul_comm q b, w64 (x := b * q) (by omega), cF (dF (by omega))]
  · rw [if_neg h, Int.sign_eq_one_of_pos (by omega), w64 (x := q + 1) (by omega), Int.mul_comm (q + 1) b, Int.mul_add, Int.mul_one, w64 (x := b * q + b) (by omega), cT (dT (by omega)), bsome, w64 (by omega), Int.add_sub_cancel]
end Go.Proofs.Ytpmnfhifmmfglab

namespace Go.Proofs.Ytpmnfhifmmfglab
open Go
theorem sfine_l1 (N : Nat) (P : List Int) (kk : Int → Option Bool) (hP : P.length ≤ 4096) : ∀ (d k fuel : Nat), k + d = P.length → d < fuel → D_sensor_fine_l1 N P kk fuel (k : Int) = if (P.drop k).all okS then kk P.length else some false := by
  intro d
  induction d with
  | zero =>
    intro k fuel hk hf
    obtain ⟨fuel, rfl⟩ : ∃ m, fuel = m + 1 := ⟨fuel - 1, by omega⟩
    obtain rfl : k = P.length := by omega
    unfold D_sensor_fine_l1
    rw [cF (dF (by omega))]
    simp
  | succ d ih =>
    intro k fuel hk hf
    obtain ⟨fuel, rfl⟩ : ∃ m, fuel = m + 1 := ⟨fuel - 1, by omega⟩
    have hlt : k < P.length := by omega
    unfold D_sensor_fine_l1
    rw [cT (dT (by omega)), idx_nat, List.getElem?_eq_getElem hlt, bsome, List.drop_eq_getElem_cons hlt, List.all_cons]
    have hih := ih (k + 1) fuel (by omega) (by omega)
    by_cases h1 : P[k] < 0
    · rw [cT (dT h1)]
      have : okS P[k] = false := by simp only [okS, Bool.and_eq_false_iff, decide_eq_false_iff_not]; omega
      simp [this]
    rw [cF (dF h1)]
    by_cases h2 : 65535 < P[k]
    · rw [cT (dT h2)]
      have : okS P[k] = false := by simp only [okS, Bool.and_eq_false_iff, decide_eq_false_iff_not]; omega
      simp [this]
    rw [cF (dF h2), w64 (by omega)]
    have : okS P[k] = true := by simp only [okS, Bool.and_eq_true, decide_eq_true_eq]; omega
    rw [this, Bool.true_and, ← hih]
    rfl
theorem sfine_eq (N : Nat) (W H : Int) (P : List Int) (hN : 5000 ≤ N) : D_sensor_fine N W H P = some (planeFine W H P) := by
  unfold D_sensor_fine
  have no : ¬ (sideOk W H ∧ (P.length : Int) = W * H) → planeFine W H P = false := fun h => by
    cases hq : planeFine W H P
    · rfl
    · obtain ⟨a, b, _⟩ := planeFine_iff.1 hq; exact absurd ⟨a, b⟩ h
  by_cases h1 : W < 1
  · rw [cT (dT h1), no (fun h => by unfold sideOk at h; omega)]
  rw [cF (dF h1)]
  by_cases h2 : 64 < W
  · rw [cT (dT h2), no (fun h => by unfold sideOk at h; omega)]
  rw [cF (dF h2)]
  by_cases h3 : H < 1
  · rw [cT (dT h3), no (fun h => by unfold sideOk at h; omega)]
  rw [cF (dF h3)]
  by_cases h4 : 64 < H
  · rw [cT (dT h4), no (fun h => by unfold sideOk at h; omega)]
  have hb := mul_bd (W := W) (H := H) (by omega)
  rw [cF (dF h4), w64 (by omega)]
  by_cases h5 : (P.length : Int) = W * H
  rotate_left
  · rw [cT (by rw [dF h5]; rfl), no (fun h => h5 h.2)]
  rw [cF (by rw [dT h5]; rfl)]
  refine (sfine_l1 N P _ (by omega) P.length 0 N (by omega) (by omega)).trans ?_
  have hs : sideOk W H := ⟨by omega, by omega, by omega, by omega⟩
  simp only [planeFine, hs, h5, decide_true, Bool.true_and, List.drop_zero]
  cases P.all okS <;> rfl
def blk4 (b0 b1 b2 b3 : Int) (x y : Nat) : Int := if y % 2 = 0 then (if x % 2 = 0 then b0 else b1) else (if x % 2 = 0 then b2 else b3)
def levV (b w v : Int) : Int := min (max (v - b) 0 * 65535 / (w - b)) 65535
def levL (W : Nat) (P : List Int) (b0 b1 b2 b3 w : Int) (i : Nat) : Int := levV (blk4 b0 b1 b2 b3 (i % W) (i / W)) w (P.getD i 0)
def blkOK (b0 b1 b2 b3 w : Int) : Prop := (0 ≤ b0 ∧ b0 < w) ∧ (0 ≤ b1 ∧ b1 < w) ∧ (0 ≤ b2 ∧ b2 < w) ∧ (0 ≤ b3 ∧ b3 < w)
theorem blk4_in {b0 b1 b2 b3 w : Int} (h : blkOK b0 b1 b2 b3 w) (x y : Nat) : 0 ≤ blk4 b0 b1 b2 b3 x y ∧ blk4 b0 b1 b2 b3 x y < w := by
  obtain ⟨h0, h1, h2, h3⟩ := h
  unfold blk4
  split <;> split <;> assumption
theorem andI_par {n : Nat} (h : n < 64) : andI .i64 (n : Int) 1 = ((n % 2 : Nat) : Int) := by rw [andI_one ⟨by omega, by omega⟩]; omega
theorem or_fin : ∀ a b : Fin 2, orI .i64 (shlI .i64 ((a.val : Nat) : Int) 1) ((b.val : Nat) : Int) = ((a.val * 2 + b.val : Nat) : Int) := by decide +kernel
theorem blk_ix {x y : Nat} (hx : x < 64) (hy : y < 64) : orI .i64 (shlI .i64 (andI .i64 (y : Int) 1) 1) (andI .i64 (x : Int) 1) = ((y % 2 * 2 + x % 2 : Nat) : Int) := by
  rw [andI_par hx, andI_par hy]
  exact or_fin ⟨y % 2, by omega⟩ ⟨x % 2, by omega⟩
theorem blk_idx (b0 b1 b2 b3 : Int) (x y : Nat) : idx [b0, b1, b2, b3] ((y % 2 * 2 + x % 2 : Nat) : Int) = some (blk4 b0 b1 b2 b3 x y) := by
  rw [idx_nat]
  unfold blk4
  have hy : y % 2 = 0 ∨ y % 2 = 1 := by omega
  have hx : x % 2 = 0 ∨ x % 2 = 1 := by omega
  rcases hy with hy | hy <;> rcases hx with hx | hx <;> rw [hy, hx] <;> rfl
theorem inr_eq {i : Int} {n : Nat} (h : 0 ≤ i ∧ i < n) : inr i n = some () := by unfold inr; rw [if_pos h]
theorem tdiv_pos {a b : Int} (ha : 0 ≤ a) : Int.tdiv a b = a / b := Int.tdiv_eq_ediv_of_nonneg ha
theorem div_bd {a b : Int} (ha : 0 ≤ a) (hb : 1 ≤ b) : 0 ≤ a / b ∧ a / b ≤ a := ⟨Int.ediv_nonneg ha (by omega), Int.ediv_le_self _ ha⟩
section
variable {b0 b1 b2 b3 w : Int} (hb : blkOK b0 b1 b2 b3 w) (hw : w ≤ 65535)
include hb hw
theorem level_1 (N : Nat) {x y : Nat} (hx : x < 64) (hy : y < 64) {v : Int} (hv : 0 ≤ v ∧ v ≤ 65535) :
    ∃ r, D_sensor_Level_1 N v x y b0 b1 b2 b3 w = some r ∧ min r 65535 = levV (blk4 b0 b1 b2 b3 x y) w v := by
  have hb4 := blk4_in hb x y
  unfold D_sensor_Level_1
  rw [blk_ix hx hy, inr_eq (by omega), bsome, blk_idx, bsome]
  generalize blk4 b0 b1 b2 b3 x y = b at *
  have hm : 0 ≤ max (v - b) 0 * 65535 ∧ max (v - b) 0 * 65535 ≤ 4294836225 := by omega
  rw [w64 (x := w - b) (by omega), nz_eq (by omega), bsome, w64 (x := v - b) (by omega), w64 (x := max (v - b) 0 * 65535) (by omega), tdiv_pos hm.1]
  have := div_bd hm.1 (show 1 ≤ w - b by omega)
  rw [w64 (by omega)]
  exact ⟨_, rfl, rfl⟩
theorem levV_in {b v : Int} (h : 0 ≤ b ∧ b < w) : 0 ≤ levV b w v ∧ levV b w v ≤ 65535 := by
  have hm : 0 ≤ max (v - b) 0 * 65535 := by omega
  have := Int.ediv_nonneg hm (show 0 ≤ w - b by omega)
  unfold levV
  omega
theorem levEach_l1 (N : Nat) {W H : Nat} {P : List Int} (hs : 1 ≤ W ∧ W ≤ 64 ∧ 1 ≤ H ∧ H ≤ 64) (hl : P.length = W * H) (hP : upTo P 65535) (kk : List Int × Int → Option (Int × Int × List Int)) : ∀ (d k fuel : Nat), k + d = P.length → d < fuel →
    D_sensor_each__sensor_Level_1_l1 N W P b0 b1 b2 b3 w kk fuel ((List.range k).map (levL W P b0 b1 b2 b3 w) ++ List.replicate (P.length - k) 0, (k : Int)) = kk ((List.range P.length).map (levL W P b0 b1 b2 b3 w), (P.length : Int)) := by
  have hm := Nat.mul_le_mul hs.2.1 hs.2.2.2
  intro d
  induction d with
  | zero =>
    intro k fuel hk hf
    obtain ⟨fuel, rfl⟩ : ∃ m, fuel = m + 1 := ⟨fuel - 1, by omega⟩
    obtain rfl : k = P.length := by omega
    unfold D_sensor_each__sensor_Level_1_l1
    rw [cF (dF (by omega)), Nat.sub_self, List.replicate_zero, List.append_nil]
  | succ d ih =>
    intro k fuel hk hf
    obtain ⟨fuel, rfl⟩ : ∃ m, fuel = m + 1 := ⟨fuel - 1, by omega⟩
    have hlt : k < P.length := by omega
    obtain ⟨e1, e2⟩ := tdm k (show 0 < W by omega)
    obtain ⟨l1, l2, _⟩ := lt_of_place (show k < W * H by omega)
    have q1 : (0 : Int) ≤ ((k / W : Nat) : Int) := Int.natCast_nonneg _
    have q2 : ((k / W : Nat) : Int) < 64 := by have : k / W < 64 := by omega
                                               exact_mod_cast this
    have hv := hP k
    have hg : P.getD k 0 = P[k] := by rw [List.getD_eq_getElem?_getD, List.getElem?_eq_getElem hlt]; rfl
    rw [hg] at hv
    obtain ⟨r, hr, hr2⟩ := level_1 hb hw N (x := k % W) (y := k / W) (by omega) (by omega) hv
    unfold D_sensor_each__sensor_Level_1_l1
    rw [cT (dT (by omega)), idx_nat, List.getElem?_eq_getElem hlt, bsome, nz_eq (by omega), bsome, bsome, e1, e2, w64 (x := ((k / W : Nat) : Int)) (by omega), hr, bsome, idx_nat, List.getElem?_eq_getElem (by simp; omega), bsome, hr2]
    have hst : levV (blk4 b0 b1 b2 b3 (k % W) (k / W)) w P[k] = levL W P b0 b1 b2 b3 w k := by unfold levL; rw [hg]
    rw [hst, fill_step (levL W P b0 b1 b2 b3 w) 0 hlt, bsome, w64 (by omega)]
    exact ih (k + 1) fuel (by omega) (by omega)
theorem level_loop (N : Nat) (kk : Int → Option (Int × Int × List Int × Int)) : D_sensor_Level_l1 N b0 b1 b2 b3 w kk 5000 0 = kk 4 := by
  obtain ⟨⟨a0, c0⟩, ⟨a1, c1⟩, ⟨a2, c2⟩, ⟨a3, c3⟩⟩ := hb
  have one : ∀ (fuel : Nat) (i : Nat) (b : Int), i < 4 → idx [b0, b1, b2, b3] (i : Int) = some b → 0 ≤ b ∧ b < w → D_sensor_Level_l1 N b0 b1 b2 b3 w kk (fuel + 1) (i : Int) = D_sensor_Level_l1 N b0 b1 b2 b3 w kk fuel ((i + 1 : Nat) : Int) := fun fuel i b hi hx hb' => by
    conv => lhs; unfold D_sensor_Level_l1
    rw [cT (dT (by omega)), hx, bsome, cF (dF (by omega)), cF (dF (by omega)), cF (dF (by omega)), w64 (by omega)]
    rfl
  have h0 := one 4999 0 b0 (by decide) rfl ⟨a0, c0⟩
  have h1 := one 4998 1 b1 (by decide) rfl ⟨a1, c1⟩
  have h2 := one 4997 2 b2 (by decide) rfl ⟨a2, c2⟩
  have h3 := one 4996 3 b3 (by decide) rfl ⟨a3, c3⟩
  refine h0.trans (h1.trans (h2.trans (h3.trans ?_)))
  show D_sensor_Level_l1 N b0 b1 b2 b3 w kk (4995 + 1) 4 = kk 4
  unfold D_sensor_Level_l1
  rw [cF (by decide)]
theorem level_eq {W H : Nat} {P : List Int} (hf : planeFine W H P = true) : D_sensor_Level 5000 W H P b0 b1 b2 b3 w = some ((W : Int), (H : Int), (List.range P.length).map (levL W P b0 b1 b2 b3 w), 0) := by
  obtain ⟨w', h', e1, e2, w1, w2, w3, w4, hlen, hm, hall⟩ := plane_nat hf
  obtain rfl : W = w' := by omega
  obtain rfl : H = h' := by omega
  unfold D_sensor_Level
  rw [sfine_eq 5000 W H P (by omega), bsome, hf, cF (by rfl)]
  refine (level_loop hb hw 5000 _).trans ?_
  unfold D_sensor_each__sensor_Level_1
  rw [bsome, mk_eq (by omega), bsome, Int.toNat_natCast]
  have hL := levEach_l1 hb hw 5000 ⟨w1, w2, w3, w4⟩ hlen (plane_up hlen hall) (fun x : List Int × Int => some ((W : Int), (H : Int), x.1)) P.length 0 5000 (by omega) (by omega)
  simp only [List.range_zero, List.map_nil, List.nil_append, Nat.sub_zero] at hL
  exact (congrArg (fun z => Option.bind z fun r3 : Int × Int × List Int => some (r3.1, r3.2.1, r3.2.2, (0 : Int))) hL).trans rfl
theorem lev_doc (N : Nat) {b v : Int} (h : 0 ≤ b ∧ b < w) (hv : 0 ≤ v ∧ v ≤ 65535) : (Option.bind (D_darkslideref_down N (IntKind.i64.wrap (IntKind.i64.wrap (v - b) * 65535)) (IntKind.i64.wrap (w - b))) fun r9 => D_darkslideref_clamp N r9) = some (levV b w v) := by
  rw [w64 (x := v - b) (by omega), w64 (x := (v - b) * 65535) (by omega), w64 (x := w - b) (by omega), down_eq N (by omega) (by omega), bsome]
  unfold D_darkslideref_clamp levV
  by_cases hvb : b ≤ v
  · have := Int.ediv_nonneg (show 0 ≤ (v - b) * 65535 by omega) (show 0 ≤ w - b by omega)
    rw [Int.max_eq_left (show 0 ≤ v - b by omega)]
    congr 1; omega
  · rw [Int.max_eq_right (show v - b ≤ 0 by omega)]
    have : (v - b) * 65535 / (w - b) < 0 := Int.ediv_neg_of_neg_of_pos (by omega) (by omega)
    rw [Int.zero_mul, Int.zero_ediv]
    congr 1; omega
end
def lvF (W : Nat) (P : List Int) (b0 b1 b2 b3 w : Int) (x y : Nat) : Int := levV (blk4 b0 b1 b2 b3 x y) w (P.getD (y * W + x) 0)
theorem levL_pre (W : Nat) (P : List Int) (b0 b1 b2 b3 w : Int) (n : Nat) : (List.range n).map (levL W P b0 b1 b2 b3 w) = pre W (lvF W P b0 b1 b2 b3 w) n := by
  unfold pre
  refine List.map_congr_left fun i _ => ?_
  unfold levL lvF
  rw [Nat.mul_comm, Nat.div_add_mod]
theorem at_eq (N : Nat) {W H : Nat} {P : List Int} (hs : 1 ≤ W ∧ W ≤ 64 ∧ 1 ≤ H ∧ H ≤ 64) (hl : P.length = W * H) {x y : Nat} (hx : x < W) (hy : y < H) : D_darkslideref_At N W H P x y = some (P.getD (y * W + x) 0) := by
  have hm := Nat.mul_le_mul hs.2.1 hs.2.2.2
  have hpl := place_lt hx hy
  have e : (y : Int) * (W : Int) = ((y * W : Nat) : Int) := by rw [Int.natCast_mul]
  unfold D_darkslideref_At
  rw [e, w64 (x := ((y * W : Nat) : Int)) (by omega), w64 (by omega), show ((y * W : Nat) : Int) + (x : Int) = ((y * W + x : Nat) : Int) by omega, idx_nat, List.getElem?_eq_getElem (by omega), bsome, List.getD_eq_getElem?_getD, List.getElem?_eq_getElem (by omega)]
  rfl
theorem tmod2 (n : Nat) : Int.tmod (n : Int) 2 = ((n % 2 : Nat) : Int) := by rw [Int.tmod_eq_emod_of_nonneg (by omega)]; omega
theorem getD_up {P : List Int} (hP : upTo P 65535) (i : Nat) : 0 ≤ P.getD i 0 ∧ P.getD i 0 ≤ 65535 := hP i
section
variable {b0 b1 b2 b3 w : Int} (hb : blkOK b0 b1 b2 b3 w) (hw : w ≤ 65535) {W H : Nat} {P : List Int} (hs : 1 ≤ W ∧ W ≤ 64 ∧ 1 ≤ H ∧ H ≤ 64) (hl : P.length = W * H) (hP : upTo P 65535)
include hb hw hs hl hP
theorem levd_l2 (kk) {y : Nat} (hy : y < H) : ∀ (d x fuel : Nat), x + d = W → d < fuel →
    D_darkslideref_Levelled_l2 5000 W H P b0 b1 b2 b3 w y kk fuel (pre W (lvF W P b0 b1 b2 b3 w) (y * W + x), (x : Int)) = kk (pre W (lvF W P b0 b1 b2 b3 w) ((y + 1) * W + 0), (W : Int)) := by
  have hm := Nat.mul_le_mul hs.2.1 hs.2.2.2
  intro d
  induction d with
  | zero =>
    intro x fuel hk hf
    obtain ⟨fuel, rfl⟩ : ∃ m, fuel = m + 1 := ⟨fuel - 1, by omega⟩
    obtain rfl : x = W := by omega
    unfold D_darkslideref_Levelled_l2
    rw [cF (dF (by omega)), pre_row]
  | succ d ih =>
    intro x fuel hk hf
    obtain ⟨fuel, rfl⟩ : ∃ m, fuel = m + 1 := ⟨fuel - 1, by omega⟩
    have hx : x < W := by omega
    have hpl := place_lt hx hy
    have hpv := getD_up hP (y * W + x)
    have hb4 := blk4_in hb x y
    have hih := ih (x + 1) fuel (by omega) (by omega)
    rw [pre_succ _ y hx] at hih
    have hix : IntKind.i64.wrap (IntKind.i64.wrap (Int.tmod (y : Int) 2 * 2) + Int.tmod (x : Int) 2) = ((y % 2 * 2 + x % 2 : Nat) : Int) := by
      rw [tmod2, tmod2, w64 (x := ((y % 2 : Nat) : Int) * 2) (by omega), w64 (by omega)]; omega
    have hd := lev_doc hb hw 5000 hb4 hpv
    unfold D_darkslideref_Levelled_l2
    rw [cT (dT (by omega)), hix, inr_eq (by omega), bsome, blk_idx, bsome, at_eq 5000 hs hl hx hy, bsome, bind2, hd, bsome, app_eq (by rw [pre_len]; simp; omega), bsome, bsome, w64 (x := (x : Int) + 1) (by omega)]
    exact hih
theorem levd_l1 (kk) : ∀ (d y fuel : Nat), y + d = H → d < fuel →
    D_darkslideref_Levelled_l1 5000 W H P b0 b1 b2 b3 w kk fuel (pre W (lvF W P b0 b1 b2 b3 w) (y * W + 0), (y : Int)) = kk (pre W (lvF W P b0 b1 b2 b3 w) (H * W + 0), (H : Int)) := by
  intro d
  induction d with
  | zero =>
    intro y fuel hk hf
    obtain ⟨fuel, rfl⟩ : ∃ m, fuel = m + 1 := ⟨fuel - 1, by omega⟩
    obtain rfl : y = H := by omega
    unfold D_darkslideref_Levelled_l1
    rw [cF (dF (by omega))]
  | succ d ih =>
    intro y fuel hk hf
    obtain ⟨fuel, rfl⟩ : ∃ m, fuel = m + 1 := ⟨fuel - 1, by omega⟩
    unfold D_darkslideref_Levelled_l1
    rw [cT (dT (by omega))]
    refine (levd_l2 hb hw hs hl hP _ (y := y) (by omega) W 0 5000 (by omega) (by omega)).trans ?_
    dsimp only
    rw [bsome, w64 (by omega)]
    exact ih (y + 1) fuel (by omega) (by omega)
theorem levelled_eq : D_darkslideref_Levelled 5000 W H P b0 b1 b2 b3 w = some ((W : Int), (H : Int), (List.range P.length).map (levL W P b0 b1 b2 b3 w)) := by
  unfold D_darkslideref_Levelled
  have := levd_l1 hb hw hs hl hP (fun x : List Int × Int => some ((W : Int), (H : Int), x.1)) H 0 5000 (by omega) (by omega)
  simp only [Nat.zero_mul, Nat.add_zero, pre, List.range_zero, List.map_nil] at this
  refine this.trans ?_
  rw [hl, levL_pre, pre, Nat.mul_comm]
end
theorem and_fin2 : ∀ n : Fin 80, andI .i64 ((n.val : Nat) : Int) 1 = ((n.val : Nat) : Int) % 2 := by decide +kernel
theorem andI_two {u : Int} (h : 0 ≤ u ∧ u < 80) : andI .i64 u 1 = u % 2 := by
  have := and_fin2 ⟨u.toNat, by omega⟩
  simpa [Int.toNat_of_nonneg h.1] using this
theorem shr1 (m : Int) : shrI .i64 m 1 = m / 2 := shr_eq m 1 (by decide)
theorem colour_raw (N : Nat) {phase : Int} (hp : 0 ≤ phase ∧ phase ≤ 3) {x y : Nat} (hx : x < 64) (hy : y < 64) : D_sensor_colour N phase x y = some (colI phase x y) := by
  unfold D_sensor_colour
  rw [shr1, w64 (x := (x : Int) + phase) (by omega), w64 (x := (y : Int) + phase / 2) (by omega), andI_two (by omega), andI_two (by omega), w64 (by omega)]
  congr 1
  unfold colI
  omega
def gn3 (g0 g1 g2 c : Int) : Int := if c = 0 then g0 else if c = 1 then g1 else g2
def gnV (g v : Int) : Int := min (v * g / 256) 65535
def gnL (W : Nat) (P : List Int) (phase g0 g1 g2 : Int) (i : Nat) : Int := gnV (gn3 g0 g1 g2 (colI phase ((i % W : Nat) : Int) ((i / W : Nat) : Int))) (P.getD i 0)
def gnOK (g0 g1 g2 : Int) : Prop := (0 ≤ g0 ∧ g0 ≤ 65535) ∧ (0 ≤ g1 ∧ g1 ≤ 65535) ∧ (0 ≤ g2 ∧ g2 ≤ 65535)
theorem gn3_in {g0 g1 g2 : Int} (h : gnOK g0 g1 g2) (c : Int) : 0 ≤ gn3 g0 g1 g2 c ∧ gn3 g0 g1 g2 c ≤ 65535 := by
  obtain ⟨h0, h1, h2⟩ := h
  unfold gn3; split
  · exact h0
  · split
    · exact h1
    · exact h2
theorem gn3_idx (g0 g1 g2 : Int) {c : Int} (h : 0 ≤ c ∧ c ≤ 2) : idx [g0, g1, g2] c = some (gn3 g0 g1 g2 c) := by
  have hc : c = 0 ∨ c = 1 ∨ c = 2 := by omega
  rcases hc with rfl | rfl | rfl <;> rfl
theorem mul65 {v g : Int} (hv : 0 ≤ v ∧ v ≤ 65535) (hg : 0 ≤ g ∧ g ≤ 65535) : 0 ≤ v * g ∧ v * g ≤ 4294836225 := by
  have := mul_in (x := v) (y := g) (a := 65535) (b := 65535) (by omega) (by omega)
  have h0 := Int.mul_nonneg hv.1 hg.1
  omega
theorem gnV_in {g v : Int} (hv : 0 ≤ v ∧ v ≤ 65535) (hg : 0 ≤ g ∧ g ≤ 65535) : 0 ≤ gnV g v ∧ gnV g v ≤ 65535 := by
  have := mul65 hv hg
  unfold gnV; omega
section
variable {g0 g1 g2 : Int} (hg : gnOK g0 g1 g2) {phase : Int} (hp : 0 ≤ phase ∧ phase ≤ 3)
include hg hp
theorem gain_1 (N : Nat) {x y : Nat} (hx : x < 64) (hy : y < 64) {v : Int} (hv : 0 ≤ v ∧ v ≤ 65535) :
    ∃ r, D_sensor_Gain_1 N v x y g0 g1 g2 phase = some r ∧ min r 65535 = gnV (gn3 g0 g1 g2 (colI phase x y)) v := by
  have hc := colI_in phase x y
  have hm := mul65 hv (gn3_in hg (colI phase x y))
  unfold D_sensor_Gain_1
  rw [colour_raw N hp hx hy, bsome, inr_eq (by omega), bsome, gn3_idx _ _ _ hc, bsome, w64 (by omega), shr8]
  exact ⟨_, rfl, rfl⟩
theorem gainEach_l1 (N : Nat) {W H : Nat} {P : List Int} (hs : 1 ≤ W ∧ W ≤ 64 ∧ 1 ≤ H ∧ H ≤ 64) (hl : P.length = W * H) (hP : upTo P 65535) (kk : List Int × Int → Option (Int × Int × List Int)) : ∀ (d k fuel : Nat), k + d = P.length → d < fuel →
    D_sensor_each__sensor_Gain_1_l1 N W P g0 g1 g2 phase kk fuel ((List.range k).map (gnL W P phase g0 g1 g2) ++ List.replicate (P.length - k) 0, (k : Int)) = kk ((List.range P.length).map (gnL W P phase g0 g1 g2), (P.length : Int)) := by
  have hm := Nat.mul_le_mul hs.2.1 hs.2.2.2
  intro d
  induction d with
  | zero =>
    intro k fuel hk hf
    obtain ⟨fuel, rfl⟩ : ∃ m, fuel = m + 1 := ⟨fuel - 1, by omega⟩
    obtain rfl : k = P.length := by omega
    unfold D_sensor_each__sensor_Gain_1_l1
    rw [cF (dF (by omega)), Nat.sub_self, List.replicate_zero, List.append_nil]
  | succ d ih =>
    intro k fuel hk hf
    obtain ⟨fuel, rfl⟩ : ∃ m, fuel = m + 1 := ⟨fuel - 1, by omega⟩
    have hlt : k < P.length := by omega
    obtain ⟨e1, e2⟩ := tdm k (show 0 < W by omega)
    obtain ⟨l1, l2, _⟩ := lt_of_place (show k < W * H by omega)
    have q1 : (0 : Int) ≤ ((k / W : Nat) : Int) := Int.natCast_nonneg _
    have q2 : ((k / W : Nat) : Int) < 64 := by have : k / W < 64 := by omega
                                               exact_mod_cast this
    have hv := hP k
    have hg' : P.getD k 0 = P[k] := by rw [List.getD_eq_getElem?_getD, List.getElem?_eq_getElem hlt]; rfl
    rw [hg'] at hv
    obtain ⟨r, hr, hr2⟩ := gain_1 hg hp N (x := k % W) (y := k / W) (by omega) (by omega) hv
    unfold D_sensor_each__sensor_Gain_1_l1
    rw [cT (dT (by omega)), idx_nat, List.getElem?_eq_getElem hlt, bsome, nz_eq (by omega), bsome, bsome, e1, e2, w64 (x := ((k / W : Nat) : Int)) (by omega), hr, bsome, idx_nat, List.getElem?_eq_getElem (by simp; omega), bsome, hr2]
    have hst : gnV (gn3 g0 g1 g2 (colI phase ((k % W : Nat) : Int) ((k / W : Nat) : Int))) P[k] = gnL W P phase g0 g1 g2 k := by unfold gnL; rw [hg']
    rw [hst, fill_step (gnL W P phase g0 g1 g2) 0 hlt, bsome, w64 (by omega)]
    exact ih (k + 1) fuel (by omega) (by omega)
theorem gain_loop (N : Nat) (kk : Int → Option (Int × Int × List Int × Int)) : D_sensor_Gain_l1 N phase g0 g1 g2 kk 5000 0 = kk 3 := by
  obtain ⟨⟨a0, c0⟩, ⟨a1, c1⟩, ⟨a2, c2⟩⟩ := hg
  have one : ∀ (fuel : Nat) (i : Nat) (b : Int), i < 3 → idx [g0, g1, g2] (i : Int) = some b → 0 ≤ b ∧ b ≤ 65535 → D_sensor_Gain_l1 N phase g0 g1 g2 kk (fuel + 1) (i : Int) = D_sensor_Gain_l1 N phase g0 g1 g2 kk fuel ((i + 1 : Nat) : Int) := fun fuel i b hi hx hb' => by
    conv => lhs; unfold D_sensor_Gain_l1
    rw [cT (dT (by omega)), hx, bsome, cF (dF (by omega)), cF (dF (by omega)), cF (dF (by omega)), cF (dF (by omega)), w64 (by omega)]
    rfl
  have h0 := one 4999 0 g0 (by decide) rfl ⟨a0, c0⟩
  have h1 := one 4998 1 g1 (by decide) rfl ⟨a1, c1⟩
  have h2 := one 4997 2 g2 (by decide) rfl ⟨a2, c2⟩
  refine h0.trans (h1.trans (h2.trans ?_))
  show D_sensor_Gain_l1 N phase g0 g1 g2 kk (4996 + 1) 3 = kk 3
  unfold D_sensor_Gain_l1
  rw [cF (by decide)]
theorem gain_eq {W H : Nat} {P : List Int} (hf : planeFine W H P = true) : D_sensor_Gain 5000 W H P phase g0 g1 g2 = some ((W : Int), (H : Int), (List.range P.length).map (gnL W P phase g0 g1 g2), 0) := by
  obtain ⟨w', h', e1, e2, w1, w2, w3, w4, hlen, hm, hall⟩ := plane_nat hf
  obtain rfl : W = w' := by omega
  obtain rfl : H = h' := by omega
  unfold D_sensor_Gain
  rw [sfine_eq 5000 W H P (by omega), bsome, hf, cF (by rfl)]
  refine (gain_loop hg hp 5000 _).trans ?_
  unfold D_sensor_each__sensor_Gain_1
  rw [bsome, mk_eq (by omega), bsome, Int.toNat_natCast]
  have hL := gainEach_l1 hg hp 5000 ⟨w1, w2, w3, w4⟩ hlen (plane_up hlen hall) (fun x : List Int × Int => some ((W : Int), (H : Int), x.1)) P.length 0 5000 (by omega) (by omega)
  simp only [List.range_zero, List.map_nil, List.nil_append, Nat.sub_zero] at hL
  exact (congrArg (fun z => Option.bind z fun r3 : Int × Int × List Int => some (r3.1, r3.2.1, r3.2.2, (0 : Int))) hL).trans rfl
theorem gained_l1 {W H : Nat} {P : List Int} (hs : 1 ≤ W ∧ W ≤ 64 ∧ 1 ≤ H ∧ H ≤ 64) (hl : P.length = W * H) (hP : upTo P 65535) (kk) : ∀ (d k fuel : Nat), k + d = P.length → d < fuel →
    D_darkslideref_Gained_l1 5000 W P phase g0 g1 g2 kk fuel ((List.range k).map (gnL W P phase g0 g1 g2), (k : Int)) = kk ((List.range P.length).map (gnL W P phase g0 g1 g2), (P.length : Int)) := by
  have hm := Nat.mul_le_mul hs.2.1 hs.2.2.2
  intro d
  induction d with
  | zero =>
    intro k fuel hk hf
    obtain ⟨fuel, rfl⟩ : ∃ m, fuel = m + 1 := ⟨fuel - 1, by omega⟩
    obtain rfl : k = P.length := by omega
    unfold D_darkslideref_Gained_l1
    rw [cF (dF (by omega))]
  | succ d ih =>
    intro k fuel hk hf
    obtain ⟨fuel, rfl⟩ : ∃ m, fuel = m + 1 := ⟨fuel - 1, by omega⟩
    have hlt : k < P.length := by omega
    obtain ⟨e1, e2⟩ := tdm k (show 0 < W by omega)
    obtain ⟨l1, l2, _⟩ := lt_of_place (show k < W * H by omega)
    have q0 : (0 : Int) ≤ ((k % W : Nat) : Int) := Int.natCast_nonneg _
    have q3 : ((k % W : Nat) : Int) < 64 := by have : k % W < 64 := by omega
                                               exact_mod_cast this
    have q1 : (0 : Int) ≤ ((k / W : Nat) : Int) := Int.natCast_nonneg _
    have q2 : ((k / W : Nat) : Int) < 64 := by have : k / W < 64 := by omega
                                               exact_mod_cast this
    have hv := hP k
    have hg' : P.getD k 0 = P[k] := by rw [List.getD_eq_getElem?_getD, List.getElem?_eq_getElem hlt]; rfl
    rw [hg'] at hv
    have hc := colI_in phase ((k % W : Nat) : Int) ((k / W : Nat) : Int)
    have hmm := mul65 hv (gn3_in hg (colI phase ((k % W : Nat) : Int) ((k / W : Nat) : Int)))
    have hst : gnV (gn3 g0 g1 g2 (colI phase ((k % W : Nat) : Int) ((k / W : Nat) : Int))) P[k] = gnL W P phase g0 g1 g2 k := by unfold gnL; rw [hg']
    have hih := ih (k + 1) fuel (by omega) (by omega)
    rw [← map_snoc, ← hst] at hih
    unfold D_darkslideref_Gained_l1
    rw [cT (dT (by omega)), idx_nat, List.getElem?_eq_getElem hlt, bsome, nz_eq (by omega), bsome, bsome, e1, e2, w64 (x := ((k / W : Nat) : Int)) (by omega), colourAt_eq 5000 hp ⟨q0, q3⟩ ⟨q1, q2⟩, bsome, inr_eq (by omega), bsome, gn3_idx _ _ _ hc, bsome]
    generalize gn3 g0 g1 g2 (colI phase ((k % W : Nat) : Int) ((k / W : Nat) : Int)) = g at *
    rw [w64 (x := P[k] * g) (by omega), tdiv_pos hmm.1, w64 (x := P[k] * g / 256) (by omega)]
    unfold D_darkslideref_clamp
    rw [bsome, app_eq (by simp; omega), bsome, bsome, w64 (x := (k : Int) + 1) (by omega), show max 0 (min (P[k] * g / 256) 65535) = gnV g P[k] by unfold gnV; omega]
    exact hih
theorem gained_eq {W H : Nat} {P : List Int} (hs : 1 ≤ W ∧ W ≤ 64 ∧ 1 ≤ H ∧ H ≤ 64) (hl : P.length = W * H) (hP : upTo P 65535) : D_darkslideref_Gained 5000 W H P phase g0 g1 g2 = some ((W : Int), (H : Int), (List.range P.length).map (gnL W P phase g0 g1 g2)) := by
  have hm := Nat.mul_le_mul hs.2.1 hs.2.2.2
  unfold D_darkslideref_Gained
  exact gained_l1 hg hp hs hl hP _ P.length 0 5000 (by omega) (by omega)
end
end Go.Proofs.Ytpmnfhifmmfglab

namespace Go.Proofs.Ytpmnfhifmmfglab
open Go
theorem isSpot_l1 (N : Nat) (l : List (Int × Int)) (x y : Int) (kk : Int → Option Bool) (hl : l.length ≤ 4096) : ∀ (d k fuel : Nat), k + d = l.length → d < fuel →
    D_darkslideref_isSpot_l1 N l x y kk fuel (k : Int) = if (x, y) ∈ l.drop k then some true else kk l.length := by
  intro d
  induction d with
  | zero =>
    intro k fuel hk hf
    obtain ⟨fuel, rfl⟩ : ∃ m, fuel = m + 1 := ⟨fuel - 1, by omega⟩
    obtain rfl : k = l.length := by omega
    unfold D_darkslideref_isSpot_l1
    rw [cF (dF (by omega))]
    simp
  | succ d ih =>
    intro k fuel hk hf
    obtain ⟨fuel, rfl⟩ : ∃ m, fuel = m + 1 := ⟨fuel - 1, by omega⟩
    have hlt : k < l.length := by omega
    have hih := ih (k + 1) fuel (by omega) (by omega)
    unfold D_darkslideref_isSpot_l1
    rw [cT (dT (by omega)), idx_nat, List.getElem?_eq_getElem hlt, bsome, bsome, bsome, w64 (by omega), List.drop_eq_getElem_cons hlt]
    by_cases h1 : l[k].1 = x
    · rw [cT (dT h1)]
      by_cases h2 : l[k].2 = y
      · rw [cT (dT h2), if_pos]
        subst h1 h2
        exact List.mem_cons_self
      · rw [cF (dF h2)]
        refine hih.trans ?_
        have : ((x, y) ∈ l[k] :: l.drop (k + 1)) ↔ (x, y) ∈ l.drop (k + 1) := by
          rw [List.mem_cons]
          exact or_iff_right fun e => h2 (by rw [← e])
        simp only [this]
    · rw [cF (dF h1)]
      refine hih.trans ?_
      have : ((x, y) ∈ l[k] :: l.drop (k + 1)) ↔ (x, y) ∈ l.drop (k + 1) := by
        rw [List.mem_cons]
        exact or_iff_right fun e => h1 (by rw [← e])
      simp only [this]
theorem cntF_mem (l : List (Int × Int)) (x y : Int) : cntF l x y = 0 ↔ (x, y) ∉ l := by
  unfold cntF
  have := List.count_eq_zero (a := (x, y)) (l := l)
  rw [← this]
  omega
theorem isSpot_eq (l : List (Int × Int)) (x y : Int) (hl : l.length ≤ 4096) : D_darkslideref_isSpot 5000 l x y = some (!decide (cntF l x y = 0)) := by
  unfold D_darkslideref_isSpot
  have := isSpot_l1 5000 l x y (fun _ => some false) hl l.length 0 5000 (by omega) (by omega)
  refine this.trans ?_
  rw [List.drop_zero]
  by_cases h : (x, y) ∈ l
  · rw [if_pos h, dF (fun e => (cntF_mem l x y).1 e h)]; rfl
  · rw [if_neg h, dT ((cntF_mem l x y).2 h)]; rfl
section
variable {W H : Nat} {P : List Int} (hs : 1 ≤ W ∧ W ≤ 64 ∧ 1 ≤ H ∧ H ≤ 64) (hl : P.length = W * H) (hP : upTo P 65535) {l : List (Int × Int)} (hn : l.length ≤ 4096)
def okT (W H : Nat) (l : List (Int × Int)) (u v : Int) : Prop := 0 ≤ u ∧ u < W ∧ 0 ≤ v ∧ v < H ∧ cntF l u v = 0
instance (W H : Nat) (l : List (Int × Int)) (u v : Int) : Decidable (okT W H l u v) := by unfold okT; infer_instance
def crossT (x y u v : Int) : Prop := (u = x ∧ (v = y - 2 ∨ v = y + 2)) ∨ (v = y ∧ (u = x - 2 ∨ u = x + 2))
instance (x y u v : Int) : Decidable (crossT x y u v) := by unfold crossT; infer_instance
def tS (W H : Nat) (P : List Int) (l : List (Int × Int)) (x y u v : Int) : Int := if crossT x y u v ∧ okT W H l u v then P.getD (v * W + u).toNat 0 else 0
def tC (W H : Nat) (l : List (Int × Int)) (x y u v : Int) : Int := if crossT x y u v ∧ okT W H l u v then 1 else 0
theorem rep_j1 (N : Nat) {x y u v : Int} (hx : 0 ≤ x ∧ x ≤ 64) (hy : 0 ≤ y ∧ y ≤ 64) (kk : Bool → Option (Int × Int × List Int)) : D_darkslideref_Repaired_j1 N y x v u kk = kk (decide (crossT x y u v)) := by
  unfold D_darkslideref_Repaired_j1
  rw [w64 (x := y - 2) (by omega), w64 (x := y + 2) (by omega), w64 (x := x - 2) (by omega), w64 (x := x + 2) (by omega)]
  by_cases a : u = x
  · rw [cT (dT a)]
    by_cases b : v = y - 2
    · rw [cT (dT b), dT (show crossT x y u v by unfold crossT; omega)]
    rw [cF (dF b)]
    by_cases c : v = y + 2
    · rw [cT (dT c), dT (show crossT x y u v by unfold crossT; omega)]
    rw [cF (dF c)]
    by_cases d : v = y
    · rw [cT (dT d), cF (dF (by omega)), dF (show ¬ u = x + 2 by omega), dF (show ¬ crossT x y u v by unfold crossT; omega)]
    · rw [cF (dF d), dF (show ¬ crossT x y u v by unfold crossT; omega)]
  · rw [cF (dF a)]
    by_cases d : v = y
    · rw [cT (dT d)]
      by_cases e : u = x - 2
      · rw [cT (dT e), dT (show crossT x y u v by unfold crossT; omega)]
      · rw [cF (dF e)]
        congr 1
        rw [decide_eq_decide]
        unfold crossT; omega
    · rw [cF (dF d), dF (show ¬ crossT x y u v by unfold crossT; omega)]
include hs hn in
theorem rep_j2 {u v : Int} (b : Bool) (kk : Bool → Option (Int × Int × List Int)) : D_darkslideref_Repaired_j2 5000 W H l v u b kk = kk (b && decide (okT W H l u v)) := by
  unfold D_darkslideref_Repaired_j2
  cases b
  · rfl
  rw [cT rfl, within_eq, bsome, w64 (by omega), within_eq, bsome, w64 (by omega), isSpot_eq l u v hn, bsome, Bool.true_and]
  by_cases a : 0 ≤ u ∧ u ≤ (W : Int) - 1
  · rw [cT (dT a)]
    by_cases c : 0 ≤ v ∧ v ≤ (H : Int) - 1
    · rw [cT (dT c), Bool.not_not]
      congr 1
      rw [decide_eq_decide]
      unfold okT
      constructor
      · intro h; exact ⟨by omega, by omega, by omega, by omega, h⟩
      · intro h; exact h.2.2.2.2
    · rw [cF (dF c), dF (fun h : okT W H l u v => by unfold okT at h; omega)]
  · rw [cF (dF a), dF (fun h : okT W H l u v => by unfold okT at h; omega)]
theorem tS_in (hP : upTo P 65535) (x y u v : Int) : 0 ≤ tS W H P l x y u v ∧ tS W H P l x y u v ≤ 65535 := by
  unfold tS
  split
  · exact hP _
  · omega
theorem tC_in (x y u v : Int) : 0 ≤ tC W H l x y u v ∧ tC W H l x y u v ≤ 1 := by
  unfold tC
  split <;> omega
include hs hl hP hn
theorem rep_step {x y u v s c : Int} (hx : 0 ≤ x ∧ x ≤ 64) (hy : 0 ≤ y ∧ y ≤ 64) (hu : u ≤ x + 2 ∧ -2 ≤ u) (hs0 : 0 ≤ s ∧ s ≤ 100000000) (hc0 : 0 ≤ c ∧ c ≤ 1000) (kk) (fuel : Nat) :
    D_darkslideref_Repaired_l4 5000 W H P l y x v kk (fuel + 1) (s, c, u) = D_darkslideref_Repaired_l4 5000 W H P l y x v kk fuel (s + tS W H P l x y u v, c + tC W H l x y u v, u + 1) := by
  conv => lhs; unfold D_darkslideref_Repaired_l4
  have ht := tS_in (W := W) (H := H) (l := l) hP x y u v
  have hc := tC_in (W := W) (H := H) (l := l) x y u v
  rw [w64 (x := x + 2) (by omega), cT (dT hu.1), rep_j1 5000 hx hy, rep_j2 hs hn]
  unfold D_darkslideref_Repaired_j3
  by_cases h : crossT x y u v ∧ okT W H l u v
  · obtain ⟨h1, h2⟩ := h
    have h2' := h2
    obtain ⟨u', rfl⟩ : ∃ n : Nat, u = n := ⟨u.toNat, by unfold okT at h2; omega⟩
    obtain ⟨v', rfl⟩ : ∃ n : Nat, v = n := ⟨v.toNat, by unfold okT at h2; omega⟩
    unfold okT at h2'
    have e : tS W H P l x y u' v' = P.getD (v' * W + u') 0 := by
      unfold tS
      rw [if_pos ⟨h1, h2⟩]
      congr 1
    have e2 : tC W H l x y u' v' = 1 := by unfold tC; rw [if_pos ⟨h1, h2⟩]
    rw [cT (by rw [dT h1, dT h2]; rfl), at_eq 5000 hs hl (by omega) (by omega), bsome, bsome, bsome, e2, ← e, w64 (x := s + tS W H P l x y u' v') (by omega), w64 (x := c + 1) (by omega)]
    dsimp only
    rw [bsome, w64 (by omega)]
  · have e : tS W H P l x y u v = 0 := by unfold tS; rw [if_neg h]
    have e2 : tC W H l x y u v = 0 := by unfold tC; rw [if_neg h]
    rw [cF (by rw [← Bool.decide_and]; exact dF h), e, e2, Int.add_zero, Int.add_zero]
    dsimp only
    rw [bsome, w64 (by omega)]
def rS (W H : Nat) (P : List Int) (l : List (Int × Int)) (x y v : Int) : Int := tS W H P l x y (x - 2) v + tS W H P l x y (x - 1) v + tS W H P l x y x v + tS W H P l x y (x + 1) v + tS W H P l x y (x + 2) v
def rC (W H : Nat) (l : List (Int × Int)) (x y v : Int) : Int := tC W H l x y (x - 2) v + tC W H l x y (x - 1) v + tC W H l x y x v + tC W H l x y (x + 1) v + tC W H l x y (x + 2) v
theorem rep_row {x y v s c : Int} (hx : 0 ≤ x ∧ x ≤ 64) (hy : 0 ≤ y ∧ y ≤ 64) (hs0 : 0 ≤ s ∧ s ≤ 10000000) (hc0 : 0 ≤ c ∧ c ≤ 900) (kk) :
    D_darkslideref_Repaired_l4 5000 W H P l y x v kk 5000 (s, c, x - 2) = kk (s + rS W H P l x y v, c + rC W H l x y v, x + 3) := by
  have b := fun u => tS_in (W := W) (H := H) (l := l) hP x y u v
  have d := fun u => tC_in (W := W) (H := H) (l := l) x y u v
  have b1 := b (x - 2); have b2 := b (x - 1); have b3 := b x; have b4 := b (x + 1); have b5 := b (x + 2)
  have d1 := d (x - 2); have d2 := d (x - 1); have d3 := d x; have d4 := d (x + 1); have d5 := d (x + 2)
  have st := fun (u s c : Int) fuel h1 h2 h3 => rep_step hs hl hP hn (x := x) (y := y) (v := v) (u := u) (s := s) (c := c) hx hy h1 h2 h3 kk fuel
  refine (st _ _ _ 4999 (by omega) (by omega) (by omega)).trans ?_
  rw [show x - 2 + 1 = x - 1 by omega]
  refine (st _ _ _ 4998 (by omega) (by omega) (by omega)).trans ?_
  rw [show x - 1 + 1 = x by omega]
  refine (st _ _ _ 4997 (by omega) (by omega) (by omega)).trans ?_
  refine (st _ _ _ 4996 (by omega) (by omega) (by omega)).trans ?_
  rw [show x + 1 + 1 = x + 2 by omega]
  refine (st _ _ _ 4995 (by omega) (by omega) (by omega)).trans ?_
  rw [show x + 2 + 1 = x + 3 by omega]
  unfold D_darkslideref_Repaired_l4
  rw [w64 (x := x + 2) (by omega), cF (dF (by omega))]
  unfold rS rC
  congr 1
  simp only [Prod.mk.injEq, and_true]
  constructor <;> omega
theorem rS_in (x y v : Int) : (0 ≤ rS W H P l x y v ∧ rS W H P l x y v ≤ 327675) ∧ (0 ≤ rC W H l x y v ∧ rC W H l x y v ≤ 5) := by
  have b := fun u => tS_in (W := W) (H := H) (l := l) hP x y u v
  have d := fun u => tC_in (W := W) (H := H) (l := l) x y u v
  have b1 := b (x - 2); have b2 := b (x - 1); have b3 := b x; have b4 := b (x + 1); have b5 := b (x + 2)
  have d1 := d (x - 2); have d2 := d (x - 1); have d3 := d x; have d4 := d (x + 1); have d5 := d (x + 2)
  unfold rS rC
  omega
theorem rep_all {x y : Int} (hx : 0 ≤ x ∧ x ≤ 64) (hy : 0 ≤ y ∧ y ≤ 64) (kk) :
    D_darkslideref_Repaired_l3 5000 W H P l y x kk 5000 (0, 0, y - 2) = kk (rS W H P l x y (y - 2) + rS W H P l x y (y - 1) + rS W H P l x y y + rS W H P l x y (y + 1) + rS W H P l x y (y + 2), rC W H l x y (y - 2) + rC W H l x y (y - 1) + rC W H l x y y + rC W H l x y (y + 1) + rC W H l x y (y + 2), y + 3) := by
  have b := fun v => rS_in hs hl hP hn x y v
  have b1 := b (y - 2); have b2 := b (y - 1); have b3 := b y; have b4 := b (y + 1); have b5 := b (y + 2)
  have st : ∀ (v s c : Int) (fuel : Nat), v ≤ y + 2 → -2 ≤ v → (0 ≤ s ∧ s ≤ 10000000) → (0 ≤ c ∧ c ≤ 900) → D_darkslideref_Repaired_l3 5000 W H P l y x kk (fuel + 1) (s, c, v) = D_darkslideref_Repaired_l3 5000 W H P l y x kk fuel (s + rS W H P l x y v, c + rC W H l x y v, v + 1) := fun v s c fuel h1 h0 h2 h3 => by
    conv => lhs; unfold D_darkslideref_Repaired_l3
    rw [w64 (x := y + 2) (by omega), cT (dT h1), w64 (x := x - 2) (by omega), bsome]
    refine (rep_row hs hl hP hn hx hy h2 h3 _).trans ?_
    dsimp only
    rw [bsome, w64 (x := v + 1) (by omega)]
  refine (st _ _ _ 4999 (by omega) (by omega) (by omega) (by omega)).trans ?_
  rw [show y - 2 + 1 = y - 1 by omega]
  refine (st _ _ _ 4998 (by omega) (by omega) (by omega) (by omega)).trans ?_
  rw [show y - 1 + 1 = y by omega]
  refine (st _ _ _ 4997 (by omega) (by omega) (by omega) (by omega)).trans ?_
  refine (st _ _ _ 4996 (by omega) (by omega) (by omega) (by omega)).trans ?_
  rw [show y + 1 + 1 = y + 2 by omega]
  refine (st _ _ _ 4995 (by omega) (by omega) (by omega) (by omega)).trans ?_
  rw [show y + 2 + 1 = y + 3 by omega]
  unfold D_darkslideref_Repaired_l3
  rw [w64 (x := y + 2) (by omega), cF (dF (by omega))]
  congr 1
  simp only [Prod.mk.injEq, and_true]
  constructor <;> omega
end
section
variable {W H : Nat} {P : List Int} {l : List (Int × Int)}
theorem tS_no {x y u v : Int} (h : ¬ crossT x y u v) : tS W H P l x y u v = 0 := by unfold tS; rw [if_neg (fun h' => h h'.1)]
theorem tC_no {x y u v : Int} (h : ¬ crossT x y u v) : tC W H l x y u v = 0 := by unfold tC; rw [if_neg (fun h' => h h'.1)]
theorem tS_nb {x y : Int} (k : Nat) (h : crossT x y (nbX x k) (nbY y k)) : tS W H P l x y (nbX x k) (nbY y k) = if nbOk W H (cntF l) x y k then nbVal W P x y k else 0 := by
  unfold tS nbVal
  by_cases g : nbOk W H (cntF l) x y k
  · rw [if_pos g, if_pos ⟨h, g⟩]
  · rw [if_neg g, if_neg (fun h' => g h'.2)]
theorem tC_nb {x y : Int} (k : Nat) (h : crossT x y (nbX x k) (nbY y k)) : tC W H l x y (nbX x k) (nbY y k) = if nbOk W H (cntF l) x y k then 1 else 0 := by
  unfold tC
  by_cases g : nbOk W H (cntF l) x y k
  · rw [if_pos g, if_pos ⟨h, g⟩]
  · rw [if_neg g, if_neg (fun h' => g h'.2)]
theorem rep_sum (x y : Int) : rS W H P l x y (y - 2) + rS W H P l x y (y - 1) + rS W H P l x y y + rS W H P l x y (y + 1) + rS W H P l x y (y + 2) = nbSum W H (cntF l) P x y 4 := by
  have n0 := tS_nb (W := W) (H := H) (P := P) (l := l) (x := x) (y := y) 0 (by show crossT x y (x - 2) y; unfold crossT; omega)
  have n1 := tS_nb (W := W) (H := H) (P := P) (l := l) (x := x) (y := y) 1 (by show crossT x y (x + 2) y; unfold crossT; omega)
  have n2 := tS_nb (W := W) (H := H) (P := P) (l := l) (x := x) (y := y) 2 (by show crossT x y x (y - 2); unfold crossT; omega)
  have n3 := tS_nb (W := W) (H := H) (P := P) (l := l) (x := x) (y := y) 3 (by show crossT x y x (y + 2); unfold crossT; omega)
  simp only [nbSum, ← n0, ← n1, ← n2, ← n3]
  show _ = 0 + tS W H P l x y (x - 2) y + tS W H P l x y (x + 2) y + tS W H P l x y x (y - 2) + tS W H P l x y x (y + 2)
  have no : ∀ u v, ¬ crossT x y u v → tS W H P l x y u v = 0 := fun u v h => tS_no h
  unfold rS
  rw [no (x - 2) (y - 2) (by unfold crossT; omega), no (x - 1) (y - 2) (by unfold crossT; omega), no (x + 1) (y - 2) (by unfold crossT; omega), no (x + 2) (y - 2) (by unfold crossT; omega),
    no (x - 2) (y - 1) (by unfold crossT; omega), no (x - 1) (y - 1) (by unfold crossT; omega), no x (y - 1) (by unfold crossT; omega), no (x + 1) (y - 1) (by unfold crossT; omega), no (x + 2) (y - 1) (by unfold crossT; omega),
    no (x - 1) y (by unfold crossT; omega), no x y (by unfold crossT; omega), no (x + 1) y (by unfold crossT; omega),
    no (x - 2) (y + 1) (by unfold crossT; omega), no (x - 1) (y + 1) (by unfold crossT; omega), no x (y + 1) (by unfold crossT; omega), no (x + 1) (y + 1) (by unfold crossT; omega), no (x + 2) (y + 1) (by unfold crossT; omega),
    no (x - 2) (y + 2) (by unfold crossT; omega), no (x - 1) (y + 2) (by unfold crossT; omega), no (x + 1) (y + 2) (by unfold crossT; omega), no (x + 2) (y + 2) (by unfold crossT; omega)]
  omega
theorem rep_cnt (x y : Int) : rC W H l x y (y - 2) + rC W H l x y (y - 1) + rC W H l x y y + rC W H l x y (y + 1) + rC W H l x y (y + 2) = nbCnt W H (cntF l) x y 4 := by
  have n0 := tC_nb (W := W) (H := H) (l := l) (x := x) (y := y) 0 (by show crossT x y (x - 2) y; unfold crossT; omega)
  have n1 := tC_nb (W := W) (H := H) (l := l) (x := x) (y := y) 1 (by show crossT x y (x + 2) y; unfold crossT; omega)
  have n2 := tC_nb (W := W) (H := H) (l := l) (x := x) (y := y) 2 (by show crossT x y x (y - 2); unfold crossT; omega)
  have n3 := tC_nb (W := W) (H := H) (l := l) (x := x) (y := y) 3 (by show crossT x y x (y + 2); unfold crossT; omega)
  simp only [nbCnt, ← n0, ← n1, ← n2, ← n3]
  show _ = 0 + tC W H l x y (x - 2) y + tC W H l x y (x + 2) y + tC W H l x y x (y - 2) + tC W H l x y x (y + 2)
  have no : ∀ u v, ¬ crossT x y u v → tC W H l x y u v = 0 := fun u v h => tC_no h
  unfold rC
  rw [no (x - 2) (y - 2) (by unfold crossT; omega), no (x - 1) (y - 2) (by unfold crossT; omega), no (x + 1) (y - 2) (by unfold crossT; omega), no (x + 2) (y - 2) (by unfold crossT; omega),
    no (x - 2) (y - 1) (by unfold crossT; omega), no (x - 1) (y - 1) (by unfold crossT; omega), no x (y - 1) (by unfold crossT; omega), no (x + 1) (y - 1) (by unfold crossT; omega), no (x + 2) (y - 1) (by unfold crossT; omega),
    no (x - 1) y (by unfold crossT; omega), no x y (by unfold crossT; omega), no (x + 1) y (by unfold crossT; omega),
    no (x - 2) (y + 1) (by unfold crossT; omega), no (x - 1) (y + 1) (by unfold crossT; omega), no x (y + 1) (by unfold crossT; omega), no (x + 1) (y + 1) (by unfold crossT; omega), no (x + 2) (y + 1) (by unfold crossT; omega),
    no (x - 2) (y + 2) (by unfold crossT; omega), no (x - 1) (y + 2) (by unfold crossT; omega), no (x + 1) (y + 2) (by unfold crossT; omega), no (x + 2) (y + 2) (by unfold crossT; omega)]
  omega
theorem nbS_bd (hP : upTo P 65535) (x y : Int) : ∀ k, 0 ≤ nbCnt W H (cntF l) x y k ∧ nbCnt W H (cntF l) x y k ≤ k ∧ 0 ≤ nbSum W H (cntF l) P x y k ∧ nbSum W H (cntF l) P x y k ≤ 65535 * nbCnt W H (cntF l) x y k
  | 0 => by simp [nbCnt, nbSum]
  | k + 1 => by
    have := nbS_bd hP x y k
    have hv : 0 ≤ nbVal W P x y k ∧ nbVal W P x y k ≤ 65535 := hP _
    simp only [nbCnt, nbSum]
    split <;> omega
/-- What becomes of a place. -/
def rpF (W H : Nat) (P : List Int) (l : List (Int × Int)) (x y : Nat) : Int := min (repairV W H (cntF l) P (P.getD (y * W + x) 0) x y) 65535
theorem repairL_pre (n : Nat) : (List.range n).map (repairL W H l P) = pre W (rpF W H P l) n := by
  unfold pre
  refine List.map_congr_left fun i _ => ?_
  unfold repairL rpF
  rw [Nat.mul_comm, Nat.div_add_mod, Int.natCast_emod, Int.natCast_ediv]
end
section
variable {W H : Nat} {P : List Int} (hs : 1 ≤ W ∧ W ≤ 64 ∧ 1 ≤ H ∧ H ≤ 64) (hl : P.length = W * H) (hP : upTo P 65535) {l : List (Int × Int)} (hn : l.length ≤ 4096)
include hP in
theorem rpF_in (x y : Nat) : 0 ≤ rpF W H P l x y ∧ rpF W H P l x y ≤ 65535 := by
  have hv := getD_up hP (y * W + x)
  have hb := nbS_bd (W := W) (H := H) (l := l) hP x y 4
  have : 0 ≤ repairV W H (cntF l) P (P.getD (y * W + x) 0) x y := by
    unfold repairV
    split
    · exact hv.1
    · split
      · omega
      · exact Int.ediv_nonneg hb.2.2.1 hb.1
  unfold rpF
  omega
include hs hl hP hn
theorem repd_l2 (kk) {y : Nat} (hy : y < H) : ∀ (d x fuel : Nat), x + d = W → d < fuel →
    D_darkslideref_Repaired_l2 5000 W H P l y kk fuel (pre W (rpF W H P l) (y * W + x), (x : Int)) = kk (pre W (rpF W H P l) ((y + 1) * W + 0), (W : Int)) := by
  have hm := Nat.mul_le_mul hs.2.1 hs.2.2.2
  intro d
  induction d with
  | zero =>
    intro x fuel hk hf
    obtain ⟨fuel, rfl⟩ : ∃ m, fuel = m + 1 := ⟨fuel - 1, by omega⟩
    obtain rfl : x = W := by omega
    unfold D_darkslideref_Repaired_l2
    rw [cF (dF (by omega)), pre_row]
  | succ d ih =>
    intro x fuel hk hf
    obtain ⟨fuel, rfl⟩ : ∃ m, fuel = m + 1 := ⟨fuel - 1, by omega⟩
    have hx : x < W := by omega
    have hpl := place_lt hx hy
    have hpv := getD_up hP (y * W + x)
    have hb := nbS_bd (W := W) (H := H) (l := l) hP x y 4
    have hih := ih (x + 1) fuel (by omega) (by omega)
    rw [pre_succ _ y hx] at hih
    unfold D_darkslideref_Repaired_l2
    rw [cT (dT (by omega)), isSpot_eq l x y hn, bsome, Bool.not_not]
    by_cases h : cntF l x y = 0
    · rw [cT (dT h), at_eq 5000 hs hl hx hy, bsome, app_eq (by rw [pre_len]; simp; omega), bsome, bsome, w64 (x := (x : Int) + 1) (by omega)]
      have e : P.getD (y * W + x) 0 = rpF W H P l x y := by
        unfold rpF repairV
        rw [if_pos h]; omega
      rw [e]
      exact hih
    · rw [cF (dF h), w64 (x := (y : Int) - 2) (by omega), bsome]
      refine (rep_all hs hl hP hn (by omega) (by omega) _).trans ?_
      rw [rep_sum, rep_cnt]
      dsimp only
      have e : IntKind.i64.wrap (Int.tdiv (nbSum W H (cntF l) P x y 4) (max (nbCnt W H (cntF l) x y 4) 1)) = rpF W H P l x y := by
        have h1 : rpF W H P l x y = min (if nbCnt W H (cntF l) x y 4 = 0 then 0 else nbSum W H (cntF l) P x y 4 / nbCnt W H (cntF l) x y 4) 65535 := by
          unfold rpF repairV
          rw [if_neg h]
        rw [h1, tdiv_pos hb.2.2.1]
        generalize nbSum W H (cntF l) P x y 4 = S at *
        generalize nbCnt W H (cntF l) x y 4 = C at *
        by_cases hc : C = 0
        · subst hc
          rw [if_pos rfl, show S = 0 by omega]
          rfl
        · rw [if_neg hc, Int.max_eq_left (by omega)]
          have q1 := Int.ediv_nonneg (show 0 ≤ S by omega) (show 0 ≤ C by omega)
          have q2 : S / C ≤ 65535 := Int.ediv_le_of_le_mul (by omega) (by omega)
          rw [w64 (by omega)]
          omega
      rw [nz_eq (by omega), bsome, e, app_eq (by rw [pre_len]; simp; omega), bsome, bsome, w64 (x := (x : Int) + 1) (by omega)]
      exact hih
theorem repd_l1 (kk) : ∀ (d y fuel : Nat), y + d = H → d < fuel →
    D_darkslideref_Repaired_l1 5000 W H P l kk fuel (pre W (rpF W H P l) (y * W + 0), (y : Int)) = kk (pre W (rpF W H P l) (H * W + 0), (H : Int)) := by
  intro d
  induction d with
  | zero =>
    intro y fuel hk hf
    obtain ⟨fuel, rfl⟩ : ∃ m, fuel = m + 1 := ⟨fuel - 1, by omega⟩
    obtain rfl : y = H := by omega
    unfold D_darkslideref_Repaired_l1
    rw [cF (dF (by omega))]
  | succ d ih =>
    intro y fuel hk hf
    obtain ⟨fuel, rfl⟩ : ∃ m, fuel = m + 1 := ⟨fuel - 1, by omega⟩
    unfold D_darkslideref_Repaired_l1
    rw [cT (dT (by omega))]
    refine (repd_l2 hs hl hP hn _ (y := y) (by omega) W 0 5000 (by omega) (by omega)).trans ?_
    dsimp only
    rw [bsome, w64 (by omega)]
    exact ih (y + 1) fuel (by omega) (by omega)
theorem repaired_eq : D_darkslideref_Repaired 5000 W H P l = some ((W : Int), (H : Int), (List.range P.length).map (repairL W H l P)) := by
  unfold D_darkslideref_Repaired
  have := repd_l1 hs hl hP hn (fun x : List Int × Int => some ((W : Int), (H : Int), x.1)) H 0 5000 (by omega) (by omega)
  simp only [Nat.zero_mul, Nat.add_zero, pre, List.range_zero, List.map_nil] at this
  refine this.trans ?_
  rw [hl, repairL_pre, pre, Nat.mul_comm]
end
end Go.Proofs.Ytpmnfhifmmfglab

namespace Go.Proofs.Ytpmnfhifmmfglab
open Go
theorem eachM_l1 (N : Nat) {W H : Nat} {P : List Px} (hs : sideOK W H P.length) (m0 m1 m2 m3 m4 m5 m6 m7 m8 : Int) (g : Nat → Px) (hg : ∀ i p, P[i]? = some p → D_tone_Mix_2 N p.1 p.2.1 p.2.2 ((i % W : Nat) : Int) ((i / W : Nat) : Int) m0 m1 m2 m3 m4 m5 m6 m7 m8 = some (g i)) (kk : List Px × Int → Option (Int × Int × List Px × Int)) : ∀ (d k fuel : Nat), k + d = P.length → d < fuel →
    D_tone_each__tone_Mix_2_l1 N W P m0 m1 m2 m3 m4 m5 m6 m7 m8 kk fuel ((List.range k).map g ++ List.replicate (P.length - k) px0, (k : Int)) = kk ((List.range P.length).map g, (P.length : Int)) := by
  obtain ⟨h1, h2, h3, h4, h5, h6⟩ := side_nat W H P hs
  intro d
  induction d with
  | zero =>
    intro k fuel hk hf
    obtain ⟨fuel, rfl⟩ : ∃ m, fuel = m + 1 := ⟨fuel - 1, by omega⟩
    obtain rfl : k = P.length := by omega
    unfold D_tone_each__tone_Mix_2_l1
    rw [cF (dF (by omega)), Nat.sub_self, List.replicate_zero, List.append_nil]
  | succ d ih =>
    intro k fuel hk hf
    obtain ⟨fuel, rfl⟩ : ∃ m, fuel = m + 1 := ⟨fuel - 1, by omega⟩
    have hlt : k < P.length := by omega
    obtain ⟨e1, e2⟩ := tdm k (show 0 < W by omega)
    have hq : k / W < H := Nat.div_lt_of_lt_mul (by omega)
    have hq0 : (0 : Int) ≤ ((k / W : Nat) : Int) := Int.natCast_nonneg _
    unfold D_tone_each__tone_Mix_2_l1
    rw [cT (dT (by omega)), idx_nat, List.getElem?_eq_getElem hlt, bsome, nz_eq (by omega), bsome, bsome, e1, e2, w64 (x := ((k / W : Nat) : Int)) (by omega)]
    rw [hg k _ (List.getElem?_eq_getElem hlt), bsome, idx_nat, List.getElem?_eq_getElem (by simp; omega), bsome]
    rw [fill_step g px0 hlt, bsome, w64 (by omega)]
    exact ih (k + 1) fuel (by omega) (by omega)
theorem eachM_eq (N : Nat) {W H : Nat} {P : List Px} (hN : 5000 ≤ N) (m0 m1 m2 m3 m4 m5 m6 m7 m8 : Int) (hp : picF W H P = true) (g : Nat → Px) (hg : ∀ i p, P[i]? = some p → D_tone_Mix_2 N p.1 p.2.1 p.2.2 ((i % W : Nat) : Int) ((i / W : Nat) : Int) m0 m1 m2 m3 m4 m5 m6 m7 m8 = some (g i)) :
    D_tone_each__tone_Mix_2 N W H P m0 m1 m2 m3 m4 m5 m6 m7 m8 = some ((W : Int), (H : Int), (List.range P.length).map g, 0) := by
  have hs := picF_side hp
  have hl := side_len hs
  obtain ⟨a, b, l, ht⟩ := take_code N W H P hN
  rw [hp, if_pos rfl] at ht
  unfold D_tone_each__tone_Mix_2
  rw [ht, bsome, cF (by rfl), bsome, mk_eq (by omega), bsome, Int.toNat_natCast]
  exact eachM_l1 N hs m0 m1 m2 m3 m4 m5 m6 m7 m8 g hg _ P.length 0 N (by omega) (by omega)
theorem eachM_no (N : Nat) {W H : Int} {P : List Px} (hN : 5000 ≤ N) (m0 m1 m2 m3 m4 m5 m6 m7 m8 : Int) (hp : picF W H P = false) : D_tone_each__tone_Mix_2 N W H P m0 m1 m2 m3 m4 m5 m6 m7 m8 = some (0, 0, [], 1) := by
  obtain ⟨a, b, l, ht⟩ := take_code N W H P hN
  rw [hp] at ht
  unfold D_tone_each__tone_Mix_2
  rw [ht]
  rfl
end Go.Proofs.Ytpmnfhifmmfglab

namespace Go.Proofs.Ytpmnfhifmmfglab
open Go
def okM (m : Int) : Bool := decide (-32768 ≤ m ∧ m ≤ 32768)
section
variable (N : Nat) (m0 m1 m2 m3 m4 m5 m6 m7 m8 : Int)
theorem mix_l1 (kk) : ∀ (d k fuel : Nat) (b : Bool), k + d = 9 → d < fuel →
    D_tone_Mix_l1 N m0 m1 m2 m3 m4 m5 m6 m7 m8 kk fuel (b, (k : Int)) = kk (b && ([m0, m1, m2, m3, m4, m5, m6, m7, m8].drop k).all okM, 9) := by
  intro d
  induction d with
  | zero =>
    intro k fuel b hk hf
    obtain ⟨fuel, rfl⟩ : ∃ m, fuel = m + 1 := ⟨fuel - 1, by omega⟩
    obtain rfl : k = 9 := by omega
    unfold D_tone_Mix_l1
    rw [cF (dF (by omega))]
    simp
  | succ d ih =>
    intro k fuel b hk hf
    obtain ⟨fuel, rfl⟩ : ∃ m, fuel = m + 1 := ⟨fuel - 1, by omega⟩
    have hlt : k < [m0, m1, m2, m3, m4, m5, m6, m7, m8].length := by show k < 9; omega
    unfold D_tone_Mix_l1
    rw [cT (dT (by omega)), idx_nat, List.getElem?_eq_getElem hlt, bsome, w64 (by omega), List.drop_eq_getElem_cons hlt, List.all_cons]
    obtain ⟨e, he⟩ : ∃ e, [m0, m1, m2, m3, m4, m5, m6, m7, m8][k] = e := ⟨_, rfl⟩
    rw [he]
    have key : ∀ c, D_tone_Mix_l1 N m0 m1 m2 m3 m4 m5 m6 m7 m8 kk fuel (c, (k : Int) + 1) = kk (c && ([m0, m1, m2, m3, m4, m5, m6, m7, m8].drop (k + 1)).all okM, 9) := fun c => ih (k + 1) fuel c (by omega) (by omega)
    rw [key, key]
    cases b
    · rfl
    · rw [cond_true]
      by_cases h1 : -32768 ≤ e
      · rw [cT (dT h1), okM]
        by_cases h2 : e ≤ 32768
        · rw [dT h2, dT ⟨h1, h2⟩]; simp
        · rw [dF h2, dF (fun h => h2 h.2)]; simp
      · rw [cF (dF h1), okM, dF (fun h => h1 h.1)]; simp
theorem mixFine_l1 (kk) : ∀ (d k fuel : Nat), k + d = 9 → d < fuel →
    D_darkslideref_MixFine_l1 N m0 m1 m2 m3 m4 m5 m6 m7 m8 kk fuel (k : Int) = if ([m0, m1, m2, m3, m4, m5, m6, m7, m8].drop k).all okM then kk 9 else some false := by
  intro d
  induction d with
  | zero =>
    intro k fuel hk hf
    obtain ⟨fuel, rfl⟩ : ∃ m, fuel = m + 1 := ⟨fuel - 1, by omega⟩
    obtain rfl : k = 9 := by omega
    unfold D_darkslideref_MixFine_l1
    rw [cF (dF (by omega))]
    simp
  | succ d ih =>
    intro k fuel hk hf
    obtain ⟨fuel, rfl⟩ : ∃ m, fuel = m + 1 := ⟨fuel - 1, by omega⟩
    have hlt : k < [m0, m1, m2, m3, m4, m5, m6, m7, m8].length := by show k < 9; omega
    unfold D_darkslideref_MixFine_l1
    rw [cT (dT (by omega)), show inr (k : Int) 9 = some () from by unfold inr; rw [if_pos (by omega)], bsome, idx_nat, List.getElem?_eq_getElem hlt, bsome, within_eq, bsome, List.drop_eq_getElem_cons hlt, List.all_cons]
    obtain ⟨e, he⟩ : ∃ e, [m0, m1, m2, m3, m4, m5, m6, m7, m8][k] = e := ⟨_, rfl⟩
    rw [he]
    have hih := ih (k + 1) fuel (by omega) (by omega)
    by_cases h : -32768 ≤ e ∧ e ≤ 32768
    · rw [cF (by simp [h]), bsome, w64 (by omega), okM, dT h, Bool.true_and]
      exact hih
    · rw [cT (by simp only [Bool.not_eq_true', decide_eq_false_iff_not]; exact h), okM, dF h]; simp
def mixAll : Bool := [m0, m1, m2, m3, m4, m5, m6, m7, m8].all okM
theorem mixFine_eq (hN : 5000 ≤ N) : D_darkslideref_MixFine N m0 m1 m2 m3 m4 m5 m6 m7 m8 = some (mixAll m0 m1 m2 m3 m4 m5 m6 m7 m8) := by
  unfold D_darkslideref_MixFine
  refine (mixFine_l1 N m0 m1 m2 m3 m4 m5 m6 m7 m8 _ 9 0 N (by omega) (by omega)).trans ?_
  rw [List.drop_zero, ← mixAll]
  cases mixAll m0 m1 m2 m3 m4 m5 m6 m7 m8 <;> rfl
/-- One part of a mixed pixel, as the code makes it. -/
def mix1 (a b c : Int) (p : Px) : Int := max 0 (min (shrI .i64 (IntKind.i64.wrap (IntKind.i64.wrap (IntKind.i64.wrap (a * p.1) + IntKind.i64.wrap (b * p.2.1)) + IntKind.i64.wrap (c * p.2.2))) 12) 65535)
def mixP (p : Px) : Px := (mix1 m0 m1 m2 p, mix1 m3 m4 m5 p, mix1 m6 m7 m8 p)
theorem mix_2 (p : Px) (x y : Int) : D_tone_Mix_2 N p.1 p.2.1 p.2.2 x y m0 m1 m2 m3 m4 m5 m6 m7 m8 = some (mixP m0 m1 m2 m3 m4 m5 m6 m7 m8 p) := rfl
theorem mix_eq (hN : 5000 ≤ N) (W H : Int) (P : List Px) : D_tone_Mix N W H P m0 m1 m2 m3 m4 m5 m6 m7 m8 =
    some (if picF W H P = false then (0, 0, [], 1) else if mixAll m0 m1 m2 m3 m4 m5 m6 m7 m8 = false then (0, 0, [], 3) else (W, H, (List.range P.length).map (fun i => mixP m0 m1 m2 m3 m4 m5 m6 m7 m8 (P.getD i px0)), 0)) := by
  unfold D_tone_Mix
  refine (mix_l1 N m0 m1 m2 m3 m4 m5 m6 m7 m8 _ 9 0 N true (by omega) (by omega)).trans ?_
  rw [List.drop_zero, ← mixAll, Bool.true_and]
  cases hp : picF W H P
  · simp only [eachM_no N hN m0 m1 m2 m3 m4 m5 m6 m7 m8 hp, bsome]
    rw [cF (by decide)]; rfl
  · have hs := picF_side hp
    obtain ⟨W, rfl⟩ : ∃ n : Nat, W = n := ⟨W.toNat, by have := hs.1; omega⟩
    obtain ⟨H, rfl⟩ : ∃ n : Nat, H = n := ⟨H.toNat, by have := hs.2.2.1; omega⟩
    have := eachM_eq N hN m0 m1 m2 m3 m4 m5 m6 m7 m8 hp (fun i => mixP m0 m1 m2 m3 m4 m5 m6 m7 m8 (P.getD i px0)) (fun i p hi => by rw [mix_2, List.getD_eq_getElem?_getD, hi]; rfl)
    simp only [this, bsome]
    rw [cT (by rfl), if_neg (by simp)]
    cases mixAll m0 m1 m2 m3 m4 m5 m6 m7 m8 <;> rfl
theorem mixed_l2 (N fuel : Nat) (r6 : Px) (kk) : D_darkslideref_Mixed_l2 N m0 m1 m2 m3 m4 m5 m6 m7 m8 r6 kk (fuel + 4) (0, 0, 0, 0) =
    Option.bind (D_darkslideref_down N (IntKind.i64.wrap (IntKind.i64.wrap (IntKind.i64.wrap (m0 * r6.1) + IntKind.i64.wrap (m1 * r6.2.1)) + IntKind.i64.wrap (m2 * r6.2.2))) 4096) fun a =>
    Option.bind (D_darkslideref_clamp N a) fun a' =>
    Option.bind (D_darkslideref_down N (IntKind.i64.wrap (IntKind.i64.wrap (IntKind.i64.wrap (m3 * r6.1) + IntKind.i64.wrap (m4 * r6.2.1)) + IntKind.i64.wrap (m5 * r6.2.2))) 4096) fun b =>
    Option.bind (D_darkslideref_clamp N b) fun b' =>
    Option.bind (D_darkslideref_down N (IntKind.i64.wrap (IntKind.i64.wrap (IntKind.i64.wrap (m6 * r6.1) + IntKind.i64.wrap (m7 * r6.2.1)) + IntKind.i64.wrap (m8 * r6.2.2))) 4096) fun c =>
    Option.bind (D_darkslideref_clamp N c) fun c' => kk (a', b', c', 3) := by kernel_rfl
theorem mix1_eq {a b c : Int} {p : Px} (ha : okM a = true) (hb : okM b = true) (hc : okM c = true) (hp : okPx p = true) (N : Nat) :
    (Option.bind (D_darkslideref_down N (IntKind.i64.wrap (IntKind.i64.wrap (IntKind.i64.wrap (a * p.1) + IntKind.i64.wrap (b * p.2.1)) + IntKind.i64.wrap (c * p.2.2))) 4096) fun r => D_darkslideref_clamp N r) = some (mix1 a b c p) := by
  simp only [okM, okPx, decide_eq_true_eq] at ha hb hc hp
  have h1 := mul_in (a := 32768) (b := 65535) (x := a) (y := p.1) (by omega) (by omega)
  have h2 := mul_in (a := 32768) (b := 65535) (x := b) (y := p.2.1) (by omega) (by omega)
  have h3 := mul_in (a := 32768) (b := 65535) (x := c) (y := p.2.2) (by omega) (by omega)
  unfold mix1
  rw [w64 (x := a * p.1) (by omega), w64 (x := b * p.2.1) (by omega), w64 (x := c * p.2.2) (by omega), w64 (x := a * p.1 + b * p.2.1) (by omega), w64 (by omega), down_eq N (by omega) (by omega), bsome, shr12]
  rfl
end
section
variable (m0 m1 m2 m3 m4 m5 m6 m7 m8 : Int)
theorem mixed_l1 {W H : Int} {P : List Px} (hp : picF W H P = true) (hm : mixAll m0 m1 m2 m3 m4 m5 m6 m7 m8 = true) (kk) : ∀ (d k fuel : Nat), k + d = P.length → d < fuel →
    D_darkslideref_Mixed_l1 5000 P m0 m1 m2 m3 m4 m5 m6 m7 m8 kk fuel ((List.range k).map (fun i => mixP m0 m1 m2 m3 m4 m5 m6 m7 m8 (P.getD i px0)), (k : Int)) = kk ((List.range P.length).map (fun i => mixP m0 m1 m2 m3 m4 m5 m6 m7 m8 (P.getD i px0)), (P.length : Int)) := by
  have hl := side_len (picF_side hp)
  simp only [mixAll, List.all_cons, List.all_nil, Bool.and_eq_true] at hm
  obtain ⟨o0, o1, o2, o3, o4, o5, o6, o7, o8, _⟩ := hm
  intro d
  induction d with
  | zero =>
    intro k fuel hk hf
    obtain ⟨fuel, rfl⟩ : ∃ m, fuel = m + 1 := ⟨fuel - 1, by omega⟩
    obtain rfl : k = P.length := by omega
    unfold D_darkslideref_Mixed_l1
    rw [cF (dF (by omega))]
  | succ d ih =>
    intro k fuel hk hf
    obtain ⟨fuel, rfl⟩ : ∃ m, fuel = m + 1 := ⟨fuel - 1, by omega⟩
    have hlt : k < P.length := by omega
    have hx := List.getElem?_eq_getElem hlt
    obtain ⟨p, hpe⟩ : ∃ p, P[k] = p := ⟨_, rfl⟩
    rw [hpe] at hx
    have hok : okPx p = true := by have := picF_all hp hx; simpa [okPx] using this
    have hg : P.getD k px0 = p := by rw [List.getD_eq_getElem?_getD, hx]; rfl
    unfold D_darkslideref_Mixed_l1
    rw [cT (dT (by omega)), idx_nat, hx, bsome]
    unfold D_darkslideref_parts
    rw [bsome]
    refine (mixed_l2 m0 m1 m2 m3 m4 m5 m6 m7 m8 5000 4996 (p.1, p.2.1, p.2.2) _).trans ?_
    rw [bind2, mix1_eq (p := p) o0 o1 o2 hok, bsome, bind2, mix1_eq (p := p) o3 o4 o5 hok, bsome, bind2, mix1_eq (p := p) o6 o7 o8 hok, bsome]
    unfold D_darkslideref_pixel
    dsimp only
    have e : (mix1 m0 m1 m2 p, mix1 m3 m4 m5 p, mix1 m6 m7 m8 p) = mixP m0 m1 m2 m3 m4 m5 m6 m7 m8 (P.getD k px0) := by rw [hg]; rfl
    rw [bsome, e, app_eq (by simp; omega), bsome, bsome, w64 (by omega), map_snoc (fun i => mixP m0 m1 m2 m3 m4 m5 m6 m7 m8 (P.getD i px0))]
    exact ih (k + 1) fuel (by omega) (by omega)
theorem mixed_eq {W H : Int} {P : List Px} (hp : picF W H P = true) (hm : mixAll m0 m1 m2 m3 m4 m5 m6 m7 m8 = true) :
    D_darkslideref_Mixed 5000 W H P m0 m1 m2 m3 m4 m5 m6 m7 m8 = some (W, H, (List.range P.length).map (fun i => mixP m0 m1 m2 m3 m4 m5 m6 m7 m8 (P.getD i px0))) := by
  have hl := side_len (picF_side hp)
  unfold D_darkslideref_Mixed
  exact mixed_l1 m0 m1 m2 m3 m4 m5 m6 m7 m8 hp hm (fun x => some (W, H, x.1)) P.length 0 5000 (by omega) (by omega)
end
end Go.Proofs.Ytpmnfhifmmfglab

namespace Go.Proofs.Ytpmnfhifmmfglab
open Go
abbrev Pt := Int × Int
def cX (l : List Pt) (i : Nat) : Int := (l.getD i (0, 0)).1
def cY (l : List Pt) (i : Nat) : Int := (l.getD i (0, 0)).2
def stepOK (l : List Pt) (i : Nat) : Prop := cX l i < cX l (i + 1) ∧ cY l i ≤ cY l (i + 1)
structure curveP (l : List Pt) : Prop where
  len : 2 ≤ l.length ∧ l.length ≤ 16
  x0 : cX l 0 = 0
  xn : cX l (l.length - 1) = 65535
  y0 : 0 ≤ cY l 0
  yn : cY l (l.length - 1) ≤ 65535
  step : ∀ i, i + 1 < l.length → stepOK l i
theorem idx_getD (l : List Pt) {k : Nat} (h : k < l.length) : idx l (k : Int) = some (l.getD k (0, 0)) := by
  rw [idx_nat, List.getD_eq_getElem?_getD, List.getElem?_eq_getElem h]; rfl
theorem idx_last (l : List Pt) (h : 1 ≤ l.length ∧ l.length ≤ 1000000) : idx l (IntKind.i64.wrap ((l.length : Int) - 1)) = some (l.getD (l.length - 1) (0, 0)) := by
  rw [w64 (by omega), show (l.length : Int) - 1 = ((l.length - 1 : Nat) : Int) by omega, idx_getD l (by omega)]
theorem steps_mono {l : List Pt} {j : Nat} (h : ∀ i, i < j → stepOK l i) {i : Nat} (hij : i ≤ j) : cX l i ≤ cX l j ∧ cY l i ≤ cY l j ∧ (i < j → cX l i < cX l j) := by
  induction j with
  | zero => obtain rfl : i = 0 := by omega
            exact ⟨Int.le_refl _, Int.le_refl _, fun h => by omega⟩
  | succ j ih =>
    by_cases e : i = j + 1
    · subst e; exact ⟨Int.le_refl _, Int.le_refl _, fun h => by omega⟩
    · obtain ⟨a, b, _⟩ := ih (fun i hi => h i (by omega)) (by omega)
      obtain ⟨c, d⟩ := h j (by omega)
      exact ⟨by omega, by omega, fun _ => by omega⟩
theorem curveP.mono {l : List Pt} (h : curveP l) {i j : Nat} (hij : i ≤ j) (hj : j < l.length) : cX l i ≤ cX l j ∧ cY l i ≤ cY l j ∧ (i < j → cX l i < cX l j) := steps_mono (fun i hi => h.step i (by omega)) hij
theorem curveP.bd {l : List Pt} (h : curveP l) {i : Nat} (hi : i < l.length) : 0 ≤ cX l i ∧ cX l i ≤ 65535 ∧ 0 ≤ cY l i ∧ cY l i ≤ 65535 := by
  obtain ⟨a, b, _⟩ := h.mono (i := 0) (j := i) (by omega) hi
  obtain ⟨c, d, _⟩ := h.mono (i := i) (j := l.length - 1) (by omega) (by omega)
  have := h.x0
  have := h.xn
  have := h.y0
  have := h.yn
  omega
theorem right_l1 (N : Nat) (l l2 : List Pt) (hl : l2.length + 1 = l.length) (hb : l.length ≤ 16) : ∀ (d k fuel : Nat), k + d = l2.length → d < fuel →
    ∃ b, D_tone_right_l1 N l l2 (fun _ => some true) fuel (k : Int) = some b ∧ (b = true ↔ ∀ i, k ≤ i → i + 1 < l.length → stepOK l i) := by
  intro d
  induction d with
  | zero =>
    intro k fuel hk hf
    obtain ⟨fuel, rfl⟩ : ∃ m, fuel = m + 1 := ⟨fuel - 1, by omega⟩
    refine ⟨true, ?_, by simp only [true_iff]; intro i h1 h2; omega⟩
    unfold D_tone_right_l1
    rw [cF (dF (by omega))]
  | succ d ih =>
    intro k fuel hk hf
    obtain ⟨fuel, rfl⟩ : ∃ m, fuel = m + 1 := ⟨fuel - 1, by omega⟩
    unfold D_tone_right_l1
    rw [cT (dT (by omega)), w64 (by omega), show (k : Int) + 1 = ((k + 1 : Nat) : Int) by omega]
    simp only [idx_getD l (show k < l.length by omega), idx_getD l (show k + 1 < l.length by omega), bsome]
    by_cases h1 : (l.getD (k + 1) (0, 0)).1 ≤ (l.getD k (0, 0)).1
    · rw [cT (dT h1)]
      refine ⟨false, rfl, by simp only [Bool.false_eq_true, false_iff]; intro h; have := (h k (Nat.le_refl _) (by omega)).1; simp only [cX] at this; omega⟩
    rw [cF (dF h1)]
    by_cases h2 : (l.getD (k + 1) (0, 0)).2 < (l.getD k (0, 0)).2
    · rw [cT (dT h2)]
      refine ⟨false, rfl, by simp only [Bool.false_eq_true, false_iff]; intro h; have := (h k (Nat.le_refl _) (by omega)).2; simp only [cY] at this; omega⟩
    rw [cF (dF h2)]
    obtain ⟨b, e, hb'⟩ := ih (k + 1) fuel (by omega) (by omega)
    refine ⟨b, e, hb'.trans ⟨fun h i hi hn => ?_, fun h i hi hn => h i (by omega) hn⟩⟩
    by_cases hik : i = k
    · subst hik; exact ⟨by simp only [cX]; omega, by simp only [cY]; omega⟩
    · exact h i (by omega) hn
theorem right_eq (N : Nat) (l : List Pt) (hN : 5000 ≤ N) : ∃ b, D_tone_right N l = some b ∧ (b = true ↔ curveP l) := by
  unfold D_tone_right
  by_cases h1 : (l.length : Int) < 2
  · rw [cT (dT h1)]; exact ⟨false, rfl, by simp only [Bool.false_eq_true, false_iff]; intro h; have := h.len; omega⟩
  rw [cF (dF h1)]
  by_cases h2 : 16 < (l.length : Int)
  · rw [cT (dT h2)]; exact ⟨false, rfl, by simp only [Bool.false_eq_true, false_iff]; intro h; have := h.len; omega⟩
  rw [cF (dF h2)]
  have i0 : idx l 0 = some (l.getD 0 (0, 0)) := idx_getD l (k := 0) (by omega)
  have il := idx_last l (by omega)
  simp only [i0, il, bsome]
  by_cases h3 : cX l 0 = 0
  rotate_left
  · rw [cT (by simp only [cX] at h3; rw [dF h3]; rfl)]; exact ⟨false, rfl, by simp only [Bool.false_eq_true, false_iff]; intro h; exact h3 h.x0⟩
  rw [cF (by simp only [cX] at h3; rw [dT h3]; rfl)]
  by_cases h4 : cX l (l.length - 1) = 65535
  rotate_left
  · rw [cT (by simp only [cX] at h4; rw [dF h4]; rfl)]; exact ⟨false, rfl, by simp only [Bool.false_eq_true, false_iff]; intro h; exact h4 h.xn⟩
  rw [cF (by simp only [cX] at h4; rw [dT h4]; rfl)]
  by_cases h5 : (l.getD 0 (0, 0)).2 < 0
  · rw [cT (dT h5)]; exact ⟨false, rfl, by simp only [Bool.false_eq_true, false_iff]; intro h; have := h.y0; simp only [cY] at this; omega⟩
  rw [cF (dF h5)]
  by_cases h6 : 65535 < (l.getD (l.length - 1) (0, 0)).2
  · rw [cT (dT h6)]; exact ⟨false, rfl, by simp only [Bool.false_eq_true, false_iff]; intro h; have := h.yn; simp only [cY] at this; omega⟩
  rw [cF (dF h6), sli_eq (by omega), bsome]
  obtain ⟨b, e, hb⟩ := right_l1 N l ((l.take (l.length : Int).toNat).drop (1 : Int).toNat) (by simp; omega) (by omega) (l.length - 1) 0 N (by simp) (by omega)
  refine ⟨b, e, hb.trans ⟨fun h => ⟨by omega, h3, h4, by simp only [cY]; omega, by simp only [cY]; omega, fun i hi => h i (Nat.zero_le _) hi⟩, fun h i _ hi => h.step i hi⟩⟩
theorem curveFine_l1 (N : Nat) (l : List Pt) (hb : l.length ≤ 16) : ∀ (d k fuel : Nat), k + d = l.length → d < fuel →
    ∃ b, D_darkslideref_CurveFine_l1 N l (fun _ => some true) fuel (k : Int) = some b ∧ (b = true ↔ ∀ i, k ≤ i → i < l.length → (0 ≤ cY l i ∧ cY l i ≤ 65535) ∧ (0 < i → stepOK l (i - 1))) := by
  intro d
  induction d with
  | zero =>
    intro k fuel hk hf
    obtain ⟨fuel, rfl⟩ : ∃ m, fuel = m + 1 := ⟨fuel - 1, by omega⟩
    refine ⟨true, ?_, by simp only [true_iff]; intro i h1 h2; omega⟩
    unfold D_darkslideref_CurveFine_l1
    rw [cF (dF (by omega))]
  | succ d ih =>
    intro k fuel hk hf
    obtain ⟨fuel, rfl⟩ : ∃ m, fuel = m + 1 := ⟨fuel - 1, by omega⟩
    have no : ∀ {Q : Prop}, ¬ Q → ∃ b, some false = some b ∧ (b = true ↔ Q) := fun h => ⟨false, rfl, by simp [h]⟩
    unfold D_darkslideref_CurveFine_l1
    rw [cT (dT (by omega)), idx_getD l (show k < l.length by omega), bsome, within_eq, bsome]
    obtain ⟨b, e, hb'⟩ := ih (k + 1) fuel (by omega) (by omega)
    by_cases h1 : 0 ≤ cY l k ∧ cY l k ≤ 65535
    rotate_left
    · rw [cT (by simp only [cY] at h1; rw [dF h1]; rfl)]
      exact no fun h => h1 (h k (Nat.le_refl _) (by omega)).1
    rw [cF (by simp only [cY] at h1; rw [dT h1]; rfl)]
    by_cases h2 : 0 < k
    · rw [cT (dT (by omega)), bsome, w64 (x := (k : Int) - 1) (by omega), show (k : Int) - 1 = ((k - 1 : Nat) : Int) by omega, idx_getD l (show k - 1 < l.length by omega)]
      simp only [bsome]
      have hk1 : k - 1 + 1 = k := by omega
      by_cases h3 : (l.getD k (0, 0)).1 ≤ (l.getD (k - 1) (0, 0)).1
      · rw [cT (dT h3)]
        exact no fun h => by have := ((h k (Nat.le_refl _) (by omega)).2 h2).1; rw [hk1] at this; simp only [cX] at this; omega
      rw [cF (dF h3)]
      by_cases h4 : (l.getD k (0, 0)).2 < (l.getD (k - 1) (0, 0)).2
      · rw [cT (dT h4)]
        exact no fun h => by have := ((h k (Nat.le_refl _) (by omega)).2 h2).2; rw [hk1] at this; simp only [cY] at this; omega
      rw [cF (dF h4), w64 (by omega)]
      refine ⟨b, e, hb'.trans ⟨fun h i hi hn => ?_, fun h i hi hn => h i (by omega) hn⟩⟩
      by_cases hik : i = k
      · subst hik; exact ⟨h1, fun _ => ⟨by rw [hk1]; simp only [cX]; omega, by rw [hk1]; simp only [cY]; omega⟩⟩
      · exact h i (by omega) hn
    · rw [cF (dF (by omega)), bsome, w64 (by omega)]
      refine ⟨b, e, hb'.trans ⟨fun h i hi hn => ?_, fun h i hi hn => h i (by omega) hn⟩⟩
      by_cases hik : i = k
      · subst hik; exact ⟨h1, fun h => absurd h h2⟩
      · exact h i (by omega) hn
theorem curveFine_eq (N : Nat) (l : List Pt) (hN : 5000 ≤ N) : ∃ b, D_darkslideref_CurveFine N l = some b ∧ (b = true ↔ curveP l) := by
  unfold D_darkslideref_CurveFine
  have no : ∀ {Q : Prop}, ¬ Q → ∃ b, some false = some b ∧ (b = true ↔ Q) := fun h => ⟨false, rfl, by simp [h]⟩
  rw [within_eq, bsome]
  by_cases h1 : (2 : Int) ≤ l.length ∧ (l.length : Int) ≤ 16
  rotate_left
  · rw [cT (by rw [dF h1]; rfl)]
    exact no fun h => h1 (by have := h.len; omega)
  rw [cF (by rw [dT h1]; rfl)]
  have i0 : idx l 0 = some (l.getD 0 (0, 0)) := idx_getD l (k := 0) (by omega)
  have il := idx_last l (by omega)
  simp only [i0, il, bsome]
  by_cases h3 : cX l 0 = 0
  rotate_left
  · rw [cT (by simp only [cX] at h3; rw [dF h3]; rfl)]; exact no fun h => h3 h.x0
  rw [cF (by simp only [cX] at h3; rw [dT h3]; rfl)]
  by_cases h4 : cX l (l.length - 1) = 65535
  rotate_left
  · rw [cT (by simp only [cX] at h4; rw [dF h4]; rfl)]; exact no fun h => h4 h.xn
  rw [cF (by simp only [cX] at h4; rw [dT h4]; rfl)]
  obtain ⟨b, e, hb⟩ := curveFine_l1 N l (by omega) l.length 0 N (by omega) (by omega)
  refine ⟨b, e, hb.trans ⟨fun h => ⟨by omega, h3, h4, (h 0 (Nat.le_refl _) (by omega)).1.1, (h (l.length - 1) (Nat.zero_le _) (by omega)).1.2, fun i hi => (h (i + 1) (Nat.zero_le _) hi).2 (by omega)⟩, fun h i _ hi => ⟨(h.bd hi).2.2, fun h0 => h.step (i - 1) (by omega)⟩⟩⟩
/-- What stands between two points. -/
def seg (l : List Pt) (i : Nat) (x : Int) : Int := cY l (i - 1) + ((cY l i - cY l (i - 1)) * (x - cX l (i - 1))) / (cX l i - cX l (i - 1))
section
variable {l : List Pt}
theorem seg_left {i : Nat} : seg l i (cX l (i - 1)) = cY l (i - 1) := by
  unfold seg
  rw [Int.sub_self, Int.mul_zero, Int.zero_ediv, Int.add_zero]
variable (h : curveP l)
include h
theorem seg_facts {i : Nat} (hi : 1 ≤ i ∧ i < l.length) {x : Int} (hx : cX l (i - 1) ≤ x ∧ x ≤ cX l i) : cY l (i - 1) ≤ seg l i x ∧ seg l i x ≤ cY l i := by
  obtain ⟨s1, s2⟩ := h.step (i - 1) (by omega)
  rw [show i - 1 + 1 = i by omega] at s1 s2
  unfold seg
  have h0 : 0 ≤ (cY l i - cY l (i - 1)) * (x - cX l (i - 1)) := Int.mul_nonneg (by omega) (by omega)
  have h1 := Int.ediv_nonneg h0 (show 0 ≤ cX l i - cX l (i - 1) by omega)
  have h2 : (cY l i - cY l (i - 1)) * (x - cX l (i - 1)) ≤ (cY l i - cY l (i - 1)) * (cX l i - cX l (i - 1)) := Int.mul_le_mul_of_nonneg_left (by omega) (by omega)
  have h3 := Int.ediv_le_of_le_mul (show 0 < cX l i - cX l (i - 1) by omega) h2
  omega
theorem seg_right {i : Nat} (hi : 1 ≤ i ∧ i < l.length) : seg l i (cX l i) = cY l i := by
  obtain ⟨s1, s2⟩ := h.step (i - 1) (by omega)
  rw [show i - 1 + 1 = i by omega] at s1 s2
  unfold seg
  rw [Int.mul_ediv_cancel _ (by omega)]
  omega
/-- Whichever part a place is in, the same comes. -/
theorem seg_one {i j : Nat} (hi : 1 ≤ i ∧ i < l.length) (hj : 1 ≤ j ∧ j < l.length) {x : Int} (hx : cX l (i - 1) ≤ x ∧ x ≤ cX l i) (hx' : cX l (j - 1) ≤ x ∧ x ≤ cX l j) : seg l i x = seg l j x := by
  have key : ∀ {i j : Nat}, 1 ≤ i → i < j → j < l.length → x ≤ cX l i → cX l (j - 1) ≤ x → seg l i x = seg l j x := by
    intro i j h1 h2 h3 h4 h5
    have m1 := h.mono (i := i) (j := j - 1) (by omega) (by omega)
    have e : x = cX l i := by omega
    have e2 : i = j - 1 := by
      by_cases e2 : i = j - 1
      · exact e2
      · have := m1.2.2 (by omega); omega
    subst e
    rw [seg_right h ⟨h1, by omega⟩]
    subst e2
    rw [seg_left]
  rcases Nat.lt_trichotomy i j with hij | hij | hij
  · exact key hi.1 hij hj.2 hx.2 hx'.1
  · rw [hij]
  · exact (key hj.1 hij hi.2 hx'.2 hx.1).symm
theorem seg_code {i : Nat} (hi : 1 ≤ i ∧ i < l.length) {x : Int} (hx : cX l (i - 1) ≤ x ∧ x ≤ cX l i) :
    (Option.bind (nz (IntKind.i64.wrap (cX l i - cX l (i - 1)))) fun _ => Option.bind (some (IntKind.i64.wrap (cY l (i - 1) + IntKind.i64.wrap (Int.tdiv (IntKind.i64.wrap (IntKind.i64.wrap (cY l i - cY l (i - 1)) * IntKind.i64.wrap (x - cX l (i - 1)))) (IntKind.i64.wrap (cX l i - cX l (i - 1))))))) fun x3 => some x3) = some (seg l i x) := by
  obtain ⟨s1, s2⟩ := h.step (i - 1) (by omega)
  rw [show i - 1 + 1 = i by omega] at s1 s2
  have b1 := h.bd hi.2
  have b2 := h.bd (i := i - 1) (by omega)
  have sf := seg_facts h hi hx
  unfold seg at sf ⊢
  have h0 : 0 ≤ (cY l i - cY l (i - 1)) * (x - cX l (i - 1)) := Int.mul_nonneg (by omega) (by omega)
  have h2 := mul_in (a := 65535) (b := 65535) (x := cY l i - cY l (i - 1)) (y := x - cX l (i - 1)) (by omega) (by omega)
  rw [w64 (x := cX l i - cX l (i - 1)) (by omega), w64 (x := cY l i - cY l (i - 1)) (by omega), w64 (x := x - cX l (i - 1)) (by omega), w64 (x := (cY l i - cY l (i - 1)) * (x - cX l (i - 1))) (by omega)]
  rw [Int.tdiv_eq_ediv_of_nonneg h0, w64 (x := _ / _) (by omega), w64 (by omega), nz_eq (by omega)]
  rfl
theorem search_l1 (N : Nat) (x : Int) (kk) : ∀ (d i j fuel : Nat), j - i ≤ d → i ≤ j → j ≤ l.length → d < fuel → (∀ k, k < i → cX l k ≤ x) → (∀ k, j ≤ k → k < l.length → x < cX l k) →
    ∃ r : Nat, r ≤ l.length ∧ (∀ k, k < r → cX l k ≤ x) ∧ (∀ k, r ≤ k → k < l.length → x < cX l k) ∧ D_sort_Search__tone_on_1_l1 N l x kk fuel ((i : Int), (j : Int)) = kk ((r : Int), (r : Int)) := by
  have hlen := h.len
  intro d
  induction d with
  | zero =>
    intro i j fuel hd hij hj hf h1 h2
    obtain ⟨fuel, rfl⟩ : ∃ m, fuel = m + 1 := ⟨fuel - 1, by omega⟩
    obtain rfl : i = j := by omega
    refine ⟨i, hj, h1, h2, ?_⟩
    unfold D_sort_Search__tone_on_1_l1
    rw [cF (dF (by omega))]
  | succ d ih =>
    intro i j fuel hd hij hj hf h1 h2
    obtain ⟨fuel, rfl⟩ : ∃ m, fuel = m + 1 := ⟨fuel - 1, by omega⟩
    by_cases hlt : i < j
    · unfold D_sort_Search__tone_on_1_l1
      have hh : IntKind.i64.wrap (shrI .u64 (IntKind.u64.wrap (IntKind.i64.wrap ((i : Int) + j))) 1) = (((i + j) / 2 : Nat) : Int) := by
        rw [w64 (x := (i : Int) + j) (by omega), IntWalk.u64_in _ (by omega)]
        have : shrI .u64 ((i : Int) + j) 1 = ((i : Int) + j) / 2 := by
          unfold shrI
          exact Int.fdiv_eq_ediv_of_nonneg _ (by decide)
        rw [this, w64 (by omega)]
        omega
      rw [cT (dT (by omega)), hh, bsome]
      obtain ⟨m, hm⟩ : ∃ m, (i + j) / 2 = m := ⟨_, rfl⟩
      have hm1 : i ≤ m ∧ m < j := by omega
      rw [hm]
      unfold D_tone_on_1
      rw [idx_getD l (show m < l.length by omega), bsome, bsome]
      by_cases hc : x < cX l m
      · rw [cF (by simp only [cX] at hc; rw [dT hc]; rfl)]
        exact ih i m fuel (by omega) (by omega) (by omega) (by omega) h1 fun k hk hk' => by
          have := (h.mono hk hk').1; omega
      · rw [cT (by simp only [cX] at hc; rw [dF hc]; rfl), bsome, w64 (by omega)]
        exact ih (m + 1) j fuel (by omega) (by omega) (by omega) (by omega) (fun k hk => by
          have := (h.mono (i := k) (j := m) (by omega) (by omega)).1; omega) h2
    · obtain rfl : i = j := by omega
      refine ⟨i, hj, h1, h2, ?_⟩
      unfold D_sort_Search__tone_on_1_l1
      rw [cF (dF (by omega))]
/-- What the code tells at a place. -/
theorem on_eq (N : Nat) (hN : 5000 ≤ N) {x : Int} (hx : 0 ≤ x ∧ x ≤ 65535) : ∃ i, (1 ≤ i ∧ i < l.length) ∧ (cX l (i - 1) ≤ x ∧ x ≤ cX l i) ∧ D_tone_on N l x = some (seg l i x) := by
  have hlen := h.len
  have hx0 := h.x0
  have hxn := h.xn
  unfold D_tone_on D_sort_Search__tone_on_1
  obtain ⟨r, hr, h1, h2, e⟩ := search_l1 h N x (fun (i4, j2) => some i4) l.length 0 l.length N (by omega) (by omega) (Nat.le_refl _) (by omega) (fun k hk => by omega) (fun k hk hk' => by omega)
  have e' : D_sort_Search__tone_on_1_l1 N l x (fun (i4, j2) => some i4) N (0, (l.length : Int)) = some (r : Int) := e
  have hr1 : 1 ≤ r := by
    by_cases h0 : r = 0
    · have := h2 0 (by omega) (by omega); omega
    · omega
  rw [e', bsome]
  have il := idx_last l (by omega)
  by_cases hn : r = l.length
  · subst hn
    rw [cT (dT rfl), il, bsome]
    have hle := h1 (l.length - 1) (by omega)
    have hxe : x = cX l (l.length - 1) := by omega
    have hm := (h.mono (i := l.length - 1 - 1) (j := l.length - 1) (by omega) (by omega)).1
    refine ⟨l.length - 1, by omega, by omega, ?_⟩
    rw [hxe, seg_right h (by omega)]
    rfl
  · rw [cF (dF (by omega)), w64 (x := (r : Int) - 1) (by omega), show (r : Int) - 1 = ((r - 1 : Nat) : Int) by omega, idx_getD l (show r - 1 < l.length by omega), idx_getD l (show r < l.length by omega), bsome, bsome]
    have hx' : cX l (r - 1) ≤ x ∧ x ≤ cX l r := ⟨h1 _ (by omega), by have := h2 r (Nat.le_refl _) (by omega); omega⟩
    exact ⟨r, by omega, hx', seg_code h (by omega) hx'⟩
theorem onCurve_l1 (N : Nat) {x : Int} (hx : 0 ≤ x ∧ x ≤ 65535) (kk) : ∀ (d i fuel : Nat), i + d = l.length → d ≤ fuel → 1 ≤ i → i < l.length → (cX l (i - 1) ≤ x) →
    ∃ r : Nat, (1 ≤ r ∧ r < l.length) ∧ (cX l (r - 1) ≤ x ∧ x ≤ cX l r) ∧ D_darkslideref_OnCurve_l1 N l x kk fuel (i : Int) = kk (r : Int) := by
  have hlen := h.len
  have hxn := h.xn
  intro d
  induction d with
  | zero => intro i fuel hd hf h1 h2 h3; omega
  | succ d ih =>
    intro i fuel hd hf h1 h2 h3
    obtain ⟨fuel, rfl⟩ : ∃ m, fuel = m + 1 := ⟨fuel - 1, by omega⟩
    unfold D_darkslideref_OnCurve_l1
    rw [idx_getD l h2, bsome]
    by_cases hc : cX l i < x
    · rw [cT (by simp only [cX] at hc; rw [dT hc]), bsome, w64 (by omega)]
      have hne : i ≠ l.length - 1 := fun e => by rw [e] at hc; omega
      exact ih (i + 1) fuel (by omega) (by omega) (by omega) (by omega) (by show cX l i ≤ x; omega)
    · rw [cF (by simp only [cX] at hc; rw [dF hc])]
      exact ⟨i, ⟨h1, h2⟩, ⟨h3, by omega⟩, rfl⟩
theorem onCurve_eq (N : Nat) (hN : 5000 ≤ N) {x : Int} (hx : 0 ≤ x ∧ x ≤ 65535) : ∃ i, (1 ≤ i ∧ i < l.length) ∧ (cX l (i - 1) ≤ x ∧ x ≤ cX l i) ∧ D_darkslideref_OnCurve N l x = some (seg l i x) := by
  have hlen := h.len
  unfold D_darkslideref_OnCurve
  obtain ⟨r, hr, hx', e⟩ := onCurve_l1 h N hx (fun i4 => Option.bind (idx l (IntKind.i64.wrap (i4 - 1))) fun e3 =>
    Option.bind (idx l i4) fun e4 => Option.bind (nz (IntKind.i64.wrap (e4.1 - e3.1))) fun _ =>
    Option.bind (some (IntKind.i64.wrap (e3.2 + (IntKind.i64.wrap (Int.tdiv (IntKind.i64.wrap ((IntKind.i64.wrap (e4.2 - e3.2)) * (IntKind.i64.wrap (x - e3.1)))) (IntKind.i64.wrap (e4.1 - e3.1))))))) fun x3 => some x3) (l.length - 1) 1 N (by omega) (by omega) (by omega) (by omega) (by show cX l 0 ≤ x; rw [h.x0]; exact hx.1)
  refine ⟨r, hr, hx', e.trans ?_⟩
  rw [w64 (x := (r : Int) - 1) (by omega), show (r : Int) - 1 = ((r - 1 : Nat) : Int) by omega, idx_getD l (show r - 1 < l.length by omega), idx_getD l (show r < l.length by omega), bsome, bsome]
  exact seg_code h hr hx'
end
end Go.Proofs.Ytpmnfhifmmfglab

namespace Go.Proofs.Ytpmnfhifmmfglab
open Go
theorem eachB_l1 (N : Nat) {W H : Nat} {P : List Px} (hs : sideOK W H P.length) (pts : List (Int × Int)) (g : Nat → Px) (hg : ∀ i p, P[i]? = some p → D_tone_Bend_1 N p.1 p.2.1 p.2.2 ((i % W : Nat) : Int) ((i / W : Nat) : Int) pts = some (g i)) (kk : List Px × Int → Option (Int × Int × List Px × Int)) : ∀ (d k fuel : Nat), k + d = P.length → d < fuel →
    D_tone_each__tone_Bend_1_l1 N W P pts kk fuel ((List.range k).map g ++ List.replicate (P.length - k) px0, (k : Int)) = kk ((List.range P.length).map g, (P.length : Int)) := by
  obtain ⟨h1, h2, h3, h4, h5, h6⟩ := side_nat W H P hs
  intro d
  induction d with
  | zero =>
    intro k fuel hk hf
    obtain ⟨fuel, rfl⟩ : ∃ m, fuel = m + 1 := ⟨fuel - 1, by omega⟩
    obtain rfl : k = P.length := by omega
    unfold D_tone_each__tone_Bend_1_l1
    rw [cF (dF (by omega)), Nat.sub_self, List.replicate_zero, List.append_nil]
  | succ d ih =>
    intro k fuel hk hf
    obtain ⟨fuel, rfl⟩ : ∃ m, fuel = m + 1 := ⟨fuel - 1, by omega⟩
    have hlt : k < P.length := by omega
    obtain ⟨e1, e2⟩ := tdm k (show 0 < W by omega)
    have hq : k / W < H := Nat.div_lt_of_lt_mul (by omega)
    have hq0 : (0 : Int) ≤ ((k / W : Nat) : Int) := Int.natCast_nonneg _
    unfold D_tone_each__tone_Bend_1_l1
    rw [cT (dT (by omega)), idx_nat, List.getElem?_eq_getElem hlt, bsome, nz_eq (by omega), bsome, bsome, e1, e2, w64 (x := ((k / W : Nat) : Int)) (by omega)]
    rw [hg k _ (List.getElem?_eq_getElem hlt), bsome, idx_nat, List.getElem?_eq_getElem (by simp; omega), bsome]
    rw [fill_step g px0 hlt, bsome, w64 (by omega)]
    exact ih (k + 1) fuel (by omega) (by omega)
theorem eachB_eq (N : Nat) {W H : Nat} {P : List Px} (hN : 5000 ≤ N) (pts : List (Int × Int)) (hp : picF W H P = true) (g : Nat → Px) (hg : ∀ i p, P[i]? = some p → D_tone_Bend_1 N p.1 p.2.1 p.2.2 ((i % W : Nat) : Int) ((i / W : Nat) : Int) pts = some (g i)) :
    D_tone_each__tone_Bend_1 N W H P pts = some ((W : Int), (H : Int), (List.range P.length).map g, 0) := by
  have hs := picF_side hp
  have hl := side_len hs
  obtain ⟨a, b, l, ht⟩ := take_code N W H P hN
  rw [hp, if_pos rfl] at ht
  unfold D_tone_each__tone_Bend_1
  rw [ht, bsome, cF (by rfl), bsome, mk_eq (by omega), bsome, Int.toNat_natCast]
  exact eachB_l1 N hs pts g hg _ P.length 0 N (by omega) (by omega)
theorem eachB_no (N : Nat) {W H : Int} {P : List Px} (hN : 5000 ≤ N) (pts : List (Int × Int)) (hp : picF W H P = false) : D_tone_each__tone_Bend_1 N W H P pts = some (0, 0, [], 1) := by
  obtain ⟨a, b, l, ht⟩ := take_code N W H P hN
  rw [hp] at ht
  unfold D_tone_each__tone_Bend_1
  rw [ht]
  rfl
end Go.Proofs.Ytpmnfhifmmfglab

namespace Go.Proofs.Ytpmnfhifmmfglab
open Go
theorem on_same {l : List Pt} (h : curveP l) {x : Int} (hx : 0 ≤ x ∧ x ≤ 65535) : ∃ v, D_tone_on 5000 l x = some v ∧ D_darkslideref_OnCurve 5000 l x = some v := by
  obtain ⟨i, a, b, e⟩ := on_eq h 5000 (by omega) hx
  obtain ⟨j, a', b', e'⟩ := onCurve_eq h 5000 (by omega) hx
  exact ⟨_, e, by rw [e', seg_one h a' a b' b]⟩
def onV (l : List Pt) (x : Int) : Int := (D_tone_on 5000 l x).getD 0
theorem onV_code {l : List Pt} (h : curveP l) {x : Int} (hx : 0 ≤ x ∧ x ≤ 65535) : D_tone_on 5000 l x = some (onV l x) ∧ D_darkslideref_OnCurve 5000 l x = some (onV l x) := by
  obtain ⟨v, e, e'⟩ := on_same h hx
  unfold onV
  rw [e, e']
  exact ⟨rfl, rfl⟩
def bendP (l : List Pt) (p : Px) : Px := (onV l p.1, onV l p.2.1, onV l p.2.2)
theorem bend_1 {l : List Pt} (h : curveP l) {p : Px} (hp : okPx p = true) (x y : Int) : D_tone_Bend_1 5000 p.1 p.2.1 p.2.2 x y l = some (bendP l p) := by
  simp only [okPx, decide_eq_true_eq] at hp
  unfold D_tone_Bend_1
  rw [(onV_code h (show 0 ≤ p.1 ∧ p.1 ≤ 65535 by omega)).1, bsome, (onV_code h (show 0 ≤ p.2.1 ∧ p.2.1 ≤ 65535 by omega)).1, bsome, (onV_code h (show 0 ≤ p.2.2 ∧ p.2.2 ≤ 65535 by omega)).1]; rfl
theorem bend_eq {l : List Pt} {b : Bool} (hb : D_tone_right 5000 l = some b) (hc : b = true ↔ curveP l) (W H : Int) (P : List Px) : D_tone_Bend 5000 W H P l =
    some (if b = false then (0, 0, [], 1) else if picF W H P = false then (0, 0, [], 1) else (W, H, (List.range P.length).map (fun i => bendP l (P.getD i px0)), 0)) := by
  unfold D_tone_Bend
  rw [hb, bsome]
  cases b
  · rfl
  have h := hc.1 rfl
  rw [cF (by rfl)]
  cases hp : picF W H P
  · rw [eachB_no 5000 (by omega) l hp]; rfl
  · have hs := picF_side hp
    obtain ⟨W, rfl⟩ : ∃ n : Nat, W = n := ⟨W.toNat, by have := hs.1; omega⟩
    obtain ⟨H, rfl⟩ : ∃ n : Nat, H = n := ⟨H.toNat, by have := hs.2.2.1; omega⟩
    rw [eachB_eq 5000 (by omega) l hp (fun i => bendP l (P.getD i px0)) (fun i p hi => by rw [bend_1 h (okPx_of hp hi), List.getD_eq_getElem?_getD, hi]; rfl)]
    rfl
theorem bent_l1 {l : List Pt} (h : curveP l) {W H : Int} {P : List Px} (hp : picF W H P = true) (kk) : ∀ (d k fuel : Nat), k + d = P.length → d < fuel →
    D_darkslideref_Bent_l1 5000 P l kk fuel ((List.range k).map (fun i => bendP l (P.getD i px0)), (k : Int)) = kk ((List.range P.length).map (fun i => bendP l (P.getD i px0)), (P.length : Int)) := by
  have hl := side_len (picF_side hp)
  intro d
  induction d with
  | zero =>
    intro k fuel hk hf
    obtain ⟨fuel, rfl⟩ : ∃ m, fuel = m + 1 := ⟨fuel - 1, by omega⟩
    obtain rfl : k = P.length := by omega
    unfold D_darkslideref_Bent_l1
    rw [cF (dF (by omega))]
  | succ d ih =>
    intro k fuel hk hf
    obtain ⟨fuel, rfl⟩ : ∃ m, fuel = m + 1 := ⟨fuel - 1, by omega⟩
    have hlt : k < P.length := by omega
    have hx := List.getElem?_eq_getElem hlt
    obtain ⟨p, hpe⟩ : ∃ p, P[k] = p := ⟨_, rfl⟩
    rw [hpe] at hx
    have hok := okPx_of hp hx
    simp only [okPx, decide_eq_true_eq] at hok
    have hg : P.getD k px0 = p := by rw [List.getD_eq_getElem?_getD, hx]; rfl
    unfold D_darkslideref_Bent_l1
    rw [cT (dT (by omega)), idx_nat, hx, bsome, (onV_code h (show 0 ≤ p.1 ∧ p.1 ≤ 65535 by omega)).2, bsome, (onV_code h (show 0 ≤ p.2.1 ∧ p.2.1 ≤ 65535 by omega)).2, bsome, (onV_code h (show 0 ≤ p.2.2 ∧ p.2.2 ≤ 65535 by omega)).2, bsome]
    have e : (onV l p.1, onV l p.2.1, onV l p.2.2) = bendP l (P.getD k px0) := by rw [hg]; rfl
    rw [e, app_eq (by simp; omega), bsome, bsome, w64 (by omega), map_snoc (fun i => bendP l (P.getD i px0))]
    exact ih (k + 1) fuel (by omega) (by omega)
theorem bent_eq {l : List Pt} (h : curveP l) {W H : Int} {P : List Px} (hp : picF W H P = true) : D_darkslideref_Bent 5000 W H P l = some (W, H, (List.range P.length).map (fun i => bendP l (P.getD i px0))) := by
  have hl := side_len (picF_side hp)
  unfold D_darkslideref_Bent
  exact bent_l1 h hp (fun x => some (W, H, x.1)) P.length 0 5000 (by omega) (by omega)
theorem curve_eq {l : List Pt} {b : Bool} (hb : D_tone_right 5000 l = some b) (hc : b = true ↔ curveP l) (x : Int) : D_tone_Curve 5000 l x = some (if b = false then (0, 1) else if 0 ≤ x ∧ x ≤ 65535 then (onV l x, 0) else (0, 3)) := by
  unfold D_tone_Curve
  rw [hb, bsome]
  cases b
  · rfl
  have h := hc.1 rfl
  rw [cF (by rfl), if_neg (by simp)]
  by_cases h1 : x < 0
  · rw [cT (dT h1), if_neg (by omega)]
  rw [cF (dF h1)]
  by_cases h2 : 65535 < x
  · rw [cT (dT h2), if_neg (by omega)]
  rw [cF (dF h2), (onV_code h (by omega)).1, if_pos (by omega)]; rfl
theorem right_both (l : List Pt) : ∃ b, D_tone_right 5000 l = some b ∧ D_darkslideref_CurveFine 5000 l = some b ∧ (b = true ↔ curveP l) := by
  obtain ⟨b, hb, hc⟩ := right_eq 5000 l (by omega)
  obtain ⟨b', hb', hc'⟩ := curveFine_eq 5000 l (by omega)
  have : b' = b := Bool.eq_iff_iff.2 (hc'.trans hc.symm)
  exact ⟨b, hb, by rw [hb', this], hc⟩
end Go.Proofs.Ytpmnfhifmmfglab

namespace Go.Proofs.Ytpmnfhifmmfglab
open Go
theorem eachS_l1 (N : Nat) {W H : Nat} {P : List Px} (hs : sideOK W H P.length) (SW SH : Int) (SP : List Px) (SA : Int) (g : Nat → Px) (hg : ∀ i p, P[i]? = some p → D_tone_Sharpen_2 N p.1 p.2.1 p.2.2 ((i % W : Nat) : Int) ((i / W : Nat) : Int) SW SH SP SA = some (g i)) (kk : List Px × Int → Option (Int × Int × List Px × Int)) : ∀ (d k fuel : Nat), k + d = P.length → d < fuel →
    D_tone_each__tone_Sharpen_2_l1 N W P SW SH SP SA kk fuel ((List.range k).map g ++ List.replicate (P.length - k) px0, (k : Int)) = kk ((List.range P.length).map g, (P.length : Int)) := by
  obtain ⟨h1, h2, h3, h4, h5, h6⟩ := side_nat W H P hs
  intro d
  induction d with
  | zero =>
    intro k fuel hk hf
    obtain ⟨fuel, rfl⟩ : ∃ m, fuel = m + 1 := ⟨fuel - 1, by omega⟩
    obtain rfl : k = P.length := by omega
    unfold D_tone_each__tone_Sharpen_2_l1
    rw [cF (dF (by omega)), Nat.sub_self, List.replicate_zero, List.append_nil]
  | succ d ih =>
    intro k fuel hk hf
    obtain ⟨fuel, rfl⟩ : ∃ m, fuel = m + 1 := ⟨fuel - 1, by omega⟩
    have hlt : k < P.length := by omega
    obtain ⟨e1, e2⟩ := tdm k (show 0 < W by omega)
    have hq : k / W < H := Nat.div_lt_of_lt_mul (by omega)
    have hq0 : (0 : Int) ≤ ((k / W : Nat) : Int) := Int.natCast_nonneg _
    unfold D_tone_each__tone_Sharpen_2_l1
    rw [cT (dT (by omega)), idx_nat, List.getElem?_eq_getElem hlt, bsome, nz_eq (by omega), bsome, bsome, e1, e2, w64 (x := ((k / W : Nat) : Int)) (by omega)]
    rw [hg k _ (List.getElem?_eq_getElem hlt), bsome, idx_nat, List.getElem?_eq_getElem (by simp; omega), bsome]
    rw [fill_step g px0 hlt, bsome, w64 (by omega)]
    exact ih (k + 1) fuel (by omega) (by omega)
theorem eachS_eq (N : Nat) {W H : Nat} {P : List Px} (hN : 5000 ≤ N) (SW SH : Int) (SP : List Px) (SA : Int) (hp : picF W H P = true) (g : Nat → Px) (hg : ∀ i p, P[i]? = some p → D_tone_Sharpen_2 N p.1 p.2.1 p.2.2 ((i % W : Nat) : Int) ((i / W : Nat) : Int) SW SH SP SA = some (g i)) :
    D_tone_each__tone_Sharpen_2 N W H P SW SH SP SA = some ((W : Int), (H : Int), (List.range P.length).map g, 0) := by
  have hs := picF_side hp
  have hl := side_len hs
  obtain ⟨a, b, l, ht⟩ := take_code N W H P hN
  rw [hp, if_pos rfl] at ht
  unfold D_tone_each__tone_Sharpen_2
  rw [ht, bsome, cF (by rfl), bsome, mk_eq (by omega), bsome, Int.toNat_natCast]
  exact eachS_l1 N hs SW SH SP SA g hg _ P.length 0 N (by omega) (by omega)
theorem eachS_no (N : Nat) {W H : Int} {P : List Px} (hN : 5000 ≤ N) (SW SH : Int) (SP : List Px) (SA : Int) (hp : picF W H P = false) : D_tone_each__tone_Sharpen_2 N W H P SW SH SP SA = some (0, 0, [], 1) := by
  obtain ⟨a, b, l, ht⟩ := take_code N W H P hN
  rw [hp] at ht
  unfold D_tone_each__tone_Sharpen_2
  rw [ht]
  rfl
end Go.Proofs.Ytpmnfhifmmfglab

namespace Go.Proofs.Ytpmnfhifmmfglab
open Go
def cl (y : Nat) (dy : Int) (H : Nat) : Nat := (min (max ((y : Int) + dy) 0) ((H : Int) - 1)).toNat
theorem cl_lt {y H : Nat} {dy : Int} (h : 1 ≤ H) : cl y dy H < H := by unfold cl; omega
theorem cl_code {y H : Nat} {dy : Int} (h : 1 ≤ H) : min (max ((y : Int) + dy) 0) ((H : Int) - 1) = ((cl y dy H : Nat) : Int) := by unfold cl; omega
theorem cl_doc {y H : Nat} {dy : Int} (h : 1 ≤ H) : max 0 (min ((H : Int) - 1) ((y : Int) + dy)) = ((cl y dy H : Nat) : Int) := by unfold cl; omega
def nb (P : List Px) (W H x y : Nat) (dy dx : Int) : Px := P.getD (cl y dy H * W + cl x dx W) px0
def wt (dx dy : Int) : Int := (2 - dx * dx) * (2 - dy * dy)
def sadd (w : Int) (n a : Px) : Px := (a.1 + w * n.1, a.2.1 + w * n.2.1, a.2.2 + w * n.2.2)
def bd3 (a : Px) (m : Int) : Prop := (0 ≤ a.1 ∧ a.1 ≤ m) ∧ (0 ≤ a.2.1 ∧ a.2.1 ≤ m) ∧ (0 ≤ a.2.2 ∧ a.2.2 ≤ m)
theorem sq_in {d : Int} (h : -1 ≤ d ∧ d ≤ 1) : 0 ≤ d * d ∧ d * d ≤ 1 := by
  have : d = -1 ∨ d = 0 ∨ d = 1 := by omega
  rcases this with rfl | rfl | rfl <;> decide
theorem wt_in {dx dy : Int} (hx : -1 ≤ dx ∧ dx ≤ 1) (hy : -1 ≤ dy ∧ dy ≤ 1) : 1 ≤ wt dx dy ∧ wt dx dy ≤ 4 := by
  have h1 : dx = -1 ∨ dx = 0 ∨ dx = 1 := by omega
  have h2 : dy = -1 ∨ dy = 0 ∨ dy = 1 := by omega
  rcases h1 with rfl | rfl | rfl <;> rcases h2 with rfl | rfl | rfl <;> decide
theorem okPx_bd {p : Px} (h : okPx p = true) : bd3 p 65535 := by
  simp only [okPx, decide_eq_true_eq] at h
  unfold bd3; omega
theorem wmul {w n : Int} (hw : 1 ≤ w ∧ w ≤ 4) (hn : 0 ≤ n ∧ n ≤ 65535) : 0 ≤ w * n ∧ w * n ≤ 262140 := by
  have h1 := Int.mul_nonneg (show 0 ≤ w by omega) hn.1
  have h2 := mul_in (a := 4) (b := 65535) (x := w) (y := n) (by omega) (by omega)
  omega
theorem sadd_bd {w m : Int} {n a : Px} (hw : 1 ≤ w ∧ w ≤ 4) (hn : bd3 n 65535) (ha : bd3 a m) : bd3 (sadd w n a) (m + 262140) := by
  obtain ⟨n1, n2, n3⟩ := hn
  obtain ⟨a1, a2, a3⟩ := ha
  have h1 := wmul hw n1
  have h2 := wmul hw n2
  have h3 := wmul hw n3
  unfold bd3 sadd
  dsimp only
  omega
def rowS (P : List Px) (W H x y : Nat) (dy : Int) (a : Px) : Px := sadd (wt 1 dy) (nb P W H x y dy 1) (sadd (wt 0 dy) (nb P W H x y dy 0) (sadd (wt (-1) dy) (nb P W H x y dy (-1)) a))
def sumS (P : List Px) (W H x y : Nat) : Px := rowS P W H x y 1 (rowS P W H x y 0 (rowS P W H x y (-1) (0, 0, 0)))
def sh1 (amount v blur : Int) : Int := max 0 (min (IntKind.i64.wrap (v + shrI .i64 (IntKind.i64.wrap (IntKind.i64.wrap (v - shrI .i64 blur 4) * amount)) 8)) 65535)
def shP (amount : Int) (p s : Px) : Px := (sh1 amount p.1 s.1, sh1 amount p.2.1 s.2.1, sh1 amount p.2.2 s.2.2)
section
variable {W H : Nat} {P : List Px} (hp : picF W H P = true)
include hp
theorem pic_nat : 1 ≤ W ∧ W ≤ 64 ∧ 1 ≤ H ∧ H ≤ 64 ∧ P.length = W * H ∧ W * H ≤ 4096 := side_nat W H P (picF_side hp)
theorem pic_at {i : Nat} (h : i < W * H) : idx P (i : Int) = some (P.getD i px0) ∧ okPx (P.getD i px0) = true := by
  have hl := (pic_nat hp).2.2.2.2.1
  have hx : P[i]? = some P[i] := List.getElem?_eq_getElem (by omega)
  have hg : P.getD i px0 = P[i] := by rw [List.getD_eq_getElem?_getD, hx]; rfl
  rw [idx_nat, hg, hx]
  exact ⟨rfl, okPx_of hp hx⟩
theorem nb_at {x y : Nat} (dy dx : Int) : idx P (((cl y dy H * W + cl x dx W : Nat) : Nat) : Int) = some (nb P W H x y dy dx) ∧ okPx (nb P W H x y dy dx) = true := by
  obtain ⟨h1, h2, h3, h4, h5, h6⟩ := pic_nat hp
  exact pic_at hp (place_lt (cl_lt h1) (cl_lt h3))
theorem rowS_bd {x y : Nat} {dy m : Int} (hy : -1 ≤ dy ∧ dy ≤ 1) {a : Px} (ha : bd3 a m) : bd3 (rowS P W H x y dy a) (m + 786420) := by
  have h1 := sadd_bd (wt_in (dx := -1) (by omega) hy) (okPx_bd (nb_at (x := x) (y := y) hp dy (-1)).2) ha
  have h2 := sadd_bd (wt_in (dx := 0) (by omega) hy) (okPx_bd (nb_at (x := x) (y := y) hp dy 0).2) h1
  have h3 := sadd_bd (wt_in (dx := 1) (by omega) hy) (okPx_bd (nb_at (x := x) (y := y) hp dy 1).2) h2
  unfold rowS
  unfold bd3 at h3 ⊢
  omega
theorem sumS_bd {x y : Nat} : bd3 (sumS P W H x y) 2359260 := by
  have h0 : bd3 ((0, 0, 0) : Px) 0 := by unfold bd3; simp
  have h1 := rowS_bd (x := x) (y := y) hp (dy := -1) (by omega) h0
  have h2 := rowS_bd (x := x) (y := y) hp (dy := 0) (by omega) h1
  have h3 := rowS_bd (x := x) (y := y) hp (dy := 1) (by omega) h2
  exact h3
theorem code_step (N fuel : Nat) {x y : Nat} (hx : x < W) (hy : y < H) {dx dy : Int} (hdx : -1 ≤ dx ∧ dx ≤ 1) (hdy : -1 ≤ dy ∧ dy ≤ 1) (kk) {a : Px} (ha : bd3 a 100000000) {dx' : Int} (hd' : dx' = dx + 1) :
    D_tone_Sharpen_2_l2 N x y W H P dy kk (fuel + 1) (a.1, a.2.1, a.2.2, dx) = D_tone_Sharpen_2_l2 N x y W H P dy kk fuel ((sadd (wt dx dy) (nb P W H x y dy dx) a).1, (sadd (wt dx dy) (nb P W H x y dy dx) a).2.1, (sadd (wt dx dy) (nb P W H x y dy dx) a).2.2, dx') := by
  subst hd'
  obtain ⟨h1, h2, h3, h4, h5, h6⟩ := pic_nat hp
  obtain ⟨n1, n2⟩ := nb_at (x := x) (y := y) hp dy dx
  obtain ⟨b1, b2, b3⟩ := okPx_bd n2
  obtain ⟨a1, a2, a3⟩ := ha
  have hw := wt_in hdx hdy
  have m1 := wmul hw b1
  have m2 := wmul hw b2
  have m3 := wmul hw b3
  have q1 := sq_in hdx
  have q2 := sq_in hdy
  have c1 := cl_lt (y := y) (dy := dy) h3
  have c2 := cl_lt (y := x) (dy := dx) h1
  have c3 := place_lt c2 c1
  have hwt : IntKind.i64.wrap ((2 - dx * dx) * (2 - dy * dy)) = wt dx dy := w64 (by unfold wt at hw; omega)
  conv => lhs; unfold D_tone_Sharpen_2_l2
  rw [cT (dT hdx.2), w64 (x := (y : Int) + dy) (by omega), w64 (x := (H : Int) - 1) (by omega), w64 (x := (x : Int) + dx) (by omega), w64 (x := (W : Int) - 1) (by omega), cl_code h3, cl_code h1]
  rw [w64 (x := ((cl y dy H : Nat) : Int) * (W : Int)) (by rw [← Int.natCast_mul]; omega), ← Int.natCast_mul, ← Int.natCast_add, w64 (x := ((cl y dy H * W + cl x dx W : Nat) : Int)) (by omega), bsome, n1, bsome]
  rw [w64 (x := dx * dx) (by omega), w64 (x := dy * dy) (by omega), w64 (x := 2 - dx * dx) (by omega), w64 (x := 2 - dy * dy) (by omega), hwt, bsome, w64 (x := dx + 1) (by omega), bsome]
  rw [w64 (x := wt dx dy * (nb P W H x y dy dx).1) (by omega), w64 (x := wt dx dy * (nb P W H x y dy dx).2.1) (by omega), w64 (x := wt dx dy * (nb P W H x y dy dx).2.2) (by omega), w64 (x := a.1 + _) (by omega), w64 (x := a.2.1 + _) (by omega), w64 (x := a.2.2 + _) (by omega)]
  rfl
theorem code_row (N fuel : Nat) {x y : Nat} (hx : x < W) (hy : y < H) {dy : Int} (hdy : -1 ≤ dy ∧ dy ≤ 1) (kk) {a : Px} (ha : bd3 a 50000000) :
    D_tone_Sharpen_2_l2 N x y W H P dy kk (fuel + 4) (a.1, a.2.1, a.2.2, -1) = kk ((rowS P W H x y dy a).1, (rowS P W H x y dy a).2.1, (rowS P W H x y dy a).2.2, 2) := by
  have b0 : bd3 a 100000000 := by unfold bd3 at ha ⊢; omega
  have b1 := sadd_bd (wt_in (dx := -1) (by omega) hdy) (okPx_bd (nb_at (x := x) (y := y) hp dy (-1)).2) ha
  have b2 := sadd_bd (wt_in (dx := 0) (by omega) hdy) (okPx_bd (nb_at (x := x) (y := y) hp dy 0).2) b1
  have up : ∀ {c : Px} {m : Int}, bd3 c m → m ≤ 100000000 → bd3 c 100000000 := fun h hm => by unfold bd3 at h ⊢; omega
  rw [code_step hp N (fuel + 3) hx hy (by omega) hdy kk b0 (dx' := 0) (by omega), code_step hp N (fuel + 2) hx hy (dx := 0) (by omega) hdy kk (up b1 (by omega)) (dx' := 1) (by omega), code_step hp N (fuel + 1) hx hy (dx := 1) (by omega) hdy kk (up b2 (by omega)) (dx' := 2) (by omega)]
  unfold D_tone_Sharpen_2_l2
  rw [cF (dF (by omega))]
  rfl
theorem code_sum (N : Nat) {x y : Nat} (hx : x < W) (hy : y < H) (kk) :
    D_tone_Sharpen_2_l1 5000 x y W H P kk 5000 (0, 0, 0, -1) = kk ((sumS P W H x y).1, (sumS P W H x y).2.1, (sumS P W H x y).2.2, 2) := by
  have h0 : bd3 ((0, 0, 0) : Px) 0 := by unfold bd3; simp
  have h1 := rowS_bd (x := x) (y := y) hp (dy := -1) (by omega) h0
  have h2 := rowS_bd (x := x) (y := y) hp (dy := 0) (by omega) h1
  have up : ∀ {a : Px} {m : Int}, bd3 a m → m ≤ 50000000 → bd3 a 50000000 := fun h hm => by unfold bd3 at h ⊢; omega
  have one : ∀ (fuel : Nat) (dy dy' : Int), (-1 ≤ dy ∧ dy ≤ 1) → dy' = dy + 1 → ∀ (a : Px), bd3 a 50000000 → D_tone_Sharpen_2_l1 5000 x y W H P kk (fuel + 1) (a.1, a.2.1, a.2.2, dy) = D_tone_Sharpen_2_l1 5000 x y W H P kk fuel ((rowS P W H x y dy a).1, (rowS P W H x y dy a).2.1, (rowS P W H x y dy a).2.2, dy') := by
    intro fuel dy dy' hd hd' a ha
    subst hd'
    conv => lhs; unfold D_tone_Sharpen_2_l1
    rw [cT (dT hd.2)]
    refine (code_row hp 5000 4996 hx hy hd _ ha).trans ?_
    dsimp only
    rw [w64 (x := dy + 1) (by omega), bsome]
  refine (one 4999 (-1) 0 (by omega) (by omega) (0, 0, 0) (up h0 (by omega))).trans ?_
  refine (one 4998 0 1 (by omega) (by omega) _ (up h1 (by omega))).trans ?_
  refine (one 4997 1 2 (by omega) (by omega) _ (up h2 (by omega))).trans ?_
  unfold D_tone_Sharpen_2_l1
  dsimp only
  rw [cF (dF (by omega))]
  rfl
theorem code_px (amount : Int) {x y : Nat} (hx : x < W) (hy : y < H) (p : Px) : D_tone_Sharpen_2 5000 p.1 p.2.1 p.2.2 x y W H P amount = some (shP amount p (sumS P W H x y)) := by
  unfold D_tone_Sharpen_2
  refine (code_sum hp 5000 hx hy _).trans ?_
  rfl
/-- What the code gives. -/
def shF (amount : Int) (W H : Nat) (P : List Px) (x y : Nat) : Px := shP amount (pxOf P W x y) (sumS P W H x y)
omit hp in
theorem sharpen_eq (W H : Int) (P : List Px) (amount : Int) : D_tone_Sharpen 5000 W H P amount = some (if picF W H P = false then (0, 0, [], 1) else if 0 ≤ amount ∧ amount ≤ 1024 then (W, H, mkL W.toNat H.toNat (shF amount W.toNat H.toNat P), 0) else (0, 0, [], 3)) := by
  unfold D_tone_Sharpen
  cases hp : picF W H P
  · rw [eachS_no 5000 (by omega) W H P amount hp]; rfl
  · have hs := picF_side hp
    obtain ⟨W, rfl⟩ : ∃ n : Nat, W = n := ⟨W.toNat, by have := hs.1; omega⟩
    obtain ⟨H, rfl⟩ : ∃ n : Nat, H = n := ⟨H.toNat, by have := hs.2.2.1; omega⟩
    obtain ⟨h1, h2, h3, h4, h5, h6⟩ := pic_nat hp
    rw [eachS_eq 5000 (by omega) W H P amount hp (fun i => shF amount W H P (i % W) (i / W)) (fun i p hi => by
      have hlt := (List.getElem?_eq_some_iff.1 hi).1
      rw [h5] at hlt
      obtain ⟨l1, l2, _⟩ := lt_of_place hlt
      rw [code_px hp amount l1 l2 p]
      show _ = some (shP amount (P.getD (i / W * W + i % W) px0) _)
      rw [Nat.div_add_mod', List.getD_eq_getElem?_getD, hi]; rfl)]
    rw [bsome]
    dsimp only
    rw [cT (by rfl), if_neg (by simp), h5, Int.toNat_natCast, Int.toNat_natCast]
    by_cases a1 : amount < 0
    · rw [cT (dT a1), if_neg (by omega)]
    rw [cF (dF a1)]
    by_cases a2 : 1024 < amount
    · rw [cT (dT a2), if_neg (by omega)]
    rw [cF (dF a2), if_pos (by omega)]
    rfl
end
end Go.Proofs.Ytpmnfhifmmfglab

namespace Go.Proofs.Ytpmnfhifmmfglab
open Go
theorem sh1_doc (N : Nat) {amount v blur : Int} (ha : 0 ≤ amount ∧ amount ≤ 1024) (hv : 0 ≤ v ∧ v ≤ 65535) (hb : 0 ≤ blur ∧ blur ≤ 2359260) :
    (Option.bind (D_darkslideref_down N (IntKind.i64.wrap (IntKind.i64.wrap (v - IntKind.i64.wrap (Int.tdiv blur 16)) * amount)) 256) fun r => D_darkslideref_clamp N (IntKind.i64.wrap (v + r))) = some (sh1 amount v blur) := by
  have h16 : Int.tdiv blur 16 = blur / 16 := Int.tdiv_eq_ediv_of_nonneg hb.1
  unfold sh1
  rw [h16, shr4, w64 (x := blur / 16) (by omega), w64 (x := v - blur / 16) (by omega)]
  have hm := mul_in (a := 2359260) (b := 1024) (x := v - blur / 16) (y := amount) (by omega) (by omega)
  rw [w64 (x := (v - blur / 16) * amount) (by omega), down_eq N (by omega) (by omega), bsome, shr8]
  rfl
theorem doc_l6 (N fuel : Nat) (o : Int) (r s : Px) (kk) : D_darkslideref_Sharp_l6 N o r s.1 s.2.1 s.2.2 kk (fuel + 4) (0, 0, 0, 0) =
    Option.bind (D_darkslideref_down N (IntKind.i64.wrap (IntKind.i64.wrap (r.1 - IntKind.i64.wrap (Int.tdiv s.1 16)) * o)) 256) fun a =>
    Option.bind (D_darkslideref_clamp N (IntKind.i64.wrap (r.1 + a))) fun a' =>
    Option.bind (D_darkslideref_down N (IntKind.i64.wrap (IntKind.i64.wrap (r.2.1 - IntKind.i64.wrap (Int.tdiv s.2.1 16)) * o)) 256) fun b =>
    Option.bind (D_darkslideref_clamp N (IntKind.i64.wrap (r.2.1 + b))) fun b' =>
    Option.bind (D_darkslideref_down N (IntKind.i64.wrap (IntKind.i64.wrap (r.2.2 - IntKind.i64.wrap (Int.tdiv s.2.2 16)) * o)) 256) fun c =>
    Option.bind (D_darkslideref_clamp N (IntKind.i64.wrap (r.2.2 + c))) fun c' => kk (a', b', c', 3) := by kernel_rfl
theorem doc_l5_raw (N fuel : Nat) {dx dy : Int} (hdx : -1 ≤ dx ∧ dx ≤ 1) (hdy : -1 ≤ dy ∧ dy ≤ 1) (n a : Px) (kk) :
    D_darkslideref_Sharp_l5 N dy dx n kk (fuel + 4) (a.1, a.2.1, a.2.2, 0) = kk (IntKind.i64.wrap (a.1 + IntKind.i64.wrap (IntKind.i64.wrap (n.1 * (2 - dx * dx)) * (2 - dy * dy))), IntKind.i64.wrap (a.2.1 + IntKind.i64.wrap (IntKind.i64.wrap (n.2.1 * (2 - dx * dx)) * (2 - dy * dy))), IntKind.i64.wrap (a.2.2 + IntKind.i64.wrap (IntKind.i64.wrap (n.2.2 * (2 - dx * dx)) * (2 - dy * dy))), 3) := by
  have h1 : dx = -1 ∨ dx = 0 ∨ dx = 1 := by omega
  have h2 : dy = -1 ∨ dy = 0 ∨ dy = 1 := by omega
  rcases h1 with rfl | rfl | rfl <;> rcases h2 with rfl | rfl | rfl <;> (show _ = _) <;> kernel_rfl
theorem doc_l5 (N fuel : Nat) {dx dy : Int} (hdx : -1 ≤ dx ∧ dx ≤ 1) (hdy : -1 ≤ dy ∧ dy ≤ 1) {n a : Px} (hn : bd3 n 65535) (ha : bd3 a 100000000) (kk) :
    D_darkslideref_Sharp_l5 N dy dx n kk (fuel + 4) (a.1, a.2.1, a.2.2, 0) = kk ((sadd (wt dx dy) n a).1, (sadd (wt dx dy) n a).2.1, (sadd (wt dx dy) n a).2.2, 3) := by
  obtain ⟨n1, n2, n3⟩ := hn
  obtain ⟨a1, a2, a3⟩ := ha
  have raw := doc_l5_raw N fuel hdx hdy n a kk
  have hw := wt_in hdx hdy
  have q1 := sq_in hdx
  have q2 := sq_in hdy
  have part : ∀ m b : Int, (0 ≤ m ∧ m ≤ 65535) → (0 ≤ b ∧ b ≤ 100000000) → IntKind.i64.wrap (b + IntKind.i64.wrap (IntKind.i64.wrap (m * (2 - dx * dx)) * (2 - dy * dy))) = b + wt dx dy * m := by
    intro m b hm hb
    have e1 := mul_in (a := 65535) (b := 2) (x := m) (y := 2 - dx * dx) (by omega) (by omega)
    have e2 : m * (2 - dx * dx) * (2 - dy * dy) = wt dx dy * m := by unfold wt; rw [Int.mul_assoc, Int.mul_comm]
    have e3 := wmul hw hm
    rw [w64 (x := m * (2 - dx * dx)) (by omega), e2, w64 (x := wt dx dy * m) (by omega), w64 (by omega)]
  rw [raw, part _ _ n1 a1, part _ _ n2 a2, part _ _ n3 a3]
  rfl
section
variable {W H : Nat} {P : List Px} (hp : picF W H P = true)
include hp
theorem doc_step (fuel : Nat) {x y : Nat} (hx : x < W) (hy : y < H) {dx dy dx' : Int} (hdx : -1 ≤ dx ∧ dx ≤ 1) (hdy : -1 ≤ dy ∧ dy ≤ 1) (kk) {a : Px} (ha : bd3 a 100000000) (hd' : dx' = dx + 1) :
    D_darkslideref_Sharp_l4 5000 W H P y x dy kk (fuel + 1) (a.1, a.2.1, a.2.2, dx) = D_darkslideref_Sharp_l4 5000 W H P y x dy kk fuel ((sadd (wt dx dy) (nb P W H x y dy dx) a).1, (sadd (wt dx dy) (nb P W H x y dy dx) a).2.1, (sadd (wt dx dy) (nb P W H x y dy dx) a).2.2, dx') := by
  subst hd'
  obtain ⟨h1, h2, h3, h4, h5, h6⟩ := pic_nat hp
  obtain ⟨n1, n2⟩ := nb_at (x := x) (y := y) hp dy dx
  have c1 := cl_lt (y := y) (dy := dy) h3
  have c2 := cl_lt (y := x) (dy := dx) h1
  have c3 := place_lt c2 c1
  conv => lhs; unfold D_darkslideref_Sharp_l4
  rw [cT (dT hdx.2), w64 (x := (y : Int) + dy) (by omega), w64 (x := (H : Int) - 1) (by omega), w64 (x := (x : Int) + dx) (by omega), w64 (x := (W : Int) - 1) (by omega), cl_doc h3, cl_doc h1]
  rw [w64 (x := ((cl y dy H : Nat) : Int) * (W : Int)) (by rw [← Int.natCast_mul]; omega), ← Int.natCast_mul, ← Int.natCast_add, w64 (x := ((cl y dy H * W + cl x dx W : Nat) : Int)) (by omega), bsome, n1, bsome]
  unfold D_darkslideref_parts
  rw [bsome]
  refine (doc_l5 5000 4996 hdx hdy (n := nb P W H x y dy dx) (okPx_bd n2) ha _).trans ?_
  dsimp only
  rw [bsome, w64 (x := dx + 1) (by omega)]
theorem doc_row (fuel : Nat) {x y : Nat} (hx : x < W) (hy : y < H) {dy : Int} (hdy : -1 ≤ dy ∧ dy ≤ 1) (kk) {a : Px} (ha : bd3 a 50000000) :
    D_darkslideref_Sharp_l4 5000 W H P y x dy kk (fuel + 4) (a.1, a.2.1, a.2.2, -1) = kk ((rowS P W H x y dy a).1, (rowS P W H x y dy a).2.1, (rowS P W H x y dy a).2.2, 2) := by
  have b0 : bd3 a 100000000 := by unfold bd3 at ha ⊢; omega
  have b1 := sadd_bd (wt_in (dx := -1) (by omega) hdy) (okPx_bd (nb_at (x := x) (y := y) hp dy (-1)).2) ha
  have b2 := sadd_bd (wt_in (dx := 0) (by omega) hdy) (okPx_bd (nb_at (x := x) (y := y) hp dy 0).2) b1
  have up : ∀ {c : Px} {m : Int}, bd3 c m → m ≤ 100000000 → bd3 c 100000000 := fun h hm => by unfold bd3 at h ⊢; omega
  rw [doc_step hp (fuel + 3) hx hy (by omega) hdy kk b0 (dx' := 0) (by omega), doc_step hp (fuel + 2) hx hy (dx := 0) (by omega) hdy kk (up b1 (by omega)) (dx' := 1) (by omega), doc_step hp (fuel + 1) hx hy (dx := 1) (by omega) hdy kk (up b2 (by omega)) (dx' := 2) (by omega)]
  unfold D_darkslideref_Sharp_l4
  rw [cF (dF (by omega))]
  rfl
theorem doc_sum {x y : Nat} (hx : x < W) (hy : y < H) (kk) :
    D_darkslideref_Sharp_l3 5000 W H P y x kk 5000 (0, 0, 0, -1) = kk ((sumS P W H x y).1, (sumS P W H x y).2.1, (sumS P W H x y).2.2, 2) := by
  have h0 : bd3 ((0, 0, 0) : Px) 0 := by unfold bd3; simp
  have h1 := rowS_bd (x := x) (y := y) hp (dy := -1) (by omega) h0
  have h2 := rowS_bd (x := x) (y := y) hp (dy := 0) (by omega) h1
  have up : ∀ {a : Px} {m : Int}, bd3 a m → m ≤ 50000000 → bd3 a 50000000 := fun h hm => by unfold bd3 at h ⊢; omega
  have one : ∀ (fuel : Nat) (dy dy' : Int), (-1 ≤ dy ∧ dy ≤ 1) → dy' = dy + 1 → ∀ (a : Px), bd3 a 50000000 → D_darkslideref_Sharp_l3 5000 W H P y x kk (fuel + 1) (a.1, a.2.1, a.2.2, dy) = D_darkslideref_Sharp_l3 5000 W H P y x kk fuel ((rowS P W H x y dy a).1, (rowS P W H x y dy a).2.1, (rowS P W H x y dy a).2.2, dy') := by
    intro fuel dy dy' hd hd' a ha
    subst hd'
    conv => lhs; unfold D_darkslideref_Sharp_l3
    rw [cT (dT hd.2)]
    refine (doc_row hp 4996 hx hy hd _ ha).trans ?_
    dsimp only
    rw [w64 (x := dy + 1) (by omega), bsome]
  refine (one 4999 (-1) 0 (by omega) (by omega) (0, 0, 0) (up h0 (by omega))).trans ?_
  refine (one 4998 0 1 (by omega) (by omega) _ (up h1 (by omega))).trans ?_
  refine (one 4997 1 2 (by omega) (by omega) _ (up h2 (by omega))).trans ?_
  unfold D_darkslideref_Sharp_l3
  rw [cF (dF (by omega))]
  rfl
theorem doc_l2 {amount : Int} (ha : 0 ≤ amount ∧ amount ≤ 1024) (kk) {y : Nat} (hy : y < H) : ∀ (d x fuel : Nat), x + d = W → d < fuel →
    D_darkslideref_Sharp_l2 5000 W H P amount y kk fuel (pre W (shF amount W H P) (y * W + x), (x : Int)) = kk (pre W (shF amount W H P) ((y + 1) * W + 0), (W : Int)) := by
  obtain ⟨h1, h2, h3, h4, h5, h6⟩ := pic_nat hp
  intro d
  induction d with
  | zero =>
    intro x fuel hk hf
    obtain ⟨fuel, rfl⟩ : ∃ m, fuel = m + 1 := ⟨fuel - 1, by omega⟩
    obtain rfl : x = W := by omega
    unfold D_darkslideref_Sharp_l2
    rw [cF (dF (by omega)), pre_row]
  | succ d ih =>
    intro x fuel hk hf
    obtain ⟨fuel, rfl⟩ : ∃ m, fuel = m + 1 := ⟨fuel - 1, by omega⟩
    have hx : x < W := by omega
    have hpl := place_lt hx hy
    obtain ⟨g1, g2⟩ := pic_at hp hpl
    have hs := sumS_bd (x := x) (y := y) hp
    obtain ⟨s1, s2, s3⟩ := hs
    obtain ⟨p1, p2, p3⟩ := okPx_bd g2
    unfold D_darkslideref_Sharp_l2
    rw [cT (dT (by omega)), w64 (x := (y : Int) * (W : Int)) (by rw [← Int.natCast_mul]; omega), ← Int.natCast_mul, ← Int.natCast_add, w64 (x := ((y * W + x : Nat) : Int)) (by omega), g1, bsome]
    unfold D_darkslideref_parts
    rw [bsome]
    refine (doc_sum hp hx hy _).trans ?_
    dsimp only
    refine (doc_l6 5000 4996 amount (pxOf P W x y) (sumS P W H x y) _).trans ?_
    rw [bind2, sh1_doc 5000 (v := (pxOf P W x y).1) ha p1 s1, bsome, bind2, sh1_doc 5000 (v := (pxOf P W x y).2.1) ha p2 s2, bsome, bind2, sh1_doc 5000 (v := (pxOf P W x y).2.2) ha p3 s3, bsome]
    unfold D_darkslideref_pixel
    dsimp only
    have e : (sh1 amount (pxOf P W x y).1 (sumS P W H x y).1, sh1 amount (pxOf P W x y).2.1 (sumS P W H x y).2.1, sh1 amount (pxOf P W x y).2.2 (sumS P W H x y).2.2) = shF amount W H P x y := rfl
    rw [bsome, e, app_eq (by rw [pre_len]; simp; omega), bsome, bsome, w64 (by omega), ← pre_succ (shF amount W H P) y hx]
    exact ih (x + 1) fuel (by omega) (by omega)
theorem doc_l1 {amount : Int} (ha : 0 ≤ amount ∧ amount ≤ 1024) (kk) : ∀ (d y fuel : Nat), y + d = H → d < fuel →
    D_darkslideref_Sharp_l1 5000 W H P amount kk fuel (pre W (shF amount W H P) (y * W + 0), (y : Int)) = kk (pre W (shF amount W H P) (H * W + 0), (H : Int)) := by
  obtain ⟨h1, h2, h3, h4, h5, h6⟩ := pic_nat hp
  intro d
  induction d with
  | zero =>
    intro y fuel hk hf
    obtain ⟨fuel, rfl⟩ : ∃ m, fuel = m + 1 := ⟨fuel - 1, by omega⟩
    obtain rfl : y = H := by omega
    unfold D_darkslideref_Sharp_l1
    rw [cF (dF (by omega))]
  | succ d ih =>
    intro y fuel hk hf
    obtain ⟨fuel, rfl⟩ : ∃ m, fuel = m + 1 := ⟨fuel - 1, by omega⟩
    unfold D_darkslideref_Sharp_l1
    rw [cT (dT (by omega))]
    refine (doc_l2 hp ha _ (y := y) (by omega) W 0 5000 (by omega) (by omega)).trans ?_
    dsimp only
    rw [bsome, w64 (by omega)]
    exact ih (y + 1) fuel (by omega) (by omega)
theorem sharp_eq {amount : Int} (ha : 0 ≤ amount ∧ amount ≤ 1024) : D_darkslideref_Sharp 5000 W H P amount = some ((W : Int), (H : Int), mkL W H (shF amount W H P)) := by
  obtain ⟨h1, h2, h3, h4, h5, h6⟩ := pic_nat hp
  unfold D_darkslideref_Sharp
  have := doc_l1 hp ha (fun x : List Px × Int => some ((W : Int), (H : Int), x.1)) H 0 5000 (by omega) (by omega)
  simp only [Nat.zero_mul, Nat.add_zero, pre, List.range_zero, List.map_nil] at this
  refine this.trans ?_
  rw [mkL, Nat.mul_comm]
end
end Go.Proofs.Ytpmnfhifmmfglab
