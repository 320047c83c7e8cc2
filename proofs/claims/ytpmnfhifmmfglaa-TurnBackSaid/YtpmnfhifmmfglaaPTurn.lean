/- Turns: what Turn gives is the picture whose places are moved as the document says. -/
import Derived.Test.YtpmnfhifmmfglaaPCut
set_option linter.unusedVariables false
set_option linter.unusedSimpArgs false
set_option linter.unusedSectionVars false
namespace Go.Proofs.Ytpmnfhifmmfglaa
open Go

section
variable (N : Nat) (W H : Nat) (P : List Px) (hs : sideOK W H P.length)
include hs
/-- Columns and rows changed. -/
theorem swapped_l1 (kk : List Px × Int → Option (Int × Int × List Px)) : ∀ (d k fuel : Nat), k + d = W * H → d < fuel →
    D_turn_swapped_l1 N W H P kk fuel (scat P (fun i => i % W * H + i / W) (W * H) k, (k : Int)) = kk (scat P (fun i => i % W * H + i / W) (W * H) (W * H), ((W * H : Nat) : Int)) := by
  obtain ⟨h1, h2, h3, h4, h5, h6⟩ := side_nat W H P hs
  intro d
  induction d with
  | zero =>
    intro k fuel hk hf
    obtain ⟨fuel, rfl⟩ : ∃ m, fuel = m + 1 := ⟨fuel - 1, by omega⟩
    obtain rfl : k = W * H := by omega
    unfold D_turn_swapped_l1
    rw [cF (dF (by omega))]
  | succ d ih =>
    intro k fuel hk hf
    obtain ⟨fuel, rfl⟩ : ∃ m, fuel = m + 1 := ⟨fuel - 1, by omega⟩
    have hk' : k < W * H := by omega
    obtain ⟨e1, e2⟩ := tdm k (show 0 < W by omega)
    obtain ⟨l1, l2, _⟩ := lt_of_place hk'
    obtain ⟨rr, hrr⟩ : ∃ rr, k % W = rr := ⟨_, rfl⟩
    obtain ⟨qq, hqq⟩ : ∃ qq, k / W = qq := ⟨_, rfl⟩
    rw [hrr] at e1 l1
    rw [hqq] at e2 l2
    have hp := place_lt l2 l1
    rw [Nat.mul_comm H W] at hp
    have hpx : P[k]? = some (P.getD k px0) := by rw [List.getD_eq_getElem?_getD, List.getElem?_eq_getElem (by omega)]; rfl
    have c1 : ((rr : Nat) : Int) * (H : Int) = ((rr * H : Nat) : Int) := by rw [Int.natCast_mul]
    have hlen := scat_len P (fun i => i % W * H + i / W) (W * H) k
    unfold D_turn_swapped_l1
    rw [cT (dT (by omega)), idx_nat, hpx, bsome, nz_eq (by omega), bsome, bsome, e1, e2, c1]
    rw [w64 (x := ((rr * H : Nat) : Int)) (by omega), w64 (x := ((qq : Nat) : Int)) (by omega), w64 (x := ((rr * H : Nat) : Int) + ((qq : Nat) : Int)) (by omega)]
    rw [show ((rr * H : Nat) : Int) + ((qq : Nat) : Int) = ((rr * H + qq : Nat) : Int) by omega]
    rw [idx_nat, List.getElem?_eq_getElem (by rw [hlen]; exact hp), bsome, setL_eq (by omega), bsome, w64 (by omega), Int.toNat_natCast]
    subst hrr hqq
    exact ih (k + 1) fuel (by omega) (by omega)
theorem swapped_eq (hN : 5000 ≤ N) : D_turn_swapped N W H P = some ((H : Int), (W : Int), mkL H W fun x y => pxOf P W y x) := by
  obtain ⟨h1, h2, h3, h4, h5, h6⟩ := side_nat W H P hs
  unfold D_turn_swapped
  rw [bsome, mk_eq (by omega), bsome, h5, Int.toNat_natCast]
  refine (swapped_l1 N W H P hs _ (W * H) 0 N (by omega) (by omega)).trans ?_
  rw [scat_full (W' := H) (H' := W) (g := fun x y => x * W + y) (Nat.mul_comm W H)]
  · rfl
  · intro i hi
    obtain ⟨l1, l2, _⟩ := lt_of_place hi
    have := place_lt l2 l1
    rwa [Nat.mul_comm H W] at this
  · intro x y hx hy
    obtain ⟨a, b⟩ := dm x hy
    exact ⟨place_lt hy hx, by rw [a, b]⟩
  · intro i j hi hj hij
    obtain ⟨l1, l2, _⟩ := lt_of_place hi
    obtain ⟨m1, m2, _⟩ := lt_of_place hj
    obtain ⟨a, b⟩ := dm (i % W) l2
    obtain ⟨c, d⟩ := dm (j % W) m2
    rw [hij] at a b
    rw [← Nat.div_add_mod' i W, ← Nat.div_add_mod' j W, ← a, ← b, c, d]
theorem mirror_l1 (kk : List Px × Int → Option (Int × Int × List Px)) : ∀ (d k fuel : Nat), k + d = W * H → d < fuel →
    D_turn_changed__turn_Turn_1_l1 N W P W H P kk fuel (scat P (fun i => i / W * W + (W - 1 - i % W)) (W * H) k, (k : Int)) = kk (scat P (fun i => i / W * W + (W - 1 - i % W)) (W * H) (W * H), ((W * H : Nat) : Int)) := by
  obtain ⟨h1, h2, h3, h4, h5, h6⟩ := side_nat W H P hs
  intro d
  induction d with
  | zero =>
    intro k fuel hk hf
    obtain ⟨fuel, rfl⟩ : ∃ m, fuel = m + 1 := ⟨fuel - 1, by omega⟩
    obtain rfl : k = W * H := by omega
    unfold D_turn_changed__turn_Turn_1_l1
    rw [cF (dF (by omega))]
  | succ d ih =>
    intro k fuel hk hf
    obtain ⟨fuel, rfl⟩ : ∃ m, fuel = m + 1 := ⟨fuel - 1, by omega⟩
    have hk' : k < W * H := by omega
    obtain ⟨e1, e2⟩ := tdm k (show 0 < W by omega)
    obtain ⟨l1, l2, _⟩ := lt_of_place hk'
    obtain ⟨rr, hrr⟩ : ∃ rr, k % W = rr := ⟨_, rfl⟩
    obtain ⟨qq, hqq⟩ : ∃ qq, k / W = qq := ⟨_, rfl⟩
    rw [hrr] at e1 l1
    rw [hqq] at e2 l2
    have hp := place_lt (show W - 1 - rr < W by omega) l2
    have hpx : P[k]? = some (P.getD k px0) := by rw [List.getD_eq_getElem?_getD, List.getElem?_eq_getElem (by omega)]; rfl
    have c1 : ((qq : Nat) : Int) * (W : Int) = ((qq * W : Nat) : Int) := by rw [Int.natCast_mul]
    have hlen := scat_len P (fun i => i / W * W + (W - 1 - i % W)) (W * H) k
    unfold D_turn_changed__turn_Turn_1_l1 D_turn_Turn_1
    rw [cT (dT (by omega)), idx_nat, hpx, bsome, nz_eq (by omega), bsome, bsome, e1, e2, w64 (x := ((qq : Nat) : Int)) (by omega), c1]
    rw [w64 (x := ((qq * W : Nat) : Int)) (by omega), w64 (x := ((qq * W : Nat) : Int) + W) (by omega), w64 (x := ((qq * W : Nat) : Int) + W - 1) (by omega), w64 (x := ((qq * W : Nat) : Int) + W - 1 - ((rr : Nat) : Int)) (by omega), bsome]
    rw [show ((qq * W : Nat) : Int) + W - 1 - ((rr : Nat) : Int) = ((qq * W + (W - 1 - rr) : Nat) : Int) by omega]
    rw [idx_nat, List.getElem?_eq_getElem (by rw [hlen]; exact hp), bsome, setL_eq (by omega), bsome, w64 (by omega), Int.toNat_natCast]
    subst hrr hqq
    exact ih (k + 1) fuel (by omega) (by omega)
theorem mirror_eq (hN : 5000 ≤ N) : D_turn_changed__turn_Turn_1 N W H P W H P = some ((W : Int), (H : Int), mkL W H fun x y => pxOf P W (W - 1 - x) y) := by
  obtain ⟨h1, h2, h3, h4, h5, h6⟩ := side_nat W H P hs
  unfold D_turn_changed__turn_Turn_1
  rw [bsome, mk_eq (by omega), bsome, h5, Int.toNat_natCast]
  refine (mirror_l1 N W H P hs _ (W * H) 0 N (by omega) (by omega)).trans ?_
  rw [scat_full (W' := W) (H' := H) (g := fun x y => y * W + (W - 1 - x)) rfl]
  · rfl
  · intro i hi
    obtain ⟨l1, l2, _⟩ := lt_of_place hi
    exact place_lt (Nat.lt_of_le_of_lt (Nat.sub_le _ _) (by omega)) l2
  · intro x y hx hy
    obtain ⟨a, b⟩ := dm y (show W - 1 - x < W by omega)
    exact ⟨place_lt (by omega) hy, by rw [a, b]; omega⟩
  · intro i j hi hj hij
    obtain ⟨l1, l2, _⟩ := lt_of_place hi
    obtain ⟨m1, m2, _⟩ := lt_of_place hj
    obtain ⟨a, b⟩ := dm (i / W) (show W - 1 - i % W < W by omega)
    obtain ⟨c, d⟩ := dm (j / W) (show W - 1 - j % W < W by omega)
    rw [hij] at a b
    have e1 : i / W = j / W := b.symm.trans d
    have e2 : i % W = j % W := sub_inj l1 m1 (a.symm.trans c)
    rw [← Nat.div_add_mod' i W, ← Nat.div_add_mod' j W, e1, e2]
theorem flip_l1 (kk : List Px × Int → Option (Int × Int × List Px)) : ∀ (d k fuel : Nat), k + d = W * H → d < fuel →
    D_turn_changed__turn_Turn_2_l1 N W P W H P kk fuel (scat P (fun i => (H - 1 - i / W) * W + i % W) (W * H) k, (k : Int)) = kk (scat P (fun i => (H - 1 - i / W) * W + i % W) (W * H) (W * H), ((W * H : Nat) : Int)) := by
  obtain ⟨h1, h2, h3, h4, h5, h6⟩ := side_nat W H P hs
  intro d
  induction d with
  | zero =>
    intro k fuel hk hf
    obtain ⟨fuel, rfl⟩ : ∃ m, fuel = m + 1 := ⟨fuel - 1, by omega⟩
    obtain rfl : k = W * H := by omega
    unfold D_turn_changed__turn_Turn_2_l1
    rw [cF (dF (by omega))]
  | succ d ih =>
    intro k fuel hk hf
    obtain ⟨fuel, rfl⟩ : ∃ m, fuel = m + 1 := ⟨fuel - 1, by omega⟩
    have hk' : k < W * H := by omega
    obtain ⟨e1, e2⟩ := tdm k (show 0 < W by omega)
    obtain ⟨l1, l2, _⟩ := lt_of_place hk'
    obtain ⟨rr, hrr⟩ : ∃ rr, k % W = rr := ⟨_, rfl⟩
    obtain ⟨qq, hqq⟩ : ∃ qq, k / W = qq := ⟨_, rfl⟩
    rw [hrr] at e1 l1
    rw [hqq] at e2 l2
    have hp := place_lt l1 (show H - 1 - qq < H by omega)
    have hpx : P[k]? = some (P.getD k px0) := by rw [List.getD_eq_getElem?_getD, List.getElem?_eq_getElem (by omega)]; rfl
    have c0 : (H : Int) - 1 - ((qq : Nat) : Int) = ((H - 1 - qq : Nat) : Int) := by omega
    have c1 : ((H - 1 - qq : Nat) : Int) * (W : Int) = (((H - 1 - qq) * W : Nat) : Int) := by rw [Int.natCast_mul]
    have hlen := scat_len P (fun i => (H - 1 - i / W) * W + i % W) (W * H) k
    unfold D_turn_changed__turn_Turn_2_l1 D_turn_Turn_2
    rw [cT (dT (by omega)), idx_nat, hpx, bsome, nz_eq (by omega), bsome, bsome, e1, e2, w64 (x := ((qq : Nat) : Int)) (by omega), w64 (x := (H : Int) - 1) (by omega), c0, w64 (x := ((H - 1 - qq : Nat) : Int)) (by omega), c1]
    rw [w64 (x := (((H - 1 - qq) * W : Nat) : Int)) (by omega), w64 (x := (((H - 1 - qq) * W : Nat) : Int) + ((rr : Nat) : Int)) (by omega), bsome]
    rw [show (((H - 1 - qq) * W : Nat) : Int) + ((rr : Nat) : Int) = (((H - 1 - qq) * W + rr : Nat) : Int) by omega]
    rw [idx_nat, List.getElem?_eq_getElem (by rw [hlen]; exact hp), bsome, setL_eq (by omega), bsome, w64 (by omega), Int.toNat_natCast]
    subst hrr hqq
    exact ih (k + 1) fuel (by omega) (by omega)
theorem flip_eq (hN : 5000 ≤ N) : D_turn_changed__turn_Turn_2 N W H P W H P = some ((W : Int), (H : Int), mkL W H fun x y => pxOf P W x (H - 1 - y)) := by
  obtain ⟨h1, h2, h3, h4, h5, h6⟩ := side_nat W H P hs
  unfold D_turn_changed__turn_Turn_2
  rw [bsome, mk_eq (by omega), bsome, h5, Int.toNat_natCast]
  refine (flip_l1 N W H P hs _ (W * H) 0 N (by omega) (by omega)).trans ?_
  rw [scat_full (W' := W) (H' := H) (g := fun x y => (H - 1 - y) * W + x) rfl]
  · rfl
  · intro i hi
    obtain ⟨l1, l2, _⟩ := lt_of_place hi
    exact place_lt l1 (Nat.lt_of_le_of_lt (Nat.sub_le _ _) (by omega))
  · intro x y hx hy
    obtain ⟨a, b⟩ := dm (H - 1 - y) hx
    exact ⟨place_lt hx (by omega), by rw [a, b, show H - 1 - (H - 1 - y) = y by omega]⟩
  · intro i j hi hj hij
    obtain ⟨l1, l2, _⟩ := lt_of_place hi
    obtain ⟨m1, m2, _⟩ := lt_of_place hj
    obtain ⟨a, b⟩ := dm (H - 1 - i / W) l1
    obtain ⟨c, d⟩ := dm (H - 1 - j / W) m1
    rw [hij] at a b
    have e1 : i / W = j / W := sub_inj l2 m2 (b.symm.trans d)
    have e2 : i % W = j % W := a.symm.trans c
    rw [← Nat.div_add_mod' i W, ← Nat.div_add_mod' j W, e1, e2]
theorem copy_l1 (kk : List Px × Int → Option (Int × Int × List Px)) : ∀ (d k fuel : Nat), k + d = W * H → d < fuel →
    D_turn_changed__turn_Turn_3_l1 N W P W H P kk fuel (scat P (fun i => i / W * W + i % W) (W * H) k, (k : Int)) = kk (scat P (fun i => i / W * W + i % W) (W * H) (W * H), ((W * H : Nat) : Int)) := by
  obtain ⟨h1, h2, h3, h4, h5, h6⟩ := side_nat W H P hs
  intro d
  induction d with
  | zero =>
    intro k fuel hk hf
    obtain ⟨fuel, rfl⟩ : ∃ m, fuel = m + 1 := ⟨fuel - 1, by omega⟩
    obtain rfl : k = W * H := by omega
    unfold D_turn_changed__turn_Turn_3_l1
    rw [cF (dF (by omega))]
  | succ d ih =>
    intro k fuel hk hf
    obtain ⟨fuel, rfl⟩ : ∃ m, fuel = m + 1 := ⟨fuel - 1, by omega⟩
    have hk' : k < W * H := by omega
    obtain ⟨e1, e2⟩ := tdm k (show 0 < W by omega)
    obtain ⟨l1, l2, _⟩ := lt_of_place hk'
    obtain ⟨rr, hrr⟩ : ∃ rr, k % W = rr := ⟨_, rfl⟩
    obtain ⟨qq, hqq⟩ : ∃ qq, k / W = qq := ⟨_, rfl⟩
    rw [hrr] at e1 l1
    rw [hqq] at e2 l2
    have hp := place_lt l1 l2
    have hpx : P[k]? = some (P.getD k px0) := by rw [List.getD_eq_getElem?_getD, List.getElem?_eq_getElem (by omega)]; rfl
    have c1 : ((qq : Nat) : Int) * (W : Int) = ((qq * W : Nat) : Int) := by rw [Int.natCast_mul]
    have hlen := scat_len P (fun i => i / W * W + i % W) (W * H) k
    unfold D_turn_changed__turn_Turn_3_l1 D_turn_Turn_3
    rw [cT (dT (by omega)), idx_nat, hpx, bsome, nz_eq (by omega), bsome, bsome, e1, e2, w64 (x := ((qq : Nat) : Int)) (by omega), c1]
    rw [w64 (x := ((qq * W : Nat) : Int)) (by omega), w64 (x := ((qq * W : Nat) : Int) + ((rr : Nat) : Int)) (by omega), bsome]
    rw [show ((qq * W : Nat) : Int) + ((rr : Nat) : Int) = ((qq * W + rr : Nat) : Int) by omega]
    rw [idx_nat, List.getElem?_eq_getElem (by rw [hlen]; exact hp), bsome, setL_eq (by omega), bsome, w64 (by omega), Int.toNat_natCast]
    subst hrr hqq
    exact ih (k + 1) fuel (by omega) (by omega)
theorem copy_eq (hN : 5000 ≤ N) : D_turn_changed__turn_Turn_3 N W H P W H P = some ((W : Int), (H : Int), P) := by
  obtain ⟨h1, h2, h3, h4, h5, h6⟩ := side_nat W H P hs
  unfold D_turn_changed__turn_Turn_3
  rw [bsome, mk_eq (by omega), bsome, h5, Int.toNat_natCast]
  refine (copy_l1 N W H P hs _ (W * H) 0 N (by omega) (by omega)).trans ?_
  rw [scat_full (W' := W) (H' := H) (g := fun x y => y * W + x) rfl]
  · have := mkL_self h5
    unfold pxOf at this
    rw [this]
  · intro i hi
    obtain ⟨l1, l2, _⟩ := lt_of_place hi
    exact place_lt l1 l2
  · intro x y hx hy
    obtain ⟨a, b⟩ := dm y hx
    exact ⟨place_lt hx hy, by rw [a, b]⟩
  · intro i j hi hj hij
    simp only [Nat.div_add_mod'] at hij
    exact hij
end
end Go.Proofs.Ytpmnfhifmmfglaa
