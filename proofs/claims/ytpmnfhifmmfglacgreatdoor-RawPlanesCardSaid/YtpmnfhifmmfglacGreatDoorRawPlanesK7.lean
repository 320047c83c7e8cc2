/- Texts of the claim RawPlanes, joined and made small by a program. -/
import Derived.KernelRfl
import Derived.Laws.CopyRow
import Derived.Laws.IdiomCopy
import Derived.Lib.SliceRun
import Derived.LoopN
import Derived.WalkSpells
import Derived.Test.YtpmnfhifmmfglacGreatDoorRawPlanesK4
import Derived.Test.YtpmnfhifmmfglacGreatDoorRawPlanesK5
import Derived.Test.YtpmnfhifmmfglacGreatDoorRawPlanesK6
set_option linter.unusedVariables false
set_option linter.unusedSimpArgs false
set_option linter.unusedSectionVars false
set_option maxRecDepth 100000
set_option maxHeartbeats 8000000
namespace Go.Proofs.YtpmnfhifmmfglacGreatDoor
section
open Go
def YM (e : Int) : Bool := decide (0 ≤ e ∧ e ≤ 65535)
def QL (W H : Int) (P : List Int) : Bool := decide (Bv W H P.length) && P.all YM
theorem Pf (N : Nat) {P : List Int} (hP : P.length ≤ 4096) (kk) : ∀ (j k fuel : Nat), k + j = P.length → j < fuel → iX N P kk fuel (k : Int) = if (P.drop k).all YM = true then kk (P.length : Int) else some false := by
 intro j
 induction j with
 | zero =>
  intro k fuel hk hf;obtain ⟨fuel, rfl⟩ : ∃ q, fuel = q + 1 := ⟨fuel - 1, by omega⟩
  obtain rfl : k = P.length := by omega
  unfold iX;rw [cF (dF (by omega)), List.drop_length, if_pos (by rfl)]
 | succ j ih =>
  intro k fuel hk hf;obtain ⟨fuel, rfl⟩ : ∃ q, fuel = q + 1 := ⟨fuel - 1, by omega⟩
  have hlt : k < P.length := by omega
  have hnx : IntKind.i64.wrap ((k : Int) + 1) = ((k + 1 : Nat) : Int) := by rw [iV (by omega)]; rfl
  unfold iX;rw [cT (dT (by omega)), iK, List.getElem?_eq_getElem hlt, aL, rJ, aL, List.drop_eq_getElem_cons hlt, List.all_cons]
  by_cases h1 : 0 ≤ P[k] ∧ P[k] ≤ 65535
  ·rw [cF (by rw [dT h1]; rfl), hnx, aL, ih (k + 1) fuel (by omega) (by omega), show YM P[k] = true from dT h1, Bool.true_and]
  ·rw [cT (by rw [dF h1]; rfl), if_neg];rw [show YM P[k] = false from dF h1]; simp
theorem Lx {W H : Int} {P : List Int} (h : ¬ Bv W H P.length) : QL W H P = false := by unfold QL; rw [dF h]; rfl
theorem Pg (N : Nat) (hN : 5000 ≤ N) (W H : Int) (P : List Int) : lN N W H P = some (QL W H P) := by
 unfold lN;rw [rJ, aL]
 by_cases h1 : 1 ≤ W ∧ W ≤ 64
 rotate_left
 ·rw [cT (by rw [dF h1]; rfl), Lx (fun h => by unfold Bv at h; omega)]
 rw [cF (by rw [dT h1]; rfl), rJ, aL]
 by_cases h3 : 1 ≤ H ∧ H ≤ 64
 rotate_left
 ·rw [cT (by rw [dF h3]; rfl), Lx (fun h => by unfold Bv at h; omega)]
 have hb := TY (W := W) (H := H) (by omega);rw [cF (by rw [dT h3]; rfl), iV (by omega)]
 by_cases h5 : (P.length : Int) = W * H
 rotate_left
 ·rw [cT (by rw [dF h5]; rfl), Lx (fun h => by unfold Bv at h; exact h5 h.2.2.2.2)]
 have hs : Bv W H P.length := ⟨by omega, by omega, by omega, by omega, h5⟩
 rw [cF (by rw [dT h5]; rfl)];have key := Pf N (P := P) (by omega) (fun _ => some true) P.length 0 N (by omega) (by omega);refine Eq.trans key ?_;unfold QL;rw [dT hs, Bool.true_and, List.drop_zero]
 split
 ·rename_i h; rw [h]
 ·rename_i h; rw [(Bool.not_eq_true _).mp h]
def Uf (kind a b c : Int) : Int := if kind = 1 then a else if kind = 2 then b else if kind = 3 then c else if kind = 4 then a + b - c else if kind = 5 then a + (b - c) / 2 else if kind = 6 then b + (a - c) / 2 else (a + b) / 2
def gs (W : Nat) (P : List Int) (kind : Int) (i : Nat) : Int := if i = 0 then 32768 else if i / W = 0 then P.getD (i - 1) 0 else if i % W = 0 then P.getD (i - W) 0 else Uf kind (P.getD (i - 1) 0) (P.getD (i - W) 0) (P.getD (i - W - 1) 0)
theorem Ug {kind a b c : Int} (ha : 0 ≤ a ∧ a ≤ 65535) (hb : 0 ≤ b ∧ b ≤ 65535) (hc : 0 ≤ c ∧ c ≤ 65535) : -65535 ≤ Uf kind a b c ∧ Uf kind a b c ≤ 131070 := by
 unfold Uf
 repeat' split
 all_goals omega
section
variable {P : List Int} (hP : ∀ e ∈ P, 0 ≤ e ∧ e ≤ 65535)
include hP in
theorem Ds {j : Nat} (h : j < P.length) : idx P (j : Int) = some (P.getD j 0) ∧ 0 ≤ P.getD j 0 ∧ P.getD j 0 ≤ 65535 := by
 have e : P.getD j 0 = P[j] := by rw [List.getD_eq_getElem?_getD, List.getElem?_eq_getElem h]; rfl
 rw [e, iK, List.getElem?_eq_getElem h];exact ⟨rfl, hP _ (List.getElem_mem h)⟩
include hP in
theorem Ph {W : Nat} {kind : Int} {i : Nat} (hW : 1 ≤ W) (hi : i < P.length) : -65535 ≤ gs W P kind i ∧ gs W P kind i ≤ 131070 := by
 unfold gs
 split
 ·omega
 ·split
  ·have := (Ds hP (j := i - 1) (by omega)).2; omega
  ·split
   ·have := (Ds hP (j := i - W) (by omega)).2; omega
   ·exact Ug (Ds hP (by omega)).2 (Ds hP (by omega)).2 (Ds hP (by omega)).2
theorem JO {i W : Nat} (h : i / W ≠ 0) : W ≤ i ∧ 0 < W := by
 rcases Nat.eq_zero_or_pos W with h0 | h0
 ·subst h0; simp at h
 ·refine ⟨?_, h0⟩
  rcases Nat.lt_or_ge i W with h1 | h1
  ·exact absurd (Nat.div_eq_of_lt h1) h
  ·exact h1
include hP in
theorem Ly (N : Nat) {W : Nat} (hW : 1 ≤ W ∧ W ≤ 64) {kind : Int} (hk : 1 ≤ kind ∧ kind ≤ 7) (H : Int) {i : Nat} (hi : i < P.length) (hl : P.length ≤ 4096) : nF N (W : Int) H P kind (i : Int) = some (gs W P kind i) := by
 unfold nF gs;obtain ⟨t1, t2⟩ := tdm (W := W) i (by omega);rw [Jy (by omega), aL, aL, t2, t1]
 by_cases h0 : i = 0
 ·rw [cT (dT (by omega)), if_pos h0]
 have hdl : i / W ≤ i := Nat.div_le_self _ _;rw [cF (dF (by omega)), if_neg h0, iV (x := ((i / W : Nat) : Int)) ⟨Int.le_trans (by decide) (Int.natCast_nonneg _), Int.le_trans (Int.ofNat_le.2 hdl) (by omega)⟩];have e1 : IntKind.i64.wrap ((i : Int) - 1) = ((i - 1 : Nat) : Int) := by rw [iV (by omega)]; omega
 by_cases h1 : i / W = 0
 ·rw [cT (dT (by rw [h1]; rfl)), if_pos h1, e1, (Ds hP (j := i - 1) (by omega)).1]; rfl
 obtain ⟨hWi, hW0⟩ := JO h1;have e2 : IntKind.i64.wrap ((i : Int) - (W : Int)) = ((i - W : Nat) : Int) := by rw [iV (by omega)]; omega
 rw [cF (dF (fun h => h1 (by exact_mod_cast h))), if_neg h1, e2]
 by_cases h2 : i % W = 0
 ·rw [cT (dT (by rw [h2]; rfl)), if_pos h2, (Ds hP (j := i - W) (by omega)).1]; rfl
 have hlt : W < i := by
  rcases Nat.lt_or_ge W i with h | h
  ·exact h
  ·obtain rfl : i = W := by omega
   simp at h2
 have e3 : IntKind.i64.wrap (((i - W : Nat) : Int) - 1) = ((i - W - 1 : Nat) : Int) := by rw [iV (by omega)]; omega
 obtain ⟨a1, a2⟩ := Ds hP (j := i - 1) (by omega);obtain ⟨b1, b2⟩ := Ds hP (j := i - W) (by omega);obtain ⟨c1, c2⟩ := Ds hP (j := i - W - 1) (by omega);rw [cF (dF (fun h => h2 (by exact_mod_cast h))), if_neg h2, e1, a1, aL, b1, aL, e3, c1, aL]
 generalize P.getD (i - 1) 0 = a at *
 generalize P.getD (i - W) 0 = b at *
 generalize P.getD (i - W - 1) 0 = c at *
 have s1 : ∀ m : Int, jN .i64 m 1 = m / 2 := fun m => T0 m 1 (by decide)
 rw [s1, s1, s1, iV (x := a + b) (by omega), iV (x := a + b - c) (by omega), iV (x := b - c) (by omega), iV (x := a - c) (by omega), iV (x := a + (b - c) / 2) (by omega), iV (x := b + (a - c) / 2) (by omega)];unfold Uf
 rcases (show kind = 1 ∨ kind = 2 ∨ kind = 3 ∨ kind = 4 ∨ kind = 5 ∨ kind = 6 ∨ kind = 7 by omega) with rfl | rfl | rfl | rfl | rfl | rfl | rfl <;> rfl
include hP in
theorem ER (N : Nat) {W x y : Nat} (H : Int) (hW : W ≤ 64) (hx : x ≤ 64) (hy : y ≤ 64) (h : y * W + x < P.length) : fY N (W : Int) H P (x : Int) (y : Int) = some (P.getD (y * W + x) 0) := by
 have hyw : y * W ≤ 64 * 64 := Nat.mul_le_mul hy hW;have e : (y : Int) * (W : Int) = ((y * W : Nat) : Int) := by simp
 have e2 : IntKind.i64.wrap (IntKind.i64.wrap ((y : Int) * (W : Int)) + (x : Int)) = ((y * W + x : Nat) : Int) := by
  rw [e, iV (x := ((y * W : Nat) : Int)) (by omega), iV (by omega)]; omega
 unfold fY;rw [e2, (Ds hP h).1]; rfl
include hP in
theorem Gq (N : Nat) {W : Nat} (hW : 1 ≤ W ∧ W ≤ 64) {kind : Int} (hk : 1 ≤ kind ∧ kind ≤ 7) (H : Int) {x y : Nat} (hx : x < W) (hy : y < 64) (hi : y * W + x < P.length) (hl : P.length ≤ 4096) : hJ N (W : Int) H P kind (x : Int) (y : Int) = some (gs W P kind (y * W + x)) := by
 obtain ⟨d1, d2⟩ := dm (W := W) y hx
 have fin : ∀ (a b c : Int), 0 ≤ a ∧ a ≤ 65535 → 0 ≤ b ∧ b ≤ 65535 → 0 ≤ c ∧ c ≤ 65535 → (cond (decide (kind = 1)) (
   some a) (
   cond (decide (kind = 2)) (
   some b) (
   cond (decide (kind = 3)) (
   some c) (
   cond (decide (kind = 4)) (
   some (IntKind.i64.wrap ((IntKind.i64.wrap (a + b)) - c))) (
   cond (decide (kind = 5)) (
   Option.bind (eD N (IntKind.i64.wrap (b - c)) 2) fun DN =>
   some (IntKind.i64.wrap (a + DN))) (
   cond (decide (kind = 6)) (
   Option.bind (eD N (IntKind.i64.wrap (a - c)) 2) fun r16 =>
   some (IntKind.i64.wrap (b + r16))) (
   Option.bind (eD N (IntKind.i64.wrap (a + b)) 2) fun Ch =>
   some Ch)))))) : Option Int) = some (Uf kind a b c) := by
  intro a b c ha hb hc;rw [iV (x := a + b) (by omega), iV (x := a + b - c) (by omega), iV (x := b - c) (by omega), iV (x := a - c) (by omega), FF N (by omega) (by omega), FF N (by omega) (by omega), FF N (by omega) (by omega), aL, aL, aL, iV (x := a + (b - c) / 2) (by omega), iV (x := b + (a - c) / 2) (by omega)];unfold Uf
  rcases (show kind = 1 ∨ kind = 2 ∨ kind = 3 ∨ kind = 4 ∨ kind = 5 ∨ kind = 6 ∨ kind = 7 by omega) with rfl | rfl | rfl | rfl | rfl | rfl | rfl <;> rfl
 unfold hJ gs;rw [d2, d1]
 by_cases h0 : x = 0
 ·subst h0;rw [cT (dT (by rfl))]
  by_cases h1 : y = 0
  ·subst h1;rw [cT (dT (by rfl)), if_pos (by simp)]
  ·have hyw : 1 ≤ y * W := Nat.mul_pos (by omega) (by omega);have e : IntKind.i64.wrap ((y : Int) - 1) = ((y - 1 : Nat) : Int) := by rw [iV (by omega)]; omega
   have e2 : (y - 1) * W + 0 = y * W + 0 - W := by rw [Nat.sub_mul]; omega
   have hle : (y - 1) * W ≤ y * W := Nat.mul_le_mul_right _ (by omega);rw [cF (dF (by omega)), cF (dF (by omega)), cT (dT (by rfl)), e];have := ER hP N (W := W) (x := 0) (y := y - 1) H (by omega) (by omega) (by omega) (by omega);rw [show ((0 : Nat) : Int) = 0 from rfl] at this;rw [this, aL, if_neg (by omega), if_neg (by omega), if_pos rfl, e2]
 ·rw [cF (dF (by omega))];have ex : IntKind.i64.wrap ((x : Int) - 1) = ((x - 1 : Nat) : Int) := by rw [iV (by omega)]; omega
  by_cases h1 : y = 0
  ·subst h1;have := ER hP N (W := W) (x := x - 1) (y := 0) H (by omega) (by omega) (by omega) (by omega);rw [show ((0 : Nat) : Int) = 0 from rfl] at this;rw [cT (dT (by rfl)), ex, this, aL, if_neg (by omega), if_pos rfl]
   congr 2
   omega
  ·have e : IntKind.i64.wrap ((y : Int) - 1) = ((y - 1 : Nat) : Int) := by rw [iV (by omega)]; omega
   have hsub : (y - 1) * W = y * W - W := by rw [Nat.sub_mul]; omega
   have hyw : W ≤ y * W := Nat.le_mul_of_pos_left W (by omega);rw [cF (dF (by omega)), cF (dF (by omega)), ex, e, ER hP N (W := W) (x := x - 1) (y := y) H (by omega) (by omega) (by omega) (by omega), aL, ER hP N (W := W) (x := x) (y := y - 1) H (by omega) (by omega) (by omega) (by omega), aL, ER hP N (W := W) (x := x - 1) (y := y - 1) H (by omega) (by omega) (by omega) (by omega), aL, if_neg (by omega), if_neg (by omega), if_neg (by omega)];rw [show y * W + (x - 1) = y * W + x - 1 by omega, show (y - 1) * W + x = y * W + x - W by omega, show (y - 1) * W + (x - 1) = y * W + x - W - 1 by omega];exact fin _ _ _ (Ds hP (by omega)).2 (Ds hP (by omega)).2 (Ds hP (by omega)).2
end
theorem Rr {W H : Int} {P : List Int} (h : QL W H P = true) : ∃ w k : Nat, W = w ∧ H = k ∧ 1 ≤ w ∧ w ≤ 64 ∧ 1 ≤ k ∧ k ≤ 64 ∧ P.length = w * k ∧ w * k ≤ 4096 ∧ ∀ e ∈ P, 0 ≤ e ∧ e ≤ 65535 := by
 unfold QL at h;rw [Bool.and_eq_true] at h;obtain ⟨h1, h2⟩ := h;obtain ⟨a, b, c, d, e⟩ := of_decide_eq_true h1;obtain ⟨w, rfl⟩ := Int.eq_ofNat_of_zero_le (show 0 ≤ W by omega);obtain ⟨k, rfl⟩ := Int.eq_ofNat_of_zero_le (show 0 ≤ H by omega);have hm := Nat.mul_le_mul (show w ≤ 64 by omega) (show k ≤ 64 by omega);exact ⟨w, k, rfl, rfl, by omega, by omega, by omega, by omega, by exact_mod_cast e, by omega, fun e he => of_decide_eq_true (List.all_eq_true.1 h2 e he)⟩
def bl (n : Nat) : Nat := if n = 0 then 0 else Nat.log2 n + 1
theorem Mi {n : Nat} (h : 0 < n) : bl n = bl (n / 2) + 1 := by
 unfold bl;rw [if_neg (by omega)]
 by_cases h2 : 2 ≤ n
 ·rw [if_neg (by omega), Nat.log2_def, if_pos h2]
 ·obtain rfl : n = 1 := by omega
  rfl
theorem Dt : ∀ (k n : Nat), bl n ≤ k ↔ n < 2 ^ k
 | 0, n => by
  unfold bl
  split
  ·subst n; simp
  ·rw [Nat.pow_zero]; omega
 | k + 1, n => by
  rcases Nat.eq_zero_or_pos n with rfl | h
  ·have := Nat.two_pow_pos (k + 1); simp [bl, this]
  ·have ih := Dt k (n / 2);rw [Mi h, Nat.pow_succ]
   constructor
   ·intro q;have := ih.1 (by omega)
    omega
   ·intro q;have := ih.2 (by omega)
    omega
def Bq (d : Int) : Nat := bl (max d (-d)).toNat
theorem Lz (N : Nat) : ∀ (j : Nat) (k n fuel : Nat), bl k = j → j < fuel → n + j ≤ 1000 → k ≤ 1000000 → jT N (fun (n4, k5) => some n4) fuel ((n : Int), (k : Int)) = some ((n + j : Nat) : Int) := by
 intro j
 induction j with
 | zero =>
  intro k n fuel hb hf hn hk;obtain ⟨fuel, rfl⟩ : ∃ q, fuel = q + 1 := ⟨fuel - 1, by omega⟩
  have := (Dt 0 k).1 (by omega);unfold jT;rw [cF (dF (by omega))]; rfl
 | succ j ih =>
  intro k n fuel hb hf hn hk;obtain ⟨fuel, rfl⟩ : ∃ q, fuel = q + 1 := ⟨fuel - 1, by omega⟩
  have hk0 : 0 < k := by
   rcases Nat.eq_zero_or_pos k with rfl | h
   ·simp [bl] at hb
   ·exact h
  have hb2 := Mi hk0;unfold jT;rw [cT (dT (by omega)), iV (x := (n : Int) + 1) (by omega), aL, show Int.tdiv (k : Int) 2 = ((k / 2 : Nat) : Int) from rfl, iV (x := ((k / 2 : Nat) : Int)) (by omega), aL, show (n : Int) + 1 = ((n + 1 : Nat) : Int) by rfl, ih (k / 2) (n + 1) fuel (by omega) (by omega) (by omega) (by omega)]
  congr 2
  omega
theorem Mj {d : Int} (h : -32768 < d ∧ d ≤ 32768) : Bq d ≤ 16 := (Dt 16 _).2 (by omega)
theorem Gr (N : Nat) (hN : 100 ≤ N) {d : Int} (h : -32768 < d ∧ d ≤ 32768) : kV N d = some ((Bq d : Nat) : Int) := by
 have hc := Mj h;unfold kV;rw [iV (x := 0 - d) (by omega), aL, show max d (0 - d) = (((max d (-d)).toNat : Nat) : Int) by omega];have := Lz N (Bq d) (max d (-d)).toNat 0 N rfl (by omega) (by omega) (by omega);rw [Nat.zero_add] at this;exact this
def Pi (d : Int) : List UInt8 := if Bq d = 0 ∨ Bq d = 16 then [] else vB (nM 2 (Bq d) (if 0 < d then d else d + ((2 ^ Bq d : Nat) : Int) - 1).toNat)
theorem Pj {d : Int} : -((2 ^ Bq d : Nat) : Int) < d ∧ d < ((2 ^ Bq d : Nat) : Int) := by
 have h := (Dt (Bq d) (max d (-d)).toNat).1 (Nat.le_refl _);have h2 : (((max d (-d)).toNat : Nat) : Int) < ((2 ^ Bq d : Nat) : Int) := Int.ofNat_lt.2 h
 omega
theorem Rs {d : Int} : Bq d = 0 ↔ d = 0 := by
 have := Dt 0 (max d (-d)).toNat;unfold Bq
 constructor
 ·intro h; have := this.1 (by omega); omega
 ·intro h; have := this.2 (by omega); omega
theorem aAh {d : Int} (h : Bq d ≠ 0) (h2 : Bq d ≠ 16) (hd : -32768 < d ∧ d ≤ 32768) : tG (if 0 < d then d else d + ((2 ^ Bq d : Nat) : Int) - 1) ((Bq d : Nat) : Int) = 0 := by
 have hc := Mj hd;have hl := Pj (d := d);have h0 : d ≠ 0 := fun e => h (Rs.2 e)
 unfold tG;rw [if_pos (by omega), Int.toNat_natCast, if_pos]
 split
 ·omega
 ·omega
theorem Ru (N : Nat) (hN : 100 ≤ N) {d : Int} (h : -32768 < d ∧ d ≤ 32768) : nZ N d = some (Pi d) := by
 have hc := Mj h;unfold nZ Pi;rw [Gr N hN h, aL]
 by_cases h0 : Bq d = 0
 ·rw [cT (dT (by omega)), if_pos (.inl h0)]
 rw [cF (dF (by omega))]
 by_cases h1 : Bq d = 16
 ·rw [cT (dT (by omega)), if_pos (.inr h1)]
 have hv := aAh h0 h1 h;have hp := xF (d := Bq d) hc;have hl := Pj (d := d);rw [cF (dF (by omega)), if_neg (by omega)]
 by_cases h2 : 0 < d
 ·rw [if_pos h2] at hv;rw [cT (dT h2), Gl N hN hv, aL, Int.toNat_natCast, if_pos h2]
 ·rw [if_neg h2] at hv;rw [cF (dF h2), vQ, aL, Bx hc, iV (x := d + _) (by omega), iV (x := d + _ - 1) (by omega), Gl N hN hv, aL, Int.toNat_natCast, if_neg h2]
def dfn (n g : Int) : Int := if 32768 < (n - g) % 65536 then (n - g) % 65536 - 65536 else (n - g) % 65536
theorem Uh (n g : Int) : -32768 < dfn n g ∧ dfn n g ≤ 32768 := by unfold dfn; split <;> omega
theorem LA (N : Nat) {d : Int} (h : -200000 ≤ d ∧ d ≤ 32768) {fuel : Nat} (hf : 5 ≤ fuel) : fC N (fun d9 => some d9) fuel d = some (dfn d 0) := by
 obtain ⟨fuel, rfl⟩ : ∃ q, fuel = q + 5 := ⟨fuel - 5, by omega⟩
 have key : ∀ (e : Int) (m : Nat), -32768 < e → e ≤ 32768 → e % 65536 = d % 65536 → fC N (fun d9 => some d9) (m + 1) e = some (dfn d 0) := by
  intro e m h1 h2 h3;unfold fC;rw [cF (dF (by omega))]
  congr 1
  unfold dfn
  split <;> omega
 by_cases h1 : -32768 < d
 ·exact key d _ h1 h.2 rfl
 unfold fC;rw [cT (dT (by omega)), iV (x := d + 65536) (by omega), aL]
 by_cases h2 : -32768 < d + 65536
 ·exact key (d + 65536) _ h2 (by omega) (by omega)
 unfold fC;rw [cT (dT (by omega)), iV (x := d + 65536 + 65536) (by omega), aL]
 by_cases h3 : -32768 < d + 65536 + 65536
 ·exact key (d + 65536 + 65536) _ h3 (by omega) (by omega)
 unfold fC;rw [cT (dT (by omega)), iV (x := d + 65536 + 65536 + 65536) (by omega), aL];exact key (d + 65536 + 65536 + 65536) _ (by omega) (by omega) (by omega)
theorem Mk {a b : Int} (h : a % 65536 = b % 65536) : dfn a 0 = dfn b 0 := by unfold dfn; rw [Int.sub_zero, Int.sub_zero, h]
theorem difference_eq (N : Nat) (hN : 100 ≤ N) {n g : Int} (hn : 0 ≤ n ∧ n ≤ 65535) (hg : -65535 ≤ g ∧ g ≤ 131070) : k7 N n g = some (dfn n g) := by
 have e0 : dfn n g = dfn (n - g) 0 := by unfold dfn; rw [Int.sub_zero]
 unfold k7;rw [iV (x := n - g) (by omega), aL, e0];obtain ⟨M, rfl⟩ : ∃ q, N = q + 5 := ⟨N - 5, by omega⟩
 generalize hd : n - g = d
 by_cases h1 : 32768 < d
 ·unfold gF;rw [cT (dT h1), iV (x := d - 65536) (by omega), aL]
  by_cases h2 : 32768 < d - 65536
  ·unfold gF;rw [cT (dT h2), iV (x := d - 65536 - 65536) (by omega), aL];unfold gF;rw [cF (dF (by omega)), LA _ (by omega) (by omega)];exact congrArg some (Mk (by omega))
  ·unfold gF;rw [cF (dF h2), LA _ (by omega) (by omega)];exact congrArg some (Mk (by omega))
 ·unfold gF;rw [cF (dF h1), LA _ (by omega) (by omega)]
def ds (W : Nat) (P : List Int) (kind : Int) : List Int := (List.range P.length).map fun i => dfn (P.getD i 0) (gs W P kind i)
section
variable {W H : Nat} {P : List Int} (hP : ∀ e ∈ P, 0 ≤ e ∧ e ≤ 65535) (hW : 1 ≤ W ∧ W ≤ 64) (hH : 1 ≤ H ∧ H ≤ 64) (hl : P.length = W * H) (hl2 : W * H ≤ 4096) {kind : Int} (hk : 1 ≤ kind ∧ kind ≤ 7)
include hP hW hH hl hl2 hk
theorem Rv (N : Nat) (hN : 100 ≤ N) {y : Nat} (hy : y < H) (kk) : ∀ (j x fuel : Nat), x + j = W → j < fuel →
  iH N (W : Int) (H : Int) P kind (y : Int) kk fuel ((List.range (y * W + x)).map (fun i => dfn (P.getD i 0) (gs W P kind i)), (x : Int)) = kk ((List.range ((y + 1) * W)).map (fun i => dfn (P.getD i 0) (gs W P kind i)), (W : Int)) := by
 intro j
 induction j with
 | zero =>
  intro x fuel hx hf;obtain ⟨fuel, rfl⟩ : ∃ q, fuel = q + 1 := ⟨fuel - 1, by omega⟩
  obtain rfl : x = W := by omega
  unfold iH;rw [cF (dF (by omega)), Nat.add_mul, Nat.one_mul]
 | succ j ih =>
  intro x fuel hx hf;obtain ⟨fuel, rfl⟩ : ∃ q, fuel = q + 1 := ⟨fuel - 1, by omega⟩
  have hpl := OH (W := W) (H := H) (x := x) (y := y) (by omega) hy;have hg := Ph hP (W := W) (kind := kind) (i := y * W + x) hW.1 (by omega)
  have hs : (List.range (y * W + x)).map (fun i => dfn (P.getD i 0) (gs W P kind i)) ++ [dfn (P.getD (y * W + x) 0) (gs W P kind (y * W + x))] = (List.range (y * W + (x + 1))).map (fun i => dfn (P.getD i 0) (gs W P kind i)) := by
   rw [show y * W + (x + 1) = y * W + x + 1 by omega, List.range_succ, List.map_append, List.map_singleton]
  unfold iH;rw [cT (dT (by omega)), ER hP N (W := W) (x := x) (y := y) _ (by omega) (by omega) (by omega) (by omega), aL, Gq hP N hW hk _ (by omega) (by omega) (by omega) (by omega), aL, difference_eq N hN (Ds hP (by omega)).2 hg, aL, sG (by simp; omega), aL, hs, iV (x := (x : Int) + 1) (by omega), aL];exact ih (x + 1) fuel (by omega) (by omega)
theorem Rw (N : Nat) (hN : 100 ≤ N) : mJ N (W : Int) (H : Int) P kind = some (ds W P kind) := by
 have main : ∀ (j y fuel : Nat), y + j = H → j < fuel → gU N (W : Int) (H : Int) P kind (fun (Q8, y5) => some Q8) fuel ((List.range (y * W)).map (fun i => dfn (P.getD i 0) (gs W P kind i)), (y : Int)) = some (ds W P kind) := by
  intro j
  induction j with
  | zero =>
   intro y fuel hx hf;obtain ⟨fuel, rfl⟩ : ∃ q, fuel = q + 1 := ⟨fuel - 1, by omega⟩
   obtain rfl : y = H := by omega
   unfold gU;rw [cF (dF (by omega))];unfold ds;rw [hl, Nat.mul_comm]
  | succ j ih =>
   intro y fuel hx hf;obtain ⟨fuel, rfl⟩ : ∃ q, fuel = q + 1 := ⟨fuel - 1, by omega⟩
   have key := Rv hP hW hH hl hl2 hk N hN (y := y) (by omega) (fun (Q7, x10) => Option.bind (some (IntKind.i64.wrap ((y : Int) + 1))) fun y4 => gU N (W : Int) (H : Int) P kind (fun (Q8, y5) => some Q8) fuel (Q7, y4)) W 0 N (by omega) (by omega);unfold gU;rw [cT (dT (by omega))];refine Eq.trans key ?_
   dsimp only
   rw [iV (x := (y : Int) + 1) (by omega), aL];exact ih (y + 1) fuel (by omega) (by omega)
 have := main H 0 N (by omega) (by omega);rw [Nat.zero_mul] at this;exact this
end
def KW (W : List (List UInt8)) (d : Int) : Bool := decide (Bq d < W.length) && !(W.getD (Bq d) []).isEmpty
def Db (W : List (List UInt8)) (d : Int) : List UInt8 := W.getD (Bq d) [] ++ Pi d
def C3 (W : List (List UInt8)) (l : List Int) : List UInt8 := l.flatMap (Db W)
theorem ES (W : List (List UInt8)) (d : Int) (l : List Int) : C3 W (d :: l) = Db W d ++ C3 W l := rfl
theorem Ml {d : Int} (h : -32768 < d ∧ d ≤ 32768) : (Pi d).length ≤ 16 := by
 unfold Pi
 split
 ·simp
 ·rw [mP, jL]; exact Mj h
theorem ET {W : List (List UInt8)} (hb : EP W) (i : Nat) : (W.getD i []).length ≤ 15 ∧ wG (W.getD i []) = true := by
 rw [List.getD_eq_getElem?_getD]
 by_cases h : i < W.length
 ·rw [List.getElem?_eq_getElem h]; exact ⟨(hb _ (List.getElem_mem h)).2, (hb _ (List.getElem_mem h)).1⟩
 ·rw [List.getElem?_eq_none (by omega)]; exact ⟨by simp, rfl⟩
theorem Nj {W : List (List UInt8)} (hb : EP W) {d : Int} (h : -32768 < d ∧ d ≤ 32768) : (Db W d).length ≤ 31 := by
 unfold Db;rw [List.length_append];have := Ml h;have := (ET hb (Bq d)).1
 omega
theorem Ui {W : List (List UInt8)} {d : Int} (h : KW W d = true) : ∃ u, W[Bq d]? = some u ∧ u ≠ [] ∧ W.getD (Bq d) [] = u ∧ Bq d < W.length := by
 unfold KW at h;rw [Bool.and_eq_true] at h;have hq := of_decide_eq_true h.1;refine ⟨W[Bq d], List.getElem?_eq_getElem hq, ?_, ?_, hq⟩
 ·have h2 := h.2;rw [List.getD_eq_getElem?_getD, List.getElem?_eq_getElem hq] at h2;intro e;rw [Option.getD_some, e] at h2;cases h2
 ·rw [List.getD_eq_getElem?_getD, List.getElem?_eq_getElem hq]; rfl
theorem Uj {W : List (List UInt8)} {d : Int} (h : ¬ KW W d = true) (h2 : Bq d < W.length) : W[Bq d]? = some [] := by
 rw [List.getElem?_eq_getElem h2];unfold KW at h;rw [dT h2, Bool.true_and, List.getD_eq_getElem?_getD, List.getElem?_eq_getElem h2, Option.getD_some] at h;cases hc : W[Bq d]
 ·rfl
 ·rw [hc] at h; simp at h
theorem Rx (N : Nat) (hN : 100 ≤ N) {W : List (List UInt8)} (hb : EP W) {l : List Int} (hd : ∀ d ∈ l, -32768 < d ∧ d ≤ 32768) (hl : l.length ≤ 4096) (kk) : ∀ (j k fuel : Nat) (acc : List UInt8), k + j = l.length → j < fuel → acc.length ≤ 31 * k →
  iY N W l kk fuel (qG acc, (k : Int)) = if (l.drop k).all (KW W) = true then kk (qG (acc ++ C3 W (l.drop k)), (l.length : Int)) else some ([], 4) := by
 intro j
 induction j with
 | zero =>
  intro k fuel acc hk hf ha;obtain ⟨fuel, rfl⟩ : ∃ q, fuel = q + 1 := ⟨fuel - 1, by omega⟩
  obtain rfl : k = l.length := by omega
  unfold iY;rw [cF (dF (by omega)), List.drop_length, if_pos (by rfl)]
  simp [C3]
 | succ j ih =>
  intro k fuel acc hk hf ha;obtain ⟨fuel, rfl⟩ : ∃ q, fuel = q + 1 := ⟨fuel - 1, by omega⟩
  have hlt : k < l.length := by omega
  have hnx : IntKind.i64.wrap ((k : Int) + 1) = ((k + 1 : Nat) : Int) := by rw [iV (by omega)]; rfl
  have hdk := hd _ (List.getElem_mem hlt);unfold iY;rw [cT (dT (by omega)), iK, List.getElem?_eq_getElem hlt, aL, Gr N hN hdk, aL, List.drop_eq_getElem_cons hlt, List.all_cons, ES]
  generalize l[k] = d at hdk ⊢
  by_cases h1 : W.length ≤ Bq d
  ·rw [cT (dT (by omega)), if_neg];rw [show KW W d = false by unfold KW; rw [dF (by omega)]; rfl]; simp
  rw [cF (dF (by omega)), iK]
  by_cases h2 : KW W d = true
  ·obtain ⟨u, hu, hu0, hg, _⟩ := Ui h2;have YL := (ET hb (Bq d)).1;have hm := Ml hdk;rw [hg] at YL;rw [hu, aL, cF (dF hu0), aL, sG (by rw [wS, wS]; omega), aL, aL, Ru N hN hdk, aL, ← IB, sG (by rw [wS, wS, List.length_append]; omega), aL, ← IB, hnx, aL, ih (k + 1) fuel _ (by omega) (by omega) (by rw [List.length_append, List.length_append]; omega), h2, Bool.true_and];unfold Db;rw [hg, List.append_assoc, List.append_assoc, List.append_assoc]
  ·rw [Uj h2 (by omega), aL, cT (dT rfl), if_neg];rw [(Bool.not_eq_true _).mp h2]; simp
theorem Pk (W : Nat) (P : List Int) (kind : Int) : ∀ d ∈ ds W P kind, -32768 < d ∧ d ≤ 32768 := fun d hd => by
 obtain ⟨i, _, rfl⟩ := List.mem_map.1 hd;exact Uh _ _
theorem Pm (W : Nat) (P : List Int) (kind : Int) : (ds W P kind).length = P.length := by simp [ds]
def VH (b : List UInt8) : List UInt8 := (gr ((b.length + 7) / 8) (gV b)).map UInt8.ofNat
def D5 (W H : Int) (P : List Int) (kind : Int) (c : List Int) : List UInt8 × Int :=
 if QL W H P = false then ([], 1) else if ¬ (1 ≤ kind ∧ kind ≤ 7) then ([], 6) else if kG c ≠ 0 then ([], kG c) else
 if (ds W.toNat P kind).all (KW (wordsOf c)) = true then (VH (C3 (wordsOf c) (ds W.toNat P kind)), 0) else ([], 4)
theorem Po (d : Int) : wG (Pi d) = true := by
 unfold Pi
 split
 ·rfl
 ·exact IH (xX (by decide) _ _)
theorem HI {W : List (List UInt8)} (hb : EP W) : ∀ l : List Int, wG (C3 W l) = true
 | [] => rfl
 | d :: l => by
  rw [ES, sM, HI hb l, Bool.and_true];unfold Db;rw [sM, (ET hb (Bq d)).2, Po]; rfl
theorem Gs {W : List (List UInt8)} (hb : EP W) : ∀ {l : List Int}, (∀ d ∈ l, -32768 < d ∧ d ≤ 32768) → (C3 W l).length ≤ 31 * l.length
 | [], _ => by simp [C3]
 | d :: l, h => by
  have h1 := Gs hb (l := l) fun d hd => h d (by simp [hd])
  have h2 := Nj hb (h d (by simp));rw [ES, List.length_append, List.length_cons]; omega
theorem Hb (N : Nat) (hN : 200000 ≤ N) (W H : Int) (P : List Int) (kind : Int) (c : List Int) : kA N W H P kind c = some (D5 W H P kind c) := by
 unfold kA D5;rw [Pg N (by omega), aL]
 by_cases hp : QL W H P = true
 rotate_left
 ·rw [(Bool.not_eq_true _).mp hp, Bool.not_false, cT rfl, if_pos rfl]
 rw [hp, Bool.not_true, cF rfl, if_neg (by decide), rJ, aL]
 by_cases h1 : 1 ≤ kind ∧ kind ≤ 7
 rotate_left
 ·rw [dF h1, Bool.not_false, cT rfl, if_pos h1]
 rw [dT h1, Bool.not_true, cF rfl, if_neg (by omega), EN N (by omega), aL]
 by_cases h2 : kG c = 0
 rotate_left
 ·rw [cT (by rw [dF h2]; rfl), if_pos h2]
 obtain ⟨w, k, rfl, rfl, a1, a2, a3, a4, a5, a6, hP⟩ := Rr hp;rw [cF (by rw [dT h2]; rfl), if_neg (by omega), E9 N (by omega) h2, aL, Rw hP ⟨a1, a2⟩ ⟨a3, a4⟩ a5 a6 h1 N (by omega), aL, Int.toNat_natCast];have hdl := Pm w P kind;have key := Rx N (by omega) (kW c) (l := ds w P kind) (Pk w P kind) (by omega) (fun (l9, i2) => Option.bind (iS N (toB l9)) fun Aq => some (Aq, (0 : Int))) (ds w P kind).length 0 N [] (by omega) (by omega) (by simp);refine Eq.trans key ?_;rw [List.drop_zero]
 by_cases h3 : (ds w P kind).all (KW (wordsOf c)) = true
 ·rw [if_pos h3, if_pos h3]
  dsimp only
  have hcl := Gs (kW c) (Pk w P kind);rw [List.nil_append, L7, Na N (HI (kW c) _) (by omega) ⟨by omega, by omega⟩]
  rfl
 ·rw [if_neg h3, if_neg h3]
def nN (s : List UInt8) : List UInt8 := vB (nM 2 (8 * s.length) (BL s s.length))
theorem Cn (s : List UInt8) : (nN s).length = 8 * s.length := by unfold nN; rw [mP, jL]
theorem xG (s : List UInt8) : wG (nN s) = true := IH (xX (by decide) _ _)
theorem Gt : nN [] = [] := rfl
theorem FO (s : List UInt8) : BL s s.length = num 256 (s.map UInt8.toNat) := by unfold BL; rw [List.take_length]
theorem Nk (c : UInt8) (s : List UInt8) : nN (c :: s) = nN [c] ++ nN s := by
 unfold nN;rw [← D2, FO, FO [c], List.map_cons, List.map_singleton, D0, List.length_map, IA, ← FO s, D3 (show BL s s.length < 2 ^ (8 * s.length) from OV (d := 1) (by decide) s)];rw [show 8 * (c :: s).length = 8 * [c].length + 8 * s.length by simp; omega, show num 256 [c.toNat] = c.toNat by simp [num]]
theorem Ry {l : List Nat} (h : ∀ y ∈ l, y < 2) : gV (vB l) = l := by
 unfold gV vB;rw [List.map_map]
 conv => rhs; rw [← List.map_id l]
 refine List.map_congr_left fun y hy => ?_
 have := h y hy;show (UInt8.ofNat (48 + y)).toNat - 48 = y;rw [UInt8.toNat_ofNat', Nat.mod_eq_of_lt (by omega)]
 omega
theorem Uk {M : Nat} {l m : List Nat} (hl : l.length = 8 * M) (hm : m.length = 8 * M) (h2 : ∀ y ∈ l, y < 2) (h3 : ∀ y ∈ m, y < 2) (h : gr M l = gr M m) : l = m := by
 have e1 := CQ (B := 2) l h2;have e2 := CQ (B := 2) m h3;have n1 := uA (B := 2) l h2;have n2 := uA (B := 2) m h3;rw [hl] at e1 n1;rw [hm] at e2 n2;have h4 : gr M (nM 2 (8 * M) (num 2 l)) = gr M (nM 2 (8 * M) (num 2 m)) := by rw [e1, e2, h]
 rw [Gk, Gk] at h4;have h5 := congrArg (num 256) h4;rw [yI, yI, IA, Nat.mod_eq_of_lt n1, Nat.mod_eq_of_lt n2] at h5;rw [← e1, ← e2, h5]
theorem Rz (s : List UInt8) : (gr s.length (gV (nN s))).map UInt8.ofNat = s := by
 unfold nN;rw [Ry (xX (by decide) _ _), Gk, FO]
 have := CQ (B := 256) (s.map UInt8.toNat) fun y hy => by
  obtain ⟨c, _, rfl⟩ := List.mem_map.1 hy;exact c.toNat_lt
 rw [List.length_map] at this;rw [this, toNat_ofNat]
theorem SB {M : Nat} {l : List Nat} (h : ∀ y ∈ l, y < 2) : ∀ y ∈ gr M l, y < 256 := fun y hy => by
 unfold gr at hy;obtain ⟨g, _, rfl⟩ := List.mem_map.1 hy
 have := uA (B := 2) ((List.range 8).map fun t => l.getD (8 * g + t) 0) fun y hy => by
  obtain ⟨t, _, rfl⟩ := List.mem_map.1 hy;rw [List.getD_eq_getElem?_getD]
  by_cases hq : 8 * g + t < l.length
  ·rw [List.getElem?_eq_getElem hq]; exact h _ (List.getElem_mem hq)
  ·rw [List.getElem?_eq_none (by omega)]; exact (by decide : (0:Nat) < 2)
 simpa using this
theorem Pp : ∀ {R : List UInt8}, wG R = true → gV R = List.replicate R.length 0 → R = List.replicate R.length 48
 | [], _, _ => rfl
 | c :: R, h, h2 => by
  have e := CR h;rw [h2] at e;rw [← e];unfold vB;rw [List.map_replicate, List.length_replicate]; rfl
theorem RA {s D R : List UInt8} (h : nN s = D ++ R) : VH D = s ↔ R.length ≤ 7 ∧ R = List.replicate R.length 48 := by
 have hB := xG s;rw [h, sM, Bool.and_eq_true] at hB;have hL := Cn s;rw [h, List.length_append] at hL;have hb : gV (nN s) = gV D ++ gV R := by rw [h]; unfold gV; rw [List.map_append]
 have hs := Rz s;have pad : gr s.length (gV D ++ List.replicate R.length 0) = gr s.length (gV D) := OW _ _ _
 constructor
 ·intro e;have hl := congrArg List.length e;unfold VH at hl e;rw [List.length_map] at hl;have hgl : ∀ M l, (gr M l).length = M := fun M l => by simp [gr]
  rw [hgl] at hl;refine ⟨by omega, ?_⟩;rw [hl] at e
  have e2 : gr s.length (gV D) = gr s.length (gV (nN s)) := by
   have := congrArg (List.map UInt8.toNat) (e.trans hs.symm)
   rwa [ofNat_toNat (SB (pU hB.1)), ofNat_toNat (SB (pU (xG s)))] at this
  rw [← pad, hb] at e2;have bl : ∀ b : List UInt8, (gV b).length = b.length := fun b => by simp [gV]
  have z2 : ∀ y ∈ gV D ++ List.replicate R.length 0, y < 2 := fun y hy => by
   rcases List.mem_append.1 hy with q | q
   ·exact pU hB.1 y q
   ·rw [(List.mem_replicate.1 q).2]; decide
  have z3 : ∀ y ∈ gV D ++ gV R, y < 2 := fun y hy => by
   rcases List.mem_append.1 hy with q | q
   ·exact pU hB.1 y q
   ·exact pU hB.2 y q
  have := Uk (by rw [List.length_append, bl, List.length_replicate]; omega) (by rw [List.length_append, bl, bl]; omega) z2 z3 e2;exact Pp hB.2 (List.append_cancel_left this).symm
 ·rintro ⟨h7, hz⟩
  have e : gV R = List.replicate R.length 0 := by
   conv => lhs; rw [hz]
   unfold gV;rw [List.map_replicate]; rfl
  unfold VH;rw [show (D.length + 7) / 8 = s.length by omega, ← pad, ← e, ← hb];exact hs
def vd (t : List UInt8) : Int := if 2 * num 2 (gV t) < 2 ^ t.length then (num 2 (gV t) : Int) - ((2 ^ t.length : Nat) : Int) + 1 else (num 2 (gV t) : Int)
theorem WP {d : Int} {c : Nat} (h : 1 ≤ c) (h2 : ((2 ^ (c - 1) : Nat) : Int) ≤ max d (-d)) (h3 : max d (-d) < ((2 ^ c : Nat) : Int)) : Bq d = c := by
 have a := Dt c (max d (-d)).toNat;have b := Dt (c - 1) (max d (-d)).toNat;have a1 : (max d (-d)).toNat < 2 ^ c := by omega
 have b1 : ¬ (max d (-d)).toNat < 2 ^ (c - 1) := by omega
 have a2 := a.2 a1;have b2 : ¬ bl (max d (-d)).toNat ≤ c - 1 := fun q => b1 (b.1 q)
 unfold Bq
 omega
theorem IJ {t : List UInt8} (hb : wG t = true) (hl : t.length ≤ 15) : Bq (vd t) = t.length ∧ Pi (vd t) = t ∧ -32768 < vd t ∧ vd t < 32768 := by
 have hn := uA (B := 2) (gV t) (pU hb);have bl : (gV t).length = t.length := by simp [gV]
 rw [bl] at hn
 by_cases h0 : t.length = 0
 ·obtain rfl : t = [] := List.length_eq_zero_iff.1 h0;exact ⟨rfl, rfl, by decide, by decide⟩
 have hp : 2 ^ t.length = 2 * 2 ^ (t.length - 1) := by rw [← Nat.pow_succ']; congr 1; omega
 have hle : 2 ^ t.length ≤ 32768 := Nat.le_trans (Nat.pow_le_pow_right (by decide) hl) (by decide);have hpos : 0 < 2 ^ (t.length - 1) := Nat.two_pow_pos _
 have hr : -32768 < vd t ∧ vd t < 32768 := by unfold vd; split <;> omega
 have hc : Bq (vd t) = t.length := by
  refine WP (by omega) ?_ ?_
  ·unfold vd; split <;> omega
  ·unfold vd; split <;> omega
 refine ⟨hc, ?_, hr⟩;unfold Pi;rw [if_neg (by omega), hc]
 have : (if 0 < vd t then vd t else vd t + ((2 ^ t.length : Nat) : Int) - 1).toNat = num 2 (gV t) := by
  by_cases hq : 2 * num 2 (gV t) < 2 ^ t.length
  ·have e : vd t = (num 2 (gV t) : Int) - ((2 ^ t.length : Nat) : Int) + 1 := by unfold vd; rw [if_pos hq]
   rw [e, if_neg (by omega)]
   omega
  ·have e : vd t = (num 2 (gV t) : Int) := by unfold vd; rw [if_neg hq]
   rw [e, if_pos (by omega)]
   omega
 rw [this, ← bl, CQ _ (pU hb), CR hb]
theorem Gu : Bq 32768 = 16 ∧ Pi 32768 = [] := ⟨by decide +kernel, by
 unfold Pi
 rw [if_pos (.inr (by decide +kernel))]⟩
def rdStep (W : List (List UInt8)) (R : List UInt8) : Option (Int × List UInt8) := match II W R with
 | none => none
 | some c => if c = 16 then some (32768, R.drop (W.getD c []).length) else if (R.drop (W.getD c []).length).length < c then none else some (vd ((R.drop (W.getD c []).length).take c), (R.drop (W.getD c []).length).drop c)
def FP (W : List (List UInt8)) (w : Nat) (kind : Int) : Nat → List Int → List UInt8 → Option (List Int × List UInt8)
 | 0, P, R => some (P, R)
 | n + 1, P, R => match rdStep W R with
  | none => none
  | some (d, R2) => FP W w kind n (P ++ [(gs w P kind P.length + d) % 65536]) R2
theorem EU {w : Nat} (hw : 1 ≤ w) (P Q : List Int) (kind : Int) {i : Nat} (h : i ≤ P.length) : gs w (P ++ Q) kind i = gs w P kind i := by
 unfold gs
 by_cases h0 : i = 0
 ·rw [if_pos h0, if_pos h0]
 have e : ∀ j, j < P.length → (P ++ Q).getD j 0 = P.getD j 0 := fun j hj => by
  rw [List.getD_eq_getElem?_getD, List.getD_eq_getElem?_getD, List.getElem?_append_left hj]
 rw [if_neg h0, if_neg h0, e (i - 1) (by omega), e (i - w) (by omega), e (i - w - 1) (by omega)]
theorem Mm {w : Nat} (hw : 1 ≤ w) (P : List Int) (kind x : Int) : ds w (P ++ [x]) kind = ds w P kind ++ [dfn x (gs w P kind P.length)] := by
 unfold ds;rw [List.length_append, List.length_singleton, List.range_succ, List.map_append, List.map_singleton]
 congr 1
 ·refine List.map_congr_left fun i hi => ?_
  have hi := List.mem_range.1 hi;rw [EU hw _ _ _ (by omega), List.getD_eq_getElem?_getD, List.getD_eq_getElem?_getD, List.getElem?_append_left hi]
 ·rw [EU hw _ _ _ (Nat.le_refl _), List.getD_eq_getElem?_getD, List.getElem?_append_right (Nat.le_refl _)]
  simp
theorem Pq {g d : Int} (h : -32768 < d ∧ d ≤ 32768) : dfn ((g + d) % 65536) g = d := by
 unfold dfn
 split <;> omega
theorem step_ok {W : List (List UInt8)} (hb : EP W) (hW : W.length ≤ 17) {R R2 : List UInt8} {d : Int} (hR : wG R = true) (h : rdStep W R = some (d, R2)) :
  (-32768 < d ∧ d ≤ 32768) ∧ KW W d = true ∧ R = Db W d ++ R2 := by
 unfold rdStep at h
 rcases hf : II W R with _ | c
 ·rw [hf] at h; cases h
 rw [hf] at h;dsimp only at h;obtain ⟨u, hu, hu0, hub⟩ := AP hf
 have hc : c < W.length := by
  rcases Nat.lt_or_ge c W.length with q | q
  ·exact q
  ·rw [List.getElem?_eq_none q] at hu; cases hu
 have hg : W.getD c [] = u := by rw [List.getD_eq_getElem?_getD, hu]; rfl
 obtain ⟨T, rfl⟩ := hub;rw [sM, Bool.and_eq_true] at hR;rw [hg, List.drop_left] at h
 have ok : ∀ e, Bq e = c → KW W e = true := fun e he => by
  unfold KW;rw [he, dT hc, Bool.true_and, hg];cases u
  ·exact absurd rfl hu0
  ·rfl
 by_cases h16 : c = 16
 ·rw [if_pos h16] at h
  injection h with h; injection h with h1 h2
  subst h1 h2;refine ⟨by decide, ok _ (by rw [Gu.1, h16]), ?_⟩;unfold Db;rw [Gu.1, Gu.2, ← h16, hg, List.append_nil]
 ·rw [if_neg h16] at h
  by_cases hl : T.length < c
  ·rw [if_pos hl] at h; cases h
  rw [if_neg hl] at h
  injection h with h; injection h with h1 h2
  have ht : wG (T.take c) = true := by
   have := hR.2;rw [← List.take_append_drop c T, sM, Bool.and_eq_true] at this;exact this.1
  have hlen : (T.take c).length = c := by rw [List.length_take]; omega
  obtain ⟨a1, a2, a3⟩ := IJ ht (by omega);rw [hlen] at a1;subst h1 h2;refine ⟨by omega, ok _ a1, ?_⟩;unfold Db;rw [a1, a2, hg, List.append_assoc, List.take_append_drop]
theorem Nl (W : List (List UInt8)) (l : List Int) (d : Int) : C3 W (l ++ [d]) = C3 W l ++ Db W d := by
 unfold C3;rw [List.flatMap_append]
 simp
theorem IK {W : List (List UInt8)} (hb : EP W) (hW : W.length ≤ 17) {w : Nat} (hw : 1 ≤ w) {kind : Int} : ∀ (n : Nat) (P : List Int) (R D : List UInt8) (P2 : List Int) (R2 : List UInt8), wG R = true → (∀ e ∈ P, 0 ≤ e ∧ e ≤ 65535) → (ds w P kind).all (KW W) = true →
  FP W w kind n P R = some (P2, R2) → P2.length = P.length + n ∧ (∀ e ∈ P2, 0 ≤ e ∧ e ≤ 65535) ∧ (ds w P2 kind).all (KW W) = true ∧ C3 W (ds w P kind) ++ R = C3 W (ds w P2 kind) ++ R2 ∧ wG R2 = true := by
 intro n
 induction n with
 | zero =>
  intro P R D P2 R2 hR hP ha h;unfold FP at h
  injection h with h; injection h with h1 h2
  subst h1 h2;exact ⟨rfl, hP, ha, rfl, hR⟩
 | succ n ih =>
  intro P R D P2 R2 hR hP ha h;unfold FP at h
  rcases hs : rdStep W R with _ | ⟨d, R1⟩
  ·rw [hs] at h; cases h
  rw [hs] at h;dsimp only at h;obtain ⟨hd, hok, hRR⟩ := step_ok hb hW hR hs
  have hR1 : wG R1 = true := by
   rw [hRR, sM, Bool.and_eq_true] at hR;exact hR.2
  have e := Pq (g := gs w P kind P.length) hd
  obtain ⟨b1, b2, b3, b4, b5⟩ := ih (P ++ [(gs w P kind P.length + d) % 65536]) R1 D P2 R2 hR1 (fun x hx => by
   rcases List.mem_append.1 hx with q | q
   ·exact hP x q
   ·rw [List.mem_singleton.1 q]; omega) (by
   rw [Mm hw, e, List.all_append, ha, Bool.true_and, List.all_cons, hok]; rfl) h
  refine ⟨by rw [b1, List.length_append, List.length_singleton]; omega, b2, b3, ?_, b5⟩;rw [← b4, Mm hw, e, Nl, List.append_assoc, ← hRR]
theorem IL {α : Type} {xs : List α} (h : 1 ≤ xs.length) : B5 xs 0 1 = some (xs.take 1) := vR (k := 1) h
theorem IM {α : Type} {xs : List α} (h : 1 ≤ xs.length) : B5 xs 1 (xs.length : Int) = some (xs.drop 1) := AO (k := 1) h
theorem Mn {a b : List UInt8} (h : a.length + b.length ≤ 9223372036854775807) : F9 a b = some (a ++ b) := by unfold F9; rw [if_pos h]
theorem WQ (N : Nat) (hN : 100 ≤ N) (c : UInt8) : tB N [c] = some (nN [c]) := Rk N (s := [c]) (by simp) (by simp; omega)
theorem HJ (N : Nat) (kk) : ∀ (fuel : Nat) (x : List UInt8 × List UInt8), tC N kk fuel x = j1 N 1 kk fuel x
 | 0, _ => rfl
 | fuel + 1, (a, b) => by
  unfold tC j1;simp only [HJ N kk fuel]
theorem IN (N : Nat) (hN : 100 ≤ N) {n : Nat} (hn : n ≤ 15) : ∀ (j fuel : Nat) (b s : List UInt8), n ≤ b.length + 8 * j → j < fuel → b.length ≤ n + 7 →
  ∃ b2 s2, (∀ kk, j1 N (n : Int) kk fuel (b, s) = kk (b2, s2)) ∧ b ++ nN s = b2 ++ nN s2 ∧ b2.length ≤ n + 7 ∧ (b2.length < n → s2 = []) := by
 intro j
 induction j with
 | zero =>
  intro fuel b s hj hf hb;obtain ⟨fuel, rfl⟩ : ∃ q, fuel = q + 1 := ⟨fuel - 1, by omega⟩
  refine ⟨b, s, fun kk => ?_, rfl, hb, fun h => by omega⟩;unfold j1;rw [cF (dF (by omega))]
 | succ j ih =>
  intro fuel b s hj hf hb;obtain ⟨fuel, rfl⟩ : ∃ q, fuel = q + 1 := ⟨fuel - 1, by omega⟩
  by_cases h : b.length < n
  rotate_left
  ·refine ⟨b, s, fun kk => ?_, rfl, hb, fun h2 => absurd h2 h⟩;unfold j1;rw [cF (dF (by omega))]
  cases s with
  | nil =>
   refine ⟨b, [], fun kk => ?_, rfl, hb, fun _ => rfl⟩;unfold j1;rw [cT (dT (by omega)), cF (by rw [dT rfl]; rfl)]
  | cons c s =>
   have h8 : (nN [c]).length = 8 := Cn [c];obtain ⟨b2, s2, h1, h2, h3, h4⟩ := ih fuel (b ++ nN [c]) s (by rw [List.length_append]; omega) (by omega) (by rw [List.length_append]; omega);refine ⟨b2, s2, fun kk => ?_, ?_, h3, h4⟩
   ·rw [← h1 kk]
    conv => lhs; unfold j1
    rw [cT (dT (by omega)), cT (by rw [dF (by simp)]; rfl), IL (by simp), aL, show (c :: s).take 1 = [c] from rfl, WQ N hN, aL, Mn (by omega), aL, IM (by simp), aL]
    rfl
   ·rw [Nk, ← List.append_assoc, h2]
theorem Pr {b T : List UInt8} {n : Nat} (h : n ≤ b.length) : (b ++ T).take n = b.take n ∧ (b ++ T).drop n = b.drop n ++ T := ⟨List.take_append_of_le_length h, List.drop_append_of_le_length h⟩
theorem aAi {W : List (List UInt8)} {b : List UInt8} (h : Jd W b = 5) : ∃ w ∈ W, w ≠ [] ∧ b <+: w := by
 unfold Jd at h
 split at h
 ·rename_i q
  rw [List.any_eq_true] at q;obtain ⟨w, hw, h2⟩ := q;rw [Bool.and_eq_true, List.isPrefixOf_iff_prefix] at h2;exact ⟨w, hw, by intro e; rw [e] at h2; simp at h2, h2.2⟩
 ·cases h
theorem RB {W : List (List UInt8)} {b : List UInt8} (h : Jd W b ≠ 5) : ∀ w ∈ W, w ≠ [] → ¬ b <+: w := fun w hw h0 hp => by
 refine h ?_;unfold Jd;rw [if_pos];rw [List.any_eq_true];exact ⟨w, hw, by rw [Bool.and_eq_true, List.isPrefixOf_iff_prefix]; exact ⟨by cases w; exact absurd rfl h0; rfl, hp⟩⟩
theorem IP {W : List (List UInt8)} {b : List UInt8} (h : ∀ w ∈ W, w ≠ [] → ¬ w <+: b) : II W b = none := by
 unfold II;rw [List.findIdx?_eq_none_iff];intro w hw;rw [Bool.eq_false_iff];intro q;obtain ⟨h0, h1⟩ := FN.1 q;exact h w hw h0 h1
theorem RC (N : Nat) (hN : 5000 ≤ N) {c : List Int} (hc : kG c = 0) {R : List UInt8} (hR : wG R = true) : ∀ (j k fuel : Nat) (b s : List UInt8), k + j = 16 → k ≤ R.length → j < fuel → b.length ≤ 7 → R.drop k = b ++ nN s → (∀ w ∈ wordsOf c, w ≠ [] → w.length ≤ k → ¬ (k ≠ w.length ∧ w <+: R)) →
  ∃ b2 s2 w2, b2.length ≤ 7 ∧ ((∃ i u, II (wordsOf c) R = some i ∧ (wordsOf c)[i]? = some u ∧ (∀ i4 i5 kk, jE N c kk fuel (b, s, i4, i5, R.take k) = kk (b2, s2, (i : Int), 0, w2)) ∧ R.drop u.length = b2 ++ nN s2) ∨
   (II (wordsOf c) R = none ∧ ∀ i4 i5 kk, jE N c kk fuel (b, s, i4, i5, R.take k) = kk (b2, s2, 0, 1, w2))) := by
 intro j;have hbW := kW c;have hpf := Gn c
 generalize hWW : wordsOf c = W at *
 induction j with
 | zero =>
  intro k fuel b s hkj hkR hf hb hd hno;obtain ⟨fuel, rfl⟩ : ∃ q, fuel = q + 1 := ⟨fuel - 1, by omega⟩
  have hlk : (R.take k).length = k := by rw [List.length_take]; omega
  have Ul : wG (R.take k) = true := by rw [← List.take_append_drop k R, sM, Bool.and_eq_true] at hR; exact hR.1
  have hrd : tA N c (R.take k) 1 = some (Nh W 1 [] (R.take k)) := by
   rw [HG N c _ 1 (by omega) ⟨hN, by omega⟩];unfold Mh;rw [if_neg (by omega), if_neg (by omega), if_pos Ul, hWW]; rfl
  have hnone : ∀ w ∈ W, w ≠ [] → ¬ w <+: R := fun w hw h0 hp => hno w hw h0 (by have := (hbW w hw).2; omega) ⟨by have := (hbW w hw).2; omega, hp⟩
  have h1 : II W (R.take k) = none := IP fun w hw h0 hp => hnone w hw h0 (hp.trans (List.take_prefix _ _))
  have h2 : Jd W (R.take k) ≠ 5 := fun h => by
   obtain ⟨w, hw, _, hp⟩ := aAi h;have := hp.length_le;have := (hbW w hw).2
   omega
  have JP : Nh W 1 [] (R.take k) = ([], [], Jd W (R.take k)) := by unfold Nh; rw [h1]
  obtain ⟨b2, s2, f1, f2, f3, f4⟩ := IN N (by omega) (n := 1) (by omega) 1 N b s (by omega) (by omega) (by omega);have Um : ∀ kk, j1 N 1 kk N (b, s) = kk (b2, s2) := f1
  by_cases h3 : b2.length < 1
  ·refine ⟨b2, s2, R.take k, by omega, .inr ⟨IP hnone, fun i4 i5 kk => ?_⟩⟩;unfold jE;rw [hrd, aL, JP]
   dsimp only
   rw [cF (dF (EQ W _)), HJ, Um]
   dsimp only
   rw [cT (dT (by omega)), dF h2]; rfl
  ·refine ⟨b2.drop 1, s2, R.take k, by rw [List.length_drop]; omega, .inr ⟨IP hnone, fun i4 i5 kk => ?_⟩⟩;unfold jE;rw [hrd, aL, JP]
   dsimp only
   rw [cF (dF (EQ W _)), HJ, Um]
   dsimp only
   rw [cF (dF (by omega)), IL (by omega), aL, IM (by omega), aL, cT (by rw [dF h2]; rfl)]
 | succ j ih =>
  intro k fuel b s hkj hkR hf hb hd hno;obtain ⟨fuel, rfl⟩ : ∃ q, fuel = q + 1 := ⟨fuel - 1, by omega⟩
  have hlk : (R.take k).length = k := by rw [List.length_take]; omega
  have Ul : wG (R.take k) = true := by
   have := hR;rw [← List.take_append_drop k R, sM, Bool.and_eq_true] at this; exact this.1
  have hrd : tA N c (R.take k) 1 = some (Nh W 1 [] (R.take k)) := by
   rw [HG N c _ 1 (by omega) ⟨hN, by omega⟩];unfold Mh;rw [if_neg (by omega), if_neg (by omega), if_pos Ul, hWW]; rfl
  rcases h1 : II W (R.take k) with _ | i
  rotate_left
  ·obtain ⟨u, hu, hu0, hub⟩ := AP h1;have huR := hub.trans (List.take_prefix k R)
   have hul : u.length = k := by
    have hle := hub.length_le;have := hno u (List.mem_of_getElem? hu) hu0 (by omega)
    by_cases e : k = u.length
    ·exact e.symm
    ·exact absurd ⟨e, huR⟩ this
   refine ⟨b, s, R.take k, hb, .inl ⟨i, u, Ud hpf hu hu0 huR, hu, fun i4 i5 kk => ?_, by rw [hul, hd]⟩⟩;unfold jE;rw [hrd, aL];have JP : Nh W 1 [] (R.take k) = ([(i : Int)], (R.take k).drop (W.getD i []).length, 0) := by unfold Nh; rw [h1]; rfl
   rw [JP]
   rfl
  have hnone : ∀ w ∈ W, w ≠ [] → w.length ≤ k → ¬ w <+: R := fun w hw h0 hl hp => Gp h1 w hw h0 (by
   rw [List.prefix_iff_eq_take.1 hp];have : R.take w.length = (R.take k).take w.length := by rw [List.take_take, Nat.min_eq_left hl]
   rw [this]
   exact List.take_prefix _ _)
  have JP : Nh W 1 [] (R.take k) = ([], [], Jd W (R.take k)) := by unfold Nh; rw [h1]
  obtain ⟨b2, s2, f1, f2, f3, f4⟩ := IN N (by omega) (n := 1) (by omega) 1 N b s (by omega) (by omega) (by omega);have Um : ∀ kk, j1 N 1 kk N (b, s) = kk (b2, s2) := f1
  by_cases h3 : b2.length < 1
  ·have hs2 := f4 h3;have hb2 : b2 = [] := List.length_eq_zero_iff.1 (by omega)
   have hfull : R.length ≤ k := by
    rw [f2, hb2, hs2] at hd;have := congrArg List.length hd;rw [List.length_drop] at this
    simp [Gt] at this
    omega
   have Pd : II W R = none := by rw [List.take_of_length_le hfull] at h1; exact h1
   refine ⟨b2, s2, R.take k, by omega, .inr ⟨Pd, fun i4 i5 kk => ?_⟩⟩;unfold jE;rw [hrd, aL, JP]
   dsimp only
   rw [cF (dF (EQ W _)), HJ, Um]
   dsimp only
   rw [cT (dT (by omega))]
   cases (!decide (Jd W (R.take k) = 5)) <;> rfl
  by_cases h2 : Jd W (R.take k) = 5
  rotate_left
  ·have Pd : II W R = none := IP fun w hw h0 hp => by
    rcases Nat.lt_or_ge k w.length with hl | hl
    ·refine RB h2 w hw h0 ?_;exact List.prefix_of_prefix_length_le (List.take_prefix k R) hp (by omega)
    ·exact hnone w hw h0 hl hp
   refine ⟨b2.drop 1, s2, R.take k, by rw [List.length_drop]; omega, .inr ⟨Pd, fun i4 i5 kk => ?_⟩⟩;unfold jE;rw [hrd, aL, JP]
   dsimp only
   rw [cF (dF (EQ W _)), HJ, Um]
   dsimp only
   rw [cF (dF (by omega)), IL (by omega), aL, IM (by omega), aL, cT (by rw [dF h2]; rfl)]
  obtain ⟨t1, t2⟩ := Pr (b := b2) (T := nN s2) (n := 1) (by omega);rw [f2] at hd
  have hlt : k < R.length := by
   have := congrArg List.length hd;rw [List.length_drop, List.length_append] at this
   omega
  have htk : R.take k ++ b2.take 1 = R.take (k + 1) := by
   rw [← t1, ← hd, List.take_add]
  have hdk : R.drop (k + 1) = b2.drop 1 ++ nN s2 := by rw [← t2, ← hd, List.drop_drop]
  obtain ⟨b3, s3, w3, g1, g2⟩ := ih (k + 1) fuel (b2.drop 1) s2 (by omega) (by omega) (by omega) (by rw [List.length_drop]; omega) hdk (fun w hw h0 hl hx => by
   rcases Nat.lt_or_ge k w.length with q | q
   ·exact hx.1 (by omega)
   ·exact hnone w hw h0 q hx.2)
  have step : ∀ i4 i5 kk, jE N c kk (fuel + 1) (b, s, i4, i5, R.take k) = jE N c kk fuel (b2.drop 1, s2, i4, i5, R.take (k + 1)) := fun i4 i5 kk => by
   conv => lhs; unfold jE
   rw [hrd, aL, JP]
   dsimp only
   rw [cF (dF (EQ W _)), HJ, Um]
   dsimp only
   rw [cF (dF (by omega)), IL (by omega), aL, IM (by omega), aL, cF (by rw [dT h2]; rfl), Mn (by rw [hlk, List.length_take]; omega), aL, htk]
  refine ⟨b3, s3, w3, g1, ?_⟩
  rcases g2 with ⟨i, u, a1, a2, a3, a4⟩ | ⟨a1, a2⟩
  ·exact .inl ⟨i, u, a1, a2, fun i4 i5 kk => by rw [step, a3], a4⟩
  ·exact .inr ⟨a1, fun i4 i5 kk => by rw [step, a2]⟩
theorem Ps {t : List UInt8} (hb : wG t = true) (h : 1 ≤ t.length) : ∃ x, t[0]? = some x ∧ (((x.toNat : Int) = 48) ↔ 2 * num 2 (gV t) < 2 ^ t.length) := by
 cases t with
 | nil => simp at h
 | cons x t =>
  refine ⟨x, rfl, ?_⟩;have hl := uA (B := 2) (gV t) (pU (by unfold wG at hb ⊢; rw [List.all_cons, Bool.and_eq_true] at hb; exact hb.2));have bl : (gV t).length = t.length := by simp [gV]
  have hx : x = 48 ∨ x = 49 := by unfold wG at hb; rw [List.all_cons, Bool.and_eq_true] at hb; exact of_decide_eq_true hb.1
  rw [show gV (x :: t) = (x.toNat - 48) :: gV t from rfl, D0, List.length_cons, Nat.pow_succ, bl];rw [bl] at hl
  rcases hx with rfl | rfl
  ·rw [show (48 : UInt8).toNat = 48 from rfl]
   constructor
   ·intro _; omega
   ·intro _; rfl
  ·rw [show (49 : UInt8).toNat = 49 from rfl]
   constructor
   ·intro h; omega
   ·intro h; omega
theorem Mo {t : List UInt8} (h : 2 * num 2 (gV t) < 2 ^ t.length) : vd t = (num 2 (gV t) : Int) - (((2 ^ t.length : Nat) : Int) - 1) := by unfold vd; rw [if_pos h]; omega
theorem Mp {t : List UInt8} (h : ¬ 2 * num 2 (gV t) < 2 ^ t.length) : vd t = (num 2 (gV t) : Int) := by unfold vd; rw [if_neg h]
theorem Pu {P : List Int} {x y : Int} : (P ++ [x]).set P.length y = P ++ [y] := by
 rw [List.set_append_right _ _ (Nat.le_refl _), Nat.sub_self]; rfl
theorem Pv (N : Nat) (hN : 5000 ≤ N) {c : List Int} (hc : kG c = 0) {w h : Nat} (hw : 1 ≤ w ∧ w ≤ 64) (hh : 1 ≤ h ∧ h ≤ 64) {kind : Int} (hk : 1 ≤ kind ∧ kind ≤ 7) (kk) : ∀ (j fuel : Nat) (P : List Int) (b s : List UInt8), P.length + j = w * h → j < fuel → (∀ e ∈ P, 0 ≤ e ∧ e ≤ 65535) → b.length ≤ 7 → wG (b ++ nN s) = true →
  (FP (wordsOf c) w kind j P (b ++ nN s) = none ∧ fG N (w : Int) (h : Int) kind c kk fuel (P, b, s, (P.length : Int)) = some (0, 0, [], 1)) ∨
  (∃ P2 b2 s2, FP (wordsOf c) w kind j P (b ++ nN s) = some (P2, b2 ++ nN s2) ∧ b2.length ≤ 7 ∧ fG N (w : Int) (h : Int) kind c kk fuel (P, b, s, (P.length : Int)) = kk (P2, b2, s2, ((w * h : Nat) : Int))) := by
 have hm := Nat.mul_le_mul hw.2 hh.2;have Pw : IntKind.i64.wrap ((w : Int) * (h : Int)) = ((w * h : Nat) : Int) := by rw [show (w : Int) * (h : Int) = ((w * h : Nat) : Int) by simp, iV (by omega)]
 have hbW := kW c
 have RD : (wordsOf c).length ≤ 17 := by
  rw [tH hc];obtain ⟨ns, rfl, _, _, Lw, _⟩ := xY hc;rw [iL]; exact Lw
 intro j
 induction j with
 | zero =>
  intro fuel P b s hj hf hP hb hB;obtain ⟨fuel, rfl⟩ : ∃ q, fuel = q + 1 := ⟨fuel - 1, by omega⟩
  refine .inr ⟨P, b, s, rfl, hb, ?_⟩;unfold fG;rw [Pw, cF (dF (by omega)), show P.length = w * h by omega]
 | succ j ih =>
  intro fuel P b s hj hf hP hb hB;obtain ⟨fuel, rfl⟩ : ∃ q, fuel = q + 1 := ⟨fuel - 1, by omega⟩
  have hlt : P.length < w * h := by omega
  have hnx : IntKind.i64.wrap ((P.length : Int) + 1) = ((P.length + 1 : Nat) : Int) := by rw [iV (by omega)]; rfl
  have WR : ∀ e ∈ P ++ [0], 0 ≤ e ∧ e ≤ 65535 := fun e he => by
   rcases List.mem_append.1 he with q | q
   ·exact hP e q
   ·rw [List.mem_singleton.1 q]; decide
  have hP1 : (P ++ [(0 : Int)]).length = P.length + 1 := by simp
  have hg : nF N (w : Int) (h : Int) (P ++ [0]) kind (P.length : Int) = some (gs w P kind P.length) := by
   rw [Ly WR N hw hk _ (by omega) (by omega), EU hw.1 _ _ _ (Nat.le_refl _)]
  have hgi : -65535 ≤ gs w P kind P.length ∧ gs w P kind P.length ≤ 131070 := by
   rw [← EU hw.1 P [0] kind (Nat.le_refl _)];exact Ph WR hw.1 (by omega)
  have hset : ∀ y : Int, uU (P ++ [0]) (P.length : Int) y = some (P ++ [y]) := fun y => by
   rw [CP (by omega), Int.toNat_natCast, Pu]
  have hix : idx (P ++ [(0 : Int)]) (P.length : Int) = some 0 := by rw [iK]; simp
  have hval : ∀ d : Int, -32768 < d ∧ d ≤ 32768 → IntKind.i64.wrap (IntKind.u16.wrap (IntKind.i64.wrap (gs w P kind P.length + d))) = (gs w P kind P.length + d) % 65536 := fun d hd => by
   rw [iV (x := gs w P kind P.length + d) (by omega), show IntKind.u16.wrap (gs w P kind P.length + d) = (gs w P kind P.length + d) % 65536 by simp [IntKind.wrap, IntKind.bits, IntKind.signed], iV (by omega)]
  have go : ∀ (d : Int) (b2 s2 : List UInt8), b2.length ≤ 7 → rdStep (wordsOf c) (b ++ nN s) = some (d, b2 ++ nN s2) → 
    fG N (w : Int) (h : Int) kind c kk (fuel + 1) (P, b, s, (P.length : Int)) = fG N (w : Int) (h : Int) kind c kk fuel (P ++ [(gs w P kind P.length + d) % 65536], b2, s2, ((P.length + 1 : Nat) : Int)) →
    (FP (wordsOf c) w kind (j + 1) P (b ++ nN s) = none ∧ fG N (w : Int) (h : Int) kind c kk (fuel + 1) (P, b, s, (P.length : Int)) = some (0, 0, [], 1)) ∨
    (∃ P2 b2 s2, FP (wordsOf c) w kind (j + 1) P (b ++ nN s) = some (P2, b2 ++ nN s2) ∧ b2.length ≤ 7 ∧ fG N (w : Int) (h : Int) kind c kk (fuel + 1) (P, b, s, (P.length : Int)) = kk (P2, b2, s2, ((w * h : Nat) : Int))) := by
   intro d b2 s2 h1 h2 h3;obtain ⟨hd, _, hRR⟩ := step_ok hbW RD hB h2
   have hB2 : wG (b2 ++ nN s2) = true := by
    rw [hRR, sM, Bool.and_eq_true] at hB;exact hB.2
   have hl : (P ++ [(gs w P kind P.length + d) % 65536]).length = P.length + 1 := by simp
   have := ih fuel (P ++ [(gs w P kind P.length + d) % 65536]) b2 s2 (by omega) (by omega) (fun e he => by
    rcases List.mem_append.1 he with q | q
    ·exact hP e q
    ·rw [List.mem_singleton.1 q]; omega) h1 hB2
   have e : FP (wordsOf c) w kind (j + 1) P (b ++ nN s) = FP (wordsOf c) w kind j (P ++ [(gs w P kind P.length + d) % 65536]) (b2 ++ nN s2) := by
    conv => lhs; unfold FP
    rw [h2]
   rw [hl] at this;rw [e, h3];exact this
  have bad : rdStep (wordsOf c) (b ++ nN s) = none → FP (wordsOf c) w kind (j + 1) P (b ++ nN s) = none := fun q => by unfold FP; rw [q]
  obtain ⟨b2, s2, w2, n1, n2⟩ := RC N hN hc hB 16 0 N b s rfl (by omega) (by omega) hb rfl (fun u hu h0 hl hx => hx.1 (by omega));have start : fG N (w : Int) (h : Int) kind c kk (fuel + 1) (P, b, s, (P.length : Int)) = fG N (w : Int) (h : Int) kind c kk (fuel + 1) (P, b, s, (P.length : Int)) := rfl
  rcases n2 with ⟨i, u, a1, a2, a3, a4⟩ | ⟨a1, a2⟩
  rotate_left
  ·refine .inl ⟨bad (by unfold rdStep; rw [a1]), ?_⟩;unfold fG;rw [Pw, cT (dT (by omega)), sG (by simp; omega), aL];refine (a2 0 0 _).trans ?_
   rfl
  have hgd : (wordsOf c).getD i [] = u := by rw [List.getD_eq_getElem?_getD, a2]; rfl
  have hil : i < (wordsOf c).length := (List.getElem?_eq_some_iff.1 a2).1
  have hst : rdStep (wordsOf c) (b ++ nN s) = if i = 16 then some (32768, b2 ++ nN s2) else if (b2 ++ nN s2).length < i then none else some (vd ((b2 ++ nN s2).take i), (b2 ++ nN s2).drop i) := by
   unfold rdStep;rw [a1]
   dsimp only
   rw [hgd, a4]
  by_cases h16 : i = 16
  ·refine go 32768 b2 s2 n1 (by rw [hst, if_pos h16]) ?_
   conv => lhs; unfold fG
   rw [Pw, cT (dT (by omega)), sG (by simp; omega), aL];refine (a3 0 0 _).trans ?_
   dsimp only
   rw [cF (by rfl), cT (dT (by omega)), hg, aL, hix, aL, hval _ (by decide), hset, aL, hnx]
  rw [if_neg h16] at hst
  by_cases h0 : i = 0
  ·subst h0;refine go 0 b2 s2 n1 (by rw [hst, if_neg (by omega), List.take_zero, List.drop_zero]; rfl) ?_
   conv => lhs; unfold fG
   rw [Pw, cT (dT (by omega)), sG (by simp; omega), aL];refine (a3 0 0 _).trans ?_
   dsimp only
   rw [cF (by rfl), cF (dF (by omega)), cF (dF (by omega)), hg, aL, hix, aL, hval _ (by decide), hset, aL, hnx]
  obtain ⟨b3, s3, f1, f2, f3, f4⟩ := IN N (by omega) (n := i) (by omega) 2 N b2 s2 (by omega) (by omega) (by omega);rw [f2] at hst
  by_cases hs : b3.length < i
  ·have hs3 := f4 hs;refine .inl ⟨bad (by rw [hst, hs3, Gt, List.append_nil, if_pos hs]), ?_⟩;unfold fG;rw [Pw, cT (dT (by omega)), sG (by simp; omega), aL];refine (a3 0 0 _).trans ?_
   dsimp only
   rw [cF (by rfl), cF (dF (by omega)), cT (dT (by omega)), f1]
   dsimp only
   rw [cT (dT (by omega))]
  obtain ⟨t1, t2⟩ := Pr (b := b3) (T := nN s3) (n := i) (by omega)
  have hB3 : wG (b3.take i) = true := by
   have e : b ++ nN s = u ++ (b3.take i ++ (b3.drop i ++ nN s3)) := by
    obtain ⟨u2, hu2, _, hub⟩ := AP a1;rw [a2] at hu2;cases hu2;obtain ⟨T, hT⟩ := hub;rw [← hT, List.drop_left] at a4;rw [← hT, a4, f2, ← List.append_assoc (b3.take i), List.take_append_drop]
   rw [e, sM, sM, Bool.and_eq_true, Bool.and_eq_true] at hB;exact hB.2.1
  have hlen : (b3.take i).length = i := by rw [List.length_take]; omega
  rw [if_neg (by rw [List.length_append]; omega), t1, t2] at hst;obtain ⟨_, _, v1, v2⟩ := IJ hB3 (by omega);have hvl := uA (B := 2) (gV (b3.take i)) (pU hB3);have bl : (gV (b3.take i)).length = i := by simp only [gV, List.length_map]; exact hlen
  rw [bl] at hvl;have aAj := xF (d := i) (by omega);obtain ⟨x, x1, x2⟩ := Ps hB3 (by omega);rw [hlen] at x2;refine go (vd (b3.take i)) (b3.drop i) s3 (by rw [List.length_drop]; omega) hst ?_
  conv => lhs; unfold fG
  rw [Pw, cT (dT (by omega)), sG (by simp; omega), aL];refine (a3 0 0 _).trans ?_
  dsimp only
  rw [cF (by rfl), cF (dF (by omega)), cT (dT (by omega)), f1]
  dsimp only
  rw [cF (dF (by omega)), vR (by omega), aL, AO (by omega), aL, Lt N (by omega) (by omega), aL, if_pos hB3, if_pos (by omega), show idx (b3.take i) 0 = (b3.take i)[0]? from iK _ 0, x1, aL]
  dsimp only
  by_cases hx : 2 * num 2 (gV (b3.take i)) < 2 ^ i
  ·have hv := Mo (t := b3.take i) (by rw [hlen]; exact hx);rw [hlen] at hv;rw [cT (dT (x2.2 hx)), vQ, aL, Bx (by omega), iV (x := _ - 1) (by omega), iV (x := _ - _) (by omega), aL, hg, aL, hix, aL, ← hv, hval _ (by omega), hset, aL, hnx]
  ·have hv := Mp (t := b3.take i) (by rw [hlen]; exact hx);rw [cF (dF (fun q => hx (x2.1 q))), hg, aL, hix, aL, ← hv, hval _ (by omega), hset, aL, hnx]
def qX (s : List UInt8) (W H kind : Int) (c : List Int) : Int × Int × List Int × Int :=
 if ¬ (1 ≤ W ∧ W ≤ 64) then (0, 0, [], 3) else if ¬ (1 ≤ H ∧ H ≤ 64) then (0, 0, [], 3) else if ¬ (1 ≤ kind ∧ kind ≤ 7) then (0, 0, [], 6) else if kG c ≠ 0 then (0, 0, [], kG c) else
 match FP (wordsOf c) W.toNat kind (W.toNat * H.toNat) [] (nN s) with
 | none => (0, 0, [], 1)
 | some (P, R) => if R.length ≤ 7 ∧ R = List.replicate R.length 48 then (W, H, P, 0) else (0, 0, [], 1)
theorem WS : ∀ {b : List UInt8}, wG b = true → (decide (0 ≤ Go.Lib.indexByte b 49)) = !decide (b = List.replicate b.length 48)
 | [], _ => rfl
 | x :: b, h => by
  have hx : x = 48 ∨ x = 49 := by unfold wG at h; rw [List.all_cons, Bool.and_eq_true] at h; exact of_decide_eq_true h.1
  have hb : wG b = true := by unfold wG at h ⊢; rw [List.all_cons, Bool.and_eq_true] at h; exact h.2
  have ih := WS hb;have ge := Go.Lib.indexByte_ge b 49
  rcases hx with rfl | rfl
  ·have e : decide (0 ≤ Go.Lib.indexByte (48 :: b) 49) = decide (0 ≤ Go.Lib.indexByte b 49) := by
    rw [decide_eq_decide];show 0 ≤ (if ((48 : UInt8) == 49) = true then (0 : Int) else if (Go.Lib.indexByte b 49 == -1) = true then -1 else Go.Lib.indexByte b 49 + 1) ↔ _;rw [if_neg (by decide)]
    by_cases hq : Go.Lib.indexByte b 49 = -1
    ·rw [if_pos (by rw [hq]; rfl), hq]
    ·rw [if_neg (by simpa using hq)]; omega
   rw [e, ih]
   congr 1
   rw [decide_eq_decide, List.length_cons, List.replicate_succ]
   simp
  ·rw [dF (show ¬ ((49 : UInt8) :: b = List.replicate ((49 : UInt8) :: b).length 48) by rw [List.length_cons, List.replicate_succ]; intro q; injection q with q _; revert q; decide)];exact dT (by show 0 ≤ (if ((49 : UInt8) == 49) = true then (0 : Int) else _); rw [if_pos (by decide)]; exact Int.le_refl _)
theorem Hc (N : Nat) (hN : 200000 ≤ N) (s : List UInt8) (W H kind : Int) (c : List Int) : xD N s W H kind c = some (qX s W H kind c) := by
 unfold xD qX
 by_cases h1 : W < 1
 ·rw [cT (dT h1), if_pos (by omega)]
 rw [cF (dF h1)]
 by_cases h2 : 64 < W
 ·rw [cT (dT h2), if_pos (by omega)]
 rw [cF (dF h2), if_neg (by omega)]
 by_cases h3 : H < 1
 ·rw [cT (dT h3), if_pos (by omega)]
 rw [cF (dF h3)]
 by_cases h4 : 64 < H
 ·rw [cT (dT h4), if_pos (by omega)]
 rw [cF (dF h4), if_neg (by omega)]
 by_cases h5 : kind < 1
 ·rw [cT (dT h5), if_pos (by omega)]
 rw [cF (dF h5)]
 by_cases h6 : 7 < kind
 ·rw [cT (dT h6), if_pos (by omega)]
 rw [cF (dF h6), if_neg (by omega), By N (by omega), aL]
 by_cases h7 : kG c = 0
 rotate_left
 ·rw [cT (by rw [dF h7]; rfl), if_pos h7]
 rw [cF (by rw [dT h7]; rfl), if_neg (by omega)];obtain ⟨w, rfl⟩ := Int.eq_ofNat_of_zero_le (show 0 ≤ W by omega);obtain ⟨h, rfl⟩ := Int.eq_ofNat_of_zero_le (show 0 ≤ H by omega);have hm := Nat.mul_le_mul (show w ≤ 64 by omega) (show h ≤ 64 by omega);rw [Int.toNat_natCast, Int.toNat_natCast];have hB : wG ([] ++ nN s) = true := xG s
 have key := Pv N (by omega) h7 (w := w) (h := h) (by omega) (by omega) (kind := kind) (by omega) (fun (Gc, x27, x28, i8) =>
  cond (!decide (x28 = ([] : List UInt8))) (
  some (0, 0, ([] : List Int), 1)) (
  Option.bind (oT N x27 ([49] : List UInt8)) fun G9 =>
  cond (G9) (
  some (0, 0, ([] : List Int), 1)) (
  some ((w : Int), (h : Int), Gc, 0)))) (w * h) N [] [] s (by simp) (by omega) (by simp) (by simp) hB
 rw [List.nil_append] at key
 rcases key with ⟨k1, k2⟩ | ⟨P2, b2, s2, k1, k2, k3⟩
 ·rw [k1]; exact k2
 refine Eq.trans k3 ?_;rw [k1]
 dsimp only
 have hB2 : wG (b2 ++ nN s2) = true := (IK (kW c) (by
  rw [tH h7];obtain ⟨ns, rfl, _, _, Lw, _⟩ := xY h7
  rw [iL]; exact Lw) (by omega) _ _ _ [] _ _ (xG s) (by simp) rfl k1).2.2.2.2
 by_cases hs : s2 = []
 rotate_left
 ·have : 1 ≤ s2.length := by
   rcases Nat.eq_zero_or_pos s2.length with q | q
   ·exact absurd (List.length_eq_zero_iff.1 q) hs
   ·exact q
  rw [cT (by rw [dF hs]; rfl), if_neg];rw [List.length_append, Cn]
  omega
 subst hs;rw [Gt, List.append_nil] at hB2 ⊢;rw [cF (by rfl), show oT N b2 [49] = some (decide (0 ≤ Go.Lib.indexByte b2 49)) from rfl, aL, WS hB2]
 by_cases hz : b2 = List.replicate b2.length 48
 ·rw [dT hz, if_pos ⟨k2, hz⟩]; rfl
 ·rw [dF hz, if_neg (fun q => hz q.2)]; rfl
theorem Py {P : List Int} {m : Nat} {y : Int} : (P ++ List.replicate (m + 1) 0).set P.length y = (P ++ [y]) ++ List.replicate m 0 := by
 rw [List.set_append_right _ _ (Nat.le_refl _), Nat.sub_self, List.replicate_succ, List.set_cons_zero, List.append_assoc]; rfl
theorem RE (N : Nat) (hN : 5000 ≤ N) {c : List Int} (hc : kG c = 0) {w h : Nat} (hw : 1 ≤ w ∧ w ≤ 64) (hh : 1 ≤ h ∧ h ≤ 64) {kind : Int} (hk : 1 ≤ kind ∧ kind ≤ 7) (kk) : ∀ (j fuel : Nat) (P : List Int) (R : List UInt8), P.length + j = w * h → j < fuel → (∀ e ∈ P, 0 ≤ e ∧ e ≤ 65535) → R.length ≤ 16777216 → wG R = true →
  eY N (w : Int) (h : Int) kind (wordsOf c) kk fuel (P ++ List.replicate j 0, R, (P.length : Int)) = match FP (wordsOf c) w kind j P R with
   | none => some (0, 0, [], 1)
   | some (P2, R2) => kk (P2, R2, ((w * h : Nat) : Int)) := by
 have hm := Nat.mul_le_mul hw.2 hh.2;have Pw : IntKind.i64.wrap ((w : Int) * (h : Int)) = ((w * h : Nat) : Int) := by rw [show (w : Int) * (h : Int) = ((w * h : Nat) : Int) by simp, iV (by omega)]
 have hbW := kW c
 have RD : (wordsOf c).length ≤ 17 := by
  rw [tH hc];obtain ⟨ns, rfl, _, _, Lw, _⟩ := xY hc;rw [iL]; exact Lw
 intro j
 induction j with
 | zero =>
  intro fuel P R hj hf hP hRl hB;obtain ⟨fuel, rfl⟩ : ∃ q, fuel = q + 1 := ⟨fuel - 1, by omega⟩
  unfold eY FP;rw [Pw, cF (dF (by omega)), show P.length = w * h by omega, List.replicate_zero, List.append_nil]
 | succ j ih =>
  intro fuel P R hj hf hP hRl hB;obtain ⟨fuel, rfl⟩ : ∃ q, fuel = q + 1 := ⟨fuel - 1, by omega⟩
  have hlt : P.length < w * h := by omega
  have hnx : IntKind.i64.wrap ((P.length : Int) + 1) = ((P.length + 1 : Nat) : Int) := by rw [iV (by omega)]; rfl
  have WR : ∀ e ∈ P ++ List.replicate (j + 1) 0, 0 ≤ e ∧ e ≤ 65535 := fun e he => by
   rcases List.mem_append.1 he with q | q
   ·exact hP e q
   ·rw [(List.mem_replicate.1 q).2]; decide
  have hP1 : (P ++ List.replicate (j + 1) (0 : Int)).length = w * h := by rw [List.length_append, List.length_replicate]; omega
  have hxy : P.length / w * w + P.length % w = P.length := by rw [Nat.mul_comm]; exact Nat.div_add_mod _ _
  have hxw := Nat.mod_lt P.length (show w > 0 by omega);have hyh : P.length / w < h := Nat.div_lt_of_lt_mul hlt;obtain ⟨t1, t2⟩ := tdm (W := w) P.length (by omega);have hdl : P.length / w ≤ P.length := Nat.div_le_self _ _
  have hg : hJ N (w : Int) (h : Int) (P ++ List.replicate (j + 1) 0) kind (Int.tmod (P.length : Int) (w : Int)) (IntKind.i64.wrap (Int.tdiv (P.length : Int) (w : Int))) = some (gs w P kind P.length) := by
   rw [t1, t2, iV (x := ((P.length / w : Nat) : Int)) ⟨Int.le_trans (by decide) (Int.natCast_nonneg _), Int.le_trans (Int.ofNat_le.2 hdl) (by omega)⟩, Gq WR N hw hk _ hxw (by omega) (by omega) (by omega), hxy, EU hw.1 _ _ _ (Nat.le_refl _)]
  have hgi : -65535 ≤ gs w P kind P.length ∧ gs w P kind P.length ≤ 131070 := by
   rw [← EU hw.1 P (List.replicate (j + 1) 0) kind (Nat.le_refl _)];exact Ph WR hw.1 (by omega)
  have hset : ∀ y : Int, uU (P ++ List.replicate (j + 1) 0) (P.length : Int) y = some ((P ++ [y]) ++ List.replicate j 0) := fun y => by
   rw [CP (by omega), Int.toNat_natCast, Py]
  have hix : idx (P ++ List.replicate (j + 1) (0 : Int)) (P.length : Int) = some 0 := by
   rw [iK, List.getElem?_append_right (Nat.le_refl _), Nat.sub_self, List.replicate_succ]; rfl
  have hval : ∀ (d : Int) (kk2 : Int → Option (Int × Int × List Int × Int)), -32768 < d ∧ d ≤ 32768 → (Option.bind (some (IntKind.i64.wrap (gs w P kind P.length + d))) fun x => Option.bind (eD N x 65536) fun r => kk2 (IntKind.i64.wrap (x - IntKind.i64.wrap (65536 * r)))) = kk2 ((gs w P kind P.length + d) % 65536) := fun d kk2 hd => by
   rw [iV (x := gs w P kind P.length + d) (by omega), aL, FF N (by omega) (by omega), aL, iV (x := 65536 * _) (by omega), iV (by omega)]
   congr 1
   omega
  have nzw : nz (w : Int) = some () := Jy (by omega)
  have go : ∀ (d : Int) (R2 : List UInt8), rdStep (wordsOf c) R = some (d, R2) → -32768 < d ∧ d ≤ 32768 → R2.length ≤ R.length →
    (Option.bind (some (IntKind.i64.wrap (gs w P kind P.length + d))) fun x => Option.bind (eD N x 65536) fun r =>
     Option.bind (idx (P ++ List.replicate (j + 1) 0) (P.length : Int)) fun e6 =>
     Option.bind (uU (P ++ List.replicate (j + 1) 0) (P.length : Int) (IntKind.i64.wrap (x - IntKind.i64.wrap (65536 * r)))) fun l6 =>
     Option.bind (some (IntKind.i64.wrap ((P.length : Int) + 1))) fun MF =>
     eY N (w : Int) (h : Int) kind (wordsOf c) kk fuel (l6, R2, MF)) = match FP (wordsOf c) w kind (j + 1) P R with
   | none => some (0, 0, [], 1)
   | some (P2, R2) => kk (P2, R2, ((w * h : Nat) : Int)) := by
   intro d R2 h2 hd hR2;obtain ⟨_, _, hRR⟩ := step_ok hbW RD hB h2
   have hB2 : wG R2 = true := by
    rw [hRR, sM, Bool.and_eq_true] at hB;exact hB.2
   have hl : (P ++ [(gs w P kind P.length + d) % 65536]).length = P.length + 1 := by simp
   have := ih fuel (P ++ [(gs w P kind P.length + d) % 65536]) R2 (by omega) (by omega) (fun e he => by
    rcases List.mem_append.1 he with q | q
    ·exact hP e q
    ·rw [List.mem_singleton.1 q]; omega) (by omega) hB2
   rw [hl] at this
   have e := hval d (fun v => Option.bind (idx (P ++ List.replicate (j + 1) 0) (P.length : Int)) fun e6 =>
     Option.bind (uU (P ++ List.replicate (j + 1) 0) (P.length : Int) v) fun l6 =>
     Option.bind (some (IntKind.i64.wrap ((P.length : Int) + 1))) fun MF =>
     eY N (w : Int) (h : Int) kind (wordsOf c) kk fuel (l6, R2, MF)) hd
   refine Eq.trans e ?_;rw [hix, aL, hset, aL, hnx, aL, this]
   conv => rhs; unfold FP
   rw [h2]
  unfold eY;rw [Pw, cT (dT (by omega)), front_eq N (by omega) (by omega) hbW hRl, aL]
  rcases hf1 : II (wordsOf c) R with _ | i
  ·dsimp only
   rw [cT (by rw [dF (EQ _ _)]; rfl)];unfold FP rdStep;rw [hf1]
  obtain ⟨u, a2, hu0, hub⟩ := AP hf1;have hgd : (wordsOf c).getD i [] = u := by rw [List.getD_eq_getElem?_getD, a2]; rfl
  have hil : i < (wordsOf c).length := (List.getElem?_eq_some_iff.1 a2).1
  have hst : rdStep (wordsOf c) R = if i = 16 then some (32768, R.drop u.length) else if (R.drop u.length).length < i then none else some (vd ((R.drop u.length).take i), (R.drop u.length).drop i) := by
   unfold rdStep;rw [hf1]
   dsimp only
   rw [hgd]
  have aAk : (R.drop u.length).length ≤ R.length := by rw [List.length_drop]; omega
  dsimp only
  rw [cF (by rfl), iK, a2, aL, AO hub.length_le, aL]
  by_cases h16 : i = 16
  ·rw [cT (dT (by omega)), nzw, aL, aL, hg, aL];exact go 32768 _ (by rw [hst, if_pos h16]) (by decide) aAk
  rw [if_neg h16] at hst;rw [cF (dF (by omega))]
  have hBd : wG (R.drop u.length) = true := by
   have := hB;rw [← List.take_append_drop u.length R, sM, Bool.and_eq_true] at this; exact this.2
  generalize R.drop u.length = T at *
  by_cases hs : T.length < i
  ·rw [cT (dT (by omega))];rw [if_pos hs] at hst;unfold FP;rw [hst]
  rw [if_neg hs] at hst
  have Ul : wG (T.take i) = true := by
   have := hBd;rw [← List.take_append_drop i T, sM, Bool.and_eq_true] at this; exact this.1
  have hlen : (T.take i).length = i := by rw [List.length_take]; omega
  have aAj := xF (d := i) (by omega);have hvl := uA (B := 2) (gV (T.take i)) (pU Ul);have bl : (gV (T.take i)).length = i := by simp only [gV, List.length_map]; exact hlen
  rw [bl] at hvl;obtain ⟨_, _, v1, v2⟩ := IJ Ul (by omega);have WT : (T.drop i).length ≤ R.length := by rw [List.length_drop]; omega
  have hpos := Nat.two_pow_pos i;rw [cF (dF (by omega)), vR (by omega), aL, Nb N (by omega) Ul (by omega), aL, vQ, aL, aL, Bx (by omega), show Int.tdiv ((2 ^ i : Nat) : Int) 2 = ((2 ^ i / 2 : Nat) : Int) from rfl, iV (x := ((2 ^ i / 2 : Nat) : Int)) (by omega)]
  by_cases hx : num 2 (gV (T.take i)) < 2 ^ i / 2
  ·have hv := Mo (t := T.take i) (by rw [hlen]; omega);rw [hlen] at hv;rw [cT (dT (by omega)), iV (x := _ - ((2 ^ i : Nat) : Int)) (by omega), show ((num 2 (gV (T.take i)) : Nat) : Int) - ((2 ^ i : Nat) : Int) + 1 = vd (T.take i) by omega, iV (x := vd _) (by omega), aL, AO (by omega), aL, nzw, aL, aL, hg, aL];exact go _ _ hst (by omega) WT
  ·have hv : vd (T.take i) = (num 2 (gV (T.take i)) : Int) := by
    by_cases h0 : i = 0
    ·subst h0; rfl
    ·have hp : 2 ^ i = 2 * 2 ^ (i - 1) := by rw [← Nat.pow_succ']; congr 1; omega
     exact Mp (by rw [hlen]; omega)
   rw [cF (dF (by omega)), AO (by omega), aL, nzw, aL, aL, hg, aL, ← hv];exact go _ _ hst (by omega) WT
theorem LB {w h : Nat} (hw : 1 ≤ w ∧ w ≤ 64) (hh : 1 ≤ h ∧ h ≤ 64) {P : List Int} (hP : ∀ e ∈ P, 0 ≤ e ∧ e ≤ 65535) (hl : P.length = w * h) {kind : Int} (hk : 1 ≤ kind ∧ kind ≤ 7) {c : List Int} (hc : kG c = 0) (ha : (ds w P kind).all (KW (wordsOf c)) = true) : D5 (w : Int) (h : Int) P kind c = (VH (C3 (wordsOf c) (ds w P kind)), 0) := by
 have hp : QL (w : Int) (h : Int) P = true := by
  unfold QL;rw [dT (show Bv (w : Int) (h : Int) P.length from ⟨by omega, by omega, by omega, by omega, by rw [hl]; simp⟩), Bool.true_and, List.all_eq_true];exact fun e he => dT (hP e he)
 unfold D5;rw [hp, if_neg (by decide), if_neg (by omega), if_neg (by omega), Int.toNat_natCast, if_pos ha]
theorem IQ (N : Nat) (hN : 200000 ≤ N) (s : List UInt8) (W H kind : Int) (c : List Int) : lW N s W H kind c = some (qX s W H kind c) := by
 unfold lW qX;rw [rJ, aL]
 by_cases h1 : 1 ≤ W ∧ W ≤ 64
 rotate_left
 ·rw [cT (by rw [dF h1]; rfl), if_pos h1]
 rw [cF (by rw [dT h1]; rfl), if_neg (by omega), rJ, aL]
 by_cases h2 : 1 ≤ H ∧ H ≤ 64
 rotate_left
 ·rw [cT (by rw [dF h2]; rfl), if_pos h2]
 rw [cF (by rw [dT h2]; rfl), if_neg (by omega), rJ, aL]
 by_cases h3 : 1 ≤ kind ∧ kind ≤ 7
 rotate_left
 ·rw [cT (by rw [dF h3]; rfl), if_pos h3]
 rw [cF (by rw [dT h3]; rfl), if_neg (by omega), EN N (by omega), aL]
 by_cases h7 : kG c = 0
 rotate_left
 ·rw [cT (by rw [dF h7]; rfl), if_pos h7]
 rw [cF (by rw [dT h7]; rfl), if_neg (by omega), E9 N (by omega) h7, aL];obtain ⟨w, rfl⟩ := Int.eq_ofNat_of_zero_le (show 0 ≤ W by omega);obtain ⟨h, rfl⟩ := Int.eq_ofNat_of_zero_le (show 0 ≤ H by omega);have hm := Nat.mul_le_mul (show w ≤ 64 by omega) (show h ≤ 64 by omega);rw [Int.toNat_natCast, Int.toNat_natCast]
 have RD : (wordsOf c).length ≤ 17 := by
  rw [tH h7];obtain ⟨ns, rfl, _, _, Lw, _⟩ := xY h7;rw [iL]; exact Lw
 have fin : ∀ P2 R2, FP (wordsOf c) w kind (w * h) [] (nN s) = some (P2, R2) → D5 (w : Int) (h : Int) P2 kind c = (VH (C3 (wordsOf c) (ds w P2 kind)), 0) ∧ nN s = C3 (wordsOf c) (ds w P2 kind) ++ R2 ∧ (ds w P2 kind).length = w * h := fun P2 R2 hr => by
  obtain ⟨q1, q2, q3, q4, q5⟩ := IK (kW c) RD (by omega) _ _ _ [] _ _ (xG s) (by simp) rfl hr;rw [List.length_nil, Nat.zero_add] at q1;refine ⟨LB (by omega) (by omega) q2 q1 h3 h7 q3, q4, by rw [Pm, q1]⟩
 by_cases h8 : 32768 < s.length
 ·rw [cT (dT (by omega))]
  rcases hr : FP (wordsOf c) w kind (w * h) [] (nN s) with _ | ⟨P2, R2⟩
  ·rfl
  dsimp only
  obtain ⟨_, q2, q3⟩ := fin P2 R2 hr;have hcl := Gs (kW c) (Pk w P2 kind);have := congrArg List.length q2;rw [Cn, List.length_append] at this;rw [if_neg (by omega)]
 have Pw : IntKind.i64.wrap ((w : Int) * (h : Int)) = ((w * h : Nat) : Int) := by rw [show (w : Int) * (h : Int) = ((w * h : Nat) : Int) by simp, iV (by omega)]
 rw [cF (dF (by omega)), OZ N (by omega) (by omega), aL, Pw, aL, mk_eq (by omega), aL, Int.toNat_natCast]
 have key := RE N (by omega) h7 (w := w) (h := h) (by omega) (by omega) h3 (fun (Li, i3, i4) =>
  Option.bind (kA N (w : Int) (h : Int) Li kind c) fun TU =>
  cond (!decide (TU.2 = 0)) (
  some (0, 0, ([] : List Int), 1)) (
  cond (!decide (TU.1 = s)) (
  some (0, 0, ([] : List Int), 1)) (
  some ((w : Int), (h : Int), Li, 0)))) (w * h) N [] (nN s) (by simp) (by omega) (by simp) (by rw [Cn]; omega) (xG s)
 rw [List.nil_append] at key;refine Eq.trans key ?_
 rcases hr : FP (wordsOf c) w kind (w * h) [] (nN s) with _ | ⟨P2, R2⟩
 ·rfl
 dsimp only
 obtain ⟨q1, q2, q3⟩ := fin P2 R2 hr;have hfi := RA q2;rw [Hb N hN, aL, q1]
 dsimp only
 rw [cF (by rfl)]
 by_cases hz : R2.length ≤ 7 ∧ R2 = List.replicate R2.length 48
 ·rw [if_pos hz, cF (by rw [dT (hfi.2 hz)]; rfl)]
 ·rw [if_neg hz, cT (by rw [dF (fun q => hz (hfi.1 q))]; rfl)]
theorem RF (N : Nat) (hN : 5000 ≤ N) (W H : Int) {P : List Int} (hl : P.length ≤ 4096) : jU N W H P W H P = some true := by
 unfold jU;rw [cT (dT rfl), cT (dT rfl), Ue N P (by omega) (by omega)]; rfl
theorem LC (s : List UInt8) (W H kind : Int) (c : List Int) : (qX s W H kind c).2.2.1.length ≤ 4096 := by
 unfold qX
 split
 ·simp
 split
 ·simp
 split
 ·simp
 split
 ·simp
 rename_i h1 h2 h3 h4
 split
 ·simp
 rename_i P R hr
 split
 rotate_left
 ·simp
 have h7 : kG c = 0 := by omega
 have RD : (wordsOf c).length ≤ 17 := by
  rw [tH h7];obtain ⟨ns, rfl, _, _, Lw, _⟩ := xY h7;rw [iL]; exact Lw
 have hm := Nat.mul_le_mul (show W.toNat ≤ 64 by omega) (show H.toNat ≤ 64 by omega);have := (IK (kW c) RD (by omega) _ _ _ [] _ _ (xG s) (by simp) rfl hr).1;rw [List.length_nil, Nat.zero_add] at this;show P.length ≤ _
 omega
theorem Gv {s : List UInt8} {o p : Int} (h : fU s o p = 0) : ∃ d n : Nat, o = d ∧ p = n ∧ (1 ≤ d ∧ d ≤ 16) ∧ n ≤ 4096 ∧ s.length = (n * d + 7) / 8 ∧ BL s s.length % 2 ^ (8 * s.length - d * n) = 0 := by
 unfold fU at h
 by_cases h1 : 1 ≤ o ∧ o ≤ 16
 rotate_left
 ·rw [if_pos h1] at h; cases h
 rw [if_neg (fun q => q h1)] at h
 by_cases h2 : p < 0
 ·rw [if_pos h2] at h; cases h
 rw [if_neg h2] at h
 by_cases h3 : 4096 < p
 ·rw [if_pos h3] at h; cases h
 rw [if_neg h3] at h;obtain ⟨d, rfl⟩ := Int.eq_ofNat_of_zero_le (show 0 ≤ o by omega);obtain ⟨n, rfl⟩ := Int.eq_ofNat_of_zero_le (show 0 ≤ p by omega);rw [Int.toNat_natCast, Int.toNat_natCast] at h
 by_cases h4 : s.length = (n * d + 7) / 8
 rotate_left
 ·rw [if_pos h4] at h; cases h
 rw [if_neg (fun q => q h4)] at h
 by_cases h5 : BL s s.length % 2 ^ (8 * s.length - d * n) = 0
 rotate_left
 ·rw [if_pos h5] at h; cases h
 exact ⟨d, n, rfl, rfl, by omega, by omega, h4, h5⟩
theorem SC {β : Type} {a b : Prop} [Decidable a] [Decidable b] (kk : Bool → Option β) : cond (decide a) (kk (decide a)) (kk (decide b)) = kk (decide (a ∨ b)) := by
 by_cases h : a
 ·rw [decide_eq_true h, decide_eq_true (show a ∨ b from Or.inl h)]; rfl
 ·rw [decide_eq_false h]
  by_cases h2 : b
  ·rw [decide_eq_true h2, decide_eq_true (show a ∨ b from Or.inr h2)]; rfl
  ·rw [decide_eq_false h2, decide_eq_false (show ¬ (a ∨ b) from fun q => q.elim h h2)]; rfl
section
variable (W H D K R : Int) (Ls : List Int) (St : List (List UInt8)) (ph b0 b1 b2 b3 w : Int) (sp : List (Int × Int)) (g0 g1 g2 m0 m1 m2 m3 m4 m5 m6 m7 m8 : Int) (cv : List (Int × Int)) (am : Int)
theorem RG (N : Nat) (kk) : wX N H R kk = kk (decide (R < 1 ∨ H < R)) := by unfold wX; exact SC kk
theorem RH (N : Nat) (kk) : wY N H D R kk = kk (decide (16 < D ∨ R < 1 ∨ H < R)) := by unfold wY; rw [RG]; exact SC kk
theorem RJ (N : Nat) (kk) : wZ N H D R kk = kk (decide (D < 1 ∨ 16 < D ∨ R < 1 ∨ H < R)) := by unfold wZ; rw [RH]; exact SC kk
theorem RK (N : Nat) (kk) : w5 N H D R kk = kk (decide (64 < H ∨ D < 1 ∨ 16 < D ∨ R < 1 ∨ H < R)) := by unfold w5; rw [RJ]; exact SC kk
theorem RL (N : Nat) (kk) : w6 N H D R kk = kk (decide (H < 1 ∨ 64 < H ∨ D < 1 ∨ 16 < D ∨ R < 1 ∨ H < R)) := by unfold w6; rw [RK]; exact SC kk
theorem RM (N : Nat) (kk) : w7 N W H D R kk = kk (decide (64 < W ∨ H < 1 ∨ 64 < H ∨ D < 1 ∨ 16 < D ∨ R < 1 ∨ H < R)) := by unfold w7; rw [RL]; exact SC kk
theorem RN (N : Nat) (kk) : w9 N W H D R kk = kk (decide (W < 1 ∨ 64 < W ∨ H < 1 ∨ 64 < H ∨ D < 1 ∨ 16 < D ∨ R < 1 ∨ H < R)) := by unfold w9; rw [RM]; exact SC kk
theorem RO (N : Nat) (kk) : w8 N K kk = kk (decide (K < 0 ∨ 7 < K)) := by unfold w8; exact SC kk
def zO : Prop := (1 ≤ W ∧ W ≤ 64) ∧ (1 ≤ H ∧ H ≤ 64) ∧ (1 ≤ D ∧ D ≤ 16) ∧ 1 ≤ R ∧ R ≤ H
instance : Decidable (zO W H D R) := by unfold zO; exact inferInstance
def vS : Int := if ¬ zO W H D R then 3 else if ¬ (0 ≤ K ∧ K ≤ 7) then 6 else if 0 < K then kG Ls else if 0 < Ls.length then 1 else 0
theorem Nm (N : Nat) (hN : 100 ≤ N) : wP N W H D K R Ls St ph b0 b1 b2 b3 w sp g0 g1 g2 m0 m1 m2 m3 m4 m5 m6 m7 m8 cv am = some (vS W H D K R Ls) := by
 unfold wP vS;rw [RN]
 by_cases h1 : zO W H D R
 rotate_left
 ·rw [cT (decide_eq_true (by unfold zO at h1; omega)), if_pos h1]
 rw [cF (decide_eq_false (by unfold zO at h1; omega)), if_neg (fun q => q h1), RO]
 by_cases h2 : 0 ≤ K ∧ K ≤ 7
 rotate_left
 ·rw [cT (decide_eq_true (by omega)), if_pos h2]
 rw [cF (decide_eq_false (by omega)), if_neg (fun q => q h2)]
 by_cases h3 : 0 < K
 ·rw [cT (dT h3), By N hN, aL, if_pos h3]
 rw [cF (dF h3), if_neg h3]
 by_cases h4 : 0 < Ls.length
 ·rw [cT (dT (by omega)), if_pos h4]
 ·rw [cF (dF (by omega)), if_neg h4]
theorem Pz (N : Nat) (hN : 100 ≤ N) : lK N W H D K R Ls St ph b0 b1 b2 b3 w sp g0 g1 g2 m0 m1 m2 m3 m4 m5 m6 m7 m8 cv am = some (vS W H D K R Ls) := by
 unfold lK vS;rw [rJ, aL]
 by_cases h1 : 1 ≤ W ∧ W ≤ 64
 rotate_left
 ·rw [cT (by rw [dF h1]; rfl), if_pos (fun q => h1 q.1)]
 rw [cF (by rw [dT h1]; rfl), rJ, aL]
 by_cases h2 : 1 ≤ H ∧ H ≤ 64
 rotate_left
 ·rw [cT (by rw [dF h2]; rfl), if_pos (fun q => h2 q.2.1)]
 rw [cF (by rw [dT h2]; rfl), rJ, aL]
 by_cases h3 : 1 ≤ D ∧ D ≤ 16
 rotate_left
 ·rw [cT (by rw [dF h3]; rfl), if_pos (fun q => h3 q.2.2.1)]
 rw [cF (by rw [dT h3]; rfl), rJ, aL]
 by_cases h4 : 1 ≤ R ∧ R ≤ H
 rotate_left
 ·rw [cT (by rw [dF h4]; rfl), if_pos (fun q => h4 q.2.2.2)]
 rw [cF (by rw [dT h4]; rfl), rJ, aL, if_neg (fun q => q ⟨h1, h2, h3, h4⟩)]
 by_cases h5 : 0 ≤ K ∧ K ≤ 7
 rotate_left
 ·rw [cT (by rw [dF h5]; rfl), if_pos h5]
 rw [cF (by rw [dT h5]; rfl), if_neg (fun q => q h5)]
 by_cases h6 : K = 0
 ·rw [cT (dT h6), if_neg (by omega)]
  by_cases h7 : 0 < Ls.length
  ·rw [cT (dT (by omega)), if_pos h7]
  ·rw [cF (dF (by omega)), cF (dF (by omega)), if_neg h7]
 ·rw [cF (dF h6), cT (dT (by omega)), EN N hN, aL, if_pos (by omega)]
def JQ (f : Bool) : Int := if DY ph b0 b1 b2 b3 w sp g0 g1 g2 m0 m1 m2 m3 m4 m5 m6 m7 m8 am = false then 3 else if f = false then 1 else if sp.all (kU W H) = false then 3 else 0
theorem Un (s : List (Int × Int)) (hl : s.length ≤ 4096) : ∀ (d k fuel : Nat), k + d = s.length → d < fuel →
  ∃ r, dU 8589934592 s W H D K R Ls St ph b0 b1 b2 b3 w sp g0 g1 g2 m0 m1 m2 m3 m4 m5 m6 m7 m8 cv am (fun _ => some (-1)) fuel (k : Int) = some r ∧ decide (0 ≤ r) = !((s.drop k).all fun q => decide (q.1 < W ∧ q.2 < H)) := by
 intro d
 induction d with
 | zero =>
  intro k fuel hk hf;obtain ⟨fuel, rfl⟩ : ∃ m, fuel = m + 1 := ⟨fuel - 1, by omega⟩
  obtain rfl : k = s.length := by omega
  unfold dU;rw [cF (dF (by omega))];exact ⟨_, rfl, by simp⟩
 | succ d ih =>
  intro k fuel hk hf;obtain ⟨fuel, rfl⟩ : ∃ m, fuel = m + 1 := ⟨fuel - 1, by omega⟩
  have hlt : k < s.length := by omega
  unfold dU yH;rw [cT (dT (by omega)), iK, List.getElem?_eq_getElem hlt, aL, List.drop_eq_getElem_cons hlt, List.all_cons]
  by_cases h1 : W ≤ s[k].1
  ·rw [cT (dT h1), aL, cT rfl];refine ⟨_, rfl, ?_⟩;rw [dT (by omega), decide_eq_false (show ¬ (s[k].1 < W ∧ s[k].2 < H) by omega)]; rfl
  rw [cF (dF h1), aL]
  by_cases h2 : H ≤ s[k].2
  ·rw [cT (dT h2)];refine ⟨_, rfl, ?_⟩;rw [dT (by omega), decide_eq_false (show ¬ (s[k].1 < W ∧ s[k].2 < H) by omega)]; rfl
  ·rw [cF (dF h2), iV (by omega), decide_eq_true (show (s[k].1 < W ∧ s[k].2 < H) by omega), Bool.true_and];exact ih (k + 1) fuel (by omega) (by omega)
theorem JR (s : List (Int × Int)) (hl : s.length ≤ 4096) : eI 8589934592 s W H D K R Ls St ph b0 b1 b2 b3 w sp g0 g1 g2 m0 m1 m2 m3 m4 m5 m6 m7 m8 cv am = some (!(s.all fun q => decide (q.1 < W ∧ q.2 < H))) := by
 obtain ⟨r, hr, hd⟩ := Un W H D K R Ls St ph b0 b1 b2 b3 w sp g0 g1 g2 m0 m1 m2 m3 m4 m5 m6 m7 m8 cv am s hl s.length 0 8589934592 (by omega) (by omega);have hr' : dU 8589934592 s W H D K R Ls St ph b0 b1 b2 b3 w sp g0 g1 g2 m0 m1 m2 m3 m4 m5 m6 m7 m8 cv am (fun _ => some (-1)) 8589934592 0 = some r := hr;unfold eI f6;rw [hr', aL, hd, List.drop_zero]
theorem LD {s : List (Int × Int)} (h : s.all (kU 64 64) = true) : (s.all fun q => decide (q.1 < W ∧ q.2 < H)) = s.all (kU W H) := by
 induction s with
 | nil => rfl
 | cons q s ih =>
  rw [List.all_cons, Bool.and_eq_true] at h;rw [List.all_cons, List.all_cons, ih h.2]
  congr 1
  have h1 := h.1;unfold kU at h1 ⊢;simp only [Bool.and_eq_true, decide_eq_true_eq] at h1;rw [dT h1.1.1.1, dT h1.1.2, Bool.true_and, Bool.and_true]
  by_cases a : q.1 < W <;> by_cases b : q.2 < H <;> simp [a, b]
theorem JS (h : DY ph b0 b1 b2 b3 w sp g0 g1 g2 m0 m1 m2 m3 m4 m5 m6 m7 m8 am = true) : sp.length ≤ 64 ∧ sp.all (kU 64 64) = true := by
 unfold DY at h;simp only [Bool.and_eq_true, decide_eq_true_eq] at h;exact ⟨h.2.2.2.1, h.2.2.2.2.1⟩
theorem Nn {f : Bool} (hb : mF 8589934592 cv = some f) (hc : f = true ↔ uW cv) : wQ 8589934592 W H D K R Ls St ph b0 b1 b2 b3 w sp g0 g1 g2 m0 m1 m2 m3 m4 m5 m6 m7 m8 cv am = some (JQ W H ph b0 b1 b2 b3 w sp g0 g1 g2 m0 m1 m2 m3 m4 m5 m6 m7 m8 am f) := by
 unfold wQ JQ;rw [OQ ph b0 b1 b2 b3 w sp g0 g1 g2 m0 m1 m2 m3 m4 m5 m6 m7 m8 cv am hb hc, aL]
 by_cases h1 : DY ph b0 b1 b2 b3 w sp g0 g1 g2 m0 m1 m2 m3 m4 m5 m6 m7 m8 am = false
 ·rw [if_pos h1, cT (by rfl), if_pos h1]
 rw [if_neg h1, if_neg h1];have h1' := (Bool.not_eq_false _).mp h1
 by_cases h2 : f = false
 ·rw [if_pos h2, cT (by rfl), if_pos h2]
 rw [if_neg h2, cF (by rfl), if_neg h2];obtain ⟨p1, p2⟩ := JS ph b0 b1 b2 b3 w sp g0 g1 g2 m0 m1 m2 m3 m4 m5 m6 m7 m8 am h1';rw [JR W H D K R Ls St ph b0 b1 b2 b3 w sp g0 g1 g2 m0 m1 m2 m3 m4 m5 m6 m7 m8 cv am sp (by omega), aL, LD W H p2]
 by_cases h3 : sp.all (kU W H) = false
 ·rw [h3, if_pos rfl, cT (by rfl)]
 ·rw [(Bool.not_eq_false _).mp h3, cF (by rfl), if_neg (by decide)]
theorem PA {f : Bool} (hb : gR 8589934592 cv = some f) (hW : 1 ≤ W ∧ W ≤ 64) (hH : 1 ≤ H ∧ H ≤ 64) : lM 8589934592 W H D K R Ls St ph b0 b1 b2 b3 w sp g0 g1 g2 m0 m1 m2 m3 m4 m5 m6 m7 m8 cv am = some (JQ W H ph b0 b1 b2 b3 w sp g0 g1 g2 m0 m1 m2 m3 m4 m5 m6 m7 m8 am f) := by
 unfold lM JQ;rw [Iz ph b0 b1 b2 b3 w sp g0 g1 g2 m0 m1 m2 m3 m4 m5 m6 m7 m8 cv am hb, aL]
 by_cases h1 : DY ph b0 b1 b2 b3 w sp g0 g1 g2 m0 m1 m2 m3 m4 m5 m6 m7 m8 am = false
 ·rw [if_pos h1, cT (by rfl), if_pos h1]
 rw [if_neg h1, if_neg h1];have h1' := (Bool.not_eq_false _).mp h1
 by_cases h2 : f = false
 ·rw [if_pos h2, cT (by rfl), if_pos h2]
 rw [if_neg h2, cF (by rfl), if_neg h2];obtain ⟨p1, p2⟩ := JS ph b0 b1 b2 b3 w sp g0 g1 g2 m0 m1 m2 m3 m4 m5 m6 m7 m8 am h1';rw [Gg sp (by omega) (by omega) (by omega), aL]
 by_cases h3 : sp.all (kU W H) = false
 ·rw [h3, if_pos rfl, cT (by rfl)]
 ·rw [(Bool.not_eq_false _).mp h3, cF (by rfl), if_neg (by decide)]
end
theorem Uo (N : Nat) {l : List Int} (hl : l.length ≤ 4096) : ∀ (j k fuel : Nat) (m : Int), k + j = l.length → j < fuel → ∃ M, j5 N l (fun (m4, i4) => some m4) fuel (m, (k : Int)) = some M ∧ ∀ b, M ≤ b ↔ m ≤ b ∧ ∀ e ∈ l.drop k, e ≤ b := by
 intro j
 induction j with
 | zero =>
  intro k fuel m hk hf;obtain ⟨fuel, rfl⟩ : ∃ q, fuel = q + 1 := ⟨fuel - 1, by omega⟩
  unfold j5;rw [cF (dF (by omega))];refine ⟨m, rfl, fun b => ⟨fun h => ⟨h, fun e he => ?_⟩, fun h => h.1⟩⟩;rw [List.drop_of_length_le (by omega)] at he; cases he
 | succ j ih =>
  intro k fuel m hk hf;obtain ⟨fuel, rfl⟩ : ∃ q, fuel = q + 1 := ⟨fuel - 1, by omega⟩
  have hlt : k < l.length := by omega
  obtain ⟨M, h1, h2⟩ := ih (k + 1) fuel (max m l[k]) (by omega) (by omega);refine ⟨M, ?_, fun b => ?_⟩
  ·unfold j5;rw [cT (dT (by omega)), iK, List.getElem?_eq_getElem hlt, aL, aL, iV (x := (k : Int) + 1) (by omega), aL];exact h1
  ·rw [h2 b, List.drop_eq_getElem_cons hlt]
   constructor
   ·rintro ⟨q1, q2⟩;refine ⟨by omega, fun e he => ?_⟩
    rcases List.mem_cons.1 he with rfl | he
    ·omega
    ·exact q2 e he
   ·rintro ⟨q1, q2⟩;have := q2 l[k] (List.mem_cons_self ..);exact ⟨by omega, fun e he => q2 e (List.mem_cons_of_mem _ he)⟩
theorem max_eq (N : Nat) {l : List Int} (h0 : 1 ≤ l.length) (hl : l.length ≤ 4096) (hN : 5000 ≤ N) : ∃ M, lF N l = some M ∧ ∀ b, M ≤ b ↔ ∀ e ∈ l, e ≤ b := by
 obtain ⟨x, l, rfl⟩ : ∃ x t, l = x :: t := by
  cases l with
  | nil => simp at h0
  | cons x t => exact ⟨x, t, rfl⟩
 obtain ⟨M, h1, h2⟩ := Uo N hl ((x :: l).length - 1) 1 N x (by omega) (by omega);refine ⟨M, ?_, fun b => ?_⟩
 ·unfold lF;rw [cF (dF (by omega)), show idx (x :: l) 0 = some x from rfl, aL];exact h1
 ·rw [h2 b, List.drop_one, List.tail_cons]
  constructor
  ·rintro ⟨q1, q2⟩ e he
   rcases List.mem_cons.1 he with rfl | he
   ·exact q1
   ·exact q2 e he
  ·intro q; exact ⟨q x (List.mem_cons_self ..), fun e he => q e (List.mem_cons_of_mem _ he)⟩
theorem RP (N : Nat) {l : List Int} (hl : l.length ≤ 4096) {d : Nat} (hd : 1 ≤ d ∧ d ≤ 16) (kk) : ∀ (j k fuel : Nat), k + j = l.length → j < fuel → jR N l (d : Int) kk fuel (k : Int) = if (l.drop k).all (fun e => decide (e < ((2 ^ d : Nat) : Int))) = true then kk (l.length : Int) else some false := by
 intro j
 induction j with
 | zero =>
  intro k fuel hk hf;obtain ⟨fuel, rfl⟩ : ∃ q, fuel = q + 1 := ⟨fuel - 1, by omega⟩
  obtain rfl : k = l.length := by omega
  unfold jR;rw [cF (dF (by omega)), List.drop_length, if_pos (by rfl)]
 | succ j ih =>
  intro k fuel hk hf;obtain ⟨fuel, rfl⟩ : ∃ q, fuel = q + 1 := ⟨fuel - 1, by omega⟩
  have hlt : k < l.length := by omega
  have hnx : IntKind.i64.wrap ((k : Int) + 1) = ((k + 1 : Nat) : Int) := by rw [iV (by omega)]; rfl
  have hp := xF (d := d) hd.2;have hp0 := Nat.two_pow_pos d;unfold jR;rw [cT (dT (by omega)), iK, List.getElem?_eq_getElem hlt, aL, vQ, aL, Bx hd.2, iV (x := ((2 ^ d : Nat) : Int) - 1) (by omega), List.drop_eq_getElem_cons hlt, List.all_cons]
  by_cases h : l[k] < ((2 ^ d : Nat) : Int)
  ·rw [cF (dF (by omega)), hnx, aL, ih (k + 1) fuel (by omega) (by omega), decide_eq_true h, Bool.true_and]
  ·rw [cT (dT (by omega)), if_neg];rw [decide_eq_false h]; simp
theorem RQ (N : Nat) (hN : 5000 ≤ N) {l : List Int} (hl : l.length ≤ 4096) {d : Nat} (hd : 1 ≤ d ∧ d ≤ 16) : mI N l (d : Int) = some (l.all (fun e => decide (e < ((2 ^ d : Nat) : Int)))) := by
 unfold mI;have := RP N hl hd (fun _ => some true) l.length 0 N (by omega) (by omega);refine Eq.trans this ?_;rw [List.drop_zero]
 split
 ·rename_i h; rw [h]
 ·rename_i h; rw [(Bool.not_eq_true _).mp h]
def xZ (H R : Nat) : Nat := (H + R - 1) / R
def rE (H R i : Nat) : Nat := min R (H - i * R)
theorem cnt_lt {H R i : Nat} (hR : 1 ≤ R) : i < xZ H R ↔ i * R < H := by
 unfold xZ;rw [Nat.lt_div_iff_mul_lt (by omega)]
 omega
theorem Du {H R : Nat} (hR : 1 ≤ R) (hH : 1 ≤ H) : xZ H R ≤ H ∧ 1 ≤ xZ H R := by
 refine ⟨?_, ?_⟩
 ·unfold xZ;refine Nat.div_le_of_le_mul ?_;have : R * H = (R - 1) * H + H := by rw [Nat.sub_mul]; have := Nat.le_mul_of_pos_left H hR; omega
  have h2 : R - 1 ≤ (R - 1) * H := Nat.le_mul_of_pos_right _ hH
  omega
 ·have := (cnt_lt (H := H) (i := 0) hR).2 (by omega)
  omega
theorem LE (N : Nat) {H R : Nat} (hR : 1 ≤ R ∧ R ≤ H) (hH : H ≤ 64) (kk) : ∀ (j k fuel : Nat), k + j = xZ H R → j < fuel →
  pL N (H : Int) (R : Int) kk fuel ((List.range k).map fun i => (((i * R : Nat) : Int), ((rE H R i : Nat) : Int)), ((k * R : Nat) : Int)) = kk ((List.range (xZ H R)).map fun i => (((i * R : Nat) : Int), ((rE H R i : Nat) : Int)), ((xZ H R * R : Nat) : Int)) := by
 have hcl := Du (H := H) (R := R) hR.1 (by omega);intro j
 induction j with
 | zero =>
  intro k fuel hk hf;obtain ⟨fuel, rfl⟩ : ∃ q, fuel = q + 1 := ⟨fuel - 1, by omega⟩
  obtain rfl : k = xZ H R := by omega
  have := mt (cnt_lt (H := H) (R := R) (i := xZ H R) hR.1).2 (by omega);unfold pL;rw [cF (dF (by omega))]
 | succ j ih =>
  intro k fuel hk hf;obtain ⟨fuel, rfl⟩ : ∃ q, fuel = q + 1 := ⟨fuel - 1, by omega⟩
  have hlt := (cnt_lt (H := H) (R := R) (i := k) hR.1).1 (by omega)
  have e1 : min (R : Int) (IntKind.i64.wrap ((H : Int) - ((k * R : Nat) : Int))) = ((rE H R k : Nat) : Int) := by
   rw [iV (by omega)]; unfold rE; omega
  have e2 : IntKind.i64.wrap (((k * R : Nat) : Int) + (R : Int)) = (((k + 1) * R : Nat) : Int) := by
   rw [Nat.add_mul, iV (by omega)]; omega
  unfold pL;rw [cT (dT (by omega)), e1, sG (by simp; omega), aL, e2, aL];have := ih (k + 1) fuel (by omega) (by omega);rw [List.range_succ, List.map_append, List.map_singleton] at this;exact this
section
variable (W H D K R : Int) (Ls : List Int) (St : List (List UInt8)) (ph b0 b1 b2 b3 w : Int) (sp : List (Int × Int)) (g0 g1 g2 m0 m1 m2 m3 m4 m5 m6 m7 m8 : Int) (cv : List (Int × Int)) (am : Int)
theorem IR (h : vS W H D K R Ls = 0) : zO W H D R ∧ (0 ≤ K ∧ K ≤ 7) ∧ (Ls.length ≤ 17) ∧ (0 < K → kG Ls = 0) := by
 unfold vS at h
 by_cases h1 : zO W H D R
 rotate_left
 ·rw [if_pos h1] at h; cases h
 rw [if_neg (fun q => q h1)] at h
 by_cases h2 : 0 ≤ K ∧ K ≤ 7
 rotate_left
 ·rw [if_pos h2] at h; cases h
 rw [if_neg (fun q => q h2)] at h;refine ⟨h1, h2, ?_⟩
 by_cases h3 : 0 < K
 ·rw [if_pos h3] at h;refine ⟨?_, fun _ => h⟩;obtain ⟨ns, rfl, _, _, Lw, _⟩ := xY h;rw [iL]; exact Lw
 ·rw [if_neg h3] at h;refine ⟨?_, fun q => absurd q h3⟩
  by_cases h4 : 0 < Ls.length
  ·rw [if_pos h4] at h; cases h
  ·omega
end
theorem JT : nR 8589934592 = some true := by kernel_rfl
def stripR (W D K : Int) (Ls : List Int) (rows : Int) (s : List UInt8) : Option (List Int) :=
 if K = 0 then (if fU s D (W * rows) = 0 then some (nO (nS s D.toNat (W * rows).toNat)) else none)
 else if (qX s W rows K Ls).2.2.2 = 0 ∧ (qX s W rows K Ls).2.2.1.all (fun e => decide (e < ((2 ^ D.toNat : Nat) : Int))) = true then some (qX s W rows K Ls).2.2.1 else none
theorem HM {s : List UInt8} {W H kind : Int} {c : List Int} (h : (qX s W H kind c).2.2.2 = 0) : (1 ≤ W ∧ W ≤ 64) ∧ (1 ≤ H ∧ H ≤ 64) ∧ (qX s W H kind c).1 = W ∧ (qX s W H kind c).2.1 = H ∧ (qX s W H kind c).2.2.1.length = W.toNat * H.toNat ∧ ∀ e ∈ (qX s W H kind c).2.2.1, 0 ≤ e ∧ e ≤ 65535 := by
 unfold qX at h ⊢
 by_cases h1 : 1 ≤ W ∧ W ≤ 64
 rotate_left
 ·rw [if_pos h1] at h; cases h
 rw [if_neg (by omega)] at h ⊢
 by_cases h2 : 1 ≤ H ∧ H ≤ 64
 rotate_left
 ·rw [if_pos h2] at h; cases h
 rw [if_neg (by omega)] at h ⊢
 by_cases h3 : 1 ≤ kind ∧ kind ≤ 7
 rotate_left
 ·rw [if_pos h3] at h; cases h
 rw [if_neg (by omega)] at h ⊢
 by_cases h7 : kG c = 0
 rotate_left
 ·rw [if_pos h7] at h; exact absurd h h7
 rw [if_neg (by omega)] at h ⊢
 have RD : (wordsOf c).length ≤ 17 := by
  rw [tH h7];obtain ⟨ns, rfl, _, _, Lw, _⟩ := xY h7;rw [iL]; exact Lw
 rcases hr : FP (wordsOf c) W.toNat kind (W.toNat * H.toNat) [] (nN s) with _ | ⟨P2, R2⟩
 ·rw [hr] at h; cases h
 rw [hr] at h;dsimp only at h ⊢
 by_cases hz : R2.length ≤ 7 ∧ R2 = List.replicate R2.length 48
 rotate_left
 ·rw [if_neg hz] at h; cases h
 rw [if_pos hz];obtain ⟨q1, q2, q3, q4, q5⟩ := IK (kW c) RD (by omega) _ _ _ [] _ _ (xG s) (by simp) rfl hr;rw [List.length_nil, Nat.zero_add] at q1;exact ⟨h1, h2, rfl, rfl, q1, q2⟩
section
variable (W H D K R : Int) (Ls : List Int) (St : List (List UInt8)) (ph b0 b1 b2 b3 w : Int) (sp : List (Int × Int)) (g0 g1 g2 m0 m1 m2 m3 m4 m5 m6 m7 m8 : Int) (cv : List (Int × Int)) (am : Int)
theorem RR {s : List UInt8} {o p : Int} (h : fU s o p = 0) : (nO (nS s o.toNat p.toNat)).length = p.toNat := by
 obtain ⟨d, n, rfl, rfl, h1, h2, h3, h4⟩ := Gv h;rw [iL, Int.toNat_natCast, Int.toNat_natCast];unfold nS;exact jL _ _ _
theorem EV {W D K rows : Int} {Ls : List Int} {s : List UInt8} {l : List Int} (hW : 1 ≤ W ∧ W ≤ 64) (hr : 1 ≤ rows ∧ rows ≤ 64) (h : stripR W D K Ls rows s = some l) : l.length = W.toNat * rows.toNat := by
 unfold stripR at h
 split at h
 ·split at h
  ·rename_i hh
   injection h with h
   subst h;rw [RR hh];obtain ⟨w', rfl⟩ := Int.eq_ofNat_of_zero_le (show 0 ≤ W by omega);obtain ⟨r', rfl⟩ := Int.eq_ofNat_of_zero_le (show 0 ≤ rows by omega)
   rfl
  ·cases h
 ·split at h
  ·rename_i hh
   injection h with h
   subst h;exact (HM hh.1).2.2.2.2.1
  ·cases h
theorem IS (N : Nat) (hN : 200000 ≤ N) {W D rows : Int} (hW : 1 ≤ W ∧ W ≤ 64) (hD : 1 ≤ D ∧ D ≤ 16) (hr : 1 ≤ rows ∧ rows ≤ 64) {s : List UInt8} (hs : s.length ≤ 9223372036854775807) :
  ∃ l e, uJ N W H D K R Ls St ph b0 b1 b2 b3 w sp g0 g1 g2 m0 m1 m2 m3 m4 m5 m6 m7 m8 cv am s rows = some (l, e) ∧ ((e = 0 ∧ stripR W D K Ls rows s = some l) ∨ (e ≠ 0 ∧ stripR W D K Ls rows s = none)) := by
 obtain ⟨w', rfl⟩ := Int.eq_ofNat_of_zero_le (show 0 ≤ W by omega);obtain ⟨r', rfl⟩ := Int.eq_ofNat_of_zero_le (show 0 ≤ rows by omega);obtain ⟨d, rfl⟩ := Int.eq_ofNat_of_zero_le (show 0 ≤ D by omega);have hm := Nat.mul_le_mul (show w' ≤ 64 by omega) (show r' ≤ 64 by omega);have hwr : IntKind.i64.wrap ((w' : Int) * (r' : Int)) = (w' : Int) * (r' : Int) := by rw [show (w' : Int) * (r' : Int) = ((w' * r' : Nat) : Int) by simp, iV (by omega)]
 unfold uJ stripR
 by_cases hK : K = 0
 ·rw [cT (dT hK), if_pos hK, hwr, MY N (by omega) s hs, aL]
  by_cases he : fU s (d : Int) ((w' : Int) * (r' : Int)) = 0
  ·rw [if_pos he, if_pos he];exact ⟨_, _, rfl, .inl ⟨rfl, rfl⟩⟩
  ·rw [if_neg he, if_neg he];exact ⟨_, _, rfl, .inr ⟨he, rfl⟩⟩
 rw [cF (dF hK), if_neg hK, Hc N hN, aL]
 by_cases he : (qX s (w' : Int) (r' : Int) K Ls).2.2.2 = 0
 rotate_left
 ·rw [cF (dF he), if_neg (fun q => he q.1)];exact ⟨_, _, rfl, .inr ⟨he, rfl⟩⟩
 obtain ⟨_, _, _, _, hl, hP⟩ := HM he;rw [Int.toNat_natCast, Int.toNat_natCast] at hl;have hpos : 1 ≤ w' * r' := Nat.mul_pos (by omega) (by omega);obtain ⟨M, e1, e2⟩ := max_eq N (l := (qX s (w' : Int) (r' : Int) K Ls).2.2.1) (by omega) (by omega) (by omega)
 generalize (qX s (w' : Int) (r' : Int) K Ls).2.2.1 = P at *
 rw [cT (dT he), e1, aL, vQ, aL, Int.toNat_natCast];obtain ⟨x0, hx0⟩ : ∃ x, x ∈ P := ⟨P[0], List.getElem_mem (by omega)⟩
 have hM0 : 0 ≤ M := by
  have := (e2 M).1 (Int.le_refl _) x0 hx0;have := (hP x0 hx0).1
  omega
 obtain ⟨m, rfl⟩ := Int.eq_ofNat_of_zero_le hM0;have hp2 := Nat.two_pow_pos d
 have hsh : (0 < ((m / 2 ^ d : Nat) : Int)) ↔ P.all (fun e => decide (e < ((2 ^ d : Nat) : Int))) = false := by
  have h6 := e2 (((2 ^ d : Nat) : Int) - 1);have h7 : (0 < m / 2 ^ d) ↔ 2 ^ d ≤ m := Nat.div_pos_iff.trans ⟨fun q => q.2, fun q => ⟨hp2, q⟩⟩
  constructor
  ·intro q;rw [Bool.eq_false_iff];intro q2;rw [List.all_eq_true] at q2;have := h6.2 fun e he => by have := of_decide_eq_true (q2 e he); omega
   have := h7.1 (by omega)
   omega
  ·intro q
   have : ¬ m < 2 ^ d := fun q2 => by
    have := h6.1 (by omega);rw [Bool.eq_false_iff] at q;exact q (List.all_eq_true.2 fun e he => decide_eq_true (by have := this e he; omega))
   have := h7.2 (by omega)
   omega
 rw [FG (by omega)]
 by_cases h6 : P.all (fun e => decide (e < ((2 ^ d : Nat) : Int))) = false
 ·rw [cT (decide_eq_true (hsh.2 h6)), if_neg (fun q => by rw [h6] at q; exact absurd q.2 (by decide))];exact ⟨_, _, rfl, .inr ⟨by decide, rfl⟩⟩
 ·rw [cF (decide_eq_false (fun q => h6 (hsh.1 q))), if_pos ⟨he, (Bool.not_eq_false _).mp h6⟩];exact ⟨_, _, rfl, .inl ⟨he, rfl⟩⟩
def zP (W D K : Int) (Ls : List Int) (H R : Nat) : Nat → List (List UInt8) → List Int → Option (List Int)
 | _, [], acc => some acc
 | i, s :: t, acc => match stripR W D K Ls ((rE H R i : Nat) : Int) s with
  | none => none
  | some l => zP W D K Ls H R (i + 1) t (acc ++ l)
theorem FQ {H R i : Nat} (hR : 1 ≤ R ∧ R ≤ H) (hH : H ≤ 64) (hi : i < xZ H R) : 1 ≤ ((rE H R i : Nat) : Int) ∧ ((rE H R i : Nat) : Int) ≤ 64 := by
 have := (cnt_lt (H := H) (i := i) hR.1).1 hi;unfold rE
 omega
theorem Hd (N : Nat) (hN : 200000 ≤ N) {w' h r d : Nat} (hW : 1 ≤ w' ∧ w' ≤ 64) (hH : 1 ≤ h ∧ h ≤ 64) (hR : 1 ≤ r ∧ r ≤ h) (hd : 1 ≤ d ∧ d ≤ 16) (hs : ∀ y ∈ St, y.length ≤ 9223372036854775807) (hl : St.length = xZ h r) (kk) :
  ∀ (j k fuel : Nat) (acc : List Int), k + j = St.length → j < fuel → acc.length ≤ 4096 * k →
  qU N (w' : Int) (h : Int) (d : Int) K (r : Int) Ls St ph b0 b1 b2 b3 w sp g0 g1 g2 m0 m1 m2 m3 m4 m5 m6 m7 m8 cv am ((List.range (xZ h r)).map fun i => (((i * r : Nat) : Int), ((rE h r i : Nat) : Int))) kk fuel (acc, (k : Int)) = match zP (w' : Int) (d : Int) K Ls h r k (St.drop k) acc with
   | none => some (0, 0, [], 1)
   | some P => kk (P, (St.length : Int)) := by
 have hcl := Du (H := h) (R := r) hR.1 hH.1;intro j
 induction j with
 | zero =>
  intro k fuel acc hk hf ha;obtain ⟨fuel, rfl⟩ : ∃ q, fuel = q + 1 := ⟨fuel - 1, by omega⟩
  unfold qU;rw [cF (dF (by omega)), List.drop_of_length_le (by omega), show k = St.length by omega]
  rfl
 | succ j ih =>
  intro k fuel acc hk hf ha;obtain ⟨fuel, rfl⟩ : ∃ q, fuel = q + 1 := ⟨fuel - 1, by omega⟩
  have hlt : k < St.length := by omega
  have BH := FQ (i := k) hR hH.2 (by omega);have hnx : IntKind.i64.wrap ((k : Int) + 1) = ((k + 1 : Nat) : Int) := by rw [iV (by omega)]; rfl
  have hm := Nat.mul_le_mul hW.2 (show rE h r k ≤ 64 by omega);unfold qU;rw [cT (dT (by omega)), iK, List.getElem?_eq_getElem hlt, aL, iK, List.getElem?_map, List.getElem?_range (by omega)];show Option.bind (some _) _ = _;rw [aL]
  dsimp only
  obtain ⟨l, e, q1, q2⟩ := IS (h : Int) K (r : Int) Ls St ph b0 b1 b2 b3 w sp g0 g1 g2 m0 m1 m2 m3 m4 m5 m6 m7 m8 cv am N hN (W := (w' : Int)) (D := (d : Int)) (by omega) (by omega) BH (hs St[k] (List.getElem_mem hlt));rw [q1, aL, List.drop_eq_getElem_cons hlt];unfold zP
  rcases q2 with ⟨rfl, q2⟩ | ⟨q3, q2⟩
  ·have hll := EV (by omega) BH q2;rw [Int.toNat_natCast, Int.toNat_natCast] at hll;rw [q2, cF (by rfl)]
   dsimp only
   rw [sG (by omega), aL, hnx];exact ih (k + 1) fuel _ (by omega) (by omega) (by rw [List.length_append]; omega)
  ·rw [q2, cT (by rw [dF q3]; rfl)]
def Dv (f : Bool) : Int × Int × List Int × Int :=
 if vS W H D K R Ls ≠ 0 then (0, 0, [], vS W H D K R Ls) else if St.length ≠ xZ H.toNat R.toNat then (0, 0, [], 2) else
 if JQ W H ph b0 b1 b2 b3 w sp g0 g1 g2 m0 m1 m2 m3 m4 m5 m6 m7 m8 am f ≠ 0 then (0, 0, [], JQ W H ph b0 b1 b2 b3 w sp g0 g1 g2 m0 m1 m2 m3 m4 m5 m6 m7 m8 am f) else
 match zP W D K Ls H.toNat R.toNat 0 St [] with
 | none => (0, 0, [], 1)
 | some P => (W, H, P, 0)
theorem JU (N : Nat) (hN : 5000 ≤ N) {k' r : Nat} (hr : 1 ≤ r ∧ r ≤ k') (hk : 1 ≤ k' ∧ k' ≤ 64) : vM N W (k' : Int) D K (r : Int) Ls St ph b0 b1 b2 b3 w sp g0 g1 g2 m0 m1 m2 m3 m4 m5 m6 m7 m8 cv am = some ((List.range (xZ k' r)).map fun i => (((i * r : Nat) : Int), ((rE k' r i : Nat) : Int))) := by
 have hcn := Du (H := k') (R := r) hr.1 hk.1;have := LE N hr hk.2 (fun (l6, y5) => some l6) (xZ k' r) 0 N (by omega) (by omega);rw [Nat.zero_mul] at this;exact this
theorem Gw {f : Bool} (hb : mF 8589934592 cv = some f) (hc : f = true ↔ uW cv) (hs : ∀ y ∈ St, y.length ≤ 9223372036854775807) : tD 8589934592 W H D K R Ls St ph b0 b1 b2 b3 w sp g0 g1 g2 m0 m1 m2 m3 m4 m5 m6 m7 m8 cv am = some (Dv W H D K R Ls St ph b0 b1 b2 b3 w sp g0 g1 g2 m0 m1 m2 m3 m4 m5 m6 m7 m8 am f) := by
 unfold tD Dv;rw [Nm W H D K R Ls St ph b0 b1 b2 b3 w sp g0 g1 g2 m0 m1 m2 m3 m4 m5 m6 m7 m8 cv am 8589934592 (by decide), aL]
 by_cases h1 : vS W H D K R Ls = 0
 rotate_left
 ·rw [cT (by rw [decide_eq_false h1]; rfl), if_pos h1]
 obtain ⟨q1, q2, q3, q4⟩ := IR W H D K R Ls h1;rw [cF (by rw [decide_eq_true h1]; rfl), if_neg (fun q => q h1)];unfold zO at q1;obtain ⟨w', rfl⟩ := Int.eq_ofNat_of_zero_le (show 0 ≤ W by omega);obtain ⟨k', rfl⟩ := Int.eq_ofNat_of_zero_le (show 0 ≤ H by omega);obtain ⟨d, rfl⟩ := Int.eq_ofNat_of_zero_le (show 0 ≤ D by omega);obtain ⟨r, rfl⟩ := Int.eq_ofNat_of_zero_le (show 0 ≤ R by omega);rw [JU _ _ K Ls St ph b0 b1 b2 b3 w sp g0 g1 g2 m0 m1 m2 m3 m4 m5 m6 m7 m8 cv am 8589934592 (by decide) (by omega) (by omega), aL, List.length_map, List.length_range, Int.toNat_natCast, Int.toNat_natCast]
 by_cases h2 : St.length = xZ k' r
 rotate_left
 ·rw [cT (by rw [dF (by omega)]; rfl), if_pos h2]
 rw [cF (by rw [dT (by omega)]; rfl), if_neg (fun q => q h2), Nn _ _ _ K _ Ls St ph b0 b1 b2 b3 w sp g0 g1 g2 m0 m1 m2 m3 m4 m5 m6 m7 m8 cv am hb hc, aL]
 by_cases h3 : JQ (w' : Int) (k' : Int) ph b0 b1 b2 b3 w sp g0 g1 g2 m0 m1 m2 m3 m4 m5 m6 m7 m8 am f = 0
 rotate_left
 ·rw [cT (by rw [decide_eq_false h3]; rfl), if_pos h3]
 rw [cF (by rw [decide_eq_true h3]; rfl), if_neg (fun q => q h3)];have hcn := Du (H := k') (R := r) (by omega) (by omega);have key := Hd K Ls St ph b0 b1 b2 b3 w sp g0 g1 g2 m0 m1 m2 m3 m4 m5 m6 m7 m8 cv am 8589934592 (by decide) (w' := w') (h := k') (r := r) (d := d) (by omega) (by omega) (by omega) (by omega) hs h2 (fun (Gc, i2) => some ((w' : Int), (k' : Int), Gc, (0 : Int))) St.length 0 8589934592 [] (by omega) (by omega) (by simp);rw [List.drop_zero] at key;refine Eq.trans key ?_
 cases zP (w' : Int) (d : Int) K Ls k' r 0 St [] <;> rfl
theorem Np (N : Nat) (hN : 200000 ≤ N) {W D : Int} (hW : 1 ≤ W ∧ W ≤ 64) (hD : 1 ≤ D ∧ D ≤ 16) {h r k : Nat} (hH : 1 ≤ h ∧ h ≤ 64) (hR : 1 ≤ r ∧ r ≤ h) (hk : k < xZ h r) (hlt : k < St.length) (hs : St[k].length ≤ 9223372036854775807) :
  ∃ l b, nL N W (h : Int) D K (r : Int) Ls St ph b0 b1 b2 b3 w sp g0 g1 g2 m0 m1 m2 m3 m4 m5 m6 m7 m8 cv am (k : Int) = some (l, b) ∧ ((b = true ∧ stripR W D K Ls ((rE h r k : Nat) : Int) St[k] = some l) ∨ (b = false ∧ stripR W D K Ls ((rE h r k : Nat) : Int) St[k] = none)) := by
 obtain ⟨w', rfl⟩ := Int.eq_ofNat_of_zero_le (show 0 ≤ W by omega);obtain ⟨d, rfl⟩ := Int.eq_ofNat_of_zero_le (show 0 ≤ D by omega);have BH := FQ (i := k) hR hH.2 hk;have hkR := (cnt_lt (H := h) (i := k) hR.1).1 hk;have hm := Nat.mul_le_mul (show w' ≤ 64 by omega) (show rE h r k ≤ 64 by omega);have hwr : IntKind.i64.wrap ((w' : Int) * ((rE h r k : Nat) : Int)) = (w' : Int) * ((rE h r k : Nat) : Int) := by rw [show (w' : Int) * ((rE h r k : Nat) : Int) = ((w' * rE h r k : Nat) : Int) by simp, iV (by omega)]
 have e0 : IntKind.i64.wrap ((k : Int) * (r : Int)) = ((k * r : Nat) : Int) := by rw [show (k : Int) * (r : Int) = ((k * r : Nat) : Int) by simp, iV (by omega)]
 have er : min (r : Int) (IntKind.i64.wrap ((h : Int) - ((k * r : Nat) : Int))) = ((rE h r k : Nat) : Int) := by
  rw [iV (by omega)]; unfold rE; omega
 unfold nL o6 stripR;rw [e0, er, aL]
 by_cases hK : K = 0
 ·rw [cT (dT hK), if_pos hK, iK, List.getElem?_eq_getElem hlt, aL, hwr, JG N (by omega) _ hs, aL]
  by_cases he : fU St[k] (d : Int) ((w' : Int) * ((rE h r k : Nat) : Int)) = 0
  ·rw [if_pos he, if_pos he];exact ⟨_, _, rfl, .inl ⟨rfl, rfl⟩⟩
  ·rw [if_neg he, if_neg he];exact ⟨_, _, rfl, .inr ⟨dF he, rfl⟩⟩
 rw [cF (dF hK), if_neg hK, iK, List.getElem?_eq_getElem hlt, aL, IQ N hN, aL]
 by_cases he : (qX St[k] (w' : Int) ((rE h r k : Nat) : Int) K Ls).2.2.2 = 0
 rotate_left
 ·rw [cF (dF he), if_neg (fun q => he q.1)];exact ⟨_, _, rfl, .inr ⟨rfl, rfl⟩⟩
 have hl := LC St[k] (w' : Int) ((rE h r k : Nat) : Int) K Ls;rw [cT (dT he), RQ N (by omega) hl (by omega), aL, Int.toNat_natCast]
 by_cases h6 : (qX St[k] (w' : Int) ((rE h r k : Nat) : Int) K Ls).2.2.1.all (fun e => decide (e < ((2 ^ d : Nat) : Int))) = true
 ·rw [if_pos ⟨he, h6⟩];exact ⟨_, _, rfl, .inl ⟨h6, rfl⟩⟩
 ·rw [if_neg (fun q => h6 q.2)];exact ⟨_, _, rfl, .inr ⟨(Bool.not_eq_true _).mp h6, rfl⟩⟩
theorem IT (N : Nat) (hN : 200000 ≤ N) {w' h r d : Nat} (hW : 1 ≤ w' ∧ w' ≤ 64) (hH : 1 ≤ h ∧ h ≤ 64) (hR : 1 ≤ r ∧ r ≤ h) (hd : 1 ≤ d ∧ d ≤ 16) (hs : ∀ y ∈ St, y.length ≤ 9223372036854775807) (hl : St.length = xZ h r) (kk) :
  ∀ (j k fuel : Nat) (acc : List Int), k + j = St.length → j < fuel → acc.length ≤ 4096 * k →
  jG N (w' : Int) (h : Int) (d : Int) K (r : Int) Ls St ph b0 b1 b2 b3 w sp g0 g1 g2 m0 m1 m2 m3 m4 m5 m6 m7 m8 cv am kk fuel (acc, (k : Int)) = match zP (w' : Int) (d : Int) K Ls h r k (St.drop k) acc with
   | none => some (0, 0, [], 1)
   | some P => kk (P, (St.length : Int)) := by
 have hcl := Du (H := h) (R := r) hR.1 hH.1;intro j
 induction j with
 | zero =>
  intro k fuel acc hk hf ha;obtain ⟨fuel, rfl⟩ : ∃ q, fuel = q + 1 := ⟨fuel - 1, by omega⟩
  unfold jG;rw [cF (dF (by omega)), List.drop_of_length_le (by omega), show k = St.length by omega]
  rfl
 | succ j ih =>
  intro k fuel acc hk hf ha;obtain ⟨fuel, rfl⟩ : ∃ q, fuel = q + 1 := ⟨fuel - 1, by omega⟩
  have hlt : k < St.length := by omega
  have BH := FQ (i := k) hR hH.2 (by omega);have hnx : IntKind.i64.wrap ((k : Int) + 1) = ((k + 1 : Nat) : Int) := by rw [iV (by omega)]; rfl
  have hm := Nat.mul_le_mul hW.2 (show rE h r k ≤ 64 by omega);unfold jG;obtain ⟨l, e, q1, q2⟩ := Np K Ls St ph b0 b1 b2 b3 w sp g0 g1 g2 m0 m1 m2 m3 m4 m5 m6 m7 m8 cv am N hN (W := (w' : Int)) (D := (d : Int)) (by omega) (by omega) hH hR (k := k) (by omega) hlt (hs St[k] (List.getElem_mem hlt));rw [cT (dT (by omega)), q1, aL, List.drop_eq_getElem_cons hlt];unfold zP
  rcases q2 with ⟨rfl, q2⟩ | ⟨rfl, q2⟩
  ·have hll := EV (by omega) BH q2;rw [Int.toNat_natCast, Int.toNat_natCast] at hll;rw [q2, cF (by rfl)]
   dsimp only
   rw [sG (by omega), aL, hnx, aL];exact ih (k + 1) fuel _ (by omega) (by omega) (by rw [List.length_append]; omega)
  ·rw [q2, cT (by rfl)]
theorem Nq (N : Nat) {k' r : Nat} (hr : 1 ≤ r ∧ r ≤ k') (hk : 1 ≤ k' ∧ k' ≤ 64) : nI N W (k' : Int) D K (r : Int) Ls St ph b0 b1 b2 b3 w sp g0 g1 g2 m0 m1 m2 m3 m4 m5 m6 m7 m8 cv am = some ((xZ k' r : Nat) : Int) := by
 have hcl := Du (H := k') (R := r) hr.1 hk.1;unfold nI;rw [Jy (by omega), aL, iV (x := (k' : Int) + r) (by omega), iV (x := (k' : Int) + r - 1) (by omega), show (k' : Int) + r - 1 = ((k' + r - 1 : Nat) : Int) by omega, show Int.tdiv ((k' + r - 1 : Nat) : Int) (r : Int) = (((k' + r - 1) / r : Nat) : Int) from rfl];exact congrArg some (iV (x := ((xZ k' r : Nat) : Int)) (by omega))
theorem Nr {f : Bool} (hb : gR 8589934592 cv = some f) (hs : ∀ y ∈ St, y.length ≤ 9223372036854775807) : lX 8589934592 W H D K R Ls St ph b0 b1 b2 b3 w sp g0 g1 g2 m0 m1 m2 m3 m4 m5 m6 m7 m8 cv am = some (Dv W H D K R Ls St ph b0 b1 b2 b3 w sp g0 g1 g2 m0 m1 m2 m3 m4 m5 m6 m7 m8 am f) := by
 unfold lX Dv;rw [Pz W H D K R Ls St ph b0 b1 b2 b3 w sp g0 g1 g2 m0 m1 m2 m3 m4 m5 m6 m7 m8 cv am 8589934592 (by decide), aL]
 by_cases h1 : vS W H D K R Ls = 0
 rotate_left
 ·rw [cT (by rw [decide_eq_false h1]; rfl), if_pos h1]
 obtain ⟨q1, q2, q3, q4⟩ := IR W H D K R Ls h1;rw [cF (by rw [decide_eq_true h1]; rfl), if_neg (fun q => q h1)];unfold zO at q1;obtain ⟨w', rfl⟩ := Int.eq_ofNat_of_zero_le (show 0 ≤ W by omega);obtain ⟨k', rfl⟩ := Int.eq_ofNat_of_zero_le (show 0 ≤ H by omega);obtain ⟨d, rfl⟩ := Int.eq_ofNat_of_zero_le (show 0 ≤ D by omega);obtain ⟨r, rfl⟩ := Int.eq_ofNat_of_zero_le (show 0 ≤ R by omega);rw [Nq _ _ K Ls St ph b0 b1 b2 b3 w sp g0 g1 g2 m0 m1 m2 m3 m4 m5 m6 m7 m8 cv am 8589934592 (by omega) (by omega), aL, Int.toNat_natCast, Int.toNat_natCast]
 by_cases h2 : St.length = xZ k' r
 rotate_left
 ·rw [cT (by rw [dF (by omega)]; rfl), if_pos h2]
 rw [cF (by rw [dT (by omega)]; rfl), if_neg (fun q => q h2), PA _ _ _ K _ Ls St ph b0 b1 b2 b3 w sp g0 g1 g2 m0 m1 m2 m3 m4 m5 m6 m7 m8 cv am hb (by omega) (by omega), aL]
 by_cases h3 : JQ (w' : Int) (k' : Int) ph b0 b1 b2 b3 w sp g0 g1 g2 m0 m1 m2 m3 m4 m5 m6 m7 m8 am f = 0
 rotate_left
 ·rw [cT (by rw [decide_eq_false h3]; rfl), if_pos h3]
 rw [cF (by rw [decide_eq_true h3]; rfl), if_neg (fun q => q h3)];have hcn := Du (H := k') (R := r) (by omega) (by omega);have key := IT K Ls St ph b0 b1 b2 b3 w sp g0 g1 g2 m0 m1 m2 m3 m4 m5 m6 m7 m8 cv am 8589934592 (by decide) (w' := w') (h := k') (r := r) (d := d) (by omega) (by omega) (by omega) (by omega) hs h2 (fun (OE, i4) => some ((w' : Int), (k' : Int), OE, (0 : Int))) St.length 0 8589934592 [] (by omega) (by omega) (by simp);rw [List.drop_zero] at key;refine Eq.trans key ?_
 cases zP (w' : Int) (d : Int) K Ls k' r 0 St [] <;> rfl
theorem Gx {W D K : Int} {Ls : List Int} {H R : Nat} (hW : 1 ≤ W ∧ W ≤ 64) (hR : 1 ≤ R ∧ R ≤ H) (hH : H ≤ 64) : ∀ (t : List (List UInt8)) (i : Nat) (acc P : List Int), zP W D K Ls H R i t acc = some P → i + t.length = xZ H R → P.length = acc.length + W.toNat * (H - i * R)
 | [], i, acc, P, h, hi => by
  injection h with h
  subst h;have := mt (cnt_lt (H := H) (i := i) hR.1).2 (by simp only [List.length_nil] at hi; omega);rw [show H - i * R = 0 by omega]; simp
 | s :: t, i, acc, P, h, hi => by
  have hlt : i < xZ H R := by rw [List.length_cons] at hi; omega
  have h1 := (cnt_lt (H := H) (i := i) hR.1).1 hlt;unfold zP at h
  split at h
  ·cases h
  ·rename_i l hl
   have hll := EV hW (FQ hR hH hlt) hl;rw [Int.toNat_natCast] at hll;have ih := Gx hW hR hH t (i + 1) _ P h (by rw [List.length_cons] at hi; omega);rw [ih, List.length_append, hll, Nat.add_assoc, ← Nat.mul_add]
   congr 2
   rw [Nat.add_mul];unfold rE
   omega
theorem LF (f : Bool) : (Dv W H D K R Ls St ph b0 b1 b2 b3 w sp g0 g1 g2 m0 m1 m2 m3 m4 m5 m6 m7 m8 am f).2.2.1.length ≤ 4096 := by
 unfold Dv
 by_cases h1 : vS W H D K R Ls = 0
 rotate_left
 ·rw [if_pos h1]; simp
 obtain ⟨q1, q2, q3, q4⟩ := IR W H D K R Ls h1;rw [if_neg (fun q => q h1)]
 by_cases h2 : St.length = xZ H.toNat R.toNat
 rotate_left
 ·rw [if_pos h2]; simp
 rw [if_neg (fun q => q h2)]
 split
 ·simp
 unfold zO at q1
 rcases hp : zP W D K Ls H.toNat R.toNat 0 St [] with _ | P
 ·simp
 ·have := Gx (by omega) (by omega) (by omega) St 0 [] P hp (by omega);have hm := Nat.mul_le_mul (show W.toNat ≤ 64 by omega) (show H.toNat ≤ 64 by omega);rw [Nat.zero_mul, Nat.sub_zero, List.length_nil, Nat.zero_add] at this;show P.length ≤ 4096
  omega
theorem JV {f : Bool} (hb : mF 8589934592 cv = some f) (hc : f = true ↔ uW cv) (hs : ∀ y ∈ St, y.length ≤ 9223372036854775807) : rD 8589934592 W H D K R Ls St ph b0 b1 b2 b3 w sp g0 g1 g2 m0 m1 m2 m3 m4 m5 m6 m7 m8 cv am = some (Dv W H D K R Ls St ph b0 b1 b2 b3 w sp g0 g1 g2 m0 m1 m2 m3 m4 m5 m6 m7 m8 am f).2.2.2 := by
 unfold rD;rw [Gw W H D K R Ls St ph b0 b1 b2 b3 w sp g0 g1 g2 m0 m1 m2 m3 m4 m5 m6 m7 m8 cv am hb hc hs, aL]
theorem Gy (hs : ∀ y ∈ St, y.length ≤ 9223372036854775807) : nG 8589934592 W H D K R Ls St ph b0 b1 b2 b3 w sp g0 g1 g2 m0 m1 m2 m3 m4 m5 m6 m7 m8 cv am = some true := by
 obtain ⟨f, hb, hb', hc⟩ := Lp cv;unfold nG;rw [Gw W H D K R Ls St ph b0 b1 b2 b3 w sp g0 g1 g2 m0 m1 m2 m3 m4 m5 m6 m7 m8 cv am hb hc hs, aL, Nr W H D K R Ls St ph b0 b1 b2 b3 w sp g0 g1 g2 m0 m1 m2 m3 m4 m5 m6 m7 m8 cv am hb' hs, aL, JT, aL, cT rfl, JV W H D K R Ls St ph b0 b1 b2 b3 w sp g0 g1 g2 m0 m1 m2 m3 m4 m5 m6 m7 m8 cv am hb hc hs, aL, cT (dT rfl), cT (dT rfl), RF 8589934592 (by decide) _ _ (LF W H D K R Ls St ph b0 b1 b2 b3 w sp g0 g1 g2 m0 m1 m2 m3 m4 m5 m6 m7 m8 am f)]; rfl
end
end
section
open Go.RowKit
section
variable {P : Program} {ops : Array Oper} {Q O : Exit → Act → World → Prop} {S : World → Prop} {oL need : Nat → Bool} {R : Act → World → Prop}
def Je (ops : Array Oper) (rem : List Nat) (i : Nat) : Bool := rem.all fun j => !waits ops i j
def wT (P : Program) (O : Exit → Act → World → Prop) (ops : Array Oper) (S : World → Prop) (oL need : Nat → Bool) (R : Act → World → Prop) : Nat → List Nat → Act → World → Prop
 | 0, rem, a, w => rem = [] ∧ R a w
 | n + 1, rem, a, w =>
  (∃ i ∈ rem, oL i = true ∧ Je ops rem i = true ∧ ∃ o, ops[i]? = some o ∧ ∃ v, sQ P ops S o v a ∧ wT P O ops S oL need R n (rem.erase i) (a.put o.dst v) w) ∨
  ((∀ i ∈ rem, oL i = true → Je ops rem i = false) ∧ ∀ c ∈ rem, oL c = false → Je ops rem c = true → wpOp P ops O c (fun a' w' => (need c = true → S w') ∧ wT P O ops S oL need R n (rem.erase c) a' w') a w)
def Dw (ops : Array Oper) (oL : Nat → Bool) (i j : Nat) : Bool :=
 match ops[i]?, ops[j]? with
 | some oi, some oj => waits ops i j || ((!oL i || oi.apart ops oj) && (!oL j || oj.apart ops oi))
 | _, _ => false
def JW (ops : Array Oper) (oL need : Nat → Bool) : Bool :=
 Region.noSelect ops && LX ops && ((List.range ops.size).all fun i => (List.range i).all fun j => Dw ops oL i j) &&
 (List.range ops.size).all fun i => oL i || need i || !FW ops oL i
def Ns (O : Exit → Act → World → Prop) : Prop := (∀ e a d v w, O e (a.put d v) w → O e a w) ∧ ¬ LetsOut O
theorem RT : Ns Aa := ⟨fun _ _ _ _ _ h => h.elim, fun ⟨_, _, h⟩ => h.elim⟩
theorem JX (hO : Ns O) {j : Nat} {oi oj : Oper} {v : Value} (hj : ops[j]? = some oj) (hap : oi.apart ops oj = true)
  (hsi : ∀ cs b, oi.op ≠ .select cs b) (hsj : ∀ cs b, oj.op ≠ .select cs b) {K : Act → World → Prop} {a : Act} {w : World}
  (hy : sQ P ops S oi v a) (h : wpOp P ops O j K (a.put oi.dst v) w) :
  wpOp P ops O j (fun a' w' => sQ P ops S oi v a' ∧ K (a'.put oi.dst v) w') a w := by
 obtain ⟨h1, h2, h3⟩ := Oper.apart_spec hap
 have keep : ∀ (a : Act), sQ P ops S oi v a → ∀ u, sQ P ops S oi v (a.put oj.dst u) := fun a hy u =>
  hy.same (execOp_put oi hsi a oj.dst u h3) (wanted_put oi a oj.dst u h3)
 have keepD : ∀ d, sQ P ops S oi v { a with defers := d :: a.defers } := fun d => hy.same rfl rfl
 unfold wpOp at *;simp only [hj] at *;rw [wanted_put oj a oi.dst v h1] at h
 split
 ·rename_i hw
  simp only [hw, if_true] at h
  rcases h with h | ⟨_, hl⟩
  case inr => exact absurd hl hO.2
  refine .inl ?_;unfold Oper.wp at *;rw [execOp_put oj hsj a oi.dst v h1] at h
  generalize (execOp a.eval oj).run P w = r at *
  cases r with
  | ok n w' =>
   cases n <;> simp only [Oper.upon] at h ⊢
   case value u => exact ⟨keep a hy u, by rw [← Act.put_comm a v u h2]; exact h⟩
   case skip => exact ⟨keep a hy _, by rw [← Act.put_comm a v undef h2]; exact h⟩
   case defer d =>
    refine ⟨keep _ (keepD d) _, ?_⟩;rw [← Act.put_comm _ v undef h2, ← Act.put_defers];exact h
   case enter f args =>
    refine Calls.mono h fun e w'' he => ?_
    cases e with
    | returned u => exact ⟨keep a hy u, by rw [← Act.put_comm a v u h2]; exact he⟩
    | panicked c => exact hO.1 _ _ _ _ _ he
    | outgrown => exact absurd he hO.2
   case row row args => exact Rows.mono h fun u w'' he => ⟨keep a hy u, by rw [← Act.put_comm a v u h2]; exact he⟩
  | halt x w' => cases x <;> simp only [Oper.upon] at h ⊢; exact hO.1 _ _ _ _ _ h
 ·rename_i hw
  simp only [hw] at h;exact ⟨keep a hy _, by rw [← Act.put_comm a v undef h2]; exact h⟩
theorem Nt (hO : Ns O) (hQ : ∀ e a w, O e a w → Q e a w) {i : Nat} {K : Act → World → Prop} {a : Act} {w : World} (h : wpOp P ops O i K a w) : wpOp P ops Q i K a w := by
  unfold wpOp at *
  split
  · rename_i h0
    simp only [h0] at h
    exact h
  · rename_i o ho
    simp only [ho] at h
    split
    · rename_i hw
      rw [if_pos hw] at h
      rcases h with h | ⟨_, hl⟩
      case inr => exact absurd hl hO.2
      refine .inl ?_
      unfold Oper.wp at *
      generalize (execOp a.eval o).run P w = r at *
      cases r with
      | ok n w' =>
        cases n <;> simp only [Oper.upon] at h ⊢ <;> first
          | exact h
          | (refine Calls.mono h fun e w'' he => ?_
             cases e with
             | returned u => exact he
             | panicked c => exact hQ _ _ _ he
             | outgrown => exact absurd he hO.2)
      | halt x w' => cases x <;> simp only [Oper.upon] at h ⊢; exact hQ _ _ _ h
    · rename_i hw
      rw [if_neg hw] at h
      exact h
theorem yN {rem : List Nat} {i k : Nat} (h : Je ops rem i = true) : Je ops (rem.erase k) i = true := by
 unfold Je at *;rw [List.all_eq_true] at *;exact fun j hj => h j (List.mem_of_mem_erase hj)
theorem u4 {rem : List Nat} {i j : Nat} (h : Je ops rem i = true) (hj : j ∈ rem) : waits ops i j = false := by
 unfold Je at h;rw [List.all_eq_true] at h
 simpa using h j hj
theorem Mq {i : Nat} {oi : Oper} (hi : ops[i]? = some oi) (hr : oL i = true) (hsel : ∀ (j : Nat) (o : Oper) cs b, ops[j]? = some o → o.op ≠ .select cs b)
  (uZ : ∀ j k oj ok, j ≠ k → ops[j]? = some oj → ops[k]? = some ok → waits ops j k = false → waits ops k j = false → (oL j = true → oj.apart ops ok = true)) :
  ∀ (n : Nat) (rem : List Nat) (a : Act) (w : World), i ∈ rem → Je ops rem i = true → wT P O ops S oL need R (n + 1) rem a w → ∃ v, sQ P ops S oi v a ∧ wT P O ops S oL need R n (rem.erase i) (a.put oi.dst v) w := by
 intro n
 induction n with
 | zero =>
  intro rem a w him hrd h
  rcases h with ⟨i0, hi0, hr0, hd0, o0, ho0, u, hu, h⟩ | ⟨hno, _⟩
  ·obtain ⟨hnil, hR⟩ := h
   have : i0 = i := by
    by_cases e : i0 = i
    ·exact e
    ·have : i ∈ rem.erase i0 := (List.mem_erase_of_ne (fun h => e h.symm)).2 him;rw [hnil] at this; cases this
   subst this;obtain rfl : o0 = oi := Option.some.inj (ho0.symm.trans hi);exact ⟨u, hu, hnil, hR⟩
  ·rw [hno i him hr] at hrd; cases hrd
 | succ n ih =>
  intro rem a w him hrd h
  rcases h with ⟨i0, hi0, hr0, hd0, o0, ho0, u, hu, h⟩ | ⟨hno, _⟩
  ·by_cases e : i0 = i
   ·subst e;obtain rfl : o0 = oi := Option.some.inj (ho0.symm.trans hi);exact ⟨u, hu, h⟩
   ·have aAl : i ∈ rem.erase i0 := (List.mem_erase_of_ne (fun h => e h.symm)).2 him;obtain ⟨v, hv, h⟩ := ih _ _ _ aAl (yN hrd) h;have w1 := u4 hrd hi0;have w2 := u4 hd0 him;have ap1 := uZ i i0 oi o0 (fun h => e h.symm) hi ho0 w1 w2 hr;have ap2 := uZ i0 i o0 oi e ho0 hi w2 w1 hr0;obtain ⟨p1, p2, p3⟩ := Oper.apart_spec ap1;obtain ⟨q1, q2, q3⟩ := Oper.apart_spec ap2;have hv' : sQ P ops S oi v a := hv.same (execOp_put oi (fun cs b => hsel i oi cs b hi) a o0.dst u p3).symm (wanted_put oi a o0.dst u p3).symm;refine ⟨v, hv', .inl ⟨i0, (List.mem_erase_of_ne e).2 hi0, hr0, yN hd0, o0, ho0, u, ?_, ?_⟩⟩
    ·exact hu.same (execOp_put o0 (fun cs b => hsel i0 o0 cs b ho0) a oi.dst v q3) (wanted_put o0 a oi.dst v q3)
    ·rw [List.erase_comm, Act.put_comm a v u p2]; exact h
  ·rw [hno i him hr] at hrd; cases hrd
theorem RU (hO : Ns O) {c : Nat} {oc : Oper} (hc : ops[c]? = some oc) (hrc : oL c = false) (hsel : ∀ (j : Nat) (o : Oper) cs b, ops[j]? = some o → o.op ≠ .select cs b)
  (uZ : ∀ j k oj ok, j ≠ k → ops[j]? = some oj → ops[k]? = some ok → waits ops j k = false → waits ops k j = false → (oL j = true → oj.apart ops ok = true)) :
  ∀ (n : Nat) (rem : List Nat) (a : Act) (w : World), c ∈ rem → Je ops rem c = true → wT P O ops S oL need R (n + 1) rem a w → wpOp P ops O c (fun a' w' => (need c = true → S w') ∧ wT P O ops S oL need R n (rem.erase c) a' w') a w := by
 intro n
 induction n with
 | zero =>
  intro rem a w hcm hrd h
  rcases h with ⟨i0, hi0, hr0, hd0, o0, ho0, u, hu, h⟩ | ⟨_, h⟩
  ·obtain ⟨hnil, hR⟩ := h;have e : i0 ≠ c := fun e => by subst e; rw [hrc] at hr0; cases hr0
   have : c ∈ rem.erase i0 := (List.mem_erase_of_ne (fun h => e h.symm)).2 hcm;rw [hnil] at this; cases this
  ·exact h c hcm hrc hrd
 | succ n ih =>
  intro rem a w hcm hrd h
  rcases h with ⟨i0, hi0, hr0, hd0, o0, ho0, u, hu, h⟩ | ⟨_, h⟩
  ·have e : i0 ≠ c := fun e => by subst e; rw [hrc] at hr0; cases hr0
   have hcm' : c ∈ rem.erase i0 := (List.mem_erase_of_ne (fun h => e h.symm)).2 hcm;have h2 := ih _ _ _ hcm' (yN hrd) h;have w1 := u4 hrd hi0;have w2 := u4 hd0 hcm;have ap := uZ i0 c o0 oc e ho0 hc w2 w1 hr0;have h3 := JX hO hc ap (fun cs b => hsel i0 o0 cs b ho0) (fun cs b => hsel c oc cs b hc) hu h2;refine wpOp_mono ?_ h3;rintro a' w' ⟨hy, hn, hk⟩;refine ⟨hn, .inl ⟨i0, (List.mem_erase_of_ne e).2 hi0, hr0, yN hd0, o0, ho0, u, hy, ?_⟩⟩;rw [List.erase_comm]; exact hk
  ·exact h c hcm hrc hrd
theorem BM {l : List Nat} (hl : l.Nodup) (i : Nat) : l.filter (· != i) = l.erase i := by
 rw [List.Nodup.erase_eq_filter hl]
theorem JY (hO : Ns O) (hQ : ∀ e a w, O e a w → Q e a w) (hok : JW ops oL need = true) : ∀ (fuel : Nat) (listed : Array Bool) (a : Act) (w : World), listed.size = ops.size → Closed ops listed → (jY ops listed).length = fuel →
  (∀ r ∈ jY ops listed, oL r = true → S w) → wT P O ops S oL need (Q .normal) fuel (jY ops listed) a w → wpAny P .any ops Q fuel listed a w := by
 simp only [JW, Bool.and_eq_true] at hok;obtain ⟨⟨⟨Ji, hback⟩, LG⟩, Jj⟩ := hok;have hsel := Region.noSelect_spec Ji;have hp : ∀ i < ops.size, ∀ j < i, Dw ops oL i j = true := fun i hi j hj => List.all_eq_true.1 (List.all_eq_true.1 LG i (List.mem_range.2 hi)) j (List.mem_range.2 hj)
 have uZ : ∀ j k oj ok, j ≠ k → ops[j]? = some oj → ops[k]? = some ok → waits ops j k = false → waits ops k j = false → (oL j = true → oj.apart ops ok = true) := by
  intro j k oj ok hjk hj hk w1 w2 hr;have hjl := (Array.getElem?_eq_some_iff.1 hj).1;have hkl := (Array.getElem?_eq_some_iff.1 hk).1
  rcases Nat.lt_or_gt_of_ne hjk with hlt | hlt
  ·have h := hp k hkl j hlt;unfold Dw at h;simp only [hj, hk, w2, Bool.false_or, Bool.and_eq_true, Bool.or_eq_true, Bool.not_eq_true'] at h
   rcases h.2 with h0 | h0
   ·rw [hr] at h0; cases h0
   ·exact h0
  ·have h := hp j hjl k hlt;unfold Dw at h;simp only [hj, hk, w1, Bool.false_or, Bool.and_eq_true, Bool.or_eq_true, Bool.not_eq_true'] at h
   rcases h.1 with h0 | h0
   ·rw [hr] at h0; cases h0
   ·exact h0
 have hbk : ∀ i o, ops[i]? = some o → ∀ e ∈ o.after, Region.binds .any e = true → e.on < i := fun i o ho e he hb => by
  have hi : i < ops.size := (Array.getElem?_eq_some_iff.1 ho).1;have h := List.all_eq_true.1 hback i (List.mem_range.2 hi);simp only [ho] at h;have h2 := Array.all_eq_true_iff_forall_mem.1 h e he
  simpa [hb] using h2
 have hnd : ∀ i < ops.size, oL i = false → ∀ r < ops.size, oL r = true → waits ops i r = false → need i = true := fun i hi BH r hr hrr hw => by
  have h := List.all_eq_true.1 Jj i (List.mem_range.2 hi);simp only [BH, Bool.false_or, Bool.or_eq_true, Bool.not_eq_true'] at h;refine h.resolve_right fun h0 => ?_
  have : FW ops oL i = true := by
   refine List.any_eq_true.2 ⟨r, List.mem_range.2 hr, ?_⟩;have : r ≠ i := fun e => by subst e; rw [BH] at hrr; cases hrr
   simp [hrr, hw, this]
  rw [this] at h0;cases h0
 intro fuel
 induction fuel with
 | zero =>
  intro listed a w hs hc hlen _ h;have hnil : jY ops listed = [] := List.eq_nil_of_length_eq_zero hlen;obtain ⟨_, h⟩ := h;refine ⟨?_, h⟩;refine List.eq_nil_iff_forall_not_mem.2 fun i hi => ?_
  obtain ⟨h0, o, ho, _⟩ := mem_ready.1 hi;have : i ∈ jY ops listed := lT.2 ⟨(Array.getElem?_eq_some_iff.1 ho).1, h0⟩;rw [hnil] at this;cases this
 | succ fuel ih =>
  intro listed a w hs hc hlen hS h;refine ⟨fun h0 => ?_, fun i hi => ?_⟩
  ·exfalso
   match hr : jY ops listed, hlen with
   | i0 :: rest, _ =>
    have hm0 : i0 ∈ jY ops listed := by rw [hr]; exact List.mem_cons_self ..
    obtain ⟨hlt, hun⟩ := lT.1 hm0;have Ab := tR (ops := ops) listed;rw [hr, List.pairwise_cons] at Ab
    have : i0 ∈ Region.ready .any ops listed := by
     refine mem_ready.2 ⟨hun, ops[i0], Array.getElem?_eq_getElem hlt, fun e he hb => ?_⟩;have hlt2 := hbk i0 _ (Array.getElem?_eq_getElem hlt) e he hb;cases hl : listed.getD e.on false with
     | true => rfl
     | false =>
      have hm : e.on ∈ jY ops listed := lT.2 ⟨by omega, by rw [yL (by omega)]; exact hl⟩;rw [hr] at hm
      rcases List.mem_cons.1 hm with hm | hm
      ·omega
      ·have := Ab.1 _ hm; omega
    rw [h0] at this;cases this
  ·obtain ⟨hun, oi, hoi, hall⟩ := mem_ready.1 hi;have hilt : i < ops.size := (Array.getElem?_eq_some_iff.1 hoi).1;have him : i ∈ jY ops listed := lT.2 ⟨hilt, hun⟩;have LH : (jY ops listed).Nodup := (tR (ops := ops) listed).imp fun h => Nat.ne_of_lt h
   have Ad : jY ops (listed.setIfInBounds i true) = (jY ops listed).erase i := by rw [Ev hs hilt, BM LH]
   have hlen' : (jY ops (listed.setIfInBounds i true)).length = fuel := by
    rw [Ad, List.length_erase_of_mem him]; omega
   have hs' : (listed.setIfInBounds i true).size = ops.size := by simpa using hs
   have hc' : Closed ops (listed.setIfInBounds i true) := by
    intro k hk j hj
    by_cases hik : i = k
    ·subst hik; exact getD_set_true (sT hi hj)
    ·rw [getD_set_ne false hik] at hk; exact getD_set_true (hc k hk j hj)
   have hrd : Je ops (jY ops listed) i = true := by
    unfold Je;rw [List.all_eq_true];intro j hj;obtain ⟨h1, h2⟩ := lT.1 hj;cases hw : waits ops i j with
    | false => rfl
    | true =>
     have := sT hi hw;rw [← yL (by omega), h2] at this; cases this
   cases BH : oL i with
   | true =>
    have hSw : S w := hS i him BH;obtain ⟨v, hv, hrest⟩ := Mq hoi BH hsel uZ fuel _ a w him hrd h;refine hv.run hoi hSw (ih _ _ _ hs' hc' hlen' (fun _ _ _ => hSw) (by rw [Ad]; exact hrest))
   | false =>
    have h2 := RU hO hoi BH hsel uZ fuel _ a w him hrd h;refine Nt hO hQ (wpOp_mono ?_ h2);rintro a' w' ⟨hn, hk⟩;refine ih _ _ _ hs' hc' hlen' ?_ (by rw [Ad]; exact hk);intro r hr hrr;rw [Ad] at hr;have hrm := List.mem_of_mem_erase hr;exact hn (hnd i hilt BH r (lT.1 hrm).1 hrr (u4 hrd hrm))
theorem IU (hO : Ns O) (hQ : ∀ e a w, O e a w → Q e a w) {id : Nat} {a : Act} {w : World} {l : List Oper} (S : World → Prop) (f : List Nat) (n : Nat) (rem : List Nat) (hm : P.follows .mixedOrders = true) (hok : JW l.toArray (pP f) (kN f) = true)
  (hl : List.range l.toArray.size = rem) (hn : rem.length = n) (hS : S w.drew) (h : wT P O l.toArray S (pP f) (kN f) (Q .normal) n rem a w.drew) : (Code.region id l.toArray true).wp P Q a w := by
 refine wp_region_any hm ?_
 have Fl : jY l.toArray (Array.replicate l.toArray.size false) = List.range l.toArray.size := by
  unfold jY;refine List.filter_eq_self.2 fun i hi => ?_
  have := List.mem_range.1 hi
  simp at this
  simp [this]
 refine JY hO hQ hok l.toArray.size (Array.replicate l.toArray.size false) a _ (by simp) ?_ (by rw [Fl]; simp) (fun _ _ _ => hS) ?_
 ·intro i hi;rw [wN] at hi;cases hi
 ·rw [Fl, hl];have : l.toArray.size = n := by rw [← hn, ← hl]; simp
  rw [this]; exact h
theorem vT {id : Nat} {a : Act} {w : World} {l : List Oper} (S : World → Prop) (f : List Nat) (n : Nat) (rem : List Nat) (hm : P.follows .mixedOrders = true) (hok : JW l.toArray (pP f) (kN f) = true)
  (hl : List.range l.toArray.size = rem) (hn : rem.length = n) (hS : S w.drew) (h : wT P Aa l.toArray S (pP f) (kN f) (Q .normal) n rem a w.drew) : (Code.region id l.toArray true).wp P Q a w :=
 IU RT (fun _ _ _ h => h.elim) S f n rem hm hok hl hn hS h
theorem put_defers (a : Act) (d : Option Nat) (v : Value) : (a.put d v).defers = a.defers := by cases d <;> rfl
variable {D : List Deferred} {a : Act} {w : World} {N : Nat} {l : List (Nat × Value)} {o : Oper} {v : Value} {post : Value → World → Prop} {d i c n : Nat} {rem Bz : List Nat} {f : List Nat}
theorem eT (i : Nat) (Bz : List Nat) (hc : (rem.elem i && pP f i && Je ops rem i && rem.erase i == Bz) = true) (ho : ops[i]? = some o) (K : Kd D a N l) (hw : Region.wanted o (yielded ops a.tmps) = true) (hd : o.dst = some d) (hN : Nat.blt d N = true) (hr : Rd P S a o v)
  (k : ∀ a', Kd D a' N ((d, v) :: l) → wT P O ops S (pP f) (kN f) R n Bz a' w) : wT P O ops S (pP f) (kN f) R (n + 1) rem a w := by
 simp only [Bool.and_eq_true, beq_iff_eq, List.elem_iff] at hc;obtain ⟨⟨⟨h1, h2⟩, h3⟩, rfl⟩ := hc;refine .inl ⟨i, h1, h2, h3, o, ho, v, .inl ⟨hw, hr⟩, ?_⟩;have := K.put (d := o.dst) (by rw [hd]; exact hN) v;rw [hd] at this ⊢;exact k _ this
def Up (p : Nat → Prop) : List Nat → Prop
 | [] => True
 | c :: cs => p c ∧ Up p cs
theorem JZ {p : Nat → Prop} : ∀ {cs : List Nat}, Up p cs → ∀ c ∈ cs, p c
 | [], _, c, h => by cases h
 | d :: cs, h, c, hc => by
  rcases List.mem_cons.1 hc with rfl | hc
  ·exact h.1
  ·exact JZ h.2 c hc
theorem j3 (cs : List Nat) (hc : ((rem.all fun i => !pP f i || !Je ops rem i) && (rem.filter fun c => !pP f c && Je ops rem c) == cs) = true)
  (h : Up (fun c => wpOp P ops O c (fun a' w' => (kN f c = true → S w') ∧ wT P O ops S (pP f) (kN f) R n (rem.erase c) a' w') a w) cs) : wT P O ops S (pP f) (kN f) R (n + 1) rem a w := by
 simp only [Bool.and_eq_true, beq_iff_eq] at hc;obtain ⟨h1, rfl⟩ := hc;refine .inr ⟨fun i hi hr => ?_, fun c hcm hr hrd => JZ h c (List.mem_filter.2 ⟨hcm, by simp [hr, hrd]⟩)⟩;have := List.all_eq_true.1 h1 i hi
 simpa [hr] using this
theorem oG (Bz : List Nat) (hc : (rem.erase c == Bz) = true) (ho : ops[c]? = some o) (K : Kd D a N l) (hw : Region.wanted o (yielded ops a.tmps) = true) (hd : o.dst = some d) (hN : Nat.blt d N = true) (h : Ac P o a w post)
  (k : ∀ v a' w', post v w' → Kd D a' N ((d, v) :: l) → (kN f c = true → S w') ∧ wT P O ops S (pP f) (kN f) R n Bz a' w') : wpOp P ops O c (fun a' w' => (kN f c = true → S w') ∧ wT P O ops S (pP f) (kN f) R n (rem.erase c) a' w') a w := by
 obtain rfl : rem.erase c = Bz := by simpa using hc
 unfold wpOp;simp only [ho, hw, if_true];refine .inl (h _ _ fun v w' hp => ?_);have := K.put (d := o.dst) (by rw [hd]; exact hN) v;rw [hd] at this ⊢;exact k v _ w' hp this
theorem zQ (Bz : List Nat) (hc : (rem.erase c == Bz) = true) (ho : ops[c]? = some o) (K : Kd D a N l) (hw : Region.wanted o (yielded ops a.tmps) = true) (hd : o.dst = none) (h : Ac P o a w post)
  (k : ∀ v a' w', post v w' → Kd D a' N l → (kN f c = true → S w') ∧ wT P O ops S (pP f) (kN f) R n Bz a' w') : wpOp P ops O c (fun a' w' => (kN f c = true → S w') ∧ wT P O ops S (pP f) (kN f) R n (rem.erase c) a' w') a w := by
 obtain rfl : rem.erase c = Bz := by simpa using hc
 unfold wpOp;simp only [ho, hw, if_true];refine .inl (h _ _ fun v w' hp => ?_);rw [hd];exact k v _ w' hp K
theorem Co {St Rt : Type} {Rel : St → Act → World → Prop} {kk : St → Option Rt} {jf : (St → Option Rt) → Option Rt} {r : Rt} {p : Code} (h : jf kk = some r) (hk : ∀ st a w, Rel st a w → kk st = some r → Q .normal a w)
  (hc : ∀ kk : St → Option Rt, (∀ st a w, Rel st a w → kk st = some r → Q .normal a w) → jf kk = some r → p.wp P Q a w) : p.wp P Q a w := hc kk hk h
def Bo (P : Program) (o : Oper) (a : Act) (w : World) (Pn : List PanicEntry → World → Prop) : Prop :=
 ∀ (K : Act → World → Prop) (Q : Exit → Act → World → Prop), (∀ ch w', Pn ch w' → Q (.panic ch) a w') → o.wp P a w K Q
theorem RW {Pn : List PanicEntry → World → Prop} {fi : FuncId} {x : Operand} {cap vs : List Value} {args : Array Operand} {ts : Array TypeId} (ho : o.op = .call { callee := .value x, args := args, argTypes := ts }) (hf : fD P fi = true) (K : Kd D a N l) (hx : kK l x = some (.func (.func fi) #[] cap.toArray)) (hargs : args.toList.map (kK l) = vs.map some)
  (h : Calls P fi (vs ++ cap).toArray w fun e w' => ∃ ch, e = .panicked ch ∧ Pn ch w') : Bo P o a w Pn := by
 have hE : args.map a.eval = vs.toArray := by
  apply Array.ext'
  simp only [Array.toList_map]
  have : ∀ (xs : List Operand) (vs : List Value), xs.map (kK l) = vs.map some → xs.map a.eval = vs := by
   intro xs
   induction xs with
   | nil => intro vs h; cases vs <;> simp_all
   | cons x xs ih =>
    intro vs h;cases vs with
    | nil => simp at h
    | cons v vs => simp only [List.map_cons, List.cons.injEq] at h ⊢; exact ⟨K.ev h.1, ih vs h.2⟩
  exact this _ _ hargs
 have hrun : (execOp a.eval o).run P w = .ok (.enter fi (vs ++ cap).toArray) w := by
  unfold fD at hf
  split at hf
  ·rename_i fn hfn
   simp only [Bool.and_eq_true, bne_iff_ne, ne_eq] at hf;obtain ⟨b, hb⟩ := Option.isSome_iff_exists.1 hf.1;unfold execOp
   simp [ho, resolve, K.ev hx, hE, Deferred.ofValue, invoke, callFunc, hfn, hb, hf.2]
  ·cases hf
 intro K' Q hK;unfold Oper.wp;rw [hrun, Oper.upon_enter];refine h.mono ?_;rintro e w' ⟨ch, rfl, hp⟩;exact hK ch w' hp
theorem qY {Pn : List PanicEntry → World → Prop} {x : Operand} {T : TypeId} {u : Value} (ho : o.op = .panic x) (K : Kd D a N l) (hx : kK l x = some (.iface T u)) (h : Pn [{ v := .iface T u, recovered := false }] w) : Bo P o a w Pn := by
 intro K2 Q2 hQ;unfold Oper.wp
 have : (execOp a.eval o).run P w = .halt (.panic (.iface T u)) w := by
  unfold execOp
  simp [ho, K.ev hx, run_panic_iface, Result.andThen]
 rw [this];exact hQ _ _ h
theorem qZ {rest : List Oper} {Pn : List PanicEntry → World → Prop} (K : Kd D a N l) (hw : Region.wanted o (yielded ops a.tmps) = true) (h : Bo P o a w Pn) (k : ∀ ch w', Pn ch w' → Q (.panic ch) a w') : wpList P ops Q (o :: rest) a w := by
 refine wpList_step fun Kc hK => ?_
 rw [if_pos hw];exact h _ _ k
theorem eN {K : Act → World → Prop} {ch : List PanicEntry} (h : Q (.panic ch) a w) : Exit.then K Q (.panic ch) a w := h
theorem jM {id : Nat} {ch : List PanicEntry} (h : Q (.panic ch) a w) : Exit.inBlock id Q (.panic ch) a w := h
theorem kJ {fn : Func} {Rp : Ending → World → Prop} {ch : List PanicEntry} (hd : a.defers = []) (h : Rp (.panicked ch) w) : bodyPost P fn Rp (.panic ch) a w := ⟨hd, h⟩
theorem q9 (h : R a w) : wT P O ops S (pP f) (kN f) R 0 [] a w := ⟨rfl, h⟩
end
section
variable {P : Program} {S : World → Prop} {base : Nat} {W w : World} {L : List mA} {D : List Deferred} {a : Act} {N : Nat} {l : List (Nat × Value)} {o : Oper} {v v' : Value} {x y ix : Operand} {k : IntKind} {m n : Int} {t e t' : TypeId} {g off : Nat} {cs : List Value} {α : Type} {C : tQ α} {xs ys zs : List α} {A B : Option Addr} {c c' : Nat}
theorem WU : (⟨g, off, none⟩ : Addr).add 0 = ⟨g, off, none⟩ := by unfold Addr.add; split <;> simp_all
theorem oM {len s : Nat} (ho : o.op = .slice t x none none none) (ht : P.underlying t = some (.array len e)) (hsz : (P.info? e).map (·.size) = some s) (K : Kd D a N l) (hx : kK l x = some (.pointer (some ⟨g, off, none⟩))) :
  Rd P S a o (.slice (some ⟨g, off, none⟩) len len) := fun w _ => by
 simp only [Option.map_eq_some_iff] at hsz;obtain ⟨i, rN, hs⟩ := hsz;unfold execOp
 simp [ho, K.ev hx, Instr.sliceAt, Instr.sliceBounds, Instr.sureAddr, run_underlying ht, sizeOf, typeInfo, rN, hs, WU]
theorem EW (hx : (cs.drop off).take (C.all xs).length = C.all xs) (h : lA w g t cs.toArray) : SL w C (some ⟨g, off, none⟩) xs := fun _ => ⟨g, off, rfl, fun j u hu => by
 rw [h.cell];have hj : j < (C.all xs).length := (List.getElem?_eq_some_iff.1 hu).1;rw [← hx, List.getElem?_take, if_pos hj, List.getElem?_drop] at hu
 simpa using hu⟩
theorem oA (ho : o.op = .makeInterface t x) (ht : P.concrete t = true) (K : Kd D a N l) (hx : kK l x = some v) : Rd P S a o (.iface t v) := fun w _ => by
 unfold execOp
 simp [ho, K.ev hx, run_makeInterface w t v ht]
def fdT (P : Program) (t : TypeId) (f : Nat) : Option (TypeId × Nat) := match P.underlying t with
 | some (.struct fs) => (fs[f]?).map fun fl => (fl.type, fl.offset)
 | _ => none
theorem Nu {f : Nat} (ho : o.op = .field t x f) (hf : fdT P t f = some (e, off)) (ht : G1 P e = true) (K : Kd D a N l) (hx : kK l x = some (.agg cs.toArray)) (hv : cs[off]? = some v) : Rd P S a o v := fun w _ => by
 unfold fdT at hf
 split at hf
 ·rename_i fs hu
  obtain ⟨fl, hfl, he⟩ := Option.map_eq_some_iff.1 hf;cases he;unfold execOp
  simp [ho, K.ev hx, Instr.field, run_underlying hu, hfl, part, asAgg, (vG ht w).1, hv]
 ·cases hf
theorem SL.Gz {C : tQ α} {A : Option Addr} {xs : List α} (h : SL w C A xs) (hA : A.isNone = true) : xs = [] := by
 rcases Nat.eq_zero_or_pos xs.length with h0 | h0
 ·exact List.length_eq_zero_iff.1 h0
 ·obtain ⟨b, o', rfl, _⟩ := h h0;cases hA
theorem yO {n : Nat} (ho : o.op = .binOp .eql t x y t') (ht : ∃ e, P.underlying t = some (.slice e)) (K : Kd D a N l) (hx : kK l x = some (.slice A n c)) (hy : kK l y = some (.slice none 0 0)) : Rd P S a o (.bool A.isNone) := fun w hS => by
 obtain ⟨e, ht⟩ := ht;unfold execOp;simp only [ho, K.ev hx, K.ev hy, Sem.run_bind];have h1 := Lib.run_eql_slice_nil (P := P) w t e A n c 0 0 ht
 cases A <;> simp [eqGuard, h1]
theorem Dx {b s : Nat} (ho : o.op = .buildSlice t 0 #[]) (ht : G5 P t e s b = true) (hs : s = C.size) (K : Kd D a N l) (M : Mem base W w L) :
  Ac P o a w fun v w' => ∃ g, v = .slice (some ⟨g, 0, none⟩) ([] : List α).length 0 ∧ Mem base W w' (.row e s (some ⟨g, 0, none⟩) ([] : List α).length 0 (C.all ([] : List α)) :: L) := by
 refine vI (v := .slice (some ⟨w.heap.size, 0, none⟩) 0 0) (w' := w.alloc (.cells #[] e)) ?_ ⟨_, rfl, ?_⟩
 ·obtain ⟨hu, i, rN, hsz, _⟩ := mQ ht;unfold execOp
  simp [ho, Instr.buildSlice, Sem.run_bind, run_underlying hu, Result.andThen_ok, sizeOf, typeInfo, run_program, rN, hsz, Instr.fill, newRow, run_newObj_alloc]
  congr 2
  exact Array.eq_empty_of_size_eq_zero (by simp)
 ·exact (M.new e []).lD 0 rfl C [] rfl rfl hs
theorem AQ {p : Code} {Q : Exit → Act → World → Prop} {w : World} (n : Nat) (h : Code.rounds P p Q n a w) : (Code.loop p).wp P Q a w := wp_loop_rounds n h
theorem kX {p : Code} {Q : Exit → Act → World → Prop} {w : World} {n : Nat} (h : p.wp P (Exit.then (Code.rounds P p Q n) Q) a w) : Code.rounds P p Q (n + 1) a w := h
end
abbrev I (n : Int) : Value := .int .i64 n
inductive Stp (P : Program) (ops : Array Oper) (S : World → Prop) (D : List Deferred) (N : Nat) (l : List (Nat × Value)) (o : Oper) (v : Value) : Prop where
 | yes (hw : ∀ a, Kd D a N l → Region.wanted o (yielded ops a.tmps) = true) (hr : ∀ a, Kd D a N l → Rd P S a o v)
 | no (hw : ∀ a, Kd D a N l → Region.wanted o (yielded ops a.tmps) = false) (hv : undef = v)
section
variable {P : Program} {base : Nat} {W w : World} {L : List mA} {S : World → Prop} {D : List Deferred} {a : Act} {N : Nat} {l : List (Nat × Value)} {o : Oper} {v : Value} {post : Value → World → Prop}
  {ops : Array Oper} {Q : Exit → Act → World → Prop} {R : Act → World → Prop} {rest : List Oper} {d : Nat} {f : List Nat}
theorem aI (K : Kd D a N l) (M : Mem base W w L) (k : ∀ a', Kd D a' N ((d, v) :: l) → wpList P ops Q rest a' w) (hd : o.dst = some d := by exact rfl) (hN : Nat.blt d N = true := by exact rfl)
    (hs : Stp P ops (fun w => Mem base W w L) D N l o v := by
      first
      | exact .no (fun a K => K.no rfl rfl rfl rfl) rfl
      | exact .no (fun a K => K.YI rfl rfl rfl) rfl
      | exact .yes (by first | exact fun a K => aD rfl | exact fun a K => K.yes rfl rfl rfl) (by
         first
         | exact fun a K => d3 rfl K rfl
         | exact fun a K => bK rfl K rfl
         | exact fun a K => iZ rfl K rfl rfl
         | exact fun a K => kZ rfl K rfl rfl
         | exact fun a K => p5 rfl K rfl
         | exact fun a K => sV rfl K rfl rfl
         | exact fun a K => rd_not rfl K rfl
         | exact fun a K => mM rfl K rfl rfl
         | exact fun a K => mE rfl K rfl rfl
         | exact fun a K => Cc rfl K rfl rfl
         | exact fun a K => EA rfl K rfl rfl
         | exact fun a K => EC rfl K rfl rfl
         | exact fun a K => H9 rfl K rfl rfl
         | exact fun a K => F5 rfl K rfl rfl
         | exact fun a K => H7 rfl K rfl rfl
         | exact fun a K => H8 rfl K rfl rfl
         | exact fun a K => Ic rfl K rfl rfl
         | exact fun a K => Ib rfl K rfl rfl
         | exact fun a K => Ia rfl K rfl rfl)) : wpList P ops Q (o :: rest) a w := by
  cases hs with
  | yes hw hr => exact QX K (hw a K) hd hN (hr a K) M k
  | no hw hv => subst hv; exact YU K (hw a K) hd hN k
theorem aQ (M : Mem base W w L) (k : ∀ a', Kd D a' N ((d, v) :: l) → wpList P ops Q rest a' w) (hd : o.dst = some d := by exact rfl) (hN : Nat.blt d N = true := by exact rfl)
    (hs : Stp P ops (fun w => Mem base W w L) D N l o v := by
      first
      | exact .no (fun a K => K.no rfl rfl rfl rfl) rfl
      | exact .no (fun a K => K.YI rfl rfl rfl) rfl
      | exact .yes (by first | exact fun a K => aD rfl | exact fun a K => K.yes rfl rfl rfl) (by
         first
         | exact fun a K => d3 rfl K rfl
         | exact fun a K => bK rfl K rfl
         | exact fun a K => iZ rfl K rfl rfl
         | exact fun a K => kZ rfl K rfl rfl
         | exact fun a K => p5 rfl K rfl
         | exact fun a K => sV rfl K rfl rfl
         | exact fun a K => rd_not rfl K rfl
         | exact fun a K => mM rfl K rfl rfl
         | exact fun a K => mE rfl K rfl rfl
         | exact fun a K => Cc rfl K rfl rfl
         | exact fun a K => EA rfl K rfl rfl
         | exact fun a K => EC rfl K rfl rfl
         | exact fun a K => H9 rfl K rfl rfl
         | exact fun a K => F5 rfl K rfl rfl
         | exact fun a K => H7 rfl K rfl rfl
         | exact fun a K => H8 rfl K rfl rfl
         | exact fun a K => Ic rfl K rfl rfl
         | exact fun a K => Ib rfl K rfl rfl
         | exact fun a K => Ia rfl K rfl rfl)) : ∀ a, Kd D a N l → wpList P ops Q (o :: rest) a w := fun a K => aI K M k hd hN hs
theorem bL (hr : ∀ a, Kd D a N l → Rd P (fun w => Mem base W w L) a o v) (M : Mem base W w L) (k : ∀ a', Kd D a' N ((d, v) :: l) → wpList P ops Q rest a' w)
  (hw : ∀ a, Kd D a N l → Region.wanted o (yielded ops a.tmps) = true := by first | exact fun a K => aD rfl | exact fun a K => K.yes rfl rfl rfl) (hd : o.dst = some d := by exact rfl) (hN : Nat.blt d N = true := by exact rfl) :
  ∀ a, Kd D a N l → wpList P ops Q (o :: rest) a w := fun a K => QX K (hw a K) hd hN (hr a K) M k
theorem d7 (K : Kd D a N l) (hr : Rd P (fun w => Mem base W w L) a o v) (M : Mem base W w L) (k : ∀ a', Kd D a' N ((d, v) :: l) → wpList P ops Q rest a' w)
  (hw : ∀ a, Kd D a N l → Region.wanted o (yielded ops a.tmps) = true := by first | exact fun a K => aD rfl | exact fun a K => K.yes rfl rfl rfl) (hd : o.dst = some d := by exact rfl) (hN : Nat.blt d N = true := by exact rfl) :
  wpList P ops Q (o :: rest) a w := QX K (hw a K) hd hN hr M k
theorem eA (K : Kd D a N l) (h : Ac P o a w post) (k : ∀ v a' w', post v w' → Kd D a' N ((d, v) :: l) → wpList P ops Q rest a' w')
  (hw : ∀ a, Kd D a N l → Region.wanted o (yielded ops a.tmps) = true := by first | exact fun a K => aD rfl | exact fun a K => K.yes rfl rfl rfl) (hd : o.dst = some d := by exact rfl) (hN : Nat.blt d N = true := by exact rfl) :
  wpList P ops Q (o :: rest) a w := VZ K (hw a K) hd hN h k
theorem nB (K : Kd D a N l) (h : Ac P o a w post) (k : ∀ v a' w', post v w' → Kd D a' N l → wpList P ops Q rest a' w')
  (hw : ∀ a, Kd D a N l → Region.wanted o (yielded ops a.tmps) = true := by first | exact fun a K => aD rfl | exact fun a K => K.yes rfl rfl rfl) (hd : o.dst = none := by exact rfl) :
  wpList P ops Q (o :: rest) a w := TH K (hw a K) hd h k
theorem pC (K : Kd D a N l) (k : ∀ a', Kd D a' N ((d, v) :: l) → qA P ops S R (marked f rest) a' w) (hd : o.dst = some d := by exact rfl) (hN : Nat.blt d N = true := by exact rfl)
    (hs : Stp P ops S D N l o v := by
      first
      | exact .no (fun a K => K.no rfl rfl rfl rfl) rfl
      | exact .no (fun a K => K.YI rfl rfl rfl) rfl
      | exact .yes (by first | exact fun a K => aD rfl | exact fun a K => K.yes rfl rfl rfl) (by
         first
         | exact fun a K => d3 rfl K rfl
         | exact fun a K => bK rfl K rfl
         | exact fun a K => iZ rfl K rfl rfl
         | exact fun a K => kZ rfl K rfl rfl
         | exact fun a K => p5 rfl K rfl
         | exact fun a K => sV rfl K rfl rfl
         | exact fun a K => rd_not rfl K rfl
         | exact fun a K => mM rfl K rfl rfl
         | exact fun a K => mE rfl K rfl rfl
         | exact fun a K => Cc rfl K rfl rfl
         | exact fun a K => EA rfl K rfl rfl
         | exact fun a K => EC rfl K rfl rfl
         | exact fun a K => H9 rfl K rfl rfl
         | exact fun a K => F5 rfl K rfl rfl
         | exact fun a K => H7 rfl K rfl rfl
         | exact fun a K => H8 rfl K rfl rfl
         | exact fun a K => Ic rfl K rfl rfl
         | exact fun a K => Ib rfl K rfl rfl
         | exact fun a K => Ia rfl K rfl rfl)) : qA P ops S R (marked (0 :: f) (o :: rest)) a w := by
  cases hs with
  | yes hw hr => exact TI K (hw a K) hd hN (hr a K) k
  | no hw hv => subst hv; exact YV K (hw a K) hd hN k
theorem kC (k : ∀ a', Kd D a' N ((d, v) :: l) → qA P ops S R (marked f rest) a' w) (hd : o.dst = some d := by exact rfl) (hN : Nat.blt d N = true := by exact rfl)
    (hs : Stp P ops S D N l o v := by
      first
      | exact .no (fun a K => K.no rfl rfl rfl rfl) rfl
      | exact .no (fun a K => K.YI rfl rfl rfl) rfl
      | exact .yes (by first | exact fun a K => aD rfl | exact fun a K => K.yes rfl rfl rfl) (by
         first
         | exact fun a K => d3 rfl K rfl
         | exact fun a K => bK rfl K rfl
         | exact fun a K => iZ rfl K rfl rfl
         | exact fun a K => kZ rfl K rfl rfl
         | exact fun a K => p5 rfl K rfl
         | exact fun a K => sV rfl K rfl rfl
         | exact fun a K => rd_not rfl K rfl
         | exact fun a K => mM rfl K rfl rfl
         | exact fun a K => mE rfl K rfl rfl
         | exact fun a K => Cc rfl K rfl rfl
         | exact fun a K => EA rfl K rfl rfl
         | exact fun a K => EC rfl K rfl rfl
         | exact fun a K => H9 rfl K rfl rfl
         | exact fun a K => F5 rfl K rfl rfl
         | exact fun a K => H7 rfl K rfl rfl
         | exact fun a K => H8 rfl K rfl rfl
         | exact fun a K => Ic rfl K rfl rfl
         | exact fun a K => Ib rfl K rfl rfl
         | exact fun a K => Ia rfl K rfl rfl)) : ∀ a, Kd D a N l → qA P ops S R (marked (0 :: f) (o :: rest)) a w := fun a K => pC K k hd hN hs
theorem g7 (hr : ∀ a, Kd D a N l → Rd P S a o v) (k : ∀ a', Kd D a' N ((d, v) :: l) → qA P ops S R (marked f rest) a' w)
  (hw : ∀ a, Kd D a N l → Region.wanted o (yielded ops a.tmps) = true := by first | exact fun a K => aD rfl | exact fun a K => K.yes rfl rfl rfl) (hd : o.dst = some d := by exact rfl) (hN : Nat.blt d N = true := by exact rfl) :
  ∀ a, Kd D a N l → qA P ops S R (marked (0 :: f) (o :: rest)) a w := fun a K => TI K (hw a K) hd hN (hr a K) k
theorem t6 (K : Kd D a N l) (hr : Rd P S a o v) (k : ∀ a', Kd D a' N ((d, v) :: l) → qA P ops S R (marked f rest) a' w)
  (hw : ∀ a, Kd D a N l → Region.wanted o (yielded ops a.tmps) = true := by first | exact fun a K => aD rfl | exact fun a K => K.yes rfl rfl rfl) (hd : o.dst = some d := by exact rfl) (hN : Nat.blt d N = true := by exact rfl) :
  qA P ops S R (marked (0 :: f) (o :: rest)) a w := TI K (hw a K) hd hN hr k
theorem wU (K : Kd D a N l) (h : Ac P o a w post) (k : ∀ v a' w', post v w' → Kd D a' N ((d, v) :: l) → S w' ∧ qA P ops S R (marked f rest) a' w')
  (hw : ∀ a, Kd D a N l → Region.wanted o (yielded ops a.tmps) = true := by first | exact fun a K => aD rfl | exact fun a K => K.yes rfl rfl rfl) (hd : o.dst = some d := by exact rfl) (hN : Nat.blt d N = true := by exact rfl) :
  qA P ops S R (marked (1 :: f) (o :: rest)) a w := V0 K (hw a K) hd hN h k
theorem QM (K : Kd D a N l) (h : Ac P o a w post) (k : ∀ v a' w', post v w' → Kd D a' N l → qA P ops S R (marked f rest) a' w')
  (hw : ∀ a, Kd D a N l → Region.wanted o (yielded ops a.tmps) = true := by first | exact fun a K => aD rfl | exact fun a K => K.yes rfl rfl rfl) (hd : o.dst = none := by exact rfl) :
  qA P ops S R (marked (2 :: f) (o :: rest)) a w := V1 K (hw a K) hd h k
end
end
end Go.Proofs.YtpmnfhifmmfglacGreatDoor
