/- Texts of the claim RawWrites, joined and made small by a program. -/
import Derived.KernelRfl
import Derived.Test.YtpmnfhifmmfglacGreatDoorRawWritesK4
import Derived.Test.YtpmnfhifmmfglacGreatDoorRawWritesK5
import Derived.Test.YtpmnfhifmmfglacGreatDoorRawWritesK6
set_option linter.unusedVariables false
set_option linter.unusedSimpArgs false
set_option linter.unusedSectionVars false
set_option maxRecDepth 100000
set_option maxHeartbeats 8000000
namespace Go.Proofs.YtpmnfhifmmfglacGreatDoor
section
open Go
theorem Lg (N : Nat) (s w : List UInt8) (hs : s.length ≤ 16777216) : mX N s w = some (w.isPrefixOf s) := by
 unfold mX;have e : w.isPrefixOf s = decide (w <+: s) := by rw [Bool.eq_iff_iff, List.isPrefixOf_iff_prefix, decide_eq_true_iff]
 rw [e]
 by_cases h : w.length ≤ s.length
 ·rw [cT (dT (by omega)), zL h, aC]
  congr 1
  rw [decide_eq_decide]
  constructor
  ·intro q; rw [← q]; exact List.take_prefix _ _
  ·intro q; exact (List.prefix_iff_eq_take.1 q).symm
 ·rw [cF (dF (by omega)), dF (fun q => h q.length_le)]
theorem TQ (N : Nat) {W : List (List UInt8)} (hW : W.length ≤ 1000) (hb : Hd W) {b : List UInt8} (hbl : b.length ≤ 16777216) : ∀ (j k fuel : Nat) (short : Bool), k + j = W.length → j < fuel →
  iR N W b (fun (LO, i8) => cond (LO) (some (0, 5)) (some (0, 4))) fuel (short, (k : Int)) =
   some (match (W.drop k).findIdx? (WZ b) with | some i => (((k + i : Nat) : Int), 0) | none => if (short || (W.drop k).any fun w => !w.isEmpty && b.isPrefixOf w) = true then (0, 5) else (0, 4)) := by
 intro j
 induction j with
 | zero =>
  intro k fuel short hk hf;obtain ⟨fuel, rfl⟩ := mN fuel (by omega);obtain rfl : k = W.length := by omega
  unfold iR;rw [cF (dF (by omega)), List.drop_length]
  cases short <;> rfl
 | succ j ih =>
  intro k fuel short hk hf;obtain ⟨fuel, rfl⟩ := mN fuel (by omega);have hlt : k < W.length := by omega
  have hnx : IntKind.i64.wrap ((k : Int) + 1) = ((k + 1 : Nat) : Int) := by rw [iE (by omega)]; rfl
  have hw := (hb _ (List.getElem_mem hlt)).2
  have hsh : ∀ (o : Option Nat) (s1 s2 : Bool), s1 = s2 → (match o.map (· + 1) with | some i => (((k + i : Nat) : Int), (0 : Int)) | none => if s1 = true then (0, 5) else (0, 4)) = (match o with | some i => (((k + 1 + i : Nat) : Int), 0) | none => if s2 = true then (0, 5) else (0, 4)) := by
   intro o s1 s2 hs;subst hs;cases o with
   | none => rfl
   | some i => show (((k + (i + 1) : Nat) : Int), (0 : Int)) = (((k + 1 + i : Nat) : Int), 0); rw [show k + (i + 1) = k + 1 + i by omega]
  unfold iR;rw [cT (dT (by omega)), gB, List.getElem?_eq_getElem hlt, aC, List.drop_eq_getElem_cons hlt, List.findIdx?_cons, List.any_cons]
  generalize W[k] = w at hw ⊢
  by_cases h0 : w = []
  ·subst h0;rw [cT (dT rfl), hnx, aC, ih (k + 1) fuel short (by omega) (by omega), show WZ b [] = false from rfl];rw [if_neg Bool.false_ne_true];exact congrArg some (hsh _ _ _ rfl).symm
  ·have he : (!w.isEmpty) = true := by cases hc : w; exact absurd hc h0; rfl
   have hi : WZ b w = w.isPrefixOf b := by unfold WZ; rw [he, Bool.true_and]
   rw [cF (dF h0), aC, Lg N b w hbl, aC, hi, he, Bool.true_and]
   by_cases h1 : w.isPrefixOf b = true
   ·rw [cT h1, if_pos h1]; rfl
   ·rw [cF ((Bool.not_eq_true _).mp h1), if_neg h1];cases short with
    | true =>
     rw [cT rfl, hnx, aC, ih (k + 1) fuel true (by omega) (by omega)];exact congrArg some (hsh _ _ _ rfl).symm
    | false =>
     rw [cF rfl, aC, Lg N w b (by omega), aC, hnx, aC, ih (k + 1) fuel _ (by omega) (by omega)];exact congrArg some (hsh _ _ _ rfl).symm
theorem front_eq (N : Nat) (hN : 1001 ≤ N) {W : List (List UInt8)} (hW : W.length ≤ 1000) (hb : Hd W) {b : List UInt8} (hbl : b.length ≤ 16777216) : pP N W b = some (match L5 W b with | some i => ((i : Int), 0) | none => (0, MQ W b)) := by
 unfold pP;have key := TQ N hW hb hbl W.length 0 N false (by omega) (by omega);rw [List.drop_zero] at key;refine Eq.trans key ?_;unfold L5 MQ
 congr 1
 cases h : List.findIdx? (WZ b) W with
 | some i => simp
 | none =>
  dsimp only
  rw [Bool.false_or]
  split <;> rfl
theorem He (W : List (List UInt8)) (b : List UInt8) : MQ W b ≠ 0 := by unfold MQ; split <;> decide
theorem uX (a b : List UInt8) : zY (a ++ b) = (zY a && zY b) := by unfold zY; rw [List.all_append]
theorem YJ (N : Nat) (l : List Int) (hl : l.length < N) (h2 : l.length ≤ 1000000) : lV N l l = some true := by
 unfold lV;rw [cF (by simp)];exact Tu N l _ (by omega) l.length 0 N (by omega) hl
def okE (e : Int) : Bool := decide (0 ≤ e ∧ e ≤ 65535)
def Vh (W H : Int) (P : List Int) : Bool := decide (DL W H P.length) && P.all okE
theorem TR (N : Nat) {P : List Int} (hP : P.length ≤ 4096) (kk) : ∀ (j k fuel : Nat), k + j = P.length → j < fuel → jN N P kk fuel (k : Int) = if (P.drop k).all okE = true then kk (P.length : Int) else some false := by
 intro j
 induction j with
 | zero =>
  intro k fuel hk hf;obtain ⟨fuel, rfl⟩ := mN fuel (by omega);obtain rfl : k = P.length := by omega
  unfold jN;rw [cF (dF (by omega)), List.drop_length, if_pos (by rfl)]
 | succ j ih =>
  intro k fuel hk hf;obtain ⟨fuel, rfl⟩ := mN fuel (by omega);have hlt : k < P.length := by omega
  have hnx : IntKind.i64.wrap ((k : Int) + 1) = ((k + 1 : Nat) : Int) := by rw [iE (by omega)]; rfl
  unfold jN;rw [cT (dT (by omega)), gB, List.getElem?_eq_getElem hlt, aC, t6, aC, List.drop_eq_getElem_cons hlt, List.all_cons]
  by_cases h1 : 0 ≤ P[k] ∧ P[k] ≤ 65535
  ·rw [cF (by rw [dT h1]; rfl), hnx, aC, ih (k + 1) fuel (by omega) (by omega), show okE P[k] = true from dT h1, Bool.true_and]
  ·rw [cT (by rw [dF h1]; rfl), if_neg];rw [show okE P[k] = false from dF h1]; simp
theorem Pb {W H : Int} {P : List Int} (h : ¬ DL W H P.length) : Vh W H P = false := by unfold Vh; rw [dF h]; rfl
theorem TS (N : Nat) (hN : 5000 ≤ N) (W H : Int) (P : List Int) : nD N W H P = some (Vh W H P) := by
 unfold nD;rw [t6, aC]
 by_cases h1 : 1 ≤ W ∧ W ≤ 64
 rotate_left
 ·rw [cT (by rw [dF h1]; rfl), Pb (fun h => by unfold DL at h; omega)]
 rw [cF (by rw [dT h1]; rfl), t6, aC]
 by_cases h3 : 1 ≤ H ∧ H ≤ 64
 rotate_left
 ·rw [cT (by rw [dF h3]; rfl), Pb (fun h => by unfold DL at h; omega)]
 have hb := Yu (W := W) (H := H) (by omega);rw [cF (by rw [dT h3]; rfl), iE (by omega)]
 by_cases h5 : (P.length : Int) = W * H
 rotate_left
 ·rw [cT (by rw [dF h5]; rfl), Pb (fun h => by unfold DL at h; exact h5 h.2.2.2.2)]
 have hs : DL W H P.length := ⟨by omega, by omega, by omega, by omega, h5⟩
 rw [cF (by rw [dT h5]; rfl)];have key := TR N (P := P) (by omega) (fun _ => some true) P.length 0 N (by omega) (by omega);refine Eq.trans key ?_;unfold Vh;rw [dT hs, Bool.true_and, List.drop_zero]
 split
 ·rename_i h; rw [h]
 ·rename_i h; rw [(Bool.not_eq_true _).mp h]
def YK (kind a b c : Int) : Int := if kind = 1 then a else if kind = 2 then b else if kind = 3 then c else if kind = 4 then a + b - c else if kind = 5 then a + (b - c) / 2 else if kind = 6 then b + (a - c) / 2 else (a + b) / 2
def gs (W : Nat) (P : List Int) (kind : Int) (i : Nat) : Int := if i = 0 then 32768 else if i / W = 0 then P.getD (i - 1) 0 else if i % W = 0 then P.getD (i - W) 0 else YK kind (P.getD (i - 1) 0) (P.getD (i - W) 0) (P.getD (i - W - 1) 0)
theorem YL {kind a b c : Int} (ha : 0 ≤ a ∧ a ≤ 65535) (hb : 0 ≤ b ∧ b ≤ 65535) (hc : 0 ≤ c ∧ c ≤ 65535) : -65535 ≤ YK kind a b c ∧ YK kind a b c ≤ 131070 := by
 unfold YK
 repeat' split
 all_goals omega
section
variable {P : List Int} (hP : ∀ e ∈ P, 0 ≤ e ∧ e ≤ 65535)
include hP in
theorem FL {j : Nat} (h : j < P.length) : idx P (j : Int) = some (P.getD j 0) ∧ 0 ≤ P.getD j 0 ∧ P.getD j 0 ≤ 65535 := by
 have e : P.getD j 0 = P[j] := by rw [List.getD_eq_getElem?_getD, List.getElem?_eq_getElem h]; rfl
 rw [e, gB, List.getElem?_eq_getElem h];exact ⟨rfl, hP _ (List.getElem_mem h)⟩
include hP in
theorem TT {W : Nat} {kind : Int} {i : Nat} (hW : 1 ≤ W) (hi : i < P.length) : -65535 ≤ gs W P kind i ∧ gs W P kind i ≤ 131070 := by
 unfold gs
 split
 ·omega
 ·split
  ·have := (FL hP (j := i - 1) (by omega)).2; omega
  ·split
   ·have := (FL hP (j := i - W) (by omega)).2; omega
   ·exact YL (FL hP (by omega)).2 (FL hP (by omega)).2 (FL hP (by omega)).2
theorem ND {i W : Nat} (h : i / W ≠ 0) : W ≤ i ∧ 0 < W := by
 rcases Nat.eq_zero_or_pos W with h0 | h0
 ·subst h0; simp at h
 ·refine ⟨?_, h0⟩
  rcases Nat.lt_or_ge i W with h1 | h1
  ·exact absurd (Nat.div_eq_of_lt h1) h
  ·exact h1
include hP in
theorem Pc (N : Nat) {W : Nat} (hW : 1 ≤ W ∧ W ≤ 64) {kind : Int} (hk : 1 ≤ kind ∧ kind ≤ 7) (H : Int) {i : Nat} (hi : i < P.length) (hl : P.length ≤ 4096) : pE N (W : Int) H P kind (i : Int) = some (gs W P kind i) := by
 unfold pE gs;obtain ⟨t1, t2⟩ := tdm (W := W) i (by omega);rw [Nl (by omega), aC, aC, t2, t1]
 by_cases h0 : i = 0
 ·rw [cT (dT (by omega)), if_pos h0]
 have hdl : i / W ≤ i := Nat.div_le_self _ _;rw [cF (dF (by omega)), if_neg h0, iE (x := ((i / W : Nat) : Int)) ⟨Int.le_trans (by decide) (Int.natCast_nonneg _), Int.le_trans (Int.ofNat_le.2 hdl) (by omega)⟩];have e1 : IntKind.i64.wrap ((i : Int) - 1) = ((i - 1 : Nat) : Int) := by rw [iE (by omega)]; omega
 by_cases h1 : i / W = 0
 ·rw [cT (dT (by rw [h1]; rfl)), if_pos h1, e1, (FL hP (j := i - 1) (by omega)).1]; rfl
 obtain ⟨hWi, hW0⟩ := ND h1;have e2 : IntKind.i64.wrap ((i : Int) - (W : Int)) = ((i - W : Nat) : Int) := by rw [iE (by omega)]; omega
 rw [cF (dF (fun h => h1 (by exact_mod_cast h))), if_neg h1, e2]
 by_cases h2 : i % W = 0
 ·rw [cT (dT (by rw [h2]; rfl)), if_pos h2, (FL hP (j := i - W) (by omega)).1]; rfl
 have hlt : W < i := by
  rcases Nat.lt_or_ge W i with h | h
  ·exact h
  ·obtain rfl : i = W := by omega
   simp at h2
 have e3 : IntKind.i64.wrap (((i - W : Nat) : Int) - 1) = ((i - W - 1 : Nat) : Int) := by rw [iE (by omega)]; omega
 obtain ⟨a1, a2⟩ := FL hP (j := i - 1) (by omega);obtain ⟨b1, b2⟩ := FL hP (j := i - W) (by omega);obtain ⟨c1, c2⟩ := FL hP (j := i - W - 1) (by omega);rw [cF (dF (fun h => h2 (by exact_mod_cast h))), if_neg h2, e1, a1, aC, b1, aC, e3, c1, aC]
 generalize P.getD (i - 1) 0 = a at *
 generalize P.getD (i - W) 0 = b at *
 generalize P.getD (i - W - 1) 0 = c at *
 have s1 : ∀ m : Int, dP .i64 m 1 = m / 2 := fun m => Yw m 1 (by decide)
 rw [s1, s1, s1, iE (x := a + b) (by omega), iE (x := a + b - c) (by omega), iE (x := b - c) (by omega), iE (x := a - c) (by omega), iE (x := a + (b - c) / 2) (by omega), iE (x := b + (a - c) / 2) (by omega)];unfold YK
 rcases (show kind = 1 ∨ kind = 2 ∨ kind = 3 ∨ kind = 4 ∨ kind = 5 ∨ kind = 6 ∨ kind = 7 by omega) with rfl | rfl | rfl | rfl | rfl | rfl | rfl <;> rfl
include hP in
theorem Hf (N : Nat) {W x y : Nat} (H : Int) (hW : W ≤ 64) (hx : x ≤ 64) (hy : y ≤ 64) (h : y * W + x < P.length) : gG N (W : Int) H P (x : Int) (y : Int) = some (P.getD (y * W + x) 0) := by
 have hyw : y * W ≤ 64 * 64 := Nat.mul_le_mul hy hW;have e : (y : Int) * (W : Int) = ((y * W : Nat) : Int) := by simp
 have e2 : IntKind.i64.wrap (IntKind.i64.wrap ((y : Int) * (W : Int)) + (x : Int)) = ((y * W + x : Nat) : Int) := by
  rw [e, iE (x := ((y * W : Nat) : Int)) (by omega), iE (by omega)]; omega
 unfold gG;rw [e2, (FL hP h).1]; rfl
include hP in
theorem Jw (N : Nat) {W : Nat} (hW : 1 ≤ W ∧ W ≤ 64) {kind : Int} (hk : 1 ≤ kind ∧ kind ≤ 7) (H : Int) {x y : Nat} (hx : x < W) (hy : y < 64) (hi : y * W + x < P.length) (hl : P.length ≤ 4096) : iJ N (W : Int) H P kind (x : Int) (y : Int) = some (gs W P kind (y * W + x)) := by
 obtain ⟨d1, d2⟩ := dm (W := W) y hx
 have fin : ∀ (a b c : Int), 0 ≤ a ∧ a ≤ 65535 → 0 ≤ b ∧ b ≤ 65535 → 0 ≤ c ∧ c ≤ 65535 → (cond (decide (kind = 1)) (
   some a) (
   cond (decide (kind = 2)) (
   some b) (
   cond (decide (kind = 3)) (
   some c) (
   cond (decide (kind = 4)) (
   some (IntKind.i64.wrap ((IntKind.i64.wrap (a + b)) - c))) (
   cond (decide (kind = 5)) (
   Option.bind (dS N (IntKind.i64.wrap (b - c)) 2) fun GO =>
   some (IntKind.i64.wrap (a + GO))) (
   cond (decide (kind = 6)) (
   Option.bind (dS N (IntKind.i64.wrap (a - c)) 2) fun r16 =>
   some (IntKind.i64.wrap (b + r16))) (
   Option.bind (dS N (IntKind.i64.wrap (a + b)) 2) fun BD =>
   some BD)))))) : Option Int) = some (YK kind a b c) := by
  intro a b c ha hb hc;rw [iE (x := a + b) (by omega), iE (x := a + b - c) (by omega), iE (x := b - c) (by omega), iE (x := a - c) (by omega), IH N (by omega) (by omega), IH N (by omega) (by omega), IH N (by omega) (by omega), aC, aC, aC, iE (x := a + (b - c) / 2) (by omega), iE (x := b + (a - c) / 2) (by omega)];unfold YK
  rcases (show kind = 1 ∨ kind = 2 ∨ kind = 3 ∨ kind = 4 ∨ kind = 5 ∨ kind = 6 ∨ kind = 7 by omega) with rfl | rfl | rfl | rfl | rfl | rfl | rfl <;> rfl
 unfold iJ gs;rw [d2, d1]
 by_cases h0 : x = 0
 ·subst h0;rw [cT (dT (by rfl))]
  by_cases h1 : y = 0
  ·subst h1;rw [cT (dT (by rfl)), if_pos (by simp)]
  ·have hyw : 1 ≤ y * W := Nat.mul_pos (by omega) (by omega);have e : IntKind.i64.wrap ((y : Int) - 1) = ((y - 1 : Nat) : Int) := by rw [iE (by omega)]; omega
   have e2 : (y - 1) * W + 0 = y * W + 0 - W := by rw [Nat.sub_mul]; omega
   have hle : (y - 1) * W ≤ y * W := Nat.mul_le_mul_right _ (by omega);rw [cF (dF (by omega)), cF (dF (by omega)), cT (dT (by rfl)), e];have := Hf hP N (W := W) (x := 0) (y := y - 1) H (by omega) (by omega) (by omega) (by omega);rw [show ((0 : Nat) : Int) = 0 from rfl] at this;rw [this, aC, if_neg (by omega), if_neg (by omega), if_pos rfl, e2]
 ·rw [cF (dF (by omega))];have ex : IntKind.i64.wrap ((x : Int) - 1) = ((x - 1 : Nat) : Int) := by rw [iE (by omega)]; omega
  by_cases h1 : y = 0
  ·subst h1;have := Hf hP N (W := W) (x := x - 1) (y := 0) H (by omega) (by omega) (by omega) (by omega);rw [show ((0 : Nat) : Int) = 0 from rfl] at this;rw [cT (dT (by rfl)), ex, this, aC, if_neg (by omega), if_pos rfl]
   congr 2
   omega
  ·have e : IntKind.i64.wrap ((y : Int) - 1) = ((y - 1 : Nat) : Int) := by rw [iE (by omega)]; omega
   have hsub : (y - 1) * W = y * W - W := by rw [Nat.sub_mul]; omega
   have hyw : W ≤ y * W := Nat.le_mul_of_pos_left W (by omega);rw [cF (dF (by omega)), cF (dF (by omega)), ex, e, Hf hP N (W := W) (x := x - 1) (y := y) H (by omega) (by omega) (by omega) (by omega), aC, Hf hP N (W := W) (x := x) (y := y - 1) H (by omega) (by omega) (by omega) (by omega), aC, Hf hP N (W := W) (x := x - 1) (y := y - 1) H (by omega) (by omega) (by omega) (by omega), aC, if_neg (by omega), if_neg (by omega), if_neg (by omega)];rw [show y * W + (x - 1) = y * W + x - 1 by omega, show (y - 1) * W + x = y * W + x - W by omega, show (y - 1) * W + (x - 1) = y * W + x - W - 1 by omega];exact fin _ _ _ (FL hP (by omega)).2 (FL hP (by omega)).2 (FL hP (by omega)).2
end
theorem VW {W H : Int} {P : List Int} (h : Vh W H P = true) : ∃ w k : Nat, W = w ∧ H = k ∧ 1 ≤ w ∧ w ≤ 64 ∧ 1 ≤ k ∧ k ≤ 64 ∧ P.length = w * k ∧ w * k ≤ 4096 ∧ ∀ e ∈ P, 0 ≤ e ∧ e ≤ 65535 := by
 unfold Vh at h;rw [Bool.and_eq_true] at h;obtain ⟨h1, h2⟩ := h;obtain ⟨a, b, c, d, e⟩ := of_decide_eq_true h1;obtain ⟨w, rfl⟩ := Int.eq_ofNat_of_zero_le (show 0 ≤ W by omega);obtain ⟨k, rfl⟩ := Int.eq_ofNat_of_zero_le (show 0 ≤ H by omega);have hm := Nat.mul_le_mul (show w ≤ 64 by omega) (show k ≤ 64 by omega);exact ⟨w, k, rfl, rfl, by omega, by omega, by omega, by omega, by exact_mod_cast e, by omega, fun e he => of_decide_eq_true (List.all_eq_true.1 h2 e he)⟩
def bl (n : Nat) : Nat := if n = 0 then 0 else Nat.log2 n + 1
theorem Qf {n : Nat} (h : 0 < n) : bl n = bl (n / 2) + 1 := by
 unfold bl;rw [if_neg (by omega)]
 by_cases h2 : 2 ≤ n
 ·rw [if_neg (by omega), Nat.log2_def, if_pos h2]
 ·obtain rfl : n = 1 := by omega
  rfl
theorem FM : ∀ (k n : Nat), bl n ≤ k ↔ n < 2 ^ k
 | 0, n => by
  unfold bl
  split
  ·subst n; simp
  ·rw [Nat.pow_zero]; omega
 | k + 1, n => by
  rcases Nat.eq_zero_or_pos n with rfl | h
  ·have := Nat.two_pow_pos (k + 1); simp [bl, this]
  ·have ih := FM k (n / 2);rw [Qf h, Nat.pow_succ]
   constructor
   ·intro q;have := ih.1 (by omega)
    omega
   ·intro q;have := ih.2 (by omega)
    omega
def Dy (d : Int) : Nat := bl (max d (-d)).toNat
theorem Pd (N : Nat) : ∀ (j : Nat) (k n fuel : Nat), bl k = j → j < fuel → n + j ≤ 1000 → k ≤ 1000000 → kW N (fun (n4, k5) => some n4) fuel ((n : Int), (k : Int)) = some ((n + j : Nat) : Int) := by
 intro j
 induction j with
 | zero =>
  intro k n fuel hb hf hn hk;obtain ⟨fuel, rfl⟩ := mN fuel (by omega);have := (FM 0 k).1 (by omega);unfold kW;rw [cF (dF (by omega))]; rfl
 | succ j ih =>
  intro k n fuel hb hf hn hk;obtain ⟨fuel, rfl⟩ := mN fuel (by omega)
  have hk0 : 0 < k := by
   rcases Nat.eq_zero_or_pos k with rfl | h
   ·simp [bl] at hb
   ·exact h
  have hb2 := Qf hk0;unfold kW;rw [cT (dT (by omega)), iE (x := (n : Int) + 1) (by omega), aC, show Int.tdiv (k : Int) 2 = ((k / 2 : Nat) : Int) from rfl, iE (x := ((k / 2 : Nat) : Int)) (by omega), aC, show (n : Int) + 1 = ((n + 1 : Nat) : Int) by rfl, ih (k / 2) (n + 1) fuel (by omega) (by omega) (by omega) (by omega)]
  congr 2
  omega
theorem Qg {d : Int} (h : -32768 < d ∧ d ≤ 32768) : Dy d ≤ 16 := (FM 16 _).2 (by omega)
theorem Jx (N : Nat) (hN : 100 ≤ N) {d : Int} (h : -32768 < d ∧ d ≤ 32768) : mK N d = some ((Dy d : Nat) : Int) := by
 have hc := Qg h;unfold mK;rw [iE (x := 0 - d) (by omega), aC, show max d (0 - d) = (((max d (-d)).toNat : Nat) : Int) by omega];have := Pd N (Dy d) (max d (-d)).toNat 0 N rfl (by omega) (by omega) (by omega);rw [Nat.zero_add] at this;exact this
def TU (d : Int) : List UInt8 := if Dy d = 0 ∨ Dy d = 16 then [] else yV (pV 2 (Dy d) (if 0 < d then d else d + ((2 ^ Dy d : Nat) : Int) - 1).toNat)
theorem TV {d : Int} : -((2 ^ Dy d : Nat) : Int) < d ∧ d < ((2 ^ Dy d : Nat) : Int) := by
 have h := (FM (Dy d) (max d (-d)).toNat).1 (Nat.le_refl _);have h2 : (((max d (-d)).toNat : Nat) : Int) < ((2 ^ Dy d : Nat) : Int) := Int.ofNat_lt.2 h
 omega
theorem VX {d : Int} : Dy d = 0 ↔ d = 0 := by
 have := FM 0 (max d (-d)).toNat;unfold Dy
 constructor
 ·intro h; have := this.1 (by omega); omega
 ·intro h; have := this.2 (by omega); omega
theorem aEh {d : Int} (h : Dy d ≠ 0) (h2 : Dy d ≠ 16) (hd : -32768 < d ∧ d ≤ 32768) : vW (if 0 < d then d else d + ((2 ^ Dy d : Nat) : Int) - 1) ((Dy d : Nat) : Int) = 0 := by
 have hc := Qg hd;have hl := TV (d := d);have h0 : d ≠ 0 := fun e => h (VX.2 e)
 unfold vW;rw [if_pos (by omega), Int.toNat_natCast, if_pos]
 split
 ·omega
 ·omega
theorem VY (N : Nat) (hN : 100 ≤ N) {d : Int} (h : -32768 < d ∧ d ≤ 32768) : qN N d = some (TU d) := by
 have hc := Qg h;unfold qN TU;rw [Jx N hN h, aC]
 by_cases h0 : Dy d = 0
 ·rw [cT (dT (by omega)), if_pos (.inl h0)]
 rw [cF (dF (by omega))]
 by_cases h1 : Dy d = 16
 ·rw [cT (dT (by omega)), if_pos (.inr h1)]
 have hv := aEh h0 h1 h;have hp := AB (d := Dy d) hc;have hl := TV (d := d);rw [cF (dF (by omega)), if_neg (by omega)]
 by_cases h2 : 0 < d
 ·rw [if_pos h2] at hv;rw [cT (dT h2), Js N hN hv, aC, Int.toNat_natCast, if_pos h2]
 ·rw [if_neg h2] at hv;rw [cF (dF h2), zJ, aC, DN hc, iE (x := d + _) (by omega), iE (x := d + _ - 1) (by omega), Js N hN hv, aC, Int.toNat_natCast, if_neg h2]
def dfn (n g : Int) : Int := if 32768 < (n - g) % 65536 then (n - g) % 65536 - 65536 else (n - g) % 65536
theorem YM (n g : Int) : -32768 < dfn n g ∧ dfn n g ≤ 32768 := by unfold dfn; split <;> omega
theorem Pe (N : Nat) {d : Int} (h : -200000 ≤ d ∧ d ≤ 32768) {fuel : Nat} (hf : 5 ≤ fuel) : fM N (fun d9 => some d9) fuel d = some (dfn d 0) := by
 obtain ⟨fuel, rfl⟩ : ∃ q, fuel = q + 5 := ⟨fuel - 5, by omega⟩
 have key : ∀ (e : Int) (m : Nat), -32768 < e → e ≤ 32768 → e % 65536 = d % 65536 → fM N (fun d9 => some d9) (m + 1) e = some (dfn d 0) := by
  intro e m h1 h2 h3;unfold fM;rw [cF (dF (by omega))]
  congr 1
  unfold dfn
  split <;> omega
 by_cases h1 : -32768 < d
 ·exact key d _ h1 h.2 rfl
 unfold fM;rw [cT (dT (by omega)), iE (x := d + 65536) (by omega), aC]
 by_cases h2 : -32768 < d + 65536
 ·exact key (d + 65536) _ h2 (by omega) (by omega)
 unfold fM;rw [cT (dT (by omega)), iE (x := d + 65536 + 65536) (by omega), aC]
 by_cases h3 : -32768 < d + 65536 + 65536
 ·exact key (d + 65536 + 65536) _ h3 (by omega) (by omega)
 unfold fM;rw [cT (dT (by omega)), iE (x := d + 65536 + 65536 + 65536) (by omega), aC];exact key (d + 65536 + 65536 + 65536) _ (by omega) (by omega) (by omega)
theorem Qh {a b : Int} (h : a % 65536 = b % 65536) : dfn a 0 = dfn b 0 := by unfold dfn; rw [Int.sub_zero, Int.sub_zero, h]
theorem difference_eq (N : Nat) (hN : 100 ≤ N) {n g : Int} (hn : 0 ≤ n ∧ n ≤ 65535) (hg : -65535 ≤ g ∧ g ≤ 131070) : mO N n g = some (dfn n g) := by
 have e0 : dfn n g = dfn (n - g) 0 := by unfold dfn; rw [Int.sub_zero]
 unfold mO;rw [iE (x := n - g) (by omega), aC, e0];obtain ⟨M, rfl⟩ : ∃ q, N = q + 5 := ⟨N - 5, by omega⟩
 generalize hd : n - g = d
 by_cases h1 : 32768 < d
 ·unfold gQ;rw [cT (dT h1), iE (x := d - 65536) (by omega), aC]
  by_cases h2 : 32768 < d - 65536
  ·unfold gQ;rw [cT (dT h2), iE (x := d - 65536 - 65536) (by omega), aC];unfold gQ;rw [cF (dF (by omega)), Pe _ (by omega) (by omega)];exact congrArg some (Qh (by omega))
  ·unfold gQ;rw [cF (dF h2), Pe _ (by omega) (by omega)];exact congrArg some (Qh (by omega))
 ·unfold gQ;rw [cF (dF h1), Pe _ (by omega) (by omega)]
def ds (W : Nat) (P : List Int) (kind : Int) : List Int := (List.range P.length).map fun i => dfn (P.getD i 0) (gs W P kind i)
section
variable {W H : Nat} {P : List Int} (hP : ∀ e ∈ P, 0 ≤ e ∧ e ≤ 65535) (hW : 1 ≤ W ∧ W ≤ 64) (hH : 1 ≤ H ∧ H ≤ 64) (hl : P.length = W * H) (hl2 : W * H ≤ 4096) {kind : Int} (hk : 1 ≤ kind ∧ kind ≤ 7)
include hP hW hH hl hl2 hk
theorem VZ (N : Nat) (hN : 100 ≤ N) {y : Nat} (hy : y < H) (kk) : ∀ (j x fuel : Nat), x + j = W → j < fuel →
  iQ N (W : Int) (H : Int) P kind (y : Int) kk fuel ((List.range (y * W + x)).map (fun i => dfn (P.getD i 0) (gs W P kind i)), (x : Int)) = kk ((List.range ((y + 1) * W)).map (fun i => dfn (P.getD i 0) (gs W P kind i)), (W : Int)) := by
 intro j
 induction j with
 | zero =>
  intro x fuel hx hf;obtain ⟨fuel, rfl⟩ := mN fuel (by omega);obtain rfl : x = W := by omega
  unfold iQ;rw [cF (dF (by omega)), Nat.add_mul, Nat.one_mul]
 | succ j ih =>
  intro x fuel hx hf;obtain ⟨fuel, rfl⟩ := mN fuel (by omega);have hpl := Tj (W := W) (H := H) (x := x) (y := y) (by omega) hy;have hg := TT hP (W := W) (kind := kind) (i := y * W + x) hW.1 (by omega)
  have hs : (List.range (y * W + x)).map (fun i => dfn (P.getD i 0) (gs W P kind i)) ++ [dfn (P.getD (y * W + x) 0) (gs W P kind (y * W + x))] = (List.range (y * W + (x + 1))).map (fun i => dfn (P.getD i 0) (gs W P kind i)) := by
   rw [show y * W + (x + 1) = y * W + x + 1 by omega, List.range_succ, List.map_append, List.map_singleton]
  unfold iQ;rw [cT (dT (by omega)), Hf hP N (W := W) (x := x) (y := y) _ (by omega) (by omega) (by omega) (by omega), aC, Jw hP N hW hk _ (by omega) (by omega) (by omega) (by omega), aC, difference_eq N hN (FL hP (by omega)).2 hg, aC, kY (by simp; omega), aC, hs, iE (x := (x : Int) + 1) (by omega), aC];exact ih (x + 1) fuel (by omega) (by omega)
theorem V0 (N : Nat) (hN : 100 ≤ N) : oH N (W : Int) (H : Int) P kind = some (ds W P kind) := by
 have main : ∀ (j y fuel : Nat), y + j = H → j < fuel → hG N (W : Int) (H : Int) P kind (fun (VE, y5) => some VE) fuel ((List.range (y * W)).map (fun i => dfn (P.getD i 0) (gs W P kind i)), (y : Int)) = some (ds W P kind) := by
  intro j
  induction j with
  | zero =>
   intro y fuel hx hf;obtain ⟨fuel, rfl⟩ := mN fuel (by omega);obtain rfl : y = H := by omega
   unfold hG;rw [cF (dF (by omega))];unfold ds;rw [hl, Nat.mul_comm]
  | succ j ih =>
   intro y fuel hx hf;obtain ⟨fuel, rfl⟩ := mN fuel (by omega);have key := VZ hP hW hH hl hl2 hk N hN (y := y) (by omega) (fun (VD, x10) => Option.bind (some (IntKind.i64.wrap ((y : Int) + 1))) fun y4 => hG N (W : Int) (H : Int) P kind (fun (VE, y5) => some VE) fuel (VD, y4)) W 0 N (by omega) (by omega);unfold hG;rw [cT (dT (by omega))];refine Eq.trans key ?_
   dsimp only
   rw [iE (x := (y : Int) + 1) (by omega), aC];exact ih (y + 1) fuel (by omega) (by omega)
 have := main H 0 N (by omega) (by omega);rw [Nat.zero_mul] at this;exact this
end
def OH (W : List (List UInt8)) (d : Int) : Bool := decide (Dy d < W.length) && !(W.getD (Dy d) []).isEmpty
def Fy (W : List (List UInt8)) (d : Int) : List UInt8 := W.getD (Dy d) [] ++ TU d
def Fr (W : List (List UInt8)) (l : List Int) : List UInt8 := l.flatMap (Fy W)
theorem Hg (W : List (List UInt8)) (d : Int) (l : List Int) : Fr W (d :: l) = Fy W d ++ Fr W l := rfl
theorem Qi {d : Int} (h : -32768 < d ∧ d ≤ 32768) : (TU d).length ≤ 16 := by
 unfold TU
 split
 ·simp
 ·rw [oR, kJ]; exact Qg h
theorem Hh {W : List (List UInt8)} (hb : Hd W) (i : Nat) : (W.getD i []).length ≤ 15 ∧ zY (W.getD i []) = true := by
 rw [List.getD_eq_getElem?_getD]
 by_cases h : i < W.length
 ·rw [List.getElem?_eq_getElem h]; exact ⟨(hb _ (List.getElem_mem h)).2, (hb _ (List.getElem_mem h)).1⟩
 ·rw [List.getElem?_eq_none (by omega)]; exact ⟨by simp, rfl⟩
theorem RB {W : List (List UInt8)} (hb : Hd W) {d : Int} (h : -32768 < d ∧ d ≤ 32768) : (Fy W d).length ≤ 31 := by
 unfold Fy;rw [List.length_append];have := Qi h;have := (Hh hb (Dy d)).1
 omega
theorem YN {W : List (List UInt8)} {d : Int} (h : OH W d = true) : ∃ u, W[Dy d]? = some u ∧ u ≠ [] ∧ W.getD (Dy d) [] = u ∧ Dy d < W.length := by
 unfold OH at h;rw [Bool.and_eq_true] at h;have hq := of_decide_eq_true h.1;refine ⟨W[Dy d], List.getElem?_eq_getElem hq, ?_, ?_, hq⟩
 ·have h2 := h.2;rw [List.getD_eq_getElem?_getD, List.getElem?_eq_getElem hq] at h2;intro e;rw [Option.getD_some, e] at h2;cases h2
 ·rw [List.getD_eq_getElem?_getD, List.getElem?_eq_getElem hq]; rfl
theorem YO {W : List (List UInt8)} {d : Int} (h : ¬ OH W d = true) (h2 : Dy d < W.length) : W[Dy d]? = some [] := by
 rw [List.getElem?_eq_getElem h2];unfold OH at h;rw [dT h2, Bool.true_and, List.getD_eq_getElem?_getD, List.getElem?_eq_getElem h2, Option.getD_some] at h;cases hc : W[Dy d]
 ·rfl
 ·rw [hc] at h; simp at h
theorem V1 (N : Nat) (hN : 100 ≤ N) {W : List (List UInt8)} (hb : Hd W) {l : List Int} (hd : ∀ d ∈ l, -32768 < d ∧ d ≤ 32768) (hl : l.length ≤ 4096) (kk) : ∀ (j k fuel : Nat) (acc : List UInt8), k + j = l.length → j < fuel → acc.length ≤ 31 * k →
  jO N W l kk fuel (sN acc, (k : Int)) = if (l.drop k).all (OH W) = true then kk (sN (acc ++ Fr W (l.drop k)), (l.length : Int)) else some ([], 4) := by
 intro j
 induction j with
 | zero =>
  intro k fuel acc hk hf ha;obtain ⟨fuel, rfl⟩ := mN fuel (by omega);obtain rfl : k = l.length := by omega
  unfold jO;rw [cF (dF (by omega)), List.drop_length, if_pos (by rfl)]
  simp [Fr]
 | succ j ih =>
  intro k fuel acc hk hf ha;obtain ⟨fuel, rfl⟩ := mN fuel (by omega);have hlt : k < l.length := by omega
  have hnx : IntKind.i64.wrap ((k : Int) + 1) = ((k + 1 : Nat) : Int) := by rw [iE (by omega)]; rfl
  have hdk := hd _ (List.getElem_mem hlt);unfold jO;rw [cT (dT (by omega)), gB, List.getElem?_eq_getElem hlt, aC, Jx N hN hdk, aC, List.drop_eq_getElem_cons hlt, List.all_cons, Hg]
  generalize l[k] = d at hdk ⊢
  by_cases h1 : W.length ≤ Dy d
  ·rw [cT (dT (by omega)), if_neg];rw [show OH W d = false by unfold OH; rw [dF (by omega)]; rfl]; simp
  rw [cF (dF (by omega)), gB]
  by_cases h2 : OH W d = true
  ·obtain ⟨u, hu, hu0, hg, _⟩ := YN h2;have ZS := (Hh hb (Dy d)).1;have hm := Qi hdk;rw [hg] at ZS;rw [hu, aC, cF (dF hu0), aC, kY (by rw [rL, rL]; omega), aC, aC, VY N hN hdk, aC, ← LX, kY (by rw [rL, rL, List.length_append]; omega), aC, ← LX, hnx, aC, ih (k + 1) fuel _ (by omega) (by omega) (by rw [List.length_append, List.length_append]; omega), h2, Bool.true_and];unfold Fy;rw [hg, List.append_assoc, List.append_assoc, List.append_assoc]
  ·rw [YO h2 (by omega), aC, cT (dT rfl), if_neg];rw [(Bool.not_eq_true _).mp h2]; simp
theorem Qj (W : Nat) (P : List Int) (kind : Int) : ∀ d ∈ ds W P kind, -32768 < d ∧ d ≤ 32768 := fun d hd => by
 obtain ⟨i, _, rfl⟩ := List.mem_map.1 hd;exact YM _ _
theorem Pf (W : Nat) (P : List Int) (kind : Int) : (ds W P kind).length = P.length := by simp [ds]
def W0 (b : List UInt8) : List UInt8 := (gr ((b.length + 7) / 8) (hU b)).map UInt8.ofNat
def DP (W H : Int) (P : List Int) (kind : Int) (c : List Int) : List UInt8 × Int :=
 if Vh W H P = false then ([], 1) else if ¬ (1 ≤ kind ∧ kind ≤ 7) then ([], 6) else if lO c ≠ 0 then ([], lO c) else
 if (ds W.toNat P kind).all (OH (wordsOf c)) = true then (W0 (Fr (wordsOf c) (ds W.toNat P kind)), 0) else ([], 4)
theorem TW (d : Int) : zY (TU d) = true := by
 unfold TU
 split
 ·rfl
 ·exact L4 (AW (by decide) _ _)
theorem Lh {W : List (List UInt8)} (hb : Hd W) : ∀ l : List Int, zY (Fr W l) = true
 | [] => rfl
 | d :: l => by
  rw [Hg, uX, Lh hb l, Bool.and_true];unfold Fy;rw [uX, (Hh hb (Dy d)).2, TW]; rfl
theorem Gq {W : List (List UInt8)} (hb : Hd W) : ∀ {l : List Int}, (∀ d ∈ l, -32768 < d ∧ d ≤ 32768) → (Fr W l).length ≤ 31 * l.length
 | [], _ => by simp [Fr]
 | d :: l, h => by
  have h1 := Gq hb (l := l) fun d hd => h d (by simp [hd])
  have h2 := RB hb (h d (by simp));rw [Hg, List.length_append, List.length_cons]; omega
theorem Kw (N : Nat) (hN : 200000 ≤ N) (W H : Int) (P : List Int) (kind : Int) (c : List Int) : lI N W H P kind c = some (DP W H P kind c) := by
 unfold lI DP;rw [TS N (by omega), aC]
 by_cases hp : Vh W H P = true
 rotate_left
 ·rw [(Bool.not_eq_true _).mp hp, Bool.not_false, cT rfl, if_pos rfl]
 rw [hp, Bool.not_true, cF rfl, if_neg (by decide), t6, aC]
 by_cases h1 : 1 ≤ kind ∧ kind ≤ 7
 rotate_left
 ·rw [dF h1, Bool.not_false, cT rfl, if_pos h1]
 rw [dT h1, Bool.not_true, cF rfl, if_neg (by omega), Hb N (by omega), aC]
 by_cases h2 : lO c = 0
 rotate_left
 ·rw [cT (by rw [dF h2]; rfl), if_pos h2]
 obtain ⟨w, k, rfl, rfl, a1, a2, a3, a4, a5, a6, hP⟩ := VW hp;rw [cF (by rw [dT h2]; rfl), if_neg (by omega), HT N (by omega) h2, aC, V0 hP ⟨a1, a2⟩ ⟨a3, a4⟩ a5 a6 h1 N (by omega), aC, Int.toNat_natCast];have hdl := Pf w P kind;have key := V1 N (by omega) (kZ c) (l := ds w P kind) (Qj w P kind) (by omega) (fun (l9, i2) => Option.bind (jD N (toB l9)) fun z7 => some (z7, (0 : Int))) (ds w P kind).length 0 N [] (by omega) (by omega) (by simp);refine Eq.trans key ?_;rw [List.drop_zero]
 by_cases h3 : (ds w P kind).all (OH (wordsOf c)) = true
 ·rw [if_pos h3, if_pos h3]
  dsimp only
  have hcl := Gq (kZ c) (Qj w P kind);rw [List.nil_append, LY, Rs N (Lh (kZ c) _) (by omega) ⟨by omega, by omega⟩]
  rfl
 ·rw [if_neg h3, if_neg h3]
def pK (s : List UInt8) : List UInt8 := yV (pV 2 (8 * s.length) (D1 s s.length))
theorem EF (s : List UInt8) : (pK s).length = 8 * s.length := by unfold pK; rw [oR, kJ]
theorem zM (s : List UInt8) : zY (pK s) = true := L4 (AW (by decide) _ _)
theorem Jy : pK [] = [] := rfl
theorem IR (s : List UInt8) : D1 s s.length = num 256 (s.map UInt8.toNat) := by unfold D1; rw [List.take_length]
theorem RC (c : UInt8) (s : List UInt8) : pK (c :: s) = pK [c] ++ pK s := by
 unfold pK;rw [← Gm, IR, IR [c], List.map_cons, List.map_singleton, Gl, List.length_map, LW, ← IR s, Gn (show D1 s s.length < 2 ^ (8 * s.length) from Tw (d := 1) (by decide) s)];rw [show 8 * (c :: s).length = 8 * [c].length + 8 * s.length by simp; omega, show num 256 [c.toNat] = c.toNat by simp [num]]
theorem V2 {l : List Nat} (h : ∀ y ∈ l, y < 2) : hU (yV l) = l := by
 unfold hU yV;rw [List.map_map]
 conv => rhs; rw [← List.map_id l]
 refine List.map_congr_left fun y hy => ?_
 have := h y hy;show (UInt8.ofNat (48 + y)).toNat - 48 = y;rw [UInt8.toNat_ofNat', Nat.mod_eq_of_lt (by omega)]
 omega
theorem YP {M : Nat} {l m : List Nat} (hl : l.length = 8 * M) (hm : m.length = 8 * M) (h2 : ∀ y ∈ l, y < 2) (h3 : ∀ y ∈ m, y < 2) (h : gr M l = gr M m) : l = m := by
 have e1 := Fh (B := 2) l h2;have e2 := Fh (B := 2) m h3;have n1 := wJ (B := 2) l h2;have n2 := wJ (B := 2) m h3;rw [hl] at e1 n1;rw [hm] at e2 n2;have h4 : gr M (pV 2 (8 * M) (num 2 l)) = gr M (pV 2 (8 * M) (num 2 m)) := by rw [e1, e2, h]
 rw [Jr, Jr] at h4;have h5 := congrArg (num 256) h4;rw [BH, BH, LW, Nat.mod_eq_of_lt n1, Nat.mod_eq_of_lt n2] at h5;rw [← e1, ← e2, h5]
theorem V3 (s : List UInt8) : (gr s.length (hU (pK s))).map UInt8.ofNat = s := by
 unfold pK;rw [V2 (AW (by decide) _ _), Jr, IR]
 have := Fh (B := 256) (s.map UInt8.toNat) fun y hy => by
  obtain ⟨c, _, rfl⟩ := List.mem_map.1 hy;exact c.toNat_lt
 rw [List.length_map] at this;rw [this, toNat_ofNat]
theorem W1 {M : Nat} {l : List Nat} (h : ∀ y ∈ l, y < 2) : ∀ y ∈ gr M l, y < 256 := fun y hy => by
 unfold gr at hy;obtain ⟨g, _, rfl⟩ := List.mem_map.1 hy
 have := wJ (B := 2) ((List.range 8).map fun t => l.getD (8 * g + t) 0) fun y hy => by
  obtain ⟨t, _, rfl⟩ := List.mem_map.1 hy;rw [List.getD_eq_getElem?_getD]
  by_cases hq : 8 * g + t < l.length
  ·rw [List.getElem?_eq_getElem hq]; exact h _ (List.getElem_mem hq)
  ·rw [List.getElem?_eq_none (by omega)]; exact (by decide : (0:Nat) < 2)
 simpa using this
theorem TX : ∀ {R : List UInt8}, zY R = true → hU R = List.replicate R.length 0 → R = List.replicate R.length 48
 | [], _, _ => rfl
 | c :: R, h, h2 => by
  have e := Fi h;rw [h2] at e;rw [← e];unfold yV;rw [List.map_replicate, List.length_replicate]; rfl
theorem Qk {s D R : List UInt8} (h : pK s = D ++ R) : W0 D = s ↔ R.length ≤ 7 ∧ R = List.replicate R.length 48 := by
 have hB := zM s;rw [h, uX, Bool.and_eq_true] at hB;have hL := EF s;rw [h, List.length_append] at hL;have hb : hU (pK s) = hU D ++ hU R := by rw [h]; unfold hU; rw [List.map_append]
 have hs := V3 s;have pad : gr s.length (hU D ++ List.replicate R.length 0) = gr s.length (hU D) := Tx _ _ _
 constructor
 ·intro e;have hl := congrArg List.length e;unfold W0 at hl e;rw [List.length_map] at hl;have hgl : ∀ M l, (gr M l).length = M := fun M l => by simp [gr]
  rw [hgl] at hl;refine ⟨by omega, ?_⟩;rw [hl] at e
  have e2 : gr s.length (hU D) = gr s.length (hU (pK s)) := by
   have := congrArg (List.map UInt8.toNat) (e.trans hs.symm)
   rwa [ofNat_toNat (W1 (sG hB.1)), ofNat_toNat (W1 (sG (zM s)))] at this
  rw [← pad, hb] at e2;have bl : ∀ b : List UInt8, (hU b).length = b.length := fun b => by simp [hU]
  have z2 : ∀ y ∈ hU D ++ List.replicate R.length 0, y < 2 := fun y hy => by
   rcases List.mem_append.1 hy with q | q
   ·exact sG hB.1 y q
   ·rw [(List.mem_replicate.1 q).2]; decide
  have z3 : ∀ y ∈ hU D ++ hU R, y < 2 := fun y hy => by
   rcases List.mem_append.1 hy with q | q
   ·exact sG hB.1 y q
   ·exact sG hB.2 y q
  have := YP (by rw [List.length_append, bl, List.length_replicate]; omega) (by rw [List.length_append, bl, bl]; omega) z2 z3 e2;exact TX hB.2 (List.append_cancel_left this).symm
 ·rintro ⟨h7, hz⟩
  have e : hU R = List.replicate R.length 0 := by
   conv => lhs; rw [hz]
   unfold hU;rw [List.map_replicate]; rfl
  unfold W0;rw [show (D.length + 7) / 8 = s.length by omega, ← pad, ← e, ← hb];exact hs
def vd (t : List UInt8) : Int := if 2 * num 2 (hU t) < 2 ^ t.length then (num 2 (hU t) : Int) - ((2 ^ t.length : Nat) : Int) + 1 else (num 2 (hU t) : Int)
theorem aA3 {d : Int} {c : Nat} (h : 1 ≤ c) (h2 : ((2 ^ (c - 1) : Nat) : Int) ≤ max d (-d)) (h3 : max d (-d) < ((2 ^ c : Nat) : Int)) : Dy d = c := by
 have a := FM c (max d (-d)).toNat;have b := FM (c - 1) (max d (-d)).toNat;have a1 : (max d (-d)).toNat < 2 ^ c := by omega
 have b1 : ¬ (max d (-d)).toNat < 2 ^ (c - 1) := by omega
 have a2 := a.2 a1;have b2 : ¬ bl (max d (-d)).toNat ≤ c - 1 := fun q => b1 (b.1 q)
 unfold Dy
 omega
theorem L6 {t : List UInt8} (hb : zY t = true) (hl : t.length ≤ 15) : Dy (vd t) = t.length ∧ TU (vd t) = t ∧ -32768 < vd t ∧ vd t < 32768 := by
 have hn := wJ (B := 2) (hU t) (sG hb);have bl : (hU t).length = t.length := by simp [hU]
 rw [bl] at hn
 by_cases h0 : t.length = 0
 ·obtain rfl : t = [] := List.length_eq_zero_iff.1 h0;exact ⟨rfl, rfl, by decide, by decide⟩
 have hp : 2 ^ t.length = 2 * 2 ^ (t.length - 1) := by rw [← Nat.pow_succ']; congr 1; omega
 have hle : 2 ^ t.length ≤ 32768 := Nat.le_trans (Nat.pow_le_pow_right (by decide) hl) (by decide);have hpos : 0 < 2 ^ (t.length - 1) := Nat.two_pow_pos _
 have hr : -32768 < vd t ∧ vd t < 32768 := by unfold vd; split <;> omega
 have hc : Dy (vd t) = t.length := by
  refine aA3 (by omega) ?_ ?_
  ·unfold vd; split <;> omega
  ·unfold vd; split <;> omega
 refine ⟨hc, ?_, hr⟩;unfold TU;rw [if_neg (by omega), hc]
 have : (if 0 < vd t then vd t else vd t + ((2 ^ t.length : Nat) : Int) - 1).toNat = num 2 (hU t) := by
  by_cases hq : 2 * num 2 (hU t) < 2 ^ t.length
  ·have e : vd t = (num 2 (hU t) : Int) - ((2 ^ t.length : Nat) : Int) + 1 := by unfold vd; rw [if_pos hq]
   rw [e, if_neg (by omega)]
   omega
  ·have e : vd t = (num 2 (hU t) : Int) := by unfold vd; rw [if_neg hq]
   rw [e, if_pos (by omega)]
   omega
 rw [this, ← bl, Fh _ (sG hb), Fi hb]
theorem Jz : Dy 32768 = 16 ∧ TU 32768 = [] := ⟨by decide +kernel, by
 unfold TU
 rw [if_pos (.inr (by decide +kernel))]⟩
def rdStep (W : List (List UInt8)) (R : List UInt8) : Option (Int × List UInt8) := match L5 W R with
 | none => none
 | some c => if c = 16 then some (32768, R.drop (W.getD c []).length) else if (R.drop (W.getD c []).length).length < c then none else some (vd ((R.drop (W.getD c []).length).take c), (R.drop (W.getD c []).length).drop c)
def Il (W : List (List UInt8)) (w : Nat) (kind : Int) : Nat → List Int → List UInt8 → Option (List Int × List UInt8)
 | 0, P, R => some (P, R)
 | n + 1, P, R => match rdStep W R with
  | none => none
  | some (d, R2) => Il W w kind n (P ++ [(gs w P kind P.length + d) % 65536]) R2
theorem Hi {w : Nat} (hw : 1 ≤ w) (P Q : List Int) (kind : Int) {i : Nat} (h : i ≤ P.length) : gs w (P ++ Q) kind i = gs w P kind i := by
 unfold gs
 by_cases h0 : i = 0
 ·rw [if_pos h0, if_pos h0]
 have e : ∀ j, j < P.length → (P ++ Q).getD j 0 = P.getD j 0 := fun j hj => by
  rw [List.getD_eq_getElem?_getD, List.getD_eq_getElem?_getD, List.getElem?_append_left hj]
 rw [if_neg h0, if_neg h0, e (i - 1) (by omega), e (i - w) (by omega), e (i - w - 1) (by omega)]
theorem Ql {w : Nat} (hw : 1 ≤ w) (P : List Int) (kind x : Int) : ds w (P ++ [x]) kind = ds w P kind ++ [dfn x (gs w P kind P.length)] := by
 unfold ds;rw [List.length_append, List.length_singleton, List.range_succ, List.map_append, List.map_singleton]
 congr 1
 ·refine List.map_congr_left fun i hi => ?_
  have hi := List.mem_range.1 hi;rw [Hi hw _ _ _ (by omega), List.getD_eq_getElem?_getD, List.getD_eq_getElem?_getD, List.getElem?_append_left hi]
 ·rw [Hi hw _ _ _ (Nat.le_refl _), List.getD_eq_getElem?_getD, List.getElem?_append_right (Nat.le_refl _)]
  simp
theorem TY {g d : Int} (h : -32768 < d ∧ d ≤ 32768) : dfn ((g + d) % 65536) g = d := by
 unfold dfn
 split <;> omega
theorem step_ok {W : List (List UInt8)} (hb : Hd W) (hW : W.length ≤ 17) {R R2 : List UInt8} {d : Int} (hR : zY R = true) (h : rdStep W R = some (d, R2)) :
  (-32768 < d ∧ d ≤ 32768) ∧ OH W d = true ∧ R = Fy W d ++ R2 := by
 unfold rdStep at h
 rcases hf : L5 W R with _ | c
 ·rw [hf] at h; cases h
 rw [hf] at h;dsimp only at h;obtain ⟨u, hu, hu0, hub⟩ := Db hf
 have hc : c < W.length := by
  rcases Nat.lt_or_ge c W.length with q | q
  ·exact q
  ·rw [List.getElem?_eq_none q] at hu; cases hu
 have hg : W.getD c [] = u := by rw [List.getD_eq_getElem?_getD, hu]; rfl
 obtain ⟨T, rfl⟩ := hub;rw [uX, Bool.and_eq_true] at hR;rw [hg, List.drop_left] at h
 have ok : ∀ e, Dy e = c → OH W e = true := fun e he => by
  unfold OH;rw [he, dT hc, Bool.true_and, hg];cases u
  ·exact absurd rfl hu0
  ·rfl
 by_cases h16 : c = 16
 ·rw [if_pos h16] at h
  injection h with h; injection h with h1 h2
  subst h1 h2;refine ⟨by decide, ok _ (by rw [Jz.1, h16]), ?_⟩;unfold Fy;rw [Jz.1, Jz.2, ← h16, hg, List.append_nil]
 ·rw [if_neg h16] at h
  by_cases hl : T.length < c
  ·rw [if_pos hl] at h; cases h
  rw [if_neg hl] at h
  injection h with h; injection h with h1 h2
  have ht : zY (T.take c) = true := by
   have := hR.2;rw [← List.take_append_drop c T, uX, Bool.and_eq_true] at this;exact this.1
  have hlen : (T.take c).length = c := by rw [List.length_take]; omega
  obtain ⟨a1, a2, a3⟩ := L6 ht (by omega);rw [hlen] at a1;subst h1 h2;refine ⟨by omega, ok _ a1, ?_⟩;unfold Fy;rw [a1, a2, hg, List.append_assoc, List.take_append_drop]
theorem RD (W : List (List UInt8)) (l : List Int) (d : Int) : Fr W (l ++ [d]) = Fr W l ++ Fy W d := by
 unfold Fr;rw [List.flatMap_append]
 simp
theorem JA {W : List (List UInt8)} (hb : Hd W) (hW : W.length ≤ 17) {w : Nat} (hw : 1 ≤ w) {kind : Int} : ∀ (n : Nat) (P : List Int) (R D : List UInt8) (P2 : List Int) (R2 : List UInt8), zY R = true → (∀ e ∈ P, 0 ≤ e ∧ e ≤ 65535) → (ds w P kind).all (OH W) = true →
  Il W w kind n P R = some (P2, R2) → P2.length = P.length + n ∧ (∀ e ∈ P2, 0 ≤ e ∧ e ≤ 65535) ∧ (ds w P2 kind).all (OH W) = true ∧ Fr W (ds w P kind) ++ R = Fr W (ds w P2 kind) ++ R2 ∧ zY R2 = true := by
 intro n
 induction n with
 | zero =>
  intro P R D P2 R2 hR hP ha h;unfold Il at h
  injection h with h; injection h with h1 h2
  subst h1 h2;exact ⟨rfl, hP, ha, rfl, hR⟩
 | succ n ih =>
  intro P R D P2 R2 hR hP ha h;unfold Il at h
  rcases hs : rdStep W R with _ | ⟨d, R1⟩
  ·rw [hs] at h; cases h
  rw [hs] at h;dsimp only at h;obtain ⟨hd, hok, hRR⟩ := step_ok hb hW hR hs
  have hR1 : zY R1 = true := by
   rw [hRR, uX, Bool.and_eq_true] at hR;exact hR.2
  have e := TY (g := gs w P kind P.length) hd
  obtain ⟨b1, b2, b3, b4, b5⟩ := ih (P ++ [(gs w P kind P.length + d) % 65536]) R1 D P2 R2 hR1 (fun x hx => by
   rcases List.mem_append.1 hx with q | q
   ·exact hP x q
   ·rw [List.mem_singleton.1 q]; omega) (by
   rw [Ql hw, e, List.all_append, ha, Bool.true_and, List.all_cons, hok]; rfl) h
  refine ⟨by rw [b1, List.length_append, List.length_singleton]; omega, b2, b3, ?_, b5⟩;rw [← b4, Ql hw, e, RD, List.append_assoc, ← hRR]
theorem L7 {α : Type} {xs : List α} (h : 1 ≤ xs.length) : Dw xs 0 1 = some (xs.take 1) := zL (k := 1) h
theorem L8 {α : Type} {xs : List α} (h : 1 ≤ xs.length) : Dw xs 1 (xs.length : Int) = some (xs.drop 1) := Da (k := 1) h
theorem Qm {a b : List UInt8} (h : a.length + b.length ≤ 9223372036854775807) : Je a b = some (a ++ b) := by unfold Je; rw [if_pos h]
theorem aA4 (N : Nat) (hN : 100 ≤ N) (c : UInt8) : vU N [c] = some (pK [c]) := VQ N (s := [c]) (by simp) (by simp; omega)
theorem Li (N : Nat) (kk) : ∀ (fuel : Nat) (x : List UInt8 × List UInt8), vV N kk fuel x = lE N 1 kk fuel x
 | 0, _ => rfl
 | fuel + 1, (a, b) => by
  unfold vV lE;simp only [Li N kk fuel]
theorem L9 (N : Nat) (hN : 100 ≤ N) {n : Nat} (hn : n ≤ 15) : ∀ (j fuel : Nat) (b s : List UInt8), n ≤ b.length + 8 * j → j < fuel → b.length ≤ n + 7 →
  ∃ b2 s2, (∀ kk, lE N (n : Int) kk fuel (b, s) = kk (b2, s2)) ∧ b ++ pK s = b2 ++ pK s2 ∧ b2.length ≤ n + 7 ∧ (b2.length < n → s2 = []) := by
 intro j
 induction j with
 | zero =>
  intro fuel b s hj hf hb;obtain ⟨fuel, rfl⟩ := mN fuel (by omega);refine ⟨b, s, fun kk => ?_, rfl, hb, fun h => by omega⟩;unfold lE;rw [cF (dF (by omega))]
 | succ j ih =>
  intro fuel b s hj hf hb;obtain ⟨fuel, rfl⟩ := mN fuel (by omega)
  by_cases h : b.length < n
  rotate_left
  ·refine ⟨b, s, fun kk => ?_, rfl, hb, fun h2 => absurd h2 h⟩;unfold lE;rw [cF (dF (by omega))]
  cases s with
  | nil =>
   refine ⟨b, [], fun kk => ?_, rfl, hb, fun _ => rfl⟩;unfold lE;rw [cT (dT (by omega)), cF (by rw [dT rfl]; rfl)]
  | cons c s =>
   have h8 : (pK [c]).length = 8 := EF [c];obtain ⟨b2, s2, h1, h2, h3, h4⟩ := ih fuel (b ++ pK [c]) s (by rw [List.length_append]; omega) (by omega) (by rw [List.length_append]; omega);refine ⟨b2, s2, fun kk => ?_, ?_, h3, h4⟩
   ·rw [← h1 kk]
    conv => lhs; unfold lE
    rw [cT (dT (by omega)), cT (by rw [dF (by simp)]; rfl), L7 (by simp), aC, show (c :: s).take 1 = [c] from rfl, aA4 N hN, aC, Qm (by omega), aC, L8 (by simp), aC]
    rfl
   ·rw [RC, ← List.append_assoc, h2]
theorem TZ {b T : List UInt8} {n : Nat} (h : n ≤ b.length) : (b ++ T).take n = b.take n ∧ (b ++ T).drop n = b.drop n ++ T := ⟨List.take_append_of_le_length h, List.drop_append_of_le_length h⟩
theorem aEi {W : List (List UInt8)} {b : List UInt8} (h : MQ W b = 5) : ∃ w ∈ W, w ≠ [] ∧ b <+: w := by
 unfold MQ at h
 split at h
 ·rename_i q
  rw [List.any_eq_true] at q;obtain ⟨w, hw, h2⟩ := q;rw [Bool.and_eq_true, List.isPrefixOf_iff_prefix] at h2;exact ⟨w, hw, by intro e; rw [e] at h2; simp at h2, h2.2⟩
 ·cases h
theorem V4 {W : List (List UInt8)} {b : List UInt8} (h : MQ W b ≠ 5) : ∀ w ∈ W, w ≠ [] → ¬ b <+: w := fun w hw h0 hp => by
 refine h ?_;unfold MQ;rw [if_pos];rw [List.any_eq_true];exact ⟨w, hw, by rw [Bool.and_eq_true, List.isPrefixOf_iff_prefix]; exact ⟨by cases w; exact absurd rfl h0; rfl, hp⟩⟩
theorem Ma {W : List (List UInt8)} {b : List UInt8} (h : ∀ w ∈ W, w ≠ [] → ¬ w <+: b) : L5 W b = none := by
 unfold L5;rw [List.findIdx?_eq_none_iff];intro w hw;rw [Bool.eq_false_iff];intro q;obtain ⟨h0, h1⟩ := IQ.1 q;exact h w hw h0 h1
theorem V5 (N : Nat) (hN : 5000 ≤ N) {c : List Int} (hc : lO c = 0) {R : List UInt8} (hR : zY R = true) : ∀ (j k fuel : Nat) (b s : List UInt8), k + j = 16 → k ≤ R.length → j < fuel → b.length ≤ 7 → R.drop k = b ++ pK s → (∀ w ∈ wordsOf c, w ≠ [] → w.length ≤ k → ¬ (k ≠ w.length ∧ w <+: R)) →
  ∃ b2 s2 w2, b2.length ≤ 7 ∧ ((∃ i u, L5 (wordsOf c) R = some i ∧ (wordsOf c)[i]? = some u ∧ (∀ i4 i5 kk, j0 N c kk fuel (b, s, i4, i5, R.take k) = kk (b2, s2, (i : Int), 0, w2)) ∧ R.drop u.length = b2 ++ pK s2) ∨
   (L5 (wordsOf c) R = none ∧ ∀ i4 i5 kk, j0 N c kk fuel (b, s, i4, i5, R.take k) = kk (b2, s2, 0, 1, w2))) := by
 intro j;have hbW := kZ c;have hpf := Ju c
 generalize hWW : wordsOf c = W at *
 induction j with
 | zero =>
  intro k fuel b s hkj hkR hf hb hd hno;obtain ⟨fuel, rfl⟩ := mN fuel (by omega);have hlk : (R.take k).length = k := by rw [List.length_take]; omega
  have YQ : zY (R.take k) = true := by rw [← List.take_append_drop k R, uX, Bool.and_eq_true] at hR; exact hR.1
  have hrd : vT N c (R.take k) 1 = some (Rz W 1 [] (R.take k)) := by
   rw [Lf N c _ 1 (by omega) ⟨hN, by omega⟩];unfold Qe;rw [if_neg (by omega), if_neg (by omega), if_pos YQ, hWW]; rfl
  have hnone : ∀ w ∈ W, w ≠ [] → ¬ w <+: R := fun w hw h0 hp => hno w hw h0 (by have := (hbW w hw).2; omega) ⟨by have := (hbW w hw).2; omega, hp⟩
  have h1 : L5 W (R.take k) = none := Ma fun w hw h0 hp => hnone w hw h0 (hp.trans (List.take_prefix _ _))
  have h2 : MQ W (R.take k) ≠ 5 := fun h => by
   obtain ⟨w, hw, _, hp⟩ := aEi h;have := hp.length_le;have := (hbW w hw).2
   omega
  have NE : Rz W 1 [] (R.take k) = ([], [], MQ W (R.take k)) := by unfold Rz; rw [h1]
  obtain ⟨b2, s2, f1, f2, f3, f4⟩ := L9 N (by omega) (n := 1) (by omega) 1 N b s (by omega) (by omega) (by omega);have YR : ∀ kk, lE N 1 kk N (b, s) = kk (b2, s2) := f1
  by_cases h3 : b2.length < 1
  ·refine ⟨b2, s2, R.take k, by omega, .inr ⟨Ma hnone, fun i4 i5 kk => ?_⟩⟩;unfold j0;rw [hrd, aC, NE]
   dsimp only
   rw [cF (dF (He W _)), Li, YR]
   dsimp only
   rw [cT (dT (by omega)), dF h2]; rfl
  ·refine ⟨b2.drop 1, s2, R.take k, by rw [List.length_drop]; omega, .inr ⟨Ma hnone, fun i4 i5 kk => ?_⟩⟩;unfold j0;rw [hrd, aC, NE]
   dsimp only
   rw [cF (dF (He W _)), Li, YR]
   dsimp only
   rw [cF (dF (by omega)), L7 (by omega), aC, L8 (by omega), aC, cT (by rw [dF h2]; rfl)]
 | succ j ih =>
  intro k fuel b s hkj hkR hf hb hd hno;obtain ⟨fuel, rfl⟩ := mN fuel (by omega);have hlk : (R.take k).length = k := by rw [List.length_take]; omega
  have YQ : zY (R.take k) = true := by
   have := hR;rw [← List.take_append_drop k R, uX, Bool.and_eq_true] at this; exact this.1
  have hrd : vT N c (R.take k) 1 = some (Rz W 1 [] (R.take k)) := by
   rw [Lf N c _ 1 (by omega) ⟨hN, by omega⟩];unfold Qe;rw [if_neg (by omega), if_neg (by omega), if_pos YQ, hWW]; rfl
  rcases h1 : L5 W (R.take k) with _ | i
  rotate_left
  ·obtain ⟨u, hu, hu0, hub⟩ := Db h1;have huR := hub.trans (List.take_prefix k R)
   have hul : u.length = k := by
    have hle := hub.length_le;have := hno u (List.mem_of_getElem? hu) hu0 (by omega)
    by_cases e : k = u.length
    ·exact e.symm
    ·exact absurd ⟨e, huR⟩ this
   refine ⟨b, s, R.take k, hb, .inl ⟨i, u, YI hpf hu hu0 huR, hu, fun i4 i5 kk => ?_, by rw [hul, hd]⟩⟩;unfold j0;rw [hrd, aC];have NE : Rz W 1 [] (R.take k) = ([(i : Int)], (R.take k).drop (W.getD i []).length, 0) := by unfold Rz; rw [h1]; rfl
   rw [NE]
   rfl
  have hnone : ∀ w ∈ W, w ≠ [] → w.length ≤ k → ¬ w <+: R := fun w hw h0 hl hp => Jv h1 w hw h0 (by
   rw [List.prefix_iff_eq_take.1 hp];have : R.take w.length = (R.take k).take w.length := by rw [List.take_take, Nat.min_eq_left hl]
   rw [this]
   exact List.take_prefix _ _)
  have NE : Rz W 1 [] (R.take k) = ([], [], MQ W (R.take k)) := by unfold Rz; rw [h1]
  obtain ⟨b2, s2, f1, f2, f3, f4⟩ := L9 N (by omega) (n := 1) (by omega) 1 N b s (by omega) (by omega) (by omega);have YR : ∀ kk, lE N 1 kk N (b, s) = kk (b2, s2) := f1
  by_cases h3 : b2.length < 1
  ·have hs2 := f4 h3;have hb2 : b2 = [] := List.length_eq_zero_iff.1 (by omega)
   have hfull : R.length ≤ k := by
    rw [f2, hb2, hs2] at hd;have := congrArg List.length hd;rw [List.length_drop] at this
    simp [Jy] at this
    omega
   have TP : L5 W R = none := by rw [List.take_of_length_le hfull] at h1; exact h1
   refine ⟨b2, s2, R.take k, by omega, .inr ⟨TP, fun i4 i5 kk => ?_⟩⟩;unfold j0;rw [hrd, aC, NE]
   dsimp only
   rw [cF (dF (He W _)), Li, YR]
   dsimp only
   rw [cT (dT (by omega))]
   cases (!decide (MQ W (R.take k) = 5)) <;> rfl
  by_cases h2 : MQ W (R.take k) = 5
  rotate_left
  ·have TP : L5 W R = none := Ma fun w hw h0 hp => by
    rcases Nat.lt_or_ge k w.length with hl | hl
    ·refine V4 h2 w hw h0 ?_;exact List.prefix_of_prefix_length_le (List.take_prefix k R) hp (by omega)
    ·exact hnone w hw h0 hl hp
   refine ⟨b2.drop 1, s2, R.take k, by rw [List.length_drop]; omega, .inr ⟨TP, fun i4 i5 kk => ?_⟩⟩;unfold j0;rw [hrd, aC, NE]
   dsimp only
   rw [cF (dF (He W _)), Li, YR]
   dsimp only
   rw [cF (dF (by omega)), L7 (by omega), aC, L8 (by omega), aC, cT (by rw [dF h2]; rfl)]
  obtain ⟨t1, t2⟩ := TZ (b := b2) (T := pK s2) (n := 1) (by omega);rw [f2] at hd
  have hlt : k < R.length := by
   have := congrArg List.length hd;rw [List.length_drop, List.length_append] at this
   omega
  have htk : R.take k ++ b2.take 1 = R.take (k + 1) := by
   rw [← t1, ← hd, List.take_add]
  have hdk : R.drop (k + 1) = b2.drop 1 ++ pK s2 := by rw [← t2, ← hd, List.drop_drop]
  obtain ⟨b3, s3, w3, g1, g2⟩ := ih (k + 1) fuel (b2.drop 1) s2 (by omega) (by omega) (by omega) (by rw [List.length_drop]; omega) hdk (fun w hw h0 hl hx => by
   rcases Nat.lt_or_ge k w.length with q | q
   ·exact hx.1 (by omega)
   ·exact hnone w hw h0 q hx.2)
  have step : ∀ i4 i5 kk, j0 N c kk (fuel + 1) (b, s, i4, i5, R.take k) = j0 N c kk fuel (b2.drop 1, s2, i4, i5, R.take (k + 1)) := fun i4 i5 kk => by
   conv => lhs; unfold j0
   rw [hrd, aC, NE]
   dsimp only
   rw [cF (dF (He W _)), Li, YR]
   dsimp only
   rw [cF (dF (by omega)), L7 (by omega), aC, L8 (by omega), aC, cF (by rw [dT h2]; rfl), Qm (by rw [hlk, List.length_take]; omega), aC, htk]
  refine ⟨b3, s3, w3, g1, ?_⟩
  rcases g2 with ⟨i, u, a1, a2, a3, a4⟩ | ⟨a1, a2⟩
  ·exact .inl ⟨i, u, a1, a2, fun i4 i5 kk => by rw [step, a3], a4⟩
  ·exact .inr ⟨a1, fun i4 i5 kk => by rw [step, a2]⟩
theorem T0 {t : List UInt8} (hb : zY t = true) (h : 1 ≤ t.length) : ∃ x, t[0]? = some x ∧ (((x.toNat : Int) = 48) ↔ 2 * num 2 (hU t) < 2 ^ t.length) := by
 cases t with
 | nil => simp at h
 | cons x t =>
  refine ⟨x, rfl, ?_⟩;have hl := wJ (B := 2) (hU t) (sG (by unfold zY at hb ⊢; rw [List.all_cons, Bool.and_eq_true] at hb; exact hb.2));have bl : (hU t).length = t.length := by simp [hU]
  have hx : x = 48 ∨ x = 49 := by unfold zY at hb; rw [List.all_cons, Bool.and_eq_true] at hb; exact of_decide_eq_true hb.1
  rw [show hU (x :: t) = (x.toNat - 48) :: hU t from rfl, Gl, List.length_cons, Nat.pow_succ, bl];rw [bl] at hl
  rcases hx with rfl | rfl
  ·rw [show (48 : UInt8).toNat = 48 from rfl]
   constructor
   ·intro _; omega
   ·intro _; rfl
  ·rw [show (49 : UInt8).toNat = 49 from rfl]
   constructor
   ·intro h; omega
   ·intro h; omega
theorem Qn {t : List UInt8} (h : 2 * num 2 (hU t) < 2 ^ t.length) : vd t = (num 2 (hU t) : Int) - (((2 ^ t.length : Nat) : Int) - 1) := by unfold vd; rw [if_pos h]; omega
theorem Qo {t : List UInt8} (h : ¬ 2 * num 2 (hU t) < 2 ^ t.length) : vd t = (num 2 (hU t) : Int) := by unfold vd; rw [if_neg h]
theorem T1 {P : List Int} {x y : Int} : (P ++ [x]).set P.length y = P ++ [y] := by
 rw [List.set_append_right _ _ (Nat.le_refl _), Nat.sub_self]; rfl
theorem T2 (N : Nat) (hN : 5000 ≤ N) {c : List Int} (hc : lO c = 0) {w h : Nat} (hw : 1 ≤ w ∧ w ≤ 64) (hh : 1 ≤ h ∧ h ≤ 64) {kind : Int} (hk : 1 ≤ kind ∧ kind ≤ 7) (kk) : ∀ (j fuel : Nat) (P : List Int) (b s : List UInt8), P.length + j = w * h → j < fuel → (∀ e ∈ P, 0 ≤ e ∧ e ≤ 65535) → b.length ≤ 7 → zY (b ++ pK s) = true →
  (Il (wordsOf c) w kind j P (b ++ pK s) = none ∧ fQ N (w : Int) (h : Int) kind c kk fuel (P, b, s, (P.length : Int)) = some (0, 0, [], 1)) ∨
  (∃ P2 b2 s2, Il (wordsOf c) w kind j P (b ++ pK s) = some (P2, b2 ++ pK s2) ∧ b2.length ≤ 7 ∧ fQ N (w : Int) (h : Int) kind c kk fuel (P, b, s, (P.length : Int)) = kk (P2, b2, s2, ((w * h : Nat) : Int))) := by
 have hm := Nat.mul_le_mul hw.2 hh.2;have T3 : IntKind.i64.wrap ((w : Int) * (h : Int)) = ((w * h : Nat) : Int) := by rw [show (w : Int) * (h : Int) = ((w * h : Nat) : Int) by simp, iE (by omega)]
 have hbW := kZ c
 have T4 : (wordsOf c).length ≤ 17 := by
  rw [tT hc];obtain ⟨ns, rfl, _, _, NC, _⟩ := zK hc;rw [iN]; exact NC
 intro j
 induction j with
 | zero =>
  intro fuel P b s hj hf hP hb hB;obtain ⟨fuel, rfl⟩ := mN fuel (by omega);refine .inr ⟨P, b, s, rfl, hb, ?_⟩;unfold fQ;rw [T3, cF (dF (by omega)), show P.length = w * h by omega]
 | succ j ih =>
  intro fuel P b s hj hf hP hb hB;obtain ⟨fuel, rfl⟩ := mN fuel (by omega);have hlt : P.length < w * h := by omega
  have hnx : IntKind.i64.wrap ((P.length : Int) + 1) = ((P.length + 1 : Nat) : Int) := by rw [iE (by omega)]; rfl
  have hP0 : ∀ e ∈ P ++ [0], 0 ≤ e ∧ e ≤ 65535 := fun e he => by
   rcases List.mem_append.1 he with q | q
   ·exact hP e q
   ·rw [List.mem_singleton.1 q]; decide
  have hP1 : (P ++ [(0 : Int)]).length = P.length + 1 := by simp
  have hg : pE N (w : Int) (h : Int) (P ++ [0]) kind (P.length : Int) = some (gs w P kind P.length) := by
   rw [Pc hP0 N hw hk _ (by omega) (by omega), Hi hw.1 _ _ _ (Nat.le_refl _)]
  have hgi : -65535 ≤ gs w P kind P.length ∧ gs w P kind P.length ≤ 131070 := by
   rw [← Hi hw.1 P [0] kind (Nat.le_refl _)];exact TT hP0 hw.1 (by omega)
  have hset : ∀ y : Int, xX (P ++ [0]) (P.length : Int) y = some (P ++ [y]) := fun y => by
   rw [Fg (by omega), Int.toNat_natCast, T1]
  have hix : idx (P ++ [(0 : Int)]) (P.length : Int) = some 0 := by rw [gB]; simp
  have hval : ∀ d : Int, -32768 < d ∧ d ≤ 32768 → IntKind.i64.wrap (IntKind.u16.wrap (IntKind.i64.wrap (gs w P kind P.length + d))) = (gs w P kind P.length + d) % 65536 := fun d hd => by
   rw [iE (x := gs w P kind P.length + d) (by omega), show IntKind.u16.wrap (gs w P kind P.length + d) = (gs w P kind P.length + d) % 65536 by simp [IntKind.wrap, IntKind.bits, IntKind.signed], iE (by omega)]
  have go : ∀ (d : Int) (b2 s2 : List UInt8), b2.length ≤ 7 → rdStep (wordsOf c) (b ++ pK s) = some (d, b2 ++ pK s2) → 
    fQ N (w : Int) (h : Int) kind c kk (fuel + 1) (P, b, s, (P.length : Int)) = fQ N (w : Int) (h : Int) kind c kk fuel (P ++ [(gs w P kind P.length + d) % 65536], b2, s2, ((P.length + 1 : Nat) : Int)) →
    (Il (wordsOf c) w kind (j + 1) P (b ++ pK s) = none ∧ fQ N (w : Int) (h : Int) kind c kk (fuel + 1) (P, b, s, (P.length : Int)) = some (0, 0, [], 1)) ∨
    (∃ P2 b2 s2, Il (wordsOf c) w kind (j + 1) P (b ++ pK s) = some (P2, b2 ++ pK s2) ∧ b2.length ≤ 7 ∧ fQ N (w : Int) (h : Int) kind c kk (fuel + 1) (P, b, s, (P.length : Int)) = kk (P2, b2, s2, ((w * h : Nat) : Int))) := by
   intro d b2 s2 h1 h2 h3;obtain ⟨hd, _, hRR⟩ := step_ok hbW T4 hB h2
   have hB2 : zY (b2 ++ pK s2) = true := by
    rw [hRR, uX, Bool.and_eq_true] at hB;exact hB.2
   have hl : (P ++ [(gs w P kind P.length + d) % 65536]).length = P.length + 1 := by simp
   have := ih fuel (P ++ [(gs w P kind P.length + d) % 65536]) b2 s2 (by omega) (by omega) (fun e he => by
    rcases List.mem_append.1 he with q | q
    ·exact hP e q
    ·rw [List.mem_singleton.1 q]; omega) h1 hB2
   have e : Il (wordsOf c) w kind (j + 1) P (b ++ pK s) = Il (wordsOf c) w kind j (P ++ [(gs w P kind P.length + d) % 65536]) (b2 ++ pK s2) := by
    conv => lhs; unfold Il
    rw [h2]
   rw [hl] at this;rw [e, h3];exact this
  have bad : rdStep (wordsOf c) (b ++ pK s) = none → Il (wordsOf c) w kind (j + 1) P (b ++ pK s) = none := fun q => by unfold Il; rw [q]
  obtain ⟨b2, s2, w2, n1, n2⟩ := V5 N hN hc hB 16 0 N b s rfl (by omega) (by omega) hb rfl (fun u hu h0 hl hx => hx.1 (by omega));have start : fQ N (w : Int) (h : Int) kind c kk (fuel + 1) (P, b, s, (P.length : Int)) = fQ N (w : Int) (h : Int) kind c kk (fuel + 1) (P, b, s, (P.length : Int)) := rfl
  rcases n2 with ⟨i, u, a1, a2, a3, a4⟩ | ⟨a1, a2⟩
  rotate_left
  ·refine .inl ⟨bad (by unfold rdStep; rw [a1]), ?_⟩;unfold fQ;rw [T3, cT (dT (by omega)), kY (by simp; omega), aC];refine (a2 0 0 _).trans ?_
   rfl
  have hgd : (wordsOf c).getD i [] = u := by rw [List.getD_eq_getElem?_getD, a2]; rfl
  have hil : i < (wordsOf c).length := (List.getElem?_eq_some_iff.1 a2).1
  have hst : rdStep (wordsOf c) (b ++ pK s) = if i = 16 then some (32768, b2 ++ pK s2) else if (b2 ++ pK s2).length < i then none else some (vd ((b2 ++ pK s2).take i), (b2 ++ pK s2).drop i) := by
   unfold rdStep;rw [a1]
   dsimp only
   rw [hgd, a4]
  by_cases h16 : i = 16
  ·refine go 32768 b2 s2 n1 (by rw [hst, if_pos h16]) ?_
   conv => lhs; unfold fQ
   rw [T3, cT (dT (by omega)), kY (by simp; omega), aC];refine (a3 0 0 _).trans ?_
   dsimp only
   rw [cF (by rfl), cT (dT (by omega)), hg, aC, hix, aC, hval _ (by decide), hset, aC, hnx]
  rw [if_neg h16] at hst
  by_cases h0 : i = 0
  ·subst h0;refine go 0 b2 s2 n1 (by rw [hst, if_neg (by omega), List.take_zero, List.drop_zero]; rfl) ?_
   conv => lhs; unfold fQ
   rw [T3, cT (dT (by omega)), kY (by simp; omega), aC];refine (a3 0 0 _).trans ?_
   dsimp only
   rw [cF (by rfl), cF (dF (by omega)), cF (dF (by omega)), hg, aC, hix, aC, hval _ (by decide), hset, aC, hnx]
  obtain ⟨b3, s3, f1, f2, f3, f4⟩ := L9 N (by omega) (n := i) (by omega) 2 N b2 s2 (by omega) (by omega) (by omega);rw [f2] at hst
  by_cases hs : b3.length < i
  ·have hs3 := f4 hs;refine .inl ⟨bad (by rw [hst, hs3, Jy, List.append_nil, if_pos hs]), ?_⟩;unfold fQ;rw [T3, cT (dT (by omega)), kY (by simp; omega), aC];refine (a3 0 0 _).trans ?_
   dsimp only
   rw [cF (by rfl), cF (dF (by omega)), cT (dT (by omega)), f1]
   dsimp only
   rw [cT (dT (by omega))]
  obtain ⟨t1, t2⟩ := TZ (b := b3) (T := pK s3) (n := i) (by omega)
  have hB3 : zY (b3.take i) = true := by
   have e : b ++ pK s = u ++ (b3.take i ++ (b3.drop i ++ pK s3)) := by
    obtain ⟨u2, hu2, _, hub⟩ := Db a1;rw [a2] at hu2;cases hu2;obtain ⟨T, hT⟩ := hub;rw [← hT, List.drop_left] at a4;rw [← hT, a4, f2, ← List.append_assoc (b3.take i), List.take_append_drop]
   rw [e, uX, uX, Bool.and_eq_true, Bool.and_eq_true] at hB;exact hB.2.1
  have hlen : (b3.take i).length = i := by rw [List.length_take]; omega
  rw [if_neg (by rw [List.length_append]; omega), t1, t2] at hst;obtain ⟨_, _, v1, v2⟩ := L6 hB3 (by omega);have hvl := wJ (B := 2) (hU (b3.take i)) (sG hB3);have bl : (hU (b3.take i)).length = i := by simp only [hU, List.length_map]; exact hlen
  rw [bl] at hvl;have aEj := AB (d := i) (by omega);obtain ⟨x, x1, x2⟩ := T0 hB3 (by omega);rw [hlen] at x2;refine go (vd (b3.take i)) (b3.drop i) s3 (by rw [List.length_drop]; omega) hst ?_
  conv => lhs; unfold fQ
  rw [T3, cT (dT (by omega)), kY (by simp; omega), aC];refine (a3 0 0 _).trans ?_
  dsimp only
  rw [cF (by rfl), cF (dF (by omega)), cT (dT (by omega)), f1]
  dsimp only
  rw [cF (dF (by omega)), zL (by omega), aC, Da (by omega), aC, O8 N (by omega) (by omega), aC, if_pos hB3, if_pos (by omega), show idx (b3.take i) 0 = (b3.take i)[0]? from gB _ 0, x1, aC]
  dsimp only
  by_cases hx : 2 * num 2 (hU (b3.take i)) < 2 ^ i
  ·have hv := Qn (t := b3.take i) (by rw [hlen]; exact hx);rw [hlen] at hv;rw [cT (dT (x2.2 hx)), zJ, aC, DN (by omega), iE (x := _ - 1) (by omega), iE (x := _ - _) (by omega), aC, hg, aC, hix, aC, ← hv, hval _ (by omega), hset, aC, hnx]
  ·have hv := Qo (t := b3.take i) (by rw [hlen]; exact hx);rw [cF (dF (fun q => hx (x2.1 q))), hg, aC, hix, aC, ← hv, hval _ (by omega), hset, aC, hnx]
def pX (s : List UInt8) (W H kind : Int) (c : List Int) : Int × Int × List Int × Int :=
 if ¬ (1 ≤ W ∧ W ≤ 64) then (0, 0, [], 3) else if ¬ (1 ≤ H ∧ H ≤ 64) then (0, 0, [], 3) else if ¬ (1 ≤ kind ∧ kind ≤ 7) then (0, 0, [], 6) else if lO c ≠ 0 then (0, 0, [], lO c) else
 match Il (wordsOf c) W.toNat kind (W.toNat * H.toNat) [] (pK s) with
 | none => (0, 0, [], 1)
 | some (P, R) => if R.length ≤ 7 ∧ R = List.replicate R.length 48 then (W, H, P, 0) else (0, 0, [], 1)
theorem aA5 : ∀ {b : List UInt8}, zY b = true → (decide (0 ≤ Go.Lib.indexByte b 49)) = !decide (b = List.replicate b.length 48)
 | [], _ => rfl
 | x :: b, h => by
  have hx : x = 48 ∨ x = 49 := by unfold zY at h; rw [List.all_cons, Bool.and_eq_true] at h; exact of_decide_eq_true h.1
  have hb : zY b = true := by unfold zY at h ⊢; rw [List.all_cons, Bool.and_eq_true] at h; exact h.2
  have ih := aA5 hb;have ge := Go.Lib.indexByte_ge b 49
  rcases hx with rfl | rfl
  ·have e : decide (0 ≤ Go.Lib.indexByte (48 :: b) 49) = decide (0 ≤ Go.Lib.indexByte b 49) := by
    rw [decide_eq_decide];show 0 ≤ (if ((48 : UInt8) == 49) = true then (0 : Int) else if (Go.Lib.indexByte b 49 == -1) = true then -1 else Go.Lib.indexByte b 49 + 1) ↔ _;rw [if_neg (by decide)]
    by_cases hq : Go.Lib.indexByte b 49 = -1
    ·rw [if_pos (by rw [hq]; rfl), hq]
    ·rw [if_neg (by simpa using hq)]; omega
   rw [e, ih]
   congr 1
   rw [decide_eq_decide, List.length_cons, List.replicate_succ]
   simp
  ·rw [dF (show ¬ ((49 : UInt8) :: b = List.replicate ((49 : UInt8) :: b).length 48) by rw [List.length_cons, List.replicate_succ]; intro q; injection q with q _; revert q; decide)];exact dT (by show 0 ≤ (if ((49 : UInt8) == 49) = true then (0 : Int) else _); rw [if_pos (by decide)]; exact Int.le_refl _)
theorem Kx (N : Nat) (hN : 200000 ≤ N) (s : List UInt8) (W H kind : Int) (c : List Int) : Az N s W H kind c = some (pX s W H kind c) := by
 unfold Az pX
 by_cases h1 : W < 1
 ·rw [cT (dT h1), if_pos (by omega)]
 rw [cF (dF h1)]
 by_cases h2 : 64 < W
 ·rw [cT (dT h2), if_pos (by omega)]
 rw [cF (dF h2), if_neg (by omega)]
 by_cases h3 : H < 1
 ·rw [cT (dT h3), if_pos (by omega)]
 rw [cF (dF h3)]
 by_cases h4 : 64 < H
 ·rw [cT (dT h4), if_pos (by omega)]
 rw [cF (dF h4), if_neg (by omega)]
 by_cases h5 : kind < 1
 ·rw [cT (dT h5), if_pos (by omega)]
 rw [cF (dF h5)]
 by_cases h6 : 7 < kind
 ·rw [cT (dT h6), if_pos (by omega)]
 rw [cF (dF h6), if_neg (by omega), DO N (by omega), aC]
 by_cases h7 : lO c = 0
 rotate_left
 ·rw [cT (by rw [dF h7]; rfl), if_pos h7]
 rw [cF (by rw [dT h7]; rfl), if_neg (by omega)];obtain ⟨w, rfl⟩ := Int.eq_ofNat_of_zero_le (show 0 ≤ W by omega);obtain ⟨h, rfl⟩ := Int.eq_ofNat_of_zero_le (show 0 ≤ H by omega);have hm := Nat.mul_le_mul (show w ≤ 64 by omega) (show h ≤ 64 by omega);rw [Int.toNat_natCast, Int.toNat_natCast];have hB : zY ([] ++ pK s) = true := zM s
 have key := T2 N (by omega) h7 (w := w) (h := h) (by omega) (by omega) (kind := kind) (by omega) (fun (LN, x27, x28, i8) =>
  cond (!decide (x28 = ([] : List UInt8))) (
  some (0, 0, ([] : List Int), 1)) (
  Option.bind (rG N x27 ([49] : List UInt8)) fun Ks =>
  cond (Ks) (
  some (0, 0, ([] : List Int), 1)) (
  some ((w : Int), (h : Int), LN, 0)))) (w * h) N [] [] s (by simp) (by omega) (by simp) (by simp) hB
 rw [List.nil_append] at key
 rcases key with ⟨k1, k2⟩ | ⟨P2, b2, s2, k1, k2, k3⟩
 ·rw [k1]; exact k2
 refine Eq.trans k3 ?_;rw [k1]
 dsimp only
 have hB2 : zY (b2 ++ pK s2) = true := (JA (kZ c) (by
  rw [tT h7];obtain ⟨ns, rfl, _, _, NC, _⟩ := zK h7
  rw [iN]; exact NC) (by omega) _ _ _ [] _ _ (zM s) (by simp) rfl k1).2.2.2.2
 by_cases hs : s2 = []
 rotate_left
 ·have : 1 ≤ s2.length := by
   rcases Nat.eq_zero_or_pos s2.length with q | q
   ·exact absurd (List.length_eq_zero_iff.1 q) hs
   ·exact q
  rw [cT (by rw [dF hs]; rfl), if_neg];rw [List.length_append, EF]
  omega
 subst hs;rw [Jy, List.append_nil] at hB2 ⊢;rw [cF (by rfl), show rG N b2 [49] = some (decide (0 ≤ Go.Lib.indexByte b2 49)) from rfl, aC, aA5 hB2]
 by_cases hz : b2 = List.replicate b2.length 48
 ·rw [dT hz, if_pos ⟨k2, hz⟩]; rfl
 ·rw [dF hz, if_neg (fun q => hz q.2)]; rfl
theorem T5 {P : List Int} {m : Nat} {y : Int} : (P ++ List.replicate (m + 1) 0).set P.length y = (P ++ [y]) ++ List.replicate m 0 := by
 rw [List.set_append_right _ _ (Nat.le_refl _), Nat.sub_self, List.replicate_succ, List.set_cons_zero, List.append_assoc]; rfl
theorem V6 (N : Nat) (hN : 5000 ≤ N) {c : List Int} (hc : lO c = 0) {w h : Nat} (hw : 1 ≤ w ∧ w ≤ 64) (hh : 1 ≤ h ∧ h ≤ 64) {kind : Int} (hk : 1 ≤ kind ∧ kind ≤ 7) (kk) : ∀ (j fuel : Nat) (P : List Int) (R : List UInt8), P.length + j = w * h → j < fuel → (∀ e ∈ P, 0 ≤ e ∧ e ≤ 65535) → R.length ≤ 16777216 → zY R = true →
  eY N (w : Int) (h : Int) kind (wordsOf c) kk fuel (P ++ List.replicate j 0, R, (P.length : Int)) = match Il (wordsOf c) w kind j P R with
   | none => some (0, 0, [], 1)
   | some (P2, R2) => kk (P2, R2, ((w * h : Nat) : Int)) := by
 have hm := Nat.mul_le_mul hw.2 hh.2;have T3 : IntKind.i64.wrap ((w : Int) * (h : Int)) = ((w * h : Nat) : Int) := by rw [show (w : Int) * (h : Int) = ((w * h : Nat) : Int) by simp, iE (by omega)]
 have hbW := kZ c
 have T4 : (wordsOf c).length ≤ 17 := by
  rw [tT hc];obtain ⟨ns, rfl, _, _, NC, _⟩ := zK hc;rw [iN]; exact NC
 intro j
 induction j with
 | zero =>
  intro fuel P R hj hf hP hRl hB;obtain ⟨fuel, rfl⟩ := mN fuel (by omega);unfold eY Il;rw [T3, cF (dF (by omega)), show P.length = w * h by omega, List.replicate_zero, List.append_nil]
 | succ j ih =>
  intro fuel P R hj hf hP hRl hB;obtain ⟨fuel, rfl⟩ := mN fuel (by omega);have hlt : P.length < w * h := by omega
  have hnx : IntKind.i64.wrap ((P.length : Int) + 1) = ((P.length + 1 : Nat) : Int) := by rw [iE (by omega)]; rfl
  have hP0 : ∀ e ∈ P ++ List.replicate (j + 1) 0, 0 ≤ e ∧ e ≤ 65535 := fun e he => by
   rcases List.mem_append.1 he with q | q
   ·exact hP e q
   ·rw [(List.mem_replicate.1 q).2]; decide
  have hP1 : (P ++ List.replicate (j + 1) (0 : Int)).length = w * h := by rw [List.length_append, List.length_replicate]; omega
  have hxy : P.length / w * w + P.length % w = P.length := by rw [Nat.mul_comm]; exact Nat.div_add_mod _ _
  have hxw := Nat.mod_lt P.length (show w > 0 by omega);have hyh : P.length / w < h := Nat.div_lt_of_lt_mul hlt;obtain ⟨t1, t2⟩ := tdm (W := w) P.length (by omega);have hdl : P.length / w ≤ P.length := Nat.div_le_self _ _
  have hg : iJ N (w : Int) (h : Int) (P ++ List.replicate (j + 1) 0) kind (Int.tmod (P.length : Int) (w : Int)) (IntKind.i64.wrap (Int.tdiv (P.length : Int) (w : Int))) = some (gs w P kind P.length) := by
   rw [t1, t2, iE (x := ((P.length / w : Nat) : Int)) ⟨Int.le_trans (by decide) (Int.natCast_nonneg _), Int.le_trans (Int.ofNat_le.2 hdl) (by omega)⟩, Jw hP0 N hw hk _ hxw (by omega) (by omega) (by omega), hxy, Hi hw.1 _ _ _ (Nat.le_refl _)]
  have hgi : -65535 ≤ gs w P kind P.length ∧ gs w P kind P.length ≤ 131070 := by
   rw [← Hi hw.1 P (List.replicate (j + 1) 0) kind (Nat.le_refl _)];exact TT hP0 hw.1 (by omega)
  have hset : ∀ y : Int, xX (P ++ List.replicate (j + 1) 0) (P.length : Int) y = some ((P ++ [y]) ++ List.replicate j 0) := fun y => by
   rw [Fg (by omega), Int.toNat_natCast, T5]
  have hix : idx (P ++ List.replicate (j + 1) (0 : Int)) (P.length : Int) = some 0 := by
   rw [gB, List.getElem?_append_right (Nat.le_refl _), Nat.sub_self, List.replicate_succ]; rfl
  have hval : ∀ (d : Int) (kk2 : Int → Option (Int × Int × List Int × Int)), -32768 < d ∧ d ≤ 32768 → (Option.bind (some (IntKind.i64.wrap (gs w P kind P.length + d))) fun x => Option.bind (dS N x 65536) fun r => kk2 (IntKind.i64.wrap (x - IntKind.i64.wrap (65536 * r)))) = kk2 ((gs w P kind P.length + d) % 65536) := fun d kk2 hd => by
   rw [iE (x := gs w P kind P.length + d) (by omega), aC, IH N (by omega) (by omega), aC, iE (x := 65536 * _) (by omega), iE (by omega)]
   congr 1
   omega
  have nzw : nz (w : Int) = some () := Nl (by omega)
  have go : ∀ (d : Int) (R2 : List UInt8), rdStep (wordsOf c) R = some (d, R2) → -32768 < d ∧ d ≤ 32768 → R2.length ≤ R.length →
    (Option.bind (some (IntKind.i64.wrap (gs w P kind P.length + d))) fun x => Option.bind (dS N x 65536) fun r =>
     Option.bind (idx (P ++ List.replicate (j + 1) 0) (P.length : Int)) fun e6 =>
     Option.bind (xX (P ++ List.replicate (j + 1) 0) (P.length : Int) (IntKind.i64.wrap (x - IntKind.i64.wrap (65536 * r)))) fun l6 =>
     Option.bind (some (IntKind.i64.wrap ((P.length : Int) + 1))) fun M5 =>
     eY N (w : Int) (h : Int) kind (wordsOf c) kk fuel (l6, R2, M5)) = match Il (wordsOf c) w kind (j + 1) P R with
   | none => some (0, 0, [], 1)
   | some (P2, R2) => kk (P2, R2, ((w * h : Nat) : Int)) := by
   intro d R2 h2 hd hR2;obtain ⟨_, _, hRR⟩ := step_ok hbW T4 hB h2
   have hB2 : zY R2 = true := by
    rw [hRR, uX, Bool.and_eq_true] at hB;exact hB.2
   have hl : (P ++ [(gs w P kind P.length + d) % 65536]).length = P.length + 1 := by simp
   have := ih fuel (P ++ [(gs w P kind P.length + d) % 65536]) R2 (by omega) (by omega) (fun e he => by
    rcases List.mem_append.1 he with q | q
    ·exact hP e q
    ·rw [List.mem_singleton.1 q]; omega) (by omega) hB2
   rw [hl] at this
   have e := hval d (fun v => Option.bind (idx (P ++ List.replicate (j + 1) 0) (P.length : Int)) fun e6 =>
     Option.bind (xX (P ++ List.replicate (j + 1) 0) (P.length : Int) v) fun l6 =>
     Option.bind (some (IntKind.i64.wrap ((P.length : Int) + 1))) fun M5 =>
     eY N (w : Int) (h : Int) kind (wordsOf c) kk fuel (l6, R2, M5)) hd
   refine Eq.trans e ?_;rw [hix, aC, hset, aC, hnx, aC, this]
   conv => rhs; unfold Il
   rw [h2]
  unfold eY;rw [T3, cT (dT (by omega)), front_eq N (by omega) (by omega) hbW hRl, aC]
  rcases hf1 : L5 (wordsOf c) R with _ | i
  ·dsimp only
   rw [cT (by rw [dF (He _ _)]; rfl)];unfold Il rdStep;rw [hf1]
  obtain ⟨u, a2, hu0, hub⟩ := Db hf1;have hgd : (wordsOf c).getD i [] = u := by rw [List.getD_eq_getElem?_getD, a2]; rfl
  have hil : i < (wordsOf c).length := (List.getElem?_eq_some_iff.1 a2).1
  have hst : rdStep (wordsOf c) R = if i = 16 then some (32768, R.drop u.length) else if (R.drop u.length).length < i then none else some (vd ((R.drop u.length).take i), (R.drop u.length).drop i) := by
   unfold rdStep;rw [hf1]
   dsimp only
   rw [hgd]
  have aEk : (R.drop u.length).length ≤ R.length := by rw [List.length_drop]; omega
  dsimp only
  rw [cF (by rfl), gB, a2, aC, Da hub.length_le, aC]
  by_cases h16 : i = 16
  ·rw [cT (dT (by omega)), nzw, aC, aC, hg, aC];exact go 32768 _ (by rw [hst, if_pos h16]) (by decide) aEk
  rw [if_neg h16] at hst;rw [cF (dF (by omega))]
  have hBd : zY (R.drop u.length) = true := by
   have := hB;rw [← List.take_append_drop u.length R, uX, Bool.and_eq_true] at this; exact this.2
  generalize R.drop u.length = T at *
  by_cases hs : T.length < i
  ·rw [cT (dT (by omega))];rw [if_pos hs] at hst;unfold Il;rw [hst]
  rw [if_neg hs] at hst
  have YQ : zY (T.take i) = true := by
   have := hBd;rw [← List.take_append_drop i T, uX, Bool.and_eq_true] at this; exact this.1
  have hlen : (T.take i).length = i := by rw [List.length_take]; omega
  have aEj := AB (d := i) (by omega);have hvl := wJ (B := 2) (hU (T.take i)) (sG YQ);have bl : (hU (T.take i)).length = i := by simp only [hU, List.length_map]; exact hlen
  rw [bl] at hvl;obtain ⟨_, _, v1, v2⟩ := L6 YQ (by omega);have aA6 : (T.drop i).length ≤ R.length := by rw [List.length_drop]; omega
  have hpos := Nat.two_pow_pos i;rw [cF (dF (by omega)), zL (by omega), aC, Ru N (by omega) YQ (by omega), aC, zJ, aC, aC, DN (by omega), show Int.tdiv ((2 ^ i : Nat) : Int) 2 = ((2 ^ i / 2 : Nat) : Int) from rfl, iE (x := ((2 ^ i / 2 : Nat) : Int)) (by omega)]
  by_cases hx : num 2 (hU (T.take i)) < 2 ^ i / 2
  ·have hv := Qn (t := T.take i) (by rw [hlen]; omega);rw [hlen] at hv;rw [cT (dT (by omega)), iE (x := _ - ((2 ^ i : Nat) : Int)) (by omega), show ((num 2 (hU (T.take i)) : Nat) : Int) - ((2 ^ i : Nat) : Int) + 1 = vd (T.take i) by omega, iE (x := vd _) (by omega), aC, Da (by omega), aC, nzw, aC, aC, hg, aC];exact go _ _ hst (by omega) aA6
  ·have hv : vd (T.take i) = (num 2 (hU (T.take i)) : Int) := by
    by_cases h0 : i = 0
    ·subst h0; rfl
    ·have hp : 2 ^ i = 2 * 2 ^ (i - 1) := by rw [← Nat.pow_succ']; congr 1; omega
     exact Qo (by rw [hlen]; omega)
   rw [cF (dF (by omega)), Da (by omega), aC, nzw, aC, aC, hg, aC, ← hv];exact go _ _ hst (by omega) aA6
theorem JB {w h : Nat} (hw : 1 ≤ w ∧ w ≤ 64) (hh : 1 ≤ h ∧ h ≤ 64) {P : List Int} (hP : ∀ e ∈ P, 0 ≤ e ∧ e ≤ 65535) (hl : P.length = w * h) {kind : Int} (hk : 1 ≤ kind ∧ kind ≤ 7) {c : List Int} (hc : lO c = 0) (ha : (ds w P kind).all (OH (wordsOf c)) = true) : DP (w : Int) (h : Int) P kind c = (W0 (Fr (wordsOf c) (ds w P kind)), 0) := by
 have hp : Vh (w : Int) (h : Int) P = true := by
  unfold Vh;rw [dT (show DL (w : Int) (h : Int) P.length from ⟨by omega, by omega, by omega, by omega, by rw [hl]; simp⟩), Bool.true_and, List.all_eq_true];exact fun e he => dT (hP e he)
 unfold DP;rw [hp, if_neg (by decide), if_neg (by omega), if_neg (by omega), Int.toNat_natCast, if_pos ha]
theorem Mb (N : Nat) (hN : 200000 ≤ N) (s : List UInt8) (W H kind : Int) (c : List Int) : nT N s W H kind c = some (pX s W H kind c) := by
 unfold nT pX;rw [t6, aC]
 by_cases h1 : 1 ≤ W ∧ W ≤ 64
 rotate_left
 ·rw [cT (by rw [dF h1]; rfl), if_pos h1]
 rw [cF (by rw [dT h1]; rfl), if_neg (by omega), t6, aC]
 by_cases h2 : 1 ≤ H ∧ H ≤ 64
 rotate_left
 ·rw [cT (by rw [dF h2]; rfl), if_pos h2]
 rw [cF (by rw [dT h2]; rfl), if_neg (by omega), t6, aC]
 by_cases h3 : 1 ≤ kind ∧ kind ≤ 7
 rotate_left
 ·rw [cT (by rw [dF h3]; rfl), if_pos h3]
 rw [cF (by rw [dT h3]; rfl), if_neg (by omega), Hb N (by omega), aC]
 by_cases h7 : lO c = 0
 rotate_left
 ·rw [cT (by rw [dF h7]; rfl), if_pos h7]
 rw [cF (by rw [dT h7]; rfl), if_neg (by omega), HT N (by omega) h7, aC];obtain ⟨w, rfl⟩ := Int.eq_ofNat_of_zero_le (show 0 ≤ W by omega);obtain ⟨h, rfl⟩ := Int.eq_ofNat_of_zero_le (show 0 ≤ H by omega);have hm := Nat.mul_le_mul (show w ≤ 64 by omega) (show h ≤ 64 by omega);rw [Int.toNat_natCast, Int.toNat_natCast]
 have T4 : (wordsOf c).length ≤ 17 := by
  rw [tT h7];obtain ⟨ns, rfl, _, _, NC, _⟩ := zK h7;rw [iN]; exact NC
 have fin : ∀ P2 R2, Il (wordsOf c) w kind (w * h) [] (pK s) = some (P2, R2) → DP (w : Int) (h : Int) P2 kind c = (W0 (Fr (wordsOf c) (ds w P2 kind)), 0) ∧ pK s = Fr (wordsOf c) (ds w P2 kind) ++ R2 ∧ (ds w P2 kind).length = w * h := fun P2 R2 hr => by
  obtain ⟨q1, q2, q3, q4, q5⟩ := JA (kZ c) T4 (by omega) _ _ _ [] _ _ (zM s) (by simp) rfl hr;rw [List.length_nil, Nat.zero_add] at q1;refine ⟨JB (by omega) (by omega) q2 q1 h3 h7 q3, q4, by rw [Pf, q1]⟩
 by_cases h8 : 32768 < s.length
 ·rw [cT (dT (by omega))]
  rcases hr : Il (wordsOf c) w kind (w * h) [] (pK s) with _ | ⟨P2, R2⟩
  ·rfl
  dsimp only
  obtain ⟨_, q2, q3⟩ := fin P2 R2 hr;have hcl := Gq (kZ c) (Qj w P2 kind);have := congrArg List.length q2;rw [EF, List.length_append] at this;rw [if_neg (by omega)]
 have T3 : IntKind.i64.wrap ((w : Int) * (h : Int)) = ((w * h : Nat) : Int) := by rw [show (w : Int) * (h : Int) = ((w * h : Nat) : Int) by simp, iE (by omega)]
 rw [cF (dF (by omega)), TA N (by omega) (by omega), aC, T3, aC, mk_eq (by omega), aC, Int.toNat_natCast]
 have key := V6 N (by omega) h7 (w := w) (h := h) (by omega) (by omega) h3 (fun (QZ, i3, i4) =>
  Option.bind (lI N (w : Int) (h : Int) QZ kind c) fun Na =>
  cond (!decide (Na.2 = 0)) (
  some (0, 0, ([] : List Int), 1)) (
  cond (!decide (Na.1 = s)) (
  some (0, 0, ([] : List Int), 1)) (
  some ((w : Int), (h : Int), QZ, 0)))) (w * h) N [] (pK s) (by simp) (by omega) (by simp) (by rw [EF]; omega) (zM s)
 rw [List.nil_append] at key;refine Eq.trans key ?_
 rcases hr : Il (wordsOf c) w kind (w * h) [] (pK s) with _ | ⟨P2, R2⟩
 ·rfl
 dsimp only
 obtain ⟨q1, q2, q3⟩ := fin P2 R2 hr;have hfi := Qk q2;rw [Kw N hN, aC, q1]
 dsimp only
 rw [cF (by rfl)]
 by_cases hz : R2.length ≤ 7 ∧ R2 = List.replicate R2.length 48
 ·rw [if_pos hz, cF (by rw [dT (hfi.2 hz)]; rfl)]
 ·rw [if_neg hz, cT (by rw [dF (fun q => hz (hfi.1 q))]; rfl)]
theorem JC (s : List UInt8) (W H kind : Int) (c : List Int) : (pX s W H kind c).2.2.1.length ≤ 4096 := by
 unfold pX
 split
 ·simp
 split
 ·simp
 split
 ·simp
 split
 ·simp
 rename_i h1 h2 h3 h4
 split
 ·simp
 rename_i P R hr
 split
 rotate_left
 ·simp
 have h7 : lO c = 0 := by omega
 have T4 : (wordsOf c).length ≤ 17 := by
  rw [tT h7];obtain ⟨ns, rfl, _, _, NC, _⟩ := zK h7;rw [iN]; exact NC
 have hm := Nat.mul_le_mul (show W.toNat ≤ 64 by omega) (show H.toNat ≤ 64 by omega);have := (JA (kZ c) T4 (by omega) _ _ _ [] _ _ (zM s) (by simp) rfl hr).1;rw [List.length_nil, Nat.zero_add] at this;show P.length ≤ _
 omega
theorem NF (s : List UInt8) (W H kind : Int) (c : List Int) (h : (pX s W H kind c).2.2.2 = 0) : DP (pX s W H kind c).1 (pX s W H kind c).2.1 (pX s W H kind c).2.2.1 kind c = (s, 0) := by
 unfold pX at h ⊢
 by_cases h1 : 1 ≤ W ∧ W ≤ 64
 rotate_left
 ·rw [if_pos h1] at h; cases h
 rw [if_neg (by omega)] at h ⊢
 by_cases h2 : 1 ≤ H ∧ H ≤ 64
 rotate_left
 ·rw [if_pos h2] at h; cases h
 rw [if_neg (by omega)] at h ⊢
 by_cases h3 : 1 ≤ kind ∧ kind ≤ 7
 rotate_left
 ·rw [if_pos h3] at h; cases h
 rw [if_neg (by omega)] at h ⊢
 by_cases h7 : lO c = 0
 rotate_left
 ·rw [if_pos h7] at h; exact absurd h h7
 rw [if_neg (by omega)] at h ⊢;obtain ⟨w, rfl⟩ := Int.eq_ofNat_of_zero_le (show 0 ≤ W by omega);obtain ⟨k, rfl⟩ := Int.eq_ofNat_of_zero_le (show 0 ≤ H by omega);rw [Int.toNat_natCast, Int.toNat_natCast] at h ⊢
 have T4 : (wordsOf c).length ≤ 17 := by
  rw [tT h7];obtain ⟨ns, rfl, _, _, NC, _⟩ := zK h7;rw [iN]; exact NC
 rcases hr : Il (wordsOf c) w kind (w * k) [] (pK s) with _ | ⟨P2, R2⟩
 ·rw [hr] at h; cases h
 rw [hr] at h;dsimp only at h ⊢
 by_cases hz : R2.length ≤ 7 ∧ R2 = List.replicate R2.length 48
 rotate_left
 ·rw [if_neg hz] at h; cases h
 rw [if_pos hz];obtain ⟨q1, q2, q3, q4, q5⟩ := JA (kZ c) T4 (by omega) _ _ _ [] _ _ (zM s) (by simp) rfl hr;rw [List.length_nil, Nat.zero_add] at q1
 dsimp only
 rw [JB (by omega) (by omega) q2 q1 h3 h7 q3, (Qk q4).2 hz]
theorem EG {s : List UInt8} {o p : Int} (h : gC s o p = 0) : ∃ d n : Nat, o = d ∧ p = n ∧ (1 ≤ d ∧ d ≤ 16) ∧ n ≤ 4096 ∧ s.length = (n * d + 7) / 8 ∧ D1 s s.length % 2 ^ (8 * s.length - d * n) = 0 := by
 unfold gC at h
 by_cases h1 : 1 ≤ o ∧ o ≤ 16
 rotate_left
 ·rw [if_pos h1] at h; cases h
 rw [if_neg (fun q => q h1)] at h
 by_cases h2 : p < 0
 ·rw [if_pos h2] at h; cases h
 rw [if_neg h2] at h
 by_cases h3 : 4096 < p
 ·rw [if_pos h3] at h; cases h
 rw [if_neg h3] at h;obtain ⟨d, rfl⟩ := Int.eq_ofNat_of_zero_le (show 0 ≤ o by omega);obtain ⟨n, rfl⟩ := Int.eq_ofNat_of_zero_le (show 0 ≤ p by omega);rw [Int.toNat_natCast, Int.toNat_natCast] at h
 by_cases h4 : s.length = (n * d + 7) / 8
 rotate_left
 ·rw [if_pos h4] at h; cases h
 rw [if_neg (fun q => q h4)] at h
 by_cases h5 : D1 s s.length % 2 ^ (8 * s.length - d * n) = 0
 rotate_left
 ·rw [if_pos h5] at h; cases h
 exact ⟨d, n, rfl, rfl, by omega, by omega, h4, h5⟩
abbrev Mc := Int × Int × Int × Int × Int × List Int × List (List UInt8) × Int × Int × Int × Int × Int × Int × List (Int × Int) × Int × Int × Int × Int × Int × Int × Int × Int × Int × Int × Int × Int × List (Int × Int) × Int × Int
theorem W2 {β : Type} {a b : Prop} [Decidable a] [Decidable b] (kk : Bool → Option β) : cond (decide a) (kk (decide a)) (kk (decide b)) = kk (decide (a ∨ b)) := by
 by_cases h : a
 ·rw [decide_eq_true h, decide_eq_true (show a ∨ b from Or.inl h)]; rfl
 ·rw [decide_eq_false h]
  by_cases h2 : b
  ·rw [decide_eq_true h2, decide_eq_true (show a ∨ b from Or.inr h2)]; rfl
  ·rw [decide_eq_false h2, decide_eq_false (show ¬ (a ∨ b) from fun q => q.elim h h2)]; rfl
section
variable (W H D K R : Int) (Ls : List Int) (St : List (List UInt8)) (ph b0 b1 b2 b3 w : Int) (sp : List (Int × Int)) (g0 g1 g2 m0 m1 m2 m3 m4 m5 m6 m7 m8 : Int) (cv : List (Int × Int)) (am : Int)
theorem V7 (N : Nat) (kk) : Am N H R kk = kk (decide (R < 1 ∨ H < R)) := by unfold Am; exact W2 kk
theorem V8 (N : Nat) (kk) : An N H D R kk = kk (decide (16 < D ∨ R < 1 ∨ H < R)) := by unfold An; rw [V7]; exact W2 kk
theorem V9 (N : Nat) (kk) : Ao N H D R kk = kk (decide (D < 1 ∨ 16 < D ∨ R < 1 ∨ H < R)) := by unfold Ao; rw [V8]; exact W2 kk
theorem Wa (N : Nat) (kk) : Ap N H D R kk = kk (decide (64 < H ∨ D < 1 ∨ 16 < D ∨ R < 1 ∨ H < R)) := by unfold Ap; rw [V9]; exact W2 kk
theorem Wb (N : Nat) (kk) : Aq N H D R kk = kk (decide (H < 1 ∨ 64 < H ∨ D < 1 ∨ 16 < D ∨ R < 1 ∨ H < R)) := by unfold Aq; rw [Wa]; exact W2 kk
theorem Wc (N : Nat) (kk) : Ar N W H D R kk = kk (decide (64 < W ∨ H < 1 ∨ 64 < H ∨ D < 1 ∨ 16 < D ∨ R < 1 ∨ H < R)) := by unfold Ar; rw [Wb]; exact W2 kk
theorem Wd (N : Nat) (kk) : At N W H D R kk = kk (decide (W < 1 ∨ 64 < W ∨ H < 1 ∨ 64 < H ∨ D < 1 ∨ 16 < D ∨ R < 1 ∨ H < R)) := by unfold At; rw [Wc]; exact W2 kk
theorem We (N : Nat) (kk) : As N K kk = kk (decide (K < 0 ∨ 7 < K)) := by unfold As; exact W2 kk
def Cg : Prop := (1 ≤ W ∧ W ≤ 64) ∧ (1 ≤ H ∧ H ≤ 64) ∧ (1 ≤ D ∧ D ≤ 16) ∧ 1 ≤ R ∧ R ≤ H
instance : Decidable (Cg W H D R) := by unfold Cg; exact inferInstance
def xU : Int := if ¬ Cg W H D R then 3 else if ¬ (0 ≤ K ∧ K ≤ 7) then 6 else if 0 < K then lO Ls else if 0 < Ls.length then 1 else 0
theorem RE (N : Nat) (hN : 100 ≤ N) : Af N W H D K R Ls St ph b0 b1 b2 b3 w sp g0 g1 g2 m0 m1 m2 m3 m4 m5 m6 m7 m8 cv am = some (xU W H D K R Ls) := by
 unfold Af xU;rw [Wd]
 by_cases h1 : Cg W H D R
 rotate_left
 ·rw [cT (decide_eq_true (by unfold Cg at h1; omega)), if_pos h1]
 rw [cF (decide_eq_false (by unfold Cg at h1; omega)), if_neg (fun q => q h1), We]
 by_cases h2 : 0 ≤ K ∧ K ≤ 7
 rotate_left
 ·rw [cT (decide_eq_true (by omega)), if_pos h2]
 rw [cF (decide_eq_false (by omega)), if_neg (fun q => q h2)]
 by_cases h3 : 0 < K
 ·rw [cT (dT h3), DO N hN, aC, if_pos h3]
 rw [cF (dF h3), if_neg h3]
 by_cases h4 : 0 < Ls.length
 ·rw [cT (dT (by omega)), if_pos h4]
 ·rw [cF (dF (by omega)), if_neg h4]
theorem T6 (N : Nat) (hN : 100 ≤ N) : mZ N W H D K R Ls St ph b0 b1 b2 b3 w sp g0 g1 g2 m0 m1 m2 m3 m4 m5 m6 m7 m8 cv am = some (xU W H D K R Ls) := by
 unfold mZ xU;rw [t6, aC]
 by_cases h1 : 1 ≤ W ∧ W ≤ 64
 rotate_left
 ·rw [cT (by rw [dF h1]; rfl), if_pos (fun q => h1 q.1)]
 rw [cF (by rw [dT h1]; rfl), t6, aC]
 by_cases h2 : 1 ≤ H ∧ H ≤ 64
 rotate_left
 ·rw [cT (by rw [dF h2]; rfl), if_pos (fun q => h2 q.2.1)]
 rw [cF (by rw [dT h2]; rfl), t6, aC]
 by_cases h3 : 1 ≤ D ∧ D ≤ 16
 rotate_left
 ·rw [cT (by rw [dF h3]; rfl), if_pos (fun q => h3 q.2.2.1)]
 rw [cF (by rw [dT h3]; rfl), t6, aC]
 by_cases h4 : 1 ≤ R ∧ R ≤ H
 rotate_left
 ·rw [cT (by rw [dF h4]; rfl), if_pos (fun q => h4 q.2.2.2)]
 rw [cF (by rw [dT h4]; rfl), t6, aC, if_neg (fun q => q ⟨h1, h2, h3, h4⟩)]
 by_cases h5 : 0 ≤ K ∧ K ≤ 7
 rotate_left
 ·rw [cT (by rw [dF h5]; rfl), if_pos h5]
 rw [cF (by rw [dT h5]; rfl), if_neg (fun q => q h5)]
 by_cases h6 : K = 0
 ·rw [cT (dT h6), if_neg (by omega)]
  by_cases h7 : 0 < Ls.length
  ·rw [cT (dT (by omega)), if_pos h7]
  ·rw [cF (dF (by omega)), cF (dF (by omega)), if_neg h7]
 ·rw [cF (dF h6), cT (dT (by omega)), Hb N hN, aC, if_pos (by omega)]
def JD (f : Bool) : Int := if DZ ph b0 b1 b2 b3 w sp g0 g1 g2 m0 m1 m2 m3 m4 m5 m6 m7 m8 am = false then 3 else if f = false then 1 else if sp.all (lL W H) = false then 3 else 0
theorem YS (s : List (Int × Int)) (hl : s.length ≤ 4096) : ∀ (d k fuel : Nat), k + d = s.length → d < fuel →
  ∃ r, dK 8589934592 s W H D K R Ls St ph b0 b1 b2 b3 w sp g0 g1 g2 m0 m1 m2 m3 m4 m5 m6 m7 m8 cv am (fun _ => some (-1)) fuel (k : Int) = some r ∧ decide (0 ≤ r) = !((s.drop k).all fun q => decide (q.1 < W ∧ q.2 < H)) := by
 intro d
 induction d with
 | zero =>
  intro k fuel hk hf;obtain ⟨fuel, rfl⟩ := mN fuel (by omega);obtain rfl : k = s.length := by omega
  unfold dK;rw [cF (dF (by omega))];exact ⟨_, rfl, by simp⟩
 | succ d ih =>
  intro k fuel hk hf;obtain ⟨fuel, rfl⟩ := mN fuel (by omega);have hlt : k < s.length := by omega
  unfold dK BC;rw [cT (dT (by omega)), gB, List.getElem?_eq_getElem hlt, aC, List.drop_eq_getElem_cons hlt, List.all_cons]
  by_cases h1 : W ≤ s[k].1
  ·rw [cT (dT h1), aC, cT rfl];refine ⟨_, rfl, ?_⟩;rw [dT (by omega), decide_eq_false (show ¬ (s[k].1 < W ∧ s[k].2 < H) by omega)]; rfl
  rw [cF (dF h1), aC]
  by_cases h2 : H ≤ s[k].2
  ·rw [cT (dT h2)];refine ⟨_, rfl, ?_⟩;rw [dT (by omega), decide_eq_false (show ¬ (s[k].1 < W ∧ s[k].2 < H) by omega)]; rfl
  ·rw [cF (dF h2), iE (by omega), decide_eq_true (show (s[k].1 < W ∧ s[k].2 < H) by omega), Bool.true_and];exact ih (k + 1) fuel (by omega) (by omega)
theorem NG (s : List (Int × Int)) (hl : s.length ≤ 4096) : eE 8589934592 s W H D K R Ls St ph b0 b1 b2 b3 w sp g0 g1 g2 m0 m1 m2 m3 m4 m5 m6 m7 m8 cv am = some (!(s.all fun q => decide (q.1 < W ∧ q.2 < H))) := by
 obtain ⟨r, hr, hd⟩ := YS W H D K R Ls St ph b0 b1 b2 b3 w sp g0 g1 g2 m0 m1 m2 m3 m4 m5 m6 m7 m8 cv am s hl s.length 0 8589934592 (by omega) (by omega);have hr' : dK 8589934592 s W H D K R Ls St ph b0 b1 b2 b3 w sp g0 g1 g2 m0 m1 m2 m3 m4 m5 m6 m7 m8 cv am (fun _ => some (-1)) 8589934592 0 = some r := hr;unfold eE gH;rw [hr', aC, hd, List.drop_zero]
theorem Pg {s : List (Int × Int)} (h : s.all (lL 64 64) = true) : (s.all fun q => decide (q.1 < W ∧ q.2 < H)) = s.all (lL W H) := by
 induction s with
 | nil => rfl
 | cons q s ih =>
  rw [List.all_cons, Bool.and_eq_true] at h;rw [List.all_cons, List.all_cons, ih h.2]
  congr 1
  have h1 := h.1;unfold lL at h1 ⊢;simp only [Bool.and_eq_true, decide_eq_true_eq] at h1;rw [dT h1.1.1.1, dT h1.1.2, Bool.true_and, Bool.and_true]
  by_cases a : q.1 < W <;> by_cases b : q.2 < H <;> simp [a, b]
theorem NH (h : DZ ph b0 b1 b2 b3 w sp g0 g1 g2 m0 m1 m2 m3 m4 m5 m6 m7 m8 am = true) : sp.length ≤ 64 ∧ sp.all (lL 64 64) = true := by
 unfold DZ at h;simp only [Bool.and_eq_true, decide_eq_true_eq] at h;exact ⟨h.2.2.2.1, h.2.2.2.2.1⟩
theorem RF {f : Bool} (hb : mJ 8589934592 cv = some f) (hc : f = true ↔ tZ cv) : Ag 8589934592 W H D K R Ls St ph b0 b1 b2 b3 w sp g0 g1 g2 m0 m1 m2 m3 m4 m5 m6 m7 m8 cv am = some (JD W H ph b0 b1 b2 b3 w sp g0 g1 g2 m0 m1 m2 m3 m4 m5 m6 m7 m8 am f) := by
 unfold Ag JD;rw [Tr ph b0 b1 b2 b3 w sp g0 g1 g2 m0 m1 m2 m3 m4 m5 m6 m7 m8 cv am hb hc, aC]
 by_cases h1 : DZ ph b0 b1 b2 b3 w sp g0 g1 g2 m0 m1 m2 m3 m4 m5 m6 m7 m8 am = false
 ·rw [if_pos h1, cT (by rfl), if_pos h1]
 rw [if_neg h1, if_neg h1];have h1' := (Bool.not_eq_false _).mp h1
 by_cases h2 : f = false
 ·rw [if_pos h2, cT (by rfl), if_pos h2]
 rw [if_neg h2, cF (by rfl), if_neg h2];obtain ⟨p1, p2⟩ := NH ph b0 b1 b2 b3 w sp g0 g1 g2 m0 m1 m2 m3 m4 m5 m6 m7 m8 am h1';rw [NG W H D K R Ls St ph b0 b1 b2 b3 w sp g0 g1 g2 m0 m1 m2 m3 m4 m5 m6 m7 m8 cv am sp (by omega), aC, Pg W H p2]
 by_cases h3 : sp.all (lL W H) = false
 ·rw [h3, if_pos rfl, cT (by rfl)]
 ·rw [(Bool.not_eq_false _).mp h3, cF (by rfl), if_neg (by decide)]
theorem T7 {f : Bool} (hb : g9 8589934592 cv = some f) (hW : 1 ≤ W ∧ W ≤ 64) (hH : 1 ≤ H ∧ H ≤ 64) : nC 8589934592 W H D K R Ls St ph b0 b1 b2 b3 w sp g0 g1 g2 m0 m1 m2 m3 m4 m5 m6 m7 m8 cv am = some (JD W H ph b0 b1 b2 b3 w sp g0 g1 g2 m0 m1 m2 m3 m4 m5 m6 m7 m8 am f) := by
 unfold nC JD;rw [LV ph b0 b1 b2 b3 w sp g0 g1 g2 m0 m1 m2 m3 m4 m5 m6 m7 m8 cv am hb, aC]
 by_cases h1 : DZ ph b0 b1 b2 b3 w sp g0 g1 g2 m0 m1 m2 m3 m4 m5 m6 m7 m8 am = false
 ·rw [if_pos h1, cT (by rfl), if_pos h1]
 rw [if_neg h1, if_neg h1];have h1' := (Bool.not_eq_false _).mp h1
 by_cases h2 : f = false
 ·rw [if_pos h2, cT (by rfl), if_pos h2]
 rw [if_neg h2, cF (by rfl), if_neg h2];obtain ⟨p1, p2⟩ := NH ph b0 b1 b2 b3 w sp g0 g1 g2 m0 m1 m2 m3 m4 m5 m6 m7 m8 am h1';rw [Jm sp (by omega) (by omega) (by omega), aC]
 by_cases h3 : sp.all (lL W H) = false
 ·rw [h3, if_pos rfl, cT (by rfl)]
 ·rw [(Bool.not_eq_false _).mp h3, cF (by rfl), if_neg (by decide)]
end
theorem YT (N : Nat) {l : List Int} (hl : l.length ≤ 4096) : ∀ (j k fuel : Nat) (m : Int), k + j = l.length → j < fuel → ∃ M, lG N l (fun (m4, i4) => some m4) fuel (m, (k : Int)) = some M ∧ ∀ b, M ≤ b ↔ m ≤ b ∧ ∀ e ∈ l.drop k, e ≤ b := by
 intro j
 induction j with
 | zero =>
  intro k fuel m hk hf;obtain ⟨fuel, rfl⟩ := mN fuel (by omega);unfold lG;rw [cF (dF (by omega))];refine ⟨m, rfl, fun b => ⟨fun h => ⟨h, fun e he => ?_⟩, fun h => h.1⟩⟩;rw [List.drop_of_length_le (by omega)] at he; cases he
 | succ j ih =>
  intro k fuel m hk hf;obtain ⟨fuel, rfl⟩ := mN fuel (by omega);have hlt : k < l.length := by omega
  obtain ⟨M, h1, h2⟩ := ih (k + 1) fuel (max m l[k]) (by omega) (by omega);refine ⟨M, ?_, fun b => ?_⟩
  ·unfold lG;rw [cT (dT (by omega)), gB, List.getElem?_eq_getElem hlt, aC, aC, iE (x := (k : Int) + 1) (by omega), aC];exact h1
  ·rw [h2 b, List.drop_eq_getElem_cons hlt]
   constructor
   ·rintro ⟨q1, q2⟩;refine ⟨by omega, fun e he => ?_⟩
    rcases List.mem_cons.1 he with rfl | he
    ·omega
    ·exact q2 e he
   ·rintro ⟨q1, q2⟩;have := q2 l[k] (List.mem_cons_self ..);exact ⟨by omega, fun e he => q2 e (List.mem_cons_of_mem _ he)⟩
theorem max_eq (N : Nat) {l : List Int} (h0 : 1 ≤ l.length) (hl : l.length ≤ 4096) (hN : 5000 ≤ N) : ∃ M, mU N l = some M ∧ ∀ b, M ≤ b ↔ ∀ e ∈ l, e ≤ b := by
 obtain ⟨x, l, rfl⟩ : ∃ x t, l = x :: t := by
  cases l with
  | nil => simp at h0
  | cons x t => exact ⟨x, t, rfl⟩
 obtain ⟨M, h1, h2⟩ := YT N hl ((x :: l).length - 1) 1 N x (by omega) (by omega);refine ⟨M, ?_, fun b => ?_⟩
 ·unfold mU;rw [cF (dF (by omega)), show idx (x :: l) 0 = some x from rfl, aC];exact h1
 ·rw [h2 b, List.drop_one, List.tail_cons]
  constructor
  ·rintro ⟨q1, q2⟩ e he
   rcases List.mem_cons.1 he with rfl | he
   ·exact q1
   ·exact q2 e he
  ·intro q; exact ⟨q x (List.mem_cons_self ..), fun e he => q e (List.mem_cons_of_mem _ he)⟩
theorem Wf (N : Nat) {l : List Int} (hl : l.length ≤ 4096) {d : Nat} (hd : 1 ≤ d ∧ d ≤ 16) (kk) : ∀ (j k fuel : Nat), k + j = l.length → j < fuel → kU N l (d : Int) kk fuel (k : Int) = if (l.drop k).all (fun e => decide (e < ((2 ^ d : Nat) : Int))) = true then kk (l.length : Int) else some false := by
 intro j
 induction j with
 | zero =>
  intro k fuel hk hf;obtain ⟨fuel, rfl⟩ := mN fuel (by omega);obtain rfl : k = l.length := by omega
  unfold kU;rw [cF (dF (by omega)), List.drop_length, if_pos (by rfl)]
 | succ j ih =>
  intro k fuel hk hf;obtain ⟨fuel, rfl⟩ := mN fuel (by omega);have hlt : k < l.length := by omega
  have hnx : IntKind.i64.wrap ((k : Int) + 1) = ((k + 1 : Nat) : Int) := by rw [iE (by omega)]; rfl
  have hp := AB (d := d) hd.2;have hp0 := Nat.two_pow_pos d;unfold kU;rw [cT (dT (by omega)), gB, List.getElem?_eq_getElem hlt, aC, zJ, aC, DN hd.2, iE (x := ((2 ^ d : Nat) : Int) - 1) (by omega), List.drop_eq_getElem_cons hlt, List.all_cons]
  by_cases h : l[k] < ((2 ^ d : Nat) : Int)
  ·rw [cF (dF (by omega)), hnx, aC, ih (k + 1) fuel (by omega) (by omega), decide_eq_true h, Bool.true_and]
  ·rw [cT (dT (by omega)), if_neg];rw [decide_eq_false h]; simp
theorem Wg (N : Nat) (hN : 5000 ≤ N) {l : List Int} (hl : l.length ≤ 4096) {d : Nat} (hd : 1 ≤ d ∧ d ≤ 16) : oG N l (d : Int) = some (l.all (fun e => decide (e < ((2 ^ d : Nat) : Int)))) := by
 unfold oG;have := Wf N hl hd (fun _ => some true) l.length 0 N (by omega) (by omega);refine Eq.trans this ?_;rw [List.drop_zero]
 split
 ·rename_i h; rw [h]
 ·rename_i h; rw [(Bool.not_eq_true _).mp h]
def Ch (H R : Nat) : Nat := (H + R - 1) / R
def uK (H R i : Nat) : Nat := min R (H - i * R)
theorem cnt_lt {H R i : Nat} (hR : 1 ≤ R) : i < Ch H R ↔ i * R < H := by
 unfold Ch;rw [Nat.lt_div_iff_mul_lt (by omega)]
 omega
theorem EH {H R : Nat} (hR : 1 ≤ R) (hH : 1 ≤ H) : Ch H R ≤ H ∧ 1 ≤ Ch H R := by
 refine ⟨?_, ?_⟩
 ·unfold Ch;refine Nat.div_le_of_le_mul ?_;have : R * H = (R - 1) * H + H := by rw [Nat.sub_mul]; have := Nat.le_mul_of_pos_left H hR; omega
  have h2 : R - 1 ≤ (R - 1) * H := Nat.le_mul_of_pos_right _ hH
  omega
 ·have := (cnt_lt (H := H) (i := 0) hR).2 (by omega)
  omega
theorem Ph (N : Nat) {H R : Nat} (hR : 1 ≤ R ∧ R ≤ H) (hH : H ≤ 64) (kk) : ∀ (j k fuel : Nat), k + j = Ch H R → j < fuel →
  rZ N (H : Int) (R : Int) kk fuel ((List.range k).map fun i => (((i * R : Nat) : Int), ((uK H R i : Nat) : Int)), ((k * R : Nat) : Int)) = kk ((List.range (Ch H R)).map fun i => (((i * R : Nat) : Int), ((uK H R i : Nat) : Int)), ((Ch H R * R : Nat) : Int)) := by
 have hcl := EH (H := H) (R := R) hR.1 (by omega);intro j
 induction j with
 | zero =>
  intro k fuel hk hf;obtain ⟨fuel, rfl⟩ := mN fuel (by omega);obtain rfl : k = Ch H R := by omega
  have := mt (cnt_lt (H := H) (R := R) (i := Ch H R) hR.1).2 (by omega);unfold rZ;rw [cF (dF (by omega))]
 | succ j ih =>
  intro k fuel hk hf;obtain ⟨fuel, rfl⟩ := mN fuel (by omega);have hlt := (cnt_lt (H := H) (R := R) (i := k) hR.1).1 (by omega)
  have e1 : min (R : Int) (IntKind.i64.wrap ((H : Int) - ((k * R : Nat) : Int))) = ((uK H R k : Nat) : Int) := by
   rw [iE (by omega)]; unfold uK; omega
  have e2 : IntKind.i64.wrap (((k * R : Nat) : Int) + (R : Int)) = (((k + 1) * R : Nat) : Int) := by
   rw [Nat.add_mul, iE (by omega)]; omega
  unfold rZ;rw [cT (dT (by omega)), e1, kY (by simp; omega), aC, e2, aC];have := ih (k + 1) fuel (by omega) (by omega);rw [List.range_succ, List.map_append, List.map_singleton] at this;exact this
section
variable (W H D K R : Int) (Ls : List Int) (St : List (List UInt8)) (ph b0 b1 b2 b3 w : Int) (sp : List (Int × Int)) (g0 g1 g2 m0 m1 m2 m3 m4 m5 m6 m7 m8 : Int) (cv : List (Int × Int)) (am : Int)
theorem Md (h : xU W H D K R Ls = 0) : Cg W H D R ∧ (0 ≤ K ∧ K ≤ 7) ∧ (Ls.length ≤ 17) ∧ (0 < K → lO Ls = 0) := by
 unfold xU at h
 by_cases h1 : Cg W H D R
 rotate_left
 ·rw [if_pos h1] at h; cases h
 rw [if_neg (fun q => q h1)] at h
 by_cases h2 : 0 ≤ K ∧ K ≤ 7
 rotate_left
 ·rw [if_pos h2] at h; cases h
 rw [if_neg (fun q => q h2)] at h;refine ⟨h1, h2, ?_⟩
 by_cases h3 : 0 < K
 ·rw [if_pos h3] at h;refine ⟨?_, fun _ => h⟩;obtain ⟨ns, rfl, _, _, NC, _⟩ := zK h;rw [iN]; exact NC
 ·rw [if_neg h3] at h;refine ⟨?_, fun q => absurd q h3⟩
  by_cases h4 : 0 < Ls.length
  ·rw [if_pos h4] at h; cases h
  ·omega
theorem RG {cv : List (Int × Int)} (h : tZ cv) : cv.length ≤ 16 := by
 have := h.len
 omega
end
section
variable (W H D K R : Int) (Ls : List Int) (St : List (List UInt8)) (ph b0 b1 b2 b3 w : Int) (sp : List (Int × Int)) (g0 g1 g2 m0 m1 m2 m3 m4 m5 m6 m7 m8 : Int) (cv : List (Int × Int)) (am : Int)
theorem Wh {f : Bool} (h : JD W H ph b0 b1 b2 b3 w sp g0 g1 g2 m0 m1 m2 m3 m4 m5 m6 m7 m8 am f = 0) : DZ ph b0 b1 b2 b3 w sp g0 g1 g2 m0 m1 m2 m3 m4 m5 m6 m7 m8 am = true ∧ f = true ∧ sp.all (lL W H) = true := by
 unfold JD at h
 by_cases h1 : DZ ph b0 b1 b2 b3 w sp g0 g1 g2 m0 m1 m2 m3 m4 m5 m6 m7 m8 am = false
 ·rw [if_pos h1] at h; cases h
 rw [if_neg h1] at h
 by_cases h2 : f = false
 ·rw [if_pos h2] at h; cases h
 rw [if_neg h2] at h
 by_cases h3 : sp.all (lL W H) = false
 ·rw [if_pos h3] at h; cases h
 exact ⟨(Bool.not_eq_false _).mp h1, (Bool.not_eq_false _).mp h2, (Bool.not_eq_false _).mp h3⟩
end
theorem RH (N : Nat) (l : List (Int × Int)) (hl : l.length ≤ 4096) (kk) : ∀ (j k fuel : Nat), k + j = l.length → j < fuel → jQ N l l kk fuel (k : Int) = kk (l.length : Int) := by
 intro j
 induction j with
 | zero =>
  intro k fuel hk hf;obtain ⟨fuel, rfl⟩ := mN fuel (by omega);unfold jQ;rw [cF (dF (by omega)), show k = l.length by omega]
 | succ j ih =>
  intro k fuel hk hf;obtain ⟨fuel, rfl⟩ := mN fuel (by omega);have hlt : k < l.length := by omega
  unfold jQ;rw [cT (dT (by omega)), gB, List.getElem?_eq_getElem hlt, aC, aC, cF (by simp), iE (x := (k : Int) + 1) (by omega), aC];exact ih (k + 1) fuel (by omega) (by omega)
theorem RJ (N : Nat) (l : List (Int × Int)) (hl : l.length ≤ 4096) (kk) : ∀ (j k fuel : Nat), k + j = l.length → j < fuel → jP N l l kk fuel (k : Int) = kk (l.length : Int) := by
 intro j
 induction j with
 | zero =>
  intro k fuel hk hf;obtain ⟨fuel, rfl⟩ := mN fuel (by omega);unfold jP;rw [cF (dF (by omega)), show k = l.length by omega]
 | succ j ih =>
  intro k fuel hk hf;obtain ⟨fuel, rfl⟩ := mN fuel (by omega);have hlt : k < l.length := by omega
  unfold jP;rw [cT (dT (by omega)), gB, List.getElem?_eq_getElem hlt, aC, aC, cF (by simp), iE (x := (k : Int) + 1) (by omega), aC];exact ih (k + 1) fuel (by omega) (by omega)
theorem RK (N : Nat) (l : List (List UInt8)) (hl : l.length ≤ 4096) (kk) : ∀ (j k fuel : Nat), k + j = l.length → j < fuel → jZ N l l kk fuel (k : Int) = kk (l.length : Int) := by
 intro j
 induction j with
 | zero =>
  intro k fuel hk hf;obtain ⟨fuel, rfl⟩ := mN fuel (by omega);unfold jZ;rw [cF (dF (by omega)), show k = l.length by omega]
 | succ j ih =>
  intro k fuel hk hf;obtain ⟨fuel, rfl⟩ := mN fuel (by omega);have hlt : k < l.length := by omega
  unfold jZ;rw [cT (dT (by omega)), gB, List.getElem?_eq_getElem hlt, aC, aC, cF (by simp), iE (x := (k : Int) + 1) (by omega), aC];exact ih (k + 1) fuel (by omega) (by omega)
section
variable (W H D K R : Int) (Ls : List Int) (St : List (List UInt8)) (ph b0 b1 b2 b3 w : Int) (sp : List (Int × Int)) (g0 g1 g2 m0 m1 m2 m3 m4 m5 m6 m7 m8 : Int) (cv : List (Int × Int)) (am : Int)
theorem Me (N : Nat) (hN : 5000 ≤ N) (hs : sp.length ≤ 4096) (hv : cv.length ≤ 4096) : nE N ph b0 b1 b2 b3 w sp g0 g1 g2 m0 m1 m2 m3 m4 m5 m6 m7 m8 cv am ph b0 b1 b2 b3 w sp g0 g1 g2 m0 m1 m2 m3 m4 m5 m6 m7 m8 cv am = some true := by
 unfold nE;rw [cF (by simp), cF (by simp), cF (by simp), cF (by simp), cF (by simp), cF (by simp), cF (by simp), cF (by simp)];refine (RH N sp hs _ sp.length 0 N (by omega) (by omega)).trans ?_;exact RJ N cv hv _ cv.length 0 N (by omega) (by omega)
theorem HU (N : Nat) (hN : 5000 ≤ N) (hL : Ls.length ≤ 4096) (hS : St.length ≤ 4096) (hs : sp.length ≤ 4096) (hv : cv.length ≤ 4096) : lW N W H D K R Ls St ph b0 b1 b2 b3 w sp g0 g1 g2 m0 m1 m2 m3 m4 m5 m6 m7 m8 cv am W H D K R Ls St ph b0 b1 b2 b3 w sp g0 g1 g2 m0 m1 m2 m3 m4 m5 m6 m7 m8 cv am = some true := by
 unfold lW;rw [cF (by simp), cF (by simp), cF (by simp), cF (by simp), cF (by simp), YJ N Ls (by omega) (by omega), aC, cF (by rfl), cF (by simp), Me ph b0 b1 b2 b3 w sp g0 g1 g2 m0 m1 m2 m3 m4 m5 m6 m7 m8 cv am N hN hs hv, aC, cF (by rfl)];exact RK N St hS _ St.length 0 N (by omega) (by omega)
end
theorem HW : p9 8589934592 = some true := by kernel_rfl
def stripR (W D K : Int) (Ls : List Int) (rows : Int) (s : List UInt8) : Option (List Int) :=
 if K = 0 then (if gC s D (W * rows) = 0 then some (pW (qA s D.toNat (W * rows).toNat)) else none)
 else if (pX s W rows K Ls).2.2.2 = 0 ∧ (pX s W rows K Ls).2.2.1.all (fun e => decide (e < ((2 ^ D.toNat : Nat) : Int))) = true then some (pX s W rows K Ls).2.2.1 else none
theorem Lj {s : List UInt8} {W H kind : Int} {c : List Int} (h : (pX s W H kind c).2.2.2 = 0) : (1 ≤ W ∧ W ≤ 64) ∧ (1 ≤ H ∧ H ≤ 64) ∧ (pX s W H kind c).1 = W ∧ (pX s W H kind c).2.1 = H ∧ (pX s W H kind c).2.2.1.length = W.toNat * H.toNat ∧ ∀ e ∈ (pX s W H kind c).2.2.1, 0 ≤ e ∧ e ≤ 65535 := by
 unfold pX at h ⊢
 by_cases h1 : 1 ≤ W ∧ W ≤ 64
 rotate_left
 ·rw [if_pos h1] at h; cases h
 rw [if_neg (by omega)] at h ⊢
 by_cases h2 : 1 ≤ H ∧ H ≤ 64
 rotate_left
 ·rw [if_pos h2] at h; cases h
 rw [if_neg (by omega)] at h ⊢
 by_cases h3 : 1 ≤ kind ∧ kind ≤ 7
 rotate_left
 ·rw [if_pos h3] at h; cases h
 rw [if_neg (by omega)] at h ⊢
 by_cases h7 : lO c = 0
 rotate_left
 ·rw [if_pos h7] at h; exact absurd h h7
 rw [if_neg (by omega)] at h ⊢
 have T4 : (wordsOf c).length ≤ 17 := by
  rw [tT h7];obtain ⟨ns, rfl, _, _, NC, _⟩ := zK h7;rw [iN]; exact NC
 rcases hr : Il (wordsOf c) W.toNat kind (W.toNat * H.toNat) [] (pK s) with _ | ⟨P2, R2⟩
 ·rw [hr] at h; cases h
 rw [hr] at h;dsimp only at h ⊢
 by_cases hz : R2.length ≤ 7 ∧ R2 = List.replicate R2.length 48
 rotate_left
 ·rw [if_neg hz] at h; cases h
 rw [if_pos hz];obtain ⟨q1, q2, q3, q4, q5⟩ := JA (kZ c) T4 (by omega) _ _ _ [] _ _ (zM s) (by simp) rfl hr;rw [List.length_nil, Nat.zero_add] at q1;exact ⟨h1, h2, rfl, rfl, q1, q2⟩
section
variable (W H D K R : Int) (Ls : List Int) (St : List (List UInt8)) (ph b0 b1 b2 b3 w : Int) (sp : List (Int × Int)) (g0 g1 g2 m0 m1 m2 m3 m4 m5 m6 m7 m8 : Int) (cv : List (Int × Int)) (am : Int)
theorem Wi {s : List UInt8} {o p : Int} (h : gC s o p = 0) : (pW (qA s o.toNat p.toNat)).length = p.toNat := by
 obtain ⟨d, n, rfl, rfl, h1, h2, h3, h4⟩ := EG h;rw [iN, Int.toNat_natCast, Int.toNat_natCast];unfold qA;exact kJ _ _ _
theorem Lk {W D K rows : Int} {Ls : List Int} {s : List UInt8} {l : List Int} (hW : 1 ≤ W ∧ W ≤ 64) (hr : 1 ≤ rows ∧ rows ≤ 64) (h : stripR W D K Ls rows s = some l) : l.length = W.toNat * rows.toNat := by
 unfold stripR at h
 split at h
 ·split at h
  ·rename_i hh
   injection h with h
   subst h;rw [Wi hh];obtain ⟨w', rfl⟩ := Int.eq_ofNat_of_zero_le (show 0 ≤ W by omega);obtain ⟨r', rfl⟩ := Int.eq_ofNat_of_zero_le (show 0 ≤ rows by omega)
   rfl
  ·cases h
 ·split at h
  ·rename_i hh
   injection h with h
   subst h;exact (Lj hh.1).2.2.2.2.1
  ·cases h
theorem Mf (N : Nat) (hN : 200000 ≤ N) {W D rows : Int} (hW : 1 ≤ W ∧ W ≤ 64) (hD : 1 ≤ D ∧ D ≤ 16) (hr : 1 ≤ rows ∧ rows ≤ 64) {s : List UInt8} (hs : s.length ≤ 9223372036854775807) :
  ∃ l e, xB N W H D K R Ls St ph b0 b1 b2 b3 w sp g0 g1 g2 m0 m1 m2 m3 m4 m5 m6 m7 m8 cv am s rows = some (l, e) ∧ ((e = 0 ∧ stripR W D K Ls rows s = some l) ∨ (e ≠ 0 ∧ stripR W D K Ls rows s = none)) := by
 obtain ⟨w', rfl⟩ := Int.eq_ofNat_of_zero_le (show 0 ≤ W by omega);obtain ⟨r', rfl⟩ := Int.eq_ofNat_of_zero_le (show 0 ≤ rows by omega);obtain ⟨d, rfl⟩ := Int.eq_ofNat_of_zero_le (show 0 ≤ D by omega);have hm := Nat.mul_le_mul (show w' ≤ 64 by omega) (show r' ≤ 64 by omega);have hwr : IntKind.i64.wrap ((w' : Int) * (r' : Int)) = (w' : Int) * (r' : Int) := by rw [show (w' : Int) * (r' : Int) = ((w' * r' : Nat) : Int) by simp, iE (by omega)]
 unfold xB stripR
 by_cases hK : K = 0
 ·rw [cT (dT hK), if_pos hK, hwr, Rk N (by omega) s hs, aC]
  by_cases he : gC s (d : Int) ((w' : Int) * (r' : Int)) = 0
  ·rw [if_pos he, if_pos he];exact ⟨_, _, rfl, .inl ⟨rfl, rfl⟩⟩
  ·rw [if_neg he, if_neg he];exact ⟨_, _, rfl, .inr ⟨he, rfl⟩⟩
 rw [cF (dF hK), if_neg hK, Kx N hN, aC]
 by_cases he : (pX s (w' : Int) (r' : Int) K Ls).2.2.2 = 0
 rotate_left
 ·rw [cF (dF he), if_neg (fun q => he q.1)];exact ⟨_, _, rfl, .inr ⟨he, rfl⟩⟩
 obtain ⟨_, _, _, _, hl, hP⟩ := Lj he;rw [Int.toNat_natCast, Int.toNat_natCast] at hl;have hpos : 1 ≤ w' * r' := Nat.mul_pos (by omega) (by omega);obtain ⟨M, e1, e2⟩ := max_eq N (l := (pX s (w' : Int) (r' : Int) K Ls).2.2.1) (by omega) (by omega) (by omega)
 generalize (pX s (w' : Int) (r' : Int) K Ls).2.2.1 = P at *
 rw [cT (dT he), e1, aC, zJ, aC, Int.toNat_natCast];obtain ⟨x0, hx0⟩ : ∃ x, x ∈ P := ⟨P[0], List.getElem_mem (by omega)⟩
 have hM0 : 0 ≤ M := by
  have := (e2 M).1 (Int.le_refl _) x0 hx0;have := (hP x0 hx0).1
  omega
 obtain ⟨m, rfl⟩ := Int.eq_ofNat_of_zero_le hM0;have hp2 := Nat.two_pow_pos d
 have hsh : (0 < ((m / 2 ^ d : Nat) : Int)) ↔ P.all (fun e => decide (e < ((2 ^ d : Nat) : Int))) = false := by
  have h6 := e2 (((2 ^ d : Nat) : Int) - 1);have h7 : (0 < m / 2 ^ d) ↔ 2 ^ d ≤ m := Nat.div_pos_iff.trans ⟨fun q => q.2, fun q => ⟨hp2, q⟩⟩
  constructor
  ·intro q;rw [Bool.eq_false_iff];intro q2;rw [List.all_eq_true] at q2;have := h6.2 fun e he => by have := of_decide_eq_true (q2 e he); omega
   have := h7.1 (by omega)
   omega
  ·intro q
   have : ¬ m < 2 ^ d := fun q2 => by
    have := h6.1 (by omega);rw [Bool.eq_false_iff] at q;exact q (List.all_eq_true.2 fun e he => decide_eq_true (by have := this e he; omega))
   have := h7.2 (by omega)
   omega
 rw [II (by omega)]
 by_cases h6 : P.all (fun e => decide (e < ((2 ^ d : Nat) : Int))) = false
 ·rw [cT (decide_eq_true (hsh.2 h6)), if_neg (fun q => by rw [h6] at q; exact absurd q.2 (by decide))];exact ⟨_, _, rfl, .inr ⟨by decide, rfl⟩⟩
 ·rw [cF (decide_eq_false (fun q => h6 (hsh.1 q))), if_pos ⟨he, (Bool.not_eq_false _).mp h6⟩];exact ⟨_, _, rfl, .inl ⟨he, rfl⟩⟩
def Ci (W D K : Int) (Ls : List Int) (H R : Nat) : Nat → List (List UInt8) → List Int → Option (List Int)
 | _, [], acc => some acc
 | i, s :: t, acc => match stripR W D K Ls ((uK H R i : Nat) : Int) s with
  | none => none
  | some l => Ci W D K Ls H R (i + 1) t (acc ++ l)
theorem Mg {H R i : Nat} (hR : 1 ≤ R ∧ R ≤ H) (hH : H ≤ 64) (hi : i < Ch H R) : 1 ≤ ((uK H R i : Nat) : Int) ∧ ((uK H R i : Nat) : Int) ≤ 64 := by
 have := (cnt_lt (H := H) (i := i) hR.1).1 hi;unfold uK
 omega
theorem Ky (N : Nat) (hN : 200000 ≤ N) {w' h r d : Nat} (hW : 1 ≤ w' ∧ w' ≤ 64) (hH : 1 ≤ h ∧ h ≤ 64) (hR : 1 ≤ r ∧ r ≤ h) (hd : 1 ≤ d ∧ d ≤ 16) (hs : ∀ y ∈ St, y.length ≤ 9223372036854775807) (hl : St.length = Ch h r) (kk) :
  ∀ (j k fuel : Nat) (acc : List Int), k + j = St.length → j < fuel → acc.length ≤ 4096 * k →
  tE N (w' : Int) (h : Int) (d : Int) K (r : Int) Ls St ph b0 b1 b2 b3 w sp g0 g1 g2 m0 m1 m2 m3 m4 m5 m6 m7 m8 cv am ((List.range (Ch h r)).map fun i => (((i * r : Nat) : Int), ((uK h r i : Nat) : Int))) kk fuel (acc, (k : Int)) = match Ci (w' : Int) (d : Int) K Ls h r k (St.drop k) acc with
   | none => some (0, 0, [], 1)
   | some P => kk (P, (St.length : Int)) := by
 have hcl := EH (H := h) (R := r) hR.1 hH.1;intro j
 induction j with
 | zero =>
  intro k fuel acc hk hf ha;obtain ⟨fuel, rfl⟩ := mN fuel (by omega);unfold tE;rw [cF (dF (by omega)), List.drop_of_length_le (by omega), show k = St.length by omega]
  rfl
 | succ j ih =>
  intro k fuel acc hk hf ha;obtain ⟨fuel, rfl⟩ := mN fuel (by omega);have hlt : k < St.length := by omega
  have DY := Mg (i := k) hR hH.2 (by omega);have hnx : IntKind.i64.wrap ((k : Int) + 1) = ((k + 1 : Nat) : Int) := by rw [iE (by omega)]; rfl
  have hm := Nat.mul_le_mul hW.2 (show uK h r k ≤ 64 by omega);unfold tE;rw [cT (dT (by omega)), gB, List.getElem?_eq_getElem hlt, aC, gB, List.getElem?_map, List.getElem?_range (by omega)];show Option.bind (some _) _ = _;rw [aC]
  dsimp only
  obtain ⟨l, e, q1, q2⟩ := Mf (h : Int) K (r : Int) Ls St ph b0 b1 b2 b3 w sp g0 g1 g2 m0 m1 m2 m3 m4 m5 m6 m7 m8 cv am N hN (W := (w' : Int)) (D := (d : Int)) (by omega) (by omega) DY (hs St[k] (List.getElem_mem hlt));rw [q1, aC, List.drop_eq_getElem_cons hlt];unfold Ci
  rcases q2 with ⟨rfl, q2⟩ | ⟨q3, q2⟩
  ·have hll := Lk (by omega) DY q2;rw [Int.toNat_natCast, Int.toNat_natCast] at hll;rw [q2, cF (by rfl)]
   dsimp only
   rw [kY (by omega), aC, hnx];exact ih (k + 1) fuel _ (by omega) (by omega) (by rw [List.length_append]; omega)
  ·rw [q2, cT (by rw [dF q3]; rfl)]
def zN (f : Bool) : Int × Int × List Int × Int :=
 if xU W H D K R Ls ≠ 0 then (0, 0, [], xU W H D K R Ls) else if St.length ≠ Ch H.toNat R.toNat then (0, 0, [], 2) else
 if JD W H ph b0 b1 b2 b3 w sp g0 g1 g2 m0 m1 m2 m3 m4 m5 m6 m7 m8 am f ≠ 0 then (0, 0, [], JD W H ph b0 b1 b2 b3 w sp g0 g1 g2 m0 m1 m2 m3 m4 m5 m6 m7 m8 am f) else
 match Ci W D K Ls H.toNat R.toNat 0 St [] with
 | none => (0, 0, [], 1)
 | some P => (W, H, P, 0)
theorem NI (N : Nat) (hN : 5000 ≤ N) {k' r : Nat} (hr : 1 ≤ r ∧ r ≤ k') (hk : 1 ≤ k' ∧ k' ≤ 64) : zD N W (k' : Int) D K (r : Int) Ls St ph b0 b1 b2 b3 w sp g0 g1 g2 m0 m1 m2 m3 m4 m5 m6 m7 m8 cv am = some ((List.range (Ch k' r)).map fun i => (((i * r : Nat) : Int), ((uK k' r i : Nat) : Int))) := by
 have hcn := EH (H := k') (R := r) hr.1 hk.1;have := Ph N hr hk.2 (fun (l6, y5) => some l6) (Ch k' r) 0 N (by omega) (by omega);rw [Nat.zero_mul] at this;exact this
theorem Pi {f : Bool} (hb : mJ 8589934592 cv = some f) (hc : f = true ↔ tZ cv) (hs : ∀ y ∈ St, y.length ≤ 9223372036854775807) : yG 8589934592 W H D K R Ls St ph b0 b1 b2 b3 w sp g0 g1 g2 m0 m1 m2 m3 m4 m5 m6 m7 m8 cv am = some (zN W H D K R Ls St ph b0 b1 b2 b3 w sp g0 g1 g2 m0 m1 m2 m3 m4 m5 m6 m7 m8 am f) := by
 unfold yG zN;rw [RE W H D K R Ls St ph b0 b1 b2 b3 w sp g0 g1 g2 m0 m1 m2 m3 m4 m5 m6 m7 m8 cv am 8589934592 (by decide), aC]
 by_cases h1 : xU W H D K R Ls = 0
 rotate_left
 ·rw [cT (by rw [decide_eq_false h1]; rfl), if_pos h1]
 obtain ⟨q1, q2, q3, q4⟩ := Md W H D K R Ls h1;rw [cF (by rw [decide_eq_true h1]; rfl), if_neg (fun q => q h1)];unfold Cg at q1;obtain ⟨w', rfl⟩ := Int.eq_ofNat_of_zero_le (show 0 ≤ W by omega);obtain ⟨k', rfl⟩ := Int.eq_ofNat_of_zero_le (show 0 ≤ H by omega);obtain ⟨d, rfl⟩ := Int.eq_ofNat_of_zero_le (show 0 ≤ D by omega);obtain ⟨r, rfl⟩ := Int.eq_ofNat_of_zero_le (show 0 ≤ R by omega);rw [NI _ _ K Ls St ph b0 b1 b2 b3 w sp g0 g1 g2 m0 m1 m2 m3 m4 m5 m6 m7 m8 cv am 8589934592 (by decide) (by omega) (by omega), aC, List.length_map, List.length_range, Int.toNat_natCast, Int.toNat_natCast]
 by_cases h2 : St.length = Ch k' r
 rotate_left
 ·rw [cT (by rw [dF (by omega)]; rfl), if_pos h2]
 rw [cF (by rw [dT (by omega)]; rfl), if_neg (fun q => q h2), RF _ _ _ K _ Ls St ph b0 b1 b2 b3 w sp g0 g1 g2 m0 m1 m2 m3 m4 m5 m6 m7 m8 cv am hb hc, aC]
 by_cases h3 : JD (w' : Int) (k' : Int) ph b0 b1 b2 b3 w sp g0 g1 g2 m0 m1 m2 m3 m4 m5 m6 m7 m8 am f = 0
 rotate_left
 ·rw [cT (by rw [decide_eq_false h3]; rfl), if_pos h3]
 rw [cF (by rw [decide_eq_true h3]; rfl), if_neg (fun q => q h3)];have hcn := EH (H := k') (R := r) (by omega) (by omega);have key := Ky K Ls St ph b0 b1 b2 b3 w sp g0 g1 g2 m0 m1 m2 m3 m4 m5 m6 m7 m8 cv am 8589934592 (by decide) (w' := w') (h := k') (r := r) (d := d) (by omega) (by omega) (by omega) (by omega) hs h2 (fun (LN, i2) => some ((w' : Int), (k' : Int), LN, (0 : Int))) St.length 0 8589934592 [] (by omega) (by omega) (by simp);rw [List.drop_zero] at key;refine Eq.trans key ?_
 cases Ci (w' : Int) (d : Int) K Ls k' r 0 St [] <;> rfl
theorem RL (N : Nat) (hN : 200000 ≤ N) {W D : Int} (hW : 1 ≤ W ∧ W ≤ 64) (hD : 1 ≤ D ∧ D ≤ 16) {h r k : Nat} (hH : 1 ≤ h ∧ h ≤ 64) (hR : 1 ≤ r ∧ r ≤ h) (hk : k < Ch h r) (hlt : k < St.length) (hs : St[k].length ≤ 9223372036854775807) :
  ∃ l b, pQ N W (h : Int) D K (r : Int) Ls St ph b0 b1 b2 b3 w sp g0 g1 g2 m0 m1 m2 m3 m4 m5 m6 m7 m8 cv am (k : Int) = some (l, b) ∧ ((b = true ∧ stripR W D K Ls ((uK h r k : Nat) : Int) St[k] = some l) ∨ (b = false ∧ stripR W D K Ls ((uK h r k : Nat) : Int) St[k] = none)) := by
 obtain ⟨w', rfl⟩ := Int.eq_ofNat_of_zero_le (show 0 ≤ W by omega);obtain ⟨d, rfl⟩ := Int.eq_ofNat_of_zero_le (show 0 ≤ D by omega);have DY := Mg (i := k) hR hH.2 hk;have hkR := (cnt_lt (H := h) (i := k) hR.1).1 hk;have hm := Nat.mul_le_mul (show w' ≤ 64 by omega) (show uK h r k ≤ 64 by omega);have hwr : IntKind.i64.wrap ((w' : Int) * ((uK h r k : Nat) : Int)) = (w' : Int) * ((uK h r k : Nat) : Int) := by rw [show (w' : Int) * ((uK h r k : Nat) : Int) = ((w' * uK h r k : Nat) : Int) by simp, iE (by omega)]
 have e0 : IntKind.i64.wrap ((k : Int) * (r : Int)) = ((k * r : Nat) : Int) := by rw [show (k : Int) * (r : Int) = ((k * r : Nat) : Int) by simp, iE (by omega)]
 have er : min (r : Int) (IntKind.i64.wrap ((h : Int) - ((k * r : Nat) : Int))) = ((uK h r k : Nat) : Int) := by
  rw [iE (by omega)]; unfold uK; omega
 unfold pQ rO stripR;rw [e0, er, aC]
 by_cases hK : K = 0
 ·rw [cT (dT hK), if_pos hK, gB, List.getElem?_eq_getElem hlt, aC, hwr, Nu N (by omega) _ hs, aC]
  by_cases he : gC St[k] (d : Int) ((w' : Int) * ((uK h r k : Nat) : Int)) = 0
  ·rw [if_pos he, if_pos he];exact ⟨_, _, rfl, .inl ⟨rfl, rfl⟩⟩
  ·rw [if_neg he, if_neg he];exact ⟨_, _, rfl, .inr ⟨dF he, rfl⟩⟩
 rw [cF (dF hK), if_neg hK, gB, List.getElem?_eq_getElem hlt, aC, Mb N hN, aC]
 by_cases he : (pX St[k] (w' : Int) ((uK h r k : Nat) : Int) K Ls).2.2.2 = 0
 rotate_left
 ·rw [cF (dF he), if_neg (fun q => he q.1)];exact ⟨_, _, rfl, .inr ⟨rfl, rfl⟩⟩
 have hl := JC St[k] (w' : Int) ((uK h r k : Nat) : Int) K Ls;rw [cT (dT he), Wg N (by omega) hl (by omega), aC, Int.toNat_natCast]
 by_cases h6 : (pX St[k] (w' : Int) ((uK h r k : Nat) : Int) K Ls).2.2.1.all (fun e => decide (e < ((2 ^ d : Nat) : Int))) = true
 ·rw [if_pos ⟨he, h6⟩];exact ⟨_, _, rfl, .inl ⟨h6, rfl⟩⟩
 ·rw [if_neg (fun q => h6 q.2)];exact ⟨_, _, rfl, .inr ⟨(Bool.not_eq_true _).mp h6, rfl⟩⟩
theorem Mh (N : Nat) (hN : 200000 ≤ N) {w' h r d : Nat} (hW : 1 ≤ w' ∧ w' ≤ 64) (hH : 1 ≤ h ∧ h ≤ 64) (hR : 1 ≤ r ∧ r ≤ h) (hd : 1 ≤ d ∧ d ≤ 16) (hs : ∀ y ∈ St, y.length ≤ 9223372036854775807) (hl : St.length = Ch h r) (kk) :
  ∀ (j k fuel : Nat) (acc : List Int), k + j = St.length → j < fuel → acc.length ≤ 4096 * k →
  j3 N (w' : Int) (h : Int) (d : Int) K (r : Int) Ls St ph b0 b1 b2 b3 w sp g0 g1 g2 m0 m1 m2 m3 m4 m5 m6 m7 m8 cv am kk fuel (acc, (k : Int)) = match Ci (w' : Int) (d : Int) K Ls h r k (St.drop k) acc with
   | none => some (0, 0, [], 1)
   | some P => kk (P, (St.length : Int)) := by
 have hcl := EH (H := h) (R := r) hR.1 hH.1;intro j
 induction j with
 | zero =>
  intro k fuel acc hk hf ha;obtain ⟨fuel, rfl⟩ := mN fuel (by omega);unfold j3;rw [cF (dF (by omega)), List.drop_of_length_le (by omega), show k = St.length by omega]
  rfl
 | succ j ih =>
  intro k fuel acc hk hf ha;obtain ⟨fuel, rfl⟩ := mN fuel (by omega);have hlt : k < St.length := by omega
  have DY := Mg (i := k) hR hH.2 (by omega);have hnx : IntKind.i64.wrap ((k : Int) + 1) = ((k + 1 : Nat) : Int) := by rw [iE (by omega)]; rfl
  have hm := Nat.mul_le_mul hW.2 (show uK h r k ≤ 64 by omega);unfold j3;obtain ⟨l, e, q1, q2⟩ := RL K Ls St ph b0 b1 b2 b3 w sp g0 g1 g2 m0 m1 m2 m3 m4 m5 m6 m7 m8 cv am N hN (W := (w' : Int)) (D := (d : Int)) (by omega) (by omega) hH hR (k := k) (by omega) hlt (hs St[k] (List.getElem_mem hlt));rw [cT (dT (by omega)), q1, aC, List.drop_eq_getElem_cons hlt];unfold Ci
  rcases q2 with ⟨rfl, q2⟩ | ⟨rfl, q2⟩
  ·have hll := Lk (by omega) DY q2;rw [Int.toNat_natCast, Int.toNat_natCast] at hll;rw [q2, cF (by rfl)]
   dsimp only
   rw [kY (by omega), aC, hnx, aC];exact ih (k + 1) fuel _ (by omega) (by omega) (by rw [List.length_append]; omega)
  ·rw [q2, cT (by rfl)]
theorem RM (N : Nat) {k' r : Nat} (hr : 1 ≤ r ∧ r ≤ k') (hk : 1 ≤ k' ∧ k' ≤ 64) : pN N W (k' : Int) D K (r : Int) Ls St ph b0 b1 b2 b3 w sp g0 g1 g2 m0 m1 m2 m3 m4 m5 m6 m7 m8 cv am = some ((Ch k' r : Nat) : Int) := by
 have hcl := EH (H := k') (R := r) hr.1 hk.1;unfold pN;rw [Nl (by omega), aC, iE (x := (k' : Int) + r) (by omega), iE (x := (k' : Int) + r - 1) (by omega), show (k' : Int) + r - 1 = ((k' + r - 1 : Nat) : Int) by omega, show Int.tdiv ((k' + r - 1 : Nat) : Int) (r : Int) = (((k' + r - 1) / r : Nat) : Int) from rfl];exact congrArg some (iE (x := ((Ch k' r : Nat) : Int)) (by omega))
theorem Ll {f : Bool} (hb : g9 8589934592 cv = some f) (hs : ∀ y ∈ St, y.length ≤ 9223372036854775807) : j5 8589934592 W H D K R Ls St ph b0 b1 b2 b3 w sp g0 g1 g2 m0 m1 m2 m3 m4 m5 m6 m7 m8 cv am = some (zN W H D K R Ls St ph b0 b1 b2 b3 w sp g0 g1 g2 m0 m1 m2 m3 m4 m5 m6 m7 m8 am f) := by
 unfold j5 zN;rw [T6 W H D K R Ls St ph b0 b1 b2 b3 w sp g0 g1 g2 m0 m1 m2 m3 m4 m5 m6 m7 m8 cv am 8589934592 (by decide), aC]
 by_cases h1 : xU W H D K R Ls = 0
 rotate_left
 ·rw [cT (by rw [decide_eq_false h1]; rfl), if_pos h1]
 obtain ⟨q1, q2, q3, q4⟩ := Md W H D K R Ls h1;rw [cF (by rw [decide_eq_true h1]; rfl), if_neg (fun q => q h1)];unfold Cg at q1;obtain ⟨w', rfl⟩ := Int.eq_ofNat_of_zero_le (show 0 ≤ W by omega);obtain ⟨k', rfl⟩ := Int.eq_ofNat_of_zero_le (show 0 ≤ H by omega);obtain ⟨d, rfl⟩ := Int.eq_ofNat_of_zero_le (show 0 ≤ D by omega);obtain ⟨r, rfl⟩ := Int.eq_ofNat_of_zero_le (show 0 ≤ R by omega);rw [RM _ _ K Ls St ph b0 b1 b2 b3 w sp g0 g1 g2 m0 m1 m2 m3 m4 m5 m6 m7 m8 cv am 8589934592 (by omega) (by omega), aC, Int.toNat_natCast, Int.toNat_natCast]
 by_cases h2 : St.length = Ch k' r
 rotate_left
 ·rw [cT (by rw [dF (by omega)]; rfl), if_pos h2]
 rw [cF (by rw [dT (by omega)]; rfl), if_neg (fun q => q h2), T7 _ _ _ K _ Ls St ph b0 b1 b2 b3 w sp g0 g1 g2 m0 m1 m2 m3 m4 m5 m6 m7 m8 cv am hb (by omega) (by omega), aC]
 by_cases h3 : JD (w' : Int) (k' : Int) ph b0 b1 b2 b3 w sp g0 g1 g2 m0 m1 m2 m3 m4 m5 m6 m7 m8 am f = 0
 rotate_left
 ·rw [cT (by rw [decide_eq_false h3]; rfl), if_pos h3]
 rw [cF (by rw [decide_eq_true h3]; rfl), if_neg (fun q => q h3)];have hcn := EH (H := k') (R := r) (by omega) (by omega);have key := Mh K Ls St ph b0 b1 b2 b3 w sp g0 g1 g2 m0 m1 m2 m3 m4 m5 m6 m7 m8 cv am 8589934592 (by decide) (w' := w') (h := k') (r := r) (d := d) (by omega) (by omega) (by omega) (by omega) hs h2 (fun (VF, i4) => some ((w' : Int), (k' : Int), VF, (0 : Int))) St.length 0 8589934592 [] (by omega) (by omega) (by simp);rw [List.drop_zero] at key;refine Eq.trans key ?_
 cases Ci (w' : Int) (d : Int) K Ls k' r 0 St [] <;> rfl
theorem HY {f : Bool} (hb : mJ 8589934592 cv = some f) (hc : f = true ↔ tZ cv) (hs : ∀ y ∈ St, y.length ≤ 9223372036854775807) : sF 8589934592 W H D K R Ls St ph b0 b1 b2 b3 w sp g0 g1 g2 m0 m1 m2 m3 m4 m5 m6 m7 m8 cv am = some (zN W H D K R Ls St ph b0 b1 b2 b3 w sp g0 g1 g2 m0 m1 m2 m3 m4 m5 m6 m7 m8 am f).2.2.2 := by
 unfold sF;rw [Pi W H D K R Ls St ph b0 b1 b2 b3 w sp g0 g1 g2 m0 m1 m2 m3 m4 m5 m6 m7 m8 cv am hb hc hs, aC]
end
def nI (n : Int) : List Int := [(n / 16777216) % 256, (n / 65536) % 256, (n / 256) % 256, n % 256]
def Fz (l : List Int) : List Int := (l.map nI).flatten
def tI (s : List UInt8) : List Int := nI s.length ++ sN s
def pI (p : Int × Int) : List Int := nI p.1 ++ nI p.2
theorem IS (a b : List Int) : toB (a ++ b) = toB a ++ toB b := by simp [toB]
theorem Mi (n : Int) : toB (nI n) = nB n := rfl
theorem T8 (s : List UInt8) : toB (tI s) = tB s := by unfold tI tB; rw [IS, Mi, LY]
theorem YU (p : Int × Int) : toB (pI p) = pB p := by unfold pI pB; rw [IS, Mi, Mi]
theorem Gr {α : Type} {f : α → List Int} {g : α → List UInt8} (h : ∀ x, toB (f x) = g x) : ∀ l : List α, toB ((l.map f).flatten) = (l.map g).flatten
 | [] => rfl
 | x :: l => by rw [List.map_cons, List.flatten_cons, IS, h, Gr h l]; rfl
theorem zO (n : Int) : (nI n).length = 4 := rfl
theorem Gs : ∀ l : List Int, (Fz l).length = 4 * l.length
 | [] => rfl
 | n :: l => by
  have := Gs l;unfold Fz at this ⊢;rw [List.map_cons, List.flatten_cons, List.length_append, zO, this, List.length_cons]; omega
theorem Mj (s : List UInt8) : (tI s).length = 4 + s.length := by unfold tI; rw [List.length_append, zO, rL]
theorem EI (p : Int × Int) : (pI p).length = 8 := by unfold pI; rw [List.length_append, zO, zO]
theorem DQ {α : Type} {f : α → List Int} {c : Nat} : ∀ l : List α, (∀ x ∈ l, (f x).length ≤ c) → ((l.map f).flatten).length ≤ c * l.length
 | [], _ => by simp
 | x :: l, h => by
  have := DQ l fun y hy => h y (List.mem_cons_of_mem _ hy)
  have := h x (List.mem_cons_self ..);rw [List.map_cons, List.flatten_cons, List.length_append, List.length_cons, Nat.mul_add]; omega
theorem u8w (x : Int) : IntKind.u8.wrap x = x % 256 := by
 simp [IntKind.wrap, IntKind.bits, IntKind.signed]
theorem Mk (e : Int) {k : Nat} (hk : k ≤ 64) : dP .i64 e (k : Int) = e / ((2 ^ k : Nat) : Int) := by
 unfold dP;rw [Int.toNat_natCast, show min k (IntKind.i64.bits) = k by show min k 64 = k; omega];rw [Int.fdiv_eq_ediv_of_nonneg _ (by exact Int.le_of_lt (Int.pow_pos (by decide)))]
 norm_cast
theorem aA7 (e : Int) : IntKind.u8.wrap (dP .i64 e 24) = (e / 16777216) % 256 := by rw [u8w, show (24 : Int) = ((24 : Nat) : Int) from rfl, Mk e (by decide)]; rfl
theorem aA8 (e : Int) : IntKind.u8.wrap (dP .i64 e 16) = (e / 65536) % 256 := by rw [u8w, show (16 : Int) = ((16 : Nat) : Int) from rfl, Mk e (by decide)]; rfl
theorem aA9 (e : Int) : IntKind.u8.wrap (dP .i64 e 8) = (e / 256) % 256 := by rw [u8w, show (8 : Int) = ((8 : Nat) : Int) from rfl, Mk e (by decide)]; rfl
theorem aEl (e : Int) : IntKind.u8.wrap (dP .i64 e 0) = e % 256 := by rw [u8w, show (0 : Int) = ((0 : Nat) : Int) from rfl, Mk e (by decide)]; simp
theorem YV (N : Nat) (e : Int) (kk) (b : List Int) (hb : b.length + 4 ≤ 140737488355328) (fuel : Nat) : jE N e kk (fuel + 5) (b, 3) = kk (b ++ nI e, -1) := by
 unfold jE;rw [cT (by rfl), show nn (IntKind.i64.wrap (8 * 3)) = some () from rfl, aC, show IntKind.i64.wrap (8 * 3) = 24 from rfl, aA7, kY (by simp; omega), aC, show IntKind.i64.wrap (3 - 1) = 2 from rfl, aC];unfold jE;rw [cT (by rfl), show nn (IntKind.i64.wrap (8 * 2)) = some () from rfl, aC, show IntKind.i64.wrap (8 * 2) = 16 from rfl, aA8, kY (by simp; omega), aC, show IntKind.i64.wrap (2 - 1) = 1 from rfl, aC];unfold jE;rw [cT (by rfl), show nn (IntKind.i64.wrap (8 * 1)) = some () from rfl, aC, show IntKind.i64.wrap (8 * 1) = 8 from rfl, aA9, kY (by simp; omega), aC, show IntKind.i64.wrap (1 - 1) = 0 from rfl, aC];unfold jE;rw [cT (by rfl), show nn (IntKind.i64.wrap (8 * 0)) = some () from rfl, aC, show IntKind.i64.wrap (8 * 0) = 0 from rfl, aEl, kY (by simp; omega), aC, show IntKind.i64.wrap (0 - 1) = -1 from rfl, aC];unfold jE;rw [cF (by rfl)];unfold nI;simp only [List.append_assoc, List.cons_append, List.nil_append]
theorem YW (N : Nat) (hN : 5 ≤ N) (l : List Int) (hl : l.length ≤ 1000000000000) (kk) : ∀ (j k fuel : Nat) (b : List Int), k + j = l.length → j < fuel → b.length + 4 * j ≤ 140737488355328 →
  nU N l kk fuel (b, (k : Int)) = kk (b ++ Fz (l.drop k), (l.length : Int)) := by
 intro j
 induction j with
 | zero =>
  intro k fuel b hk hf hb;obtain ⟨fuel, rfl⟩ := mN fuel (by omega);obtain rfl : k = l.length := by omega
  unfold nU;rw [cF (dF (by omega)), List.drop_length];unfold Fz
  simp
 | succ j ih =>
  intro k fuel b hk hf hb;obtain ⟨fuel, rfl⟩ := mN fuel (by omega);obtain ⟨M, rfl⟩ : ∃ q, N = q + 5 := ⟨N - 5, by omega⟩
  have hlt : k < l.length := by omega
  unfold nU;rw [cT (dT (by omega)), gB, List.getElem?_eq_getElem hlt, aC, YV _ _ _ _ (by omega)]
  dsimp only
  rw [iE (x := (k : Int) + 1) (by omega)];have := ih (k + 1) fuel (b ++ nI l[k]) (by omega) (by omega) (by rw [List.length_append, zO]; omega);refine Eq.trans this ?_;rw [List.drop_eq_getElem_cons hlt, List.append_assoc]; rfl
theorem nW (N : Nat) (b l : List Int) (hl : l.length + 5 ≤ N) (h2 : l.length ≤ 1000000000000) (hb : b.length + 4 * l.length ≤ 140737488355328) : eU N b l = some (b ++ Fz l) := by
 unfold eU;exact YW N (by omega) l h2 _ l.length 0 N b (by omega) (by omega) hb
theorem NJ (N : Nat) (hN : 6 ≤ N) (b : List Int) (s : List UInt8) (hb : b.length + 4 + s.length ≤ 140737488355328) : rK N b s = some (b ++ tI s) := by
 unfold rK;rw [nW N b _ (by simp; omega) (by simp) (by simp; omega), aC, kY (by rw [List.length_append, Gs, rL]; simp; omega), aC, List.append_assoc];unfold tI Fz
 simp
theorem YX (N : Nat) (l : List Int) (hl : l.length ≤ 1000000000000) (kk) : ∀ (j k fuel : Nat) (b : List Int), k + j = l.length → j < fuel → b.length + 4 * j ≤ 140737488355328 →
  iS N l kk fuel (b, (k : Int)) = kk (b ++ Fz (l.drop k), (l.length : Int)) := by
 intro j
 induction j with
 | zero =>
  intro k fuel b hk hf hb;obtain ⟨fuel, rfl⟩ := mN fuel (by omega);obtain rfl : k = l.length := by omega
  unfold iS;rw [cF (dF (by omega)), List.drop_length];unfold Fz
  simp
 | succ j ih =>
  intro k fuel b hk hf hb;obtain ⟨fuel, rfl⟩ := mN fuel (by omega);have hlt : k < l.length := by omega
  unfold iS;rw [cT (dT (by omega)), gB, List.getElem?_eq_getElem hlt, aC, aC, aC, aC, aA7, aA8, aA9, u8w, kY (by simp; omega), aC, iE (x := (k : Int) + 1) (by omega), aC];have := ih (k + 1) fuel (b ++ nI l[k]) (by omega) (by omega) (by rw [List.length_append, zO]; omega);refine Eq.trans this ?_;rw [List.drop_eq_getElem_cons hlt, List.append_assoc]; rfl
theorem pY (N : Nat) (b l : List Int) (hl : l.length + 5 ≤ N) (h2 : l.length ≤ 1000000000000) (hb : b.length + 4 * l.length ≤ 140737488355328) : dM N b l = some (b ++ Fz l) := by
 unfold dM;exact YX N l h2 _ l.length 0 N b (by omega) (by omega) hb
theorem NK (N : Nat) (hN : 6 ≤ N) (b : List Int) (s : List UInt8) (hb : b.length + 4 + s.length ≤ 140737488355328) : j6 N b s = some (b ++ tI s) := by
 unfold j6;rw [pY N b _ (by simp; omega) (by simp) (by simp; omega), aC, kY (by rw [List.length_append, Gs, rL]; simp; omega), aC, List.append_assoc];unfold tI Fz
 simp
section
variable (W H D K R : Int) (Ls : List Int) (St : List (List UInt8)) (ph b0 b1 b2 b3 w : Int) (sp : List (Int × Int)) (g0 g1 g2 m0 m1 m2 m3 m4 m5 m6 m7 m8 : Int) (cv : List (Int × Int)) (am : Int)
theorem BM {α : Type} {f : α → List Int} (l : List α) {k : Nat} (h : k < l.length) : ((l.drop k).map f).flatten = f l[k] ++ ((l.drop (k + 1)).map f).flatten := by
 rw [List.drop_eq_getElem_cons h]; rfl
theorem aBa (N : Nat) (hN : 6 ≤ N) (kk) (hl : St.length ≤ 1000) (hs : ∀ s ∈ St, s.length ≤ 1000000) : ∀ (j k fuel : Nat) (b : List Int), k + j = St.length → j < fuel → b.length + 1000004 * j ≤ 140737488355328 →
  tH N St kk fuel (b, (k : Int)) = kk (b ++ ((St.drop k).map tI).flatten, (St.length : Int)) := by
 intro j
 induction j with
 | zero =>
  intro k fuel b hk hf hb;obtain ⟨fuel, rfl⟩ := mN fuel (by omega);obtain rfl : k = St.length := by omega
  unfold tH;rw [cF (dF (by omega)), List.drop_length]; simp
 | succ j ih =>
  intro k fuel b hk hf hb;obtain ⟨fuel, rfl⟩ := mN fuel (by omega);have hlt : k < St.length := by omega
  have := hs St[k] (List.getElem_mem hlt);unfold tH;rw [cT (dT (by omega)), gB, List.getElem?_eq_getElem hlt, aC, NJ N hN _ _ (by omega), aC, iE (x := (k : Int) + 1) (by omega)];refine Eq.trans (ih (k + 1) fuel (b ++ tI St[k]) (by omega) (by omega) (by rw [List.length_append, Mj]; omega)) ?_;rw [BM St hlt, List.append_assoc]
theorem aBb (N : Nat) (hN : 10 ≤ N) (kk) (hl : sp.length ≤ 1000) : ∀ (j k fuel : Nat) (b : List Int), k + j = sp.length → j < fuel → b.length + 8 * j ≤ 140737488355328 →
  tG N sp kk fuel (b, (k : Int)) = kk (b ++ ((sp.drop k).map pI).flatten, (sp.length : Int)) := by
 intro j
 induction j with
 | zero =>
  intro k fuel b hk hf hb;obtain ⟨fuel, rfl⟩ := mN fuel (by omega);obtain rfl : k = sp.length := by omega
  unfold tG;rw [cF (dF (by omega)), List.drop_length]; simp
 | succ j ih =>
  intro k fuel b hk hf hb;obtain ⟨fuel, rfl⟩ := mN fuel (by omega);have hlt : k < sp.length := by omega
  unfold tG;rw [cT (dT (by omega)), gB, List.getElem?_eq_getElem hlt, aC, nW N _ _ (by simp; omega) (by simp) (by simp; omega), aC, iE (x := (k : Int) + 1) (by omega)];refine Eq.trans (ih (k + 1) fuel (b ++ pI sp[k]) (by omega) (by omega) (by rw [List.length_append, EI]; omega)) ?_;rw [BM sp hlt, List.append_assoc]
theorem aBd (N : Nat) (hN : 10 ≤ N) (kk) (hl : cv.length ≤ 1000) : ∀ (j k fuel : Nat) (b : List Int), k + j = cv.length → j < fuel → b.length + 8 * j ≤ 140737488355328 →
  tF N cv kk fuel (b, (k : Int)) = kk (b ++ ((cv.drop k).map pI).flatten, (cv.length : Int)) := by
 intro j
 induction j with
 | zero =>
  intro k fuel b hk hf hb;obtain ⟨fuel, rfl⟩ := mN fuel (by omega);obtain rfl : k = cv.length := by omega
  unfold tF;rw [cF (dF (by omega)), List.drop_length]; simp
 | succ j ih =>
  intro k fuel b hk hf hb;obtain ⟨fuel, rfl⟩ := mN fuel (by omega);have hlt : k < cv.length := by omega
  unfold tF;rw [cT (dT (by omega)), gB, List.getElem?_eq_getElem hlt, aC, nW N _ _ (by simp; omega) (by simp) (by simp; omega), aC, iE (x := (k : Int) + 1) (by omega)];refine Eq.trans (ih (k + 1) fuel (b ++ pI cv[k]) (by omega) (by omega) (by rw [List.length_append, EI]; omega)) ?_;rw [BM cv hlt, List.append_assoc]
def Ml : List Int := tI CE ++ (Fz [W, H, D, K, R, (Ls.length : Int)] ++ (Fz Ls ++ (Fz [(St.length : Int)] ++ ((St.map tI).flatten ++ (Fz [ph, b0, b1, b2, b3, w, (sp.length : Int)] ++ ((sp.map pI).flatten ++ (Fz [g0, g1, g2] ++ (Fz [m0, m1, m2, m3, m4, m5, m6, m7, m8] ++ (Fz [(cv.length : Int)] ++ ((cv.map pI).flatten ++ Fz [am]))))))))))
theorem Lm : toB (Ml W H D K R Ls St ph b0 b1 b2 b3 w sp g0 g1 g2 m0 m1 m2 m3 m4 m5 m6 m7 m8 cv am) = LJ W H D K R Ls St ph b0 b1 b2 b3 w sp g0 g1 g2 m0 m1 m2 m3 m4 m5 m6 m7 m8 cv am := by
 have hns : ∀ l, toB (Fz l) = (l.map nB).flatten := fun l => Gr Mi l
 unfold Ml LJ lB;simp only [IS, hns, T8, Gr T8, Gr YU, List.map_cons, List.map_nil, List.flatten_cons, List.flatten_nil, List.append_assoc, List.append_nil]
theorem NL (N : Nat) (hN : 2000 ≤ N) (hL : Ls.length ≤ 1000) (hSt : St.length ≤ 1000) (hs : ∀ s ∈ St, s.length ≤ 1000000) (hsp : sp.length ≤ 1000) (hcv : cv.length ≤ 1000) {e : Int} (hc : sF N W H D K R Ls St ph b0 b1 b2 b3 w sp g0 g1 g2 m0 m1 m2 m3 m4 m5 m6 m7 m8 cv am = some e) :
  tS N W H D K R Ls St ph b0 b1 b2 b3 w sp g0 g1 g2 m0 m1 m2 m3 m4 m5 m6 m7 m8 cv am = some (if e = 0 then (LJ W H D K R Ls St ph b0 b1 b2 b3 w sp g0 g1 g2 m0 m1 m2 m3 m4 m5 m6 m7 m8 cv am, 0) else ([], e)) := by
 have f1 := DQ (f := tI) (c := 1000004) St fun s hq => by have := hs s hq; rw [Mj]; omega
 have f2 := DQ (f := pI) (c := 8) sp fun s hq => by rw [EI]; exact Nat.le_refl _
 have f3 := DQ (f := pI) (c := 8) cv fun s hq => by rw [EI]; exact Nat.le_refl _
 have nl : ∀ l : List Int, (Fz l).length = 4 * l.length := Gs;have tl : (tI CE).length = 8 := rfl;unfold tS;rw [hc, aC]
 by_cases h : e = 0
 rotate_left
 ·rw [cT (by rw [dF h]; rfl), if_neg h]
 rw [cF (by rw [dT h]; rfl), if_pos h];rw [show rK N ([] : List Int) ([100, 97, 114, 107] : List UInt8) = some (tI CE) from NJ N (by omega) [] CE (by decide), aC];rw [nW N _ _ (by simp; omega) (by simp) (by simp [tl]), aC, nW N _ _ (by omega) (by omega) (by simp [tl, nl]; omega), aC, nW N _ _ (by simp; omega) (by simp) (by simp [tl, nl]; omega), aC];have key1 := fun kk => aBa St N (by omega) kk hSt hs St.length 0 N (tI CE ++ Fz [W, H, D, K, R, (Ls.length : Int)] ++ Fz Ls ++ Fz [(St.length : Int)]) (by omega) (by omega) (by simp [tl, nl]; omega)
 rw [List.drop_zero] at key1;refine (key1 _).trans ?_
 dsimp only
 rw [nW N _ _ (by simp; omega) (by simp) (by simp only [List.length_append, tl, nl, List.length_cons, List.length_nil]; omega), aC, nW N _ _ (by simp; omega) (by simp) (by simp only [List.length_append, tl, nl, List.length_cons, List.length_nil]; omega), aC, nW N _ _ (by simp; omega) (by simp) (by simp only [List.length_append, tl, nl, List.length_cons, List.length_nil]; omega), aC];have key2 := fun kk b hb => aBb sp N (by omega) kk hsp sp.length 0 N b (by omega) (by omega) hb
 rw [List.drop_zero] at key2;refine (key2 _ _ (by simp only [List.length_append, tl, nl, List.length_cons, List.length_nil]; omega)).trans ?_
 dsimp only
 rw [nW N _ _ (by simp; omega) (by simp) (by simp only [List.length_append, tl, nl, List.length_cons, List.length_nil]; omega), aC, nW N _ _ (by simp; omega) (by simp) (by simp only [List.length_append, tl, nl, List.length_cons, List.length_nil]; omega), aC, nW N _ _ (by simp; omega) (by simp) (by simp only [List.length_append, tl, nl, List.length_cons, List.length_nil]; omega), aC];have T9 := fun kk b hb => aBd cv N (by omega) kk hcv cv.length 0 N b (by omega) (by omega) hb
 rw [List.drop_zero] at T9;refine (T9 _ _ (by simp only [List.length_append, tl, nl, List.length_cons, List.length_nil]; omega)).trans ?_
 dsimp only
 rw [nW N _ _ (by simp; omega) (by simp) (by simp only [List.length_append, tl, nl, List.length_cons, List.length_nil]; omega), aC, ← Lm W H D K R Ls St ph b0 b1 b2 b3 w sp g0 g1 g2 m0 m1 m2 m3 m4 m5 m6 m7 m8 cv am];unfold Ml
 congr 3
 simp only [Fz, List.append_assoc, List.map_cons, List.map_nil, List.flatten_cons, List.flatten_nil, List.append_nil, List.cons_append, List.nil_append]
theorem aBe (N : Nat) (hN : 10 ≤ N) (kk) (hl : St.length ≤ 1000) (hs : ∀ s ∈ St, s.length ≤ 1000000) : ∀ (j k fuel : Nat) (b : List Int), k + j = St.length → j < fuel → b.length + 1000004 * j ≤ 140737488355328 →
  kD N St kk fuel (b, (k : Int)) = kk (b ++ ((St.drop k).map tI).flatten, (St.length : Int)) := by
 intro j
 induction j with
 | zero =>
  intro k fuel b hk hf hb;obtain ⟨fuel, rfl⟩ := mN fuel (by omega);obtain rfl : k = St.length := by omega
  unfold kD;rw [cF (dF (by omega)), List.drop_length]; simp
 | succ j ih =>
  intro k fuel b hk hf hb;obtain ⟨fuel, rfl⟩ := mN fuel (by omega);have hlt : k < St.length := by omega
  have := hs St[k] (List.getElem_mem hlt);unfold kD;rw [cT (dT (by omega)), gB, List.getElem?_eq_getElem hlt, aC, NK N (by omega) _ _ (by omega), aC, iE (x := (k : Int) + 1) (by omega), aC];refine Eq.trans (ih (k + 1) fuel (b ++ tI St[k]) (by omega) (by omega) (by rw [List.length_append, Mj]; omega)) ?_;rw [BM St hlt, List.append_assoc]
theorem aBf (N : Nat) (hN : 10 ≤ N) (kk) (hl : sp.length ≤ 1000) : ∀ (j k fuel : Nat) (b : List Int), k + j = sp.length → j < fuel → b.length + 8 * j ≤ 140737488355328 →
  kC N sp kk fuel (b, (k : Int)) = kk (b ++ ((sp.drop k).map pI).flatten, (sp.length : Int)) := by
 intro j
 induction j with
 | zero =>
  intro k fuel b hk hf hb;obtain ⟨fuel, rfl⟩ := mN fuel (by omega);obtain rfl : k = sp.length := by omega
  unfold kC;rw [cF (dF (by omega)), List.drop_length]; simp
 | succ j ih =>
  intro k fuel b hk hf hb;obtain ⟨fuel, rfl⟩ := mN fuel (by omega);have hlt : k < sp.length := by omega
  unfold kC;rw [cT (dT (by omega)), gB, List.getElem?_eq_getElem hlt, aC, aC, pY N _ _ (by simp; omega) (by simp) (by simp; omega), aC, iE (x := (k : Int) + 1) (by omega), aC];refine Eq.trans (ih (k + 1) fuel (b ++ pI sp[k]) (by omega) (by omega) (by rw [List.length_append, EI]; omega)) ?_;rw [BM sp hlt, List.append_assoc]
theorem aBg (N : Nat) (hN : 10 ≤ N) (kk) (hl : cv.length ≤ 1000) : ∀ (j k fuel : Nat) (b : List Int), k + j = cv.length → j < fuel → b.length + 8 * j ≤ 140737488355328 →
  kA N cv kk fuel (b, (k : Int)) = kk (b ++ ((cv.drop k).map pI).flatten, (cv.length : Int)) := by
 intro j
 induction j with
 | zero =>
  intro k fuel b hk hf hb;obtain ⟨fuel, rfl⟩ := mN fuel (by omega);obtain rfl : k = cv.length := by omega
  unfold kA;rw [cF (dF (by omega)), List.drop_length]; simp
 | succ j ih =>
  intro k fuel b hk hf hb;obtain ⟨fuel, rfl⟩ := mN fuel (by omega);have hlt : k < cv.length := by omega
  unfold kA;rw [cT (dT (by omega)), gB, List.getElem?_eq_getElem hlt, aC, aC, pY N _ _ (by simp; omega) (by simp) (by simp; omega), aC, iE (x := (k : Int) + 1) (by omega), aC];refine Eq.trans (ih (k + 1) fuel (b ++ pI cv[k]) (by omega) (by omega) (by rw [List.length_append, EI]; omega)) ?_;rw [BM cv hlt, List.append_assoc]
theorem aBh (N : Nat) (hN : 20 ≤ N) (kk) (b : List Int) (hb : b.length + 36 ≤ 140737488355328) (fuel : Nat) : hJ N m0 m1 m2 m3 m4 m5 m6 m7 m8 kk (fuel + 10) (b, 0) = kk (b ++ Fz [m0, m1, m2, m3, m4, m5, m6, m7, m8], 9) := by
 have st : ∀ (i : Int) (f : Nat) (b : List Int) (e : Int), 0 ≤ i ∧ i < 9 → idx [m0, m1, m2, m3, m4, m5, m6, m7, m8] i = some e → b.length + 4 ≤ 140737488355328 → hJ N m0 m1 m2 m3 m4 m5 m6 m7 m8 kk (f + 1) (b, i) = hJ N m0 m1 m2 m3 m4 m5 m6 m7 m8 kk f (b ++ nI e, i + 1) := by
  intro i f b e hi he hb
  conv => lhs; unfold hJ
  rw [cT (dT hi.2), show inr i 9 = some () by unfold inr; rw [if_pos ⟨hi.1, hi.2⟩], aC, he, aC, pY N _ _ (by simp; omega) (by simp) (by simp; omega), aC, iE (x := i + 1) (by omega), aC];unfold Fz;simp only [List.map_cons, List.map_nil, List.flatten_cons, List.flatten_nil, List.append_nil]
 rw [st 0 (fuel + 9) b m0 (by decide) rfl (by omega), st _ (fuel + 8) _ m1 (by decide) rfl (by simp only [List.length_append, zO]; omega), st _ (fuel + 7) _ m2 (by decide) rfl (by simp only [List.length_append, zO]; omega), st _ (fuel + 6) _ m3 (by decide) rfl (by simp only [List.length_append, zO]; omega), st _ (fuel + 5) _ m4 (by decide) rfl (by simp only [List.length_append, zO]; omega), st _ (fuel + 4) _ m5 (by decide) rfl (by simp only [List.length_append, zO]; omega), st _ (fuel + 3) _ m6 (by decide) rfl (by simp only [List.length_append, zO]; omega), st _ (fuel + 2) _ m7 (by decide) rfl (by simp only [List.length_append, zO]; omega), st _ (fuel + 1) _ m8 (by decide) rfl (by simp only [List.length_append, zO]; omega)];unfold hJ;rw [cF (by rfl)];unfold Fz;simp only [List.map_cons, List.map_nil, List.flatten_cons, List.flatten_nil, List.append_nil, List.append_assoc]
 rfl
theorem RN (N : Nat) (hN : 2000 ≤ N) (hL : Ls.length ≤ 1000) (hSt : St.length ≤ 1000) (hs : ∀ s ∈ St, s.length ≤ 1000000) (hsp : sp.length ≤ 1000) (hcv : cv.length ≤ 1000) :
  nV N W H D K R Ls St ph b0 b1 b2 b3 w sp g0 g1 g2 m0 m1 m2 m3 m4 m5 m6 m7 m8 cv am = some (LJ W H D K R Ls St ph b0 b1 b2 b3 w sp g0 g1 g2 m0 m1 m2 m3 m4 m5 m6 m7 m8 cv am) := by
 have f1 := DQ (f := tI) (c := 1000004) St fun s hq => by have := hs s hq; rw [Mj]; omega
 have f2 := DQ (f := pI) (c := 8) sp fun s hq => by rw [EI]; exact Nat.le_refl _
 have f3 := DQ (f := pI) (c := 8) cv fun s hq => by rw [EI]; exact Nat.le_refl _
 have nl : ∀ l : List Int, (Fz l).length = 4 * l.length := Gs;have tl : (tI CE).length = 8 := rfl;unfold nV;rw [show j6 N ([] : List Int) ([100, 97, 114, 107] : List UInt8) = some (tI CE) from NK N (by omega) [] CE (by decide), aC];rw [pY N _ _ (by simp; omega) (by simp) (by simp [tl]), aC, pY N _ _ (by omega) (by omega) (by simp [tl, nl]; omega), aC, pY N _ _ (by simp; omega) (by simp) (by simp [tl, nl]; omega), aC];have key1 := fun kk => aBe St N (by omega) kk hSt hs St.length 0 N (tI CE ++ Fz [W, H, D, K, R, (Ls.length : Int)] ++ Fz Ls ++ Fz [(St.length : Int)]) (by omega) (by omega) (by simp [tl, nl]; omega)
 rw [List.drop_zero] at key1;refine (key1 _).trans ?_
 dsimp only
 rw [pY N _ _ (by simp; omega) (by simp) (by simp only [List.length_append, tl, nl, List.length_cons, List.length_nil]; omega), aC];have key2 := fun kk b hb => aBf sp N (by omega) kk hsp sp.length 0 N b (by omega) (by omega) hb
 rw [List.drop_zero] at key2;refine (key2 _ _ (by simp only [List.length_append, tl, nl, List.length_cons, List.length_nil]; omega)).trans ?_
 dsimp only
 rw [pY N _ _ (by simp; omega) (by simp) (by simp only [List.length_append, tl, nl, List.length_cons, List.length_nil]; omega), aC];obtain ⟨M, rfl⟩ : ∃ q, N = q + 10 := ⟨N - 10, by omega⟩
 refine (aBh m0 m1 m2 m3 m4 m5 m6 m7 m8 (M + 10) (by omega) _ _ (by simp only [List.length_append, tl, nl, List.length_cons, List.length_nil]; omega) M).trans ?_
 dsimp only
 rw [pY (M + 10) _ _ (by simp) (by simp) (by simp only [List.length_append, tl, nl, List.length_cons, List.length_nil]; omega), aC];have T9 := fun kk b hb => aBg cv (M + 10) (by omega) kk hcv cv.length 0 (M + 10) b (by omega) (by omega) hb
 rw [List.drop_zero] at T9;refine (T9 _ _ (by simp only [List.length_append, tl, nl, List.length_cons, List.length_nil]; omega)).trans ?_
 dsimp only
 rw [pY (M + 10) _ _ (by simp) (by simp) (by simp only [List.length_append, tl, nl, List.length_cons, List.length_nil]; omega), aC, ← Lm W H D K R Ls St ph b0 b1 b2 b3 w sp g0 g1 g2 m0 m1 m2 m3 m4 m5 m6 m7 m8 cv am];unfold Ml
 congr 2
 simp only [Fz, List.append_assoc, List.map_cons, List.map_nil, List.flatten_cons, List.flatten_nil, List.append_nil, List.cons_append, List.nil_append]
end
end
end Go.Proofs.YtpmnfhifmmfglacGreatDoor
