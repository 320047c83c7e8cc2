/- Texts of the claim RawFills, joined and made small by a program. -/
import Derived.ChangeKeysEq
import Derived.KernelRfl
import Derived.Laws.BytesArg
import Derived.Laws.CopyRow
import Derived.Laws.IdiomCopy
import Derived.Laws.IdiomStrings
import Derived.Laws.Strings2
import Derived.Laws.Strings3
import Derived.Lib.AppendStr
import Derived.Lib.SliceRun
import Derived.LoopN
import Derived.Maps.OwnSet
import Derived.Recover
import Derived.Scope
import Derived.Test.YtpmnfhifmmfglacGreatDoorChecked
import Derived.WalkSpells
import Derived.WideMake
import Derived.Test.YtpmnfhifmmfglacGreatDoorRawFillsK4
import Derived.Test.YtpmnfhifmmfglacGreatDoorRawFillsK5
import Derived.Test.YtpmnfhifmmfglacGreatDoorRawFillsK6
set_option linter.unusedVariables false
set_option linter.unusedSimpArgs false
set_option linter.unusedSectionVars false
set_option maxRecDepth 100000
set_option maxHeartbeats 8000000
namespace Go.Proofs.YtpmnfhifmmfglacGreatDoor
section
open Go
abbrev Ky := Int × Int × Int × Int × Int × List Int × List (List UInt8) × Int × Int × Int × Int × Int × Int × List (Int × Int) × Int × Int × Int × Int × Int × Int × Int × Int × Int × Int × Int × Int × List (Int × Int) × Int × Int
def EE (e : Int) : Ky := (0, 0, 0, 0, 0, [], [], 0, 0, 0, 0, 0, 0, [], 0, 0, 0, 0, 0, 0, 0, 0, 0, 0, 0, 0, [], 0, e)
theorem Q8 {β : Type} {a b : Prop} [Decidable a] [Decidable b] (kk : Bool → Option β) : cond (decide a) (kk (decide a)) (kk (decide b)) = kk (decide (a ∨ b)) := by
 by_cases h : a
 ·rw [decide_eq_true h, decide_eq_true (show a ∨ b from Or.inl h)]; rfl
 ·rw [decide_eq_false h]
  by_cases h2 : b
  ·rw [decide_eq_true h2, decide_eq_true (show a ∨ b from Or.inr h2)]; rfl
  ·rw [decide_eq_false h2, decide_eq_false (show ¬ (a ∨ b) from fun q => q.elim h h2)]; rfl
section
variable (W H D K R : Int) (Ls : List Int) (St : List (List UInt8)) (ph b0 b1 b2 b3 w : Int) (sp : List (Int × Int)) (g0 g1 g2 m0 m1 m2 m3 m4 m5 m6 m7 m8 : Int) (cv : List (Int × Int)) (am : Int)
theorem P8 (N : Nat) (kk) : vR N H R kk = kk (decide (R < 1 ∨ H < R)) := by unfold vR; exact Q8 kk
theorem P9 (N : Nat) (kk) : vS N H D R kk = kk (decide (16 < D ∨ R < 1 ∨ H < R)) := by unfold vS; rw [P8]; exact Q8 kk
theorem Qa (N : Nat) (kk) : vT N H D R kk = kk (decide (D < 1 ∨ 16 < D ∨ R < 1 ∨ H < R)) := by unfold vT; rw [P9]; exact Q8 kk
theorem Qb (N : Nat) (kk) : vU N H D R kk = kk (decide (64 < H ∨ D < 1 ∨ 16 < D ∨ R < 1 ∨ H < R)) := by unfold vU; rw [Qa]; exact Q8 kk
theorem Qc (N : Nat) (kk) : vV N H D R kk = kk (decide (H < 1 ∨ 64 < H ∨ D < 1 ∨ 16 < D ∨ R < 1 ∨ H < R)) := by unfold vV; rw [Qb]; exact Q8 kk
theorem Qd (N : Nat) (kk) : vW N W H D R kk = kk (decide (64 < W ∨ H < 1 ∨ 64 < H ∨ D < 1 ∨ 16 < D ∨ R < 1 ∨ H < R)) := by unfold vW; rw [Qc]; exact Q8 kk
theorem Qe (N : Nat) (kk) : vY N W H D R kk = kk (decide (W < 1 ∨ 64 < W ∨ H < 1 ∨ 64 < H ∨ D < 1 ∨ 16 < D ∨ R < 1 ∨ H < R)) := by unfold vY; rw [Qd]; exact Q8 kk
theorem Qf (N : Nat) (kk) : vX N K kk = kk (decide (K < 0 ∨ 7 < K)) := by unfold vX; exact Q8 kk
def pA : Prop := (1 ≤ W ∧ W ≤ 64) ∧ (1 ≤ H ∧ H ≤ 64) ∧ (1 ≤ D ∧ D ≤ 16) ∧ 1 ≤ R ∧ R ≤ H
instance : Decidable (pA W H D R) := by unfold pA; exact inferInstance
def uQ : Int := if ¬ pA W H D R then 3 else if ¬ (0 ≤ K ∧ K ≤ 7) then 6 else if 0 < K then qK Ls else if 0 < Ls.length then 1 else 0
theorem Mj (N : Nat) (hN : 100 ≤ N) : vF N W H D K R Ls St ph b0 b1 b2 b3 w sp g0 g1 g2 m0 m1 m2 m3 m4 m5 m6 m7 m8 cv am = some (uQ W H D K R Ls) := by
 unfold vF uQ;rw [Qe]
 by_cases h1 : pA W H D R
 rotate_left
 ·rw [cT (decide_eq_true (by unfold pA at h1; omega)), if_pos h1]
 rw [cF (decide_eq_false (by unfold pA at h1; omega)), if_neg (fun q => q h1), Qf]
 by_cases h2 : 0 ≤ K ∧ K ≤ 7
 rotate_left
 ·rw [cT (decide_eq_true (by omega)), if_pos h2]
 rw [cF (decide_eq_false (by omega)), if_neg (fun q => q h2)]
 by_cases h3 : 0 < K
 ·rw [cT (dT h3), CX N hN, aN, if_pos h3]
 rw [cF (dF h3), if_neg h3]
 by_cases h4 : 0 < Ls.length
 ·rw [cT (dT (by omega)), if_pos h4]
 ·rw [cF (dF (by omega)), if_neg h4]
theorem Oe (N : Nat) (hN : 100 ≤ N) : kW N W H D K R Ls St ph b0 b1 b2 b3 w sp g0 g1 g2 m0 m1 m2 m3 m4 m5 m6 m7 m8 cv am = some (uQ W H D K R Ls) := by
 unfold kW uQ;rw [uP, aN]
 by_cases h1 : 1 ≤ W ∧ W ≤ 64
 rotate_left
 ·rw [cT (by rw [dF h1]; rfl), if_pos (fun q => h1 q.1)]
 rw [cF (by rw [dT h1]; rfl), uP, aN]
 by_cases h2 : 1 ≤ H ∧ H ≤ 64
 rotate_left
 ·rw [cT (by rw [dF h2]; rfl), if_pos (fun q => h2 q.2.1)]
 rw [cF (by rw [dT h2]; rfl), uP, aN]
 by_cases h3 : 1 ≤ D ∧ D ≤ 16
 rotate_left
 ·rw [cT (by rw [dF h3]; rfl), if_pos (fun q => h3 q.2.2.1)]
 rw [cF (by rw [dT h3]; rfl), uP, aN]
 by_cases h4 : 1 ≤ R ∧ R ≤ H
 rotate_left
 ·rw [cT (by rw [dF h4]; rfl), if_pos (fun q => h4 q.2.2.2)]
 rw [cF (by rw [dT h4]; rfl), uP, aN, if_neg (fun q => q ⟨h1, h2, h3, h4⟩)]
 by_cases h5 : 0 ≤ K ∧ K ≤ 7
 rotate_left
 ·rw [cT (by rw [dF h5]; rfl), if_pos h5]
 rw [cF (by rw [dT h5]; rfl), if_neg (fun q => q h5)]
 by_cases h6 : K = 0
 ·rw [cT (dT h6), if_neg (by omega)]
  by_cases h7 : 0 < Ls.length
  ·rw [cT (dT (by omega)), if_pos h7]
  ·rw [cF (dF (by omega)), cF (dF (by omega)), if_neg h7]
 ·rw [cF (dF h6), cT (dT (by omega)), GC N hN, aN, if_pos (by omega)]
def FF (f : Bool) : Int := if BP ph b0 b1 b2 b3 w sp g0 g1 g2 m0 m1 m2 m3 m4 m5 m6 m7 m8 am = false then 3 else if f = false then 1 else if sp.all (j5 W H) = false then 3 else 0
theorem SS (s : List (Int × Int)) (hl : s.length ≤ 4096) : ∀ (d k fuel : Nat), k + d = s.length → d < fuel →
  ∃ r, dQ 8589934592 s W H D K R Ls St ph b0 b1 b2 b3 w sp g0 g1 g2 m0 m1 m2 m3 m4 m5 m6 m7 m8 cv am (fun _ => some (-1)) fuel (k : Int) = some r ∧ decide (0 ≤ r) = !((s.drop k).all fun q => decide (q.1 < W ∧ q.2 < H)) := by
 intro d
 induction d with
 | zero =>
  intro k fuel hk hf;obtain ⟨fuel, rfl⟩ : ∃ m, fuel = m + 1 := ⟨fuel - 1, by omega⟩
  obtain rfl : k = s.length := by omega
  unfold dQ;rw [cF (dF (by omega))];exact ⟨_, rfl, by simp⟩
 | succ d ih =>
  intro k fuel hk hf;obtain ⟨fuel, rfl⟩ : ∃ m, fuel = m + 1 := ⟨fuel - 1, by omega⟩
  have hlt : k < s.length := by omega
  unfold dQ xE;rw [cT (dT (by omega)), jG, List.getElem?_eq_getElem hlt, aN, List.drop_eq_getElem_cons hlt, List.all_cons]
  by_cases h1 : W ≤ s[k].1
  ·rw [cT (dT h1), aN, cT rfl];refine ⟨_, rfl, ?_⟩;rw [dT (by omega), decide_eq_false (show ¬ (s[k].1 < W ∧ s[k].2 < H) by omega)]; rfl
  rw [cF (dF h1), aN]
  by_cases h2 : H ≤ s[k].2
  ·rw [cT (dT h2)];refine ⟨_, rfl, ?_⟩;rw [dT (by omega), decide_eq_false (show ¬ (s[k].1 < W ∧ s[k].2 < H) by omega)]; rfl
  ·rw [cF (dF h2), jR (by omega), decide_eq_true (show (s[k].1 < W ∧ s[k].2 < H) by omega), Bool.true_and];exact ih (k + 1) fuel (by omega) (by omega)
theorem IQ (s : List (Int × Int)) (hl : s.length ≤ 4096) : eN 8589934592 s W H D K R Ls St ph b0 b1 b2 b3 w sp g0 g1 g2 m0 m1 m2 m3 m4 m5 m6 m7 m8 cv am = some (!(s.all fun q => decide (q.1 < W ∧ q.2 < H))) := by
 obtain ⟨r, hr, hd⟩ := SS W H D K R Ls St ph b0 b1 b2 b3 w sp g0 g1 g2 m0 m1 m2 m3 m4 m5 m6 m7 m8 cv am s hl s.length 0 8589934592 (by omega) (by omega);have hr' : dQ 8589934592 s W H D K R Ls St ph b0 b1 b2 b3 w sp g0 g1 g2 m0 m1 m2 m3 m4 m5 m6 m7 m8 cv am (fun _ => some (-1)) 8589934592 0 = some r := hr;unfold eN f4;rw [hr', aN, hd, List.drop_zero]
theorem Kz {s : List (Int × Int)} (h : s.all (j5 64 64) = true) : (s.all fun q => decide (q.1 < W ∧ q.2 < H)) = s.all (j5 W H) := by
 induction s with
 | nil => rfl
 | cons q s ih =>
  rw [List.all_cons, Bool.and_eq_true] at h;rw [List.all_cons, List.all_cons, ih h.2]
  congr 1
  have h1 := h.1;unfold j5 at h1 ⊢;simp only [Bool.and_eq_true, decide_eq_true_eq] at h1;rw [dT h1.1.1.1, dT h1.1.2, Bool.true_and, Bool.and_true]
  by_cases a : q.1 < W <;> by_cases b : q.2 < H <;> simp [a, b]
theorem BU (h : BP ph b0 b1 b2 b3 w sp g0 g1 g2 m0 m1 m2 m3 m4 m5 m6 m7 m8 am = true) : sp.length ≤ 64 ∧ sp.all (j5 64 64) = true := by
 unfold BP at h;simp only [Bool.and_eq_true, decide_eq_true_eq] at h;exact ⟨h.2.2.2.1, h.2.2.2.2.1⟩
theorem Mk {f : Bool} (hb : mR 8589934592 cv = some f) (hc : f = true ↔ sF cv) : vG 8589934592 W H D K R Ls St ph b0 b1 b2 b3 w sp g0 g1 g2 m0 m1 m2 m3 m4 m5 m6 m7 m8 cv am = some (FF W H ph b0 b1 b2 b3 w sp g0 g1 g2 m0 m1 m2 m3 m4 m5 m6 m7 m8 am f) := by
 unfold vG FF;rw [NL ph b0 b1 b2 b3 w sp g0 g1 g2 m0 m1 m2 m3 m4 m5 m6 m7 m8 cv am hb hc, aN]
 by_cases h1 : BP ph b0 b1 b2 b3 w sp g0 g1 g2 m0 m1 m2 m3 m4 m5 m6 m7 m8 am = false
 ·rw [if_pos h1, cT (by rfl), if_pos h1]
 rw [if_neg h1, if_neg h1];have h1' := (Bool.not_eq_false _).mp h1
 by_cases h2 : f = false
 ·rw [if_pos h2, cT (by rfl), if_pos h2]
 rw [if_neg h2, cF (by rfl), if_neg h2];obtain ⟨p1, p2⟩ := BU ph b0 b1 b2 b3 w sp g0 g1 g2 m0 m1 m2 m3 m4 m5 m6 m7 m8 am h1';rw [IQ W H D K R Ls St ph b0 b1 b2 b3 w sp g0 g1 g2 m0 m1 m2 m3 m4 m5 m6 m7 m8 cv am sp (by omega), aN, Kz W H p2]
 by_cases h3 : sp.all (j5 W H) = false
 ·rw [h3, if_pos rfl, cT (by rfl)]
 ·rw [(Bool.not_eq_false _).mp h3, cF (by rfl), if_neg (by decide)]
theorem Of {f : Bool} (hb : gT 8589934592 cv = some f) (hW : 1 ≤ W ∧ W ≤ 64) (hH : 1 ≤ H ∧ H ≤ 64) : kY 8589934592 W H D K R Ls St ph b0 b1 b2 b3 w sp g0 g1 g2 m0 m1 m2 m3 m4 m5 m6 m7 m8 cv am = some (FF W H ph b0 b1 b2 b3 w sp g0 g1 g2 m0 m1 m2 m3 m4 m5 m6 m7 m8 am f) := by
 unfold kY FF;rw [Hj ph b0 b1 b2 b3 w sp g0 g1 g2 m0 m1 m2 m3 m4 m5 m6 m7 m8 cv am hb, aN]
 by_cases h1 : BP ph b0 b1 b2 b3 w sp g0 g1 g2 m0 m1 m2 m3 m4 m5 m6 m7 m8 am = false
 ·rw [if_pos h1, cT (by rfl), if_pos h1]
 rw [if_neg h1, if_neg h1];have h1' := (Bool.not_eq_false _).mp h1
 by_cases h2 : f = false
 ·rw [if_pos h2, cT (by rfl), if_pos h2]
 rw [if_neg h2, cF (by rfl), if_neg h2];obtain ⟨p1, p2⟩ := BU ph b0 b1 b2 b3 w sp g0 g1 g2 m0 m1 m2 m3 m4 m5 m6 m7 m8 am h1';rw [Fx sp (by omega) (by omega) (by omega), aN]
 by_cases h3 : sp.all (j5 W H) = false
 ·rw [h3, if_pos rfl, cT (by rfl)]
 ·rw [(Bool.not_eq_false _).mp h3, cF (by rfl), if_neg (by decide)]
end
theorem ST (N : Nat) {l : List Int} (hl : l.length ≤ 4096) : ∀ (j k fuel : Nat) (m : Int), k + j = l.length → j < fuel → ∃ M, jY N l (fun (m4, i4) => some m4) fuel (m, (k : Int)) = some M ∧ ∀ b, M ≤ b ↔ m ≤ b ∧ ∀ e ∈ l.drop k, e ≤ b := by
 intro j
 induction j with
 | zero =>
  intro k fuel m hk hf;obtain ⟨fuel, rfl⟩ : ∃ q, fuel = q + 1 := ⟨fuel - 1, by omega⟩
  unfold jY;rw [cF (dF (by omega))];refine ⟨m, rfl, fun b => ⟨fun h => ⟨h, fun e he => ?_⟩, fun h => h.1⟩⟩;rw [List.drop_of_length_le (by omega)] at he; cases he
 | succ j ih =>
  intro k fuel m hk hf;obtain ⟨fuel, rfl⟩ : ∃ q, fuel = q + 1 := ⟨fuel - 1, by omega⟩
  have hlt : k < l.length := by omega
  obtain ⟨M, h1, h2⟩ := ih (k + 1) fuel (max m l[k]) (by omega) (by omega);refine ⟨M, ?_, fun b => ?_⟩
  ·unfold jY;rw [cT (dT (by omega)), jG, List.getElem?_eq_getElem hlt, aN, aN, jR (x := (k : Int) + 1) (by omega), aN];exact h1
  ·rw [h2 b, List.drop_eq_getElem_cons hlt]
   constructor
   ·rintro ⟨q1, q2⟩;refine ⟨by omega, fun e he => ?_⟩
    rcases List.mem_cons.1 he with rfl | he
    ·omega
    ·exact q2 e he
   ·rintro ⟨q1, q2⟩;have := q2 l[k] (List.mem_cons_self ..);exact ⟨by omega, fun e he => q2 e (List.mem_cons_of_mem _ he)⟩
theorem max_eq (N : Nat) {l : List Int} (h0 : 1 ≤ l.length) (hl : l.length ≤ 4096) (hN : 5000 ≤ N) : ∃ M, kU N l = some M ∧ ∀ b, M ≤ b ↔ ∀ e ∈ l, e ≤ b := by
 obtain ⟨x, l, rfl⟩ : ∃ x t, l = x :: t := by
  cases l with
  | nil => simp at h0
  | cons x t => exact ⟨x, t, rfl⟩
 obtain ⟨M, h1, h2⟩ := ST N hl ((x :: l).length - 1) 1 N x (by omega) (by omega);refine ⟨M, ?_, fun b => ?_⟩
 ·unfold kU;rw [cF (dF (by omega)), show idx (x :: l) 0 = some x from rfl, aN];exact h1
 ·rw [h2 b, List.drop_one, List.tail_cons]
  constructor
  ·rintro ⟨q1, q2⟩ e he
   rcases List.mem_cons.1 he with rfl | he
   ·exact q1
   ·exact q2 e he
  ·intro q; exact ⟨q x (List.mem_cons_self ..), fun e he => q e (List.mem_cons_of_mem _ he)⟩
theorem Qg (N : Nat) {l : List Int} (hl : l.length ≤ 4096) {d : Nat} (hd : 1 ≤ d ∧ d ≤ 16) (kk) : ∀ (j k fuel : Nat), k + j = l.length → j < fuel → jM N l (d : Int) kk fuel (k : Int) = if (l.drop k).all (fun e => decide (e < ((2 ^ d : Nat) : Int))) = true then kk (l.length : Int) else some false := by
 intro j
 induction j with
 | zero =>
  intro k fuel hk hf;obtain ⟨fuel, rfl⟩ : ∃ q, fuel = q + 1 := ⟨fuel - 1, by omega⟩
  obtain rfl : k = l.length := by omega
  unfold jM;rw [cF (dF (by omega)), List.drop_length, if_pos (by rfl)]
 | succ j ih =>
  intro k fuel hk hf;obtain ⟨fuel, rfl⟩ : ∃ q, fuel = q + 1 := ⟨fuel - 1, by omega⟩
  have hlt : k < l.length := by omega
  have hnx : IntKind.i64.wrap ((k : Int) + 1) = ((k + 1 : Nat) : Int) := by rw [jR (by omega)]; rfl
  have hp := wG (d := d) hd.2;have hp0 := Nat.two_pow_pos d;unfold jM;rw [cT (dT (by omega)), jG, List.getElem?_eq_getElem hlt, aN, tM, aN, Cl hd.2, jR (x := ((2 ^ d : Nat) : Int) - 1) (by omega), List.drop_eq_getElem_cons hlt, List.all_cons]
  by_cases h : l[k] < ((2 ^ d : Nat) : Int)
  ·rw [cF (dF (by omega)), hnx, aN, ih (k + 1) fuel (by omega) (by omega), decide_eq_true h, Bool.true_and]
  ·rw [cT (dT (by omega)), if_neg];rw [decide_eq_false h]; simp
theorem Qh (N : Nat) (hN : 5000 ≤ N) {l : List Int} (hl : l.length ≤ 4096) {d : Nat} (hd : 1 ≤ d ∧ d ≤ 16) : lT N l (d : Int) = some (l.all (fun e => decide (e < ((2 ^ d : Nat) : Int)))) := by
 unfold lT;have := Qg N hl hd (fun _ => some true) l.length 0 N (by omega) (by omega);refine Eq.trans this ?_;rw [List.drop_zero]
 split
 ·rename_i h; rw [h]
 ·rename_i h; rw [(Bool.not_eq_true _).mp h]
def vM (H R : Nat) : Nat := (H + R - 1) / R
def oV (H R i : Nat) : Nat := min R (H - i * R)
theorem cnt_lt {H R i : Nat} (hR : 1 ≤ R) : i < vM H R ↔ i * R < H := by
 unfold vM;rw [Nat.lt_div_iff_mul_lt (by omega)]
 omega
theorem CZ {H R : Nat} (hR : 1 ≤ R) (hH : 1 ≤ H) : vM H R ≤ H ∧ 1 ≤ vM H R := by
 refine ⟨?_, ?_⟩
 ·unfold vM;refine Nat.div_le_of_le_mul ?_;have : R * H = (R - 1) * H + H := by rw [Nat.sub_mul]; have := Nat.le_mul_of_pos_left H hR; omega
  have h2 : R - 1 ≤ (R - 1) * H := Nat.le_mul_of_pos_right _ hH
  omega
 ·have := (cnt_lt (H := H) (i := 0) hR).2 (by omega)
  omega
theorem KA (N : Nat) {H R : Nat} (hR : 1 ≤ R ∧ R ≤ H) (hH : H ≤ 64) (kk) : ∀ (j k fuel : Nat), k + j = vM H R → j < fuel →
  oM N (H : Int) (R : Int) kk fuel ((List.range k).map fun i => (((i * R : Nat) : Int), ((oV H R i : Nat) : Int)), ((k * R : Nat) : Int)) = kk ((List.range (vM H R)).map fun i => (((i * R : Nat) : Int), ((oV H R i : Nat) : Int)), ((vM H R * R : Nat) : Int)) := by
 have hcl := CZ (H := H) (R := R) hR.1 (by omega);intro j
 induction j with
 | zero =>
  intro k fuel hk hf;obtain ⟨fuel, rfl⟩ : ∃ q, fuel = q + 1 := ⟨fuel - 1, by omega⟩
  obtain rfl : k = vM H R := by omega
  have := mt (cnt_lt (H := H) (R := R) (i := vM H R) hR.1).2 (by omega);unfold oM;rw [cF (dF (by omega))]
 | succ j ih =>
  intro k fuel hk hf;obtain ⟨fuel, rfl⟩ : ∃ q, fuel = q + 1 := ⟨fuel - 1, by omega⟩
  have hlt := (cnt_lt (H := H) (R := R) (i := k) hR.1).1 (by omega)
  have e1 : min (R : Int) (IntKind.i64.wrap ((H : Int) - ((k * R : Nat) : Int))) = ((oV H R k : Nat) : Int) := by
   rw [jR (by omega)]; unfold oV; omega
  have e2 : IntKind.i64.wrap (((k * R : Nat) : Int) + (R : Int)) = (((k + 1) * R : Nat) : Int) := by
   rw [Nat.add_mul, jR (by omega)]; omega
  unfold oM;rw [cT (dT (by omega)), e1, p9 (by simp; omega), aN, e2, aN];have := ih (k + 1) fuel (by omega) (by omega);rw [List.range_succ, List.map_append, List.map_singleton] at this;exact this
def partOf (W H R : Nat) (P : List Int) (i : Nat) : List Int := (P.take ((i * R + oV H R i) * W)).drop (i * R * W)
def vA (D : Nat) (K : Int) (Ls : List Int) (W H R : Nat) (P : List Int) : Nat → Nat → List (List UInt8) → List (List UInt8) × Int
 | 0, _, acc => (acc, 0)
 | n + 1, i, acc => if 0 < K then (if (xF (W : Int) ((oV H R i : Nat) : Int) (partOf W H R P i) K Ls).2 = 0 then vA D K Ls W H R P n (i + 1) (acc ++ [(xF (W : Int) ((oV H R i : Nat) : Int) (partOf W H R P i) K Ls).1]) else ([], (xF (W : Int) ((oV H R i : Nat) : Int) (partOf W H R P i) K Ls).2))
  else vA D K Ls W H R P n (i + 1) (acc ++ [(IB D (partOf W H R P i)).map UInt8.ofNat])
theorem LB {W H R i : Nat} {P : List Int} (hl : P.length = W * H) (hR : 1 ≤ R) (hi : i < vM H R) : (i * R + oV H R i) * W ≤ P.length ∧ i * R * W ≤ (i * R + oV H R i) * W ∧ i * R + oV H R i ≤ H := by
 have h1 := (cnt_lt (H := H) (R := R) (i := i) hR).1 hi;have h2 : i * R + oV H R i ≤ H := by unfold oV; omega
 refine ⟨?_, Nat.mul_le_mul_right _ (by omega), h2⟩;rw [hl, Nat.mul_comm W H];exact Nat.mul_le_mul_right _ h2
section
variable (W H D K R : Int) (Ls : List Int) (St : List (List UInt8)) (ph b0 b1 b2 b3 w : Int) (sp : List (Int × Int)) (g0 g1 g2 m0 m1 m2 m3 m4 m5 m6 m7 m8 : Int) (cv : List (Int × Int)) (am : Int)
theorem Ht (N : Nat) (hN : 200000 ≤ N) {W H R d : Nat} (hW : 1 ≤ W ∧ W ≤ 64) (hH : 1 ≤ H ∧ H ≤ 64) (hR : 1 ≤ R ∧ R ≤ H) (hd : 1 ≤ d ∧ d ≤ 16) {P : List Int} (hl : P.length = W * H) (hP : P.all (Lh d) = true) (kk : List (List UInt8) × Int → Option Ky) : ∀ (j k fuel : Nat) (acc : List (List UInt8)), k + j = vM H R → j < fuel → acc.length = k →
  o9 N (d : Int) K Ls (W : Int) P ((List.range (vM H R)).map fun i => (((i * R : Nat) : Int), ((oV H R i : Nat) : Int))) kk fuel (acc, (k : Int)) = if (vA d K Ls W H R P j k acc).2 = 0 then kk ((vA d K Ls W H R P j k acc).1, ((vM H R : Nat) : Int)) else some (EE (vA d K Ls W H R P j k acc).2) := by
 have hcl := CZ (H := H) (R := R) hR.1 hH.1;have hm := Nat.mul_le_mul hW.2 hH.2;intro j
 induction j with
 | zero =>
  intro k fuel acc hk hf ha;obtain ⟨fuel, rfl⟩ : ∃ q, fuel = q + 1 := ⟨fuel - 1, by omega⟩
  unfold o9 vA;rw [cF (dF (by simp; omega)), if_pos rfl]
  congr 2
  omega
 | succ j ih =>
  intro k fuel acc hk hf ha;obtain ⟨fuel, rfl⟩ : ∃ q, fuel = q + 1 := ⟨fuel - 1, by omega⟩
  obtain ⟨q1, q2, q3⟩ := LB hl hR.1 (i := k) (by omega);have hnx : IntKind.i64.wrap ((k : Int) + 1) = ((k + 1 : Nat) : Int) := by rw [jR (by omega)]; rfl
  have e1 : IntKind.i64.wrap (((k * R : Nat) : Int) * (W : Int)) = ((k * R * W : Nat) : Int) := by rw [show ((k * R : Nat) : Int) * (W : Int) = ((k * R * W : Nat) : Int) by simp, jR (by omega)]
  have e2 : IntKind.i64.wrap (IntKind.i64.wrap (((k * R : Nat) : Int) + ((oV H R k : Nat) : Int)) * (W : Int)) = (((k * R + oV H R k) * W : Nat) : Int) := by
   rw [jR (x := ((k * R : Nat) : Int) + _) (by omega), show (((k * R : Nat) : Int) + ((oV H R k : Nat) : Int)) * (W : Int) = (((k * R + oV H R k) * W : Nat) : Int) by simp, jR (by omega)]
  have hs : DQ P ((k * R * W : Nat) : Int) (((k * R + oV H R k) * W : Nat) : Int) = some (partOf W H R P k) := by
   rw [J9 (by omega), Int.toNat_natCast, Int.toNat_natCast]; rfl
  have hpa : (partOf W H R P k).all (Lh d) = true := by
   rw [List.all_eq_true] at hP ⊢;exact fun x hx => hP x (List.mem_of_mem_take (List.mem_of_mem_drop hx))
  have hpl : (partOf W H R P k).length ≤ 4096 := by unfold partOf; rw [List.length_drop, List.length_take]; omega
  have hpe : v6 (partOf W H R P k) (d : Int) = 0 := by unfold v6; rw [if_neg (by omega), if_neg (by omega), Int.toNat_natCast, if_pos hpa]
  unfold o9 vA;rw [cT (dT (by simp; omega)), jG, List.getElem?_map, List.getElem?_range (by omega)];show Option.bind (some _) _ = _;rw [aN]
  dsimp only
  rw [e1, e2, hs, aN, PX N (by omega), aN, if_pos hpe]
  by_cases hK : 0 < K
  ·rw [cT (dT hK), FE N hN, aN, if_pos hK]
   by_cases h0 : (xF (W : Int) ((oV H R k : Nat) : Int) (partOf W H R P k) K Ls).2 = 0
   ·rw [cF (by rw [dT h0]; rfl), p9 (by simp; omega), aN, hnx, if_pos h0];exact ih (k + 1) fuel _ (by omega) (by omega) (by simp; omega)
   ·rw [cT (by rw [dF h0]; rfl), if_neg h0, if_neg h0]; rfl
  ·rw [cF (dF hK), if_neg hK, cF (by rfl), p9 (by simp; omega), aN, hnx, Int.toNat_natCast];exact ih (k + 1) fuel _ (by omega) (by omega) (by simp; omega)
theorem IR (N : Nat) (hN : 200000 ≤ N) {W H R d : Nat} (hW : 1 ≤ W ∧ W ≤ 64) (hH : 1 ≤ H ∧ H ≤ 64) (hR : 1 ≤ R ∧ R ≤ H) (hd : 1 ≤ d ∧ d ≤ 16) {P : List Int} (hl : P.length = W * H) (hP : P.all (Lh d) = true) (kk : List (List UInt8) × Int → Option Ky) : ∀ (j k fuel : Nat) (acc : List (List UInt8)), k + j = vM H R → j < fuel → acc.length = k →
  iL N (W : Int) (H : Int) (d : Int) K (R : Int) Ls St ph b0 b1 b2 b3 w sp g0 g1 g2 m0 m1 m2 m3 m4 m5 m6 m7 m8 cv am P kk fuel (acc, (k : Int)) = if (vA d K Ls W H R P j k acc).2 = 0 then kk ((vA d K Ls W H R P j k acc).1, ((vM H R : Nat) : Int)) else some (EE (vA d K Ls W H R P j k acc).2) := by
 have hcl := CZ (H := H) (R := R) hR.1 hH.1;have hm := Nat.mul_le_mul hW.2 hH.2
 have hcnt : IntKind.i64.wrap (Int.tdiv (IntKind.i64.wrap (IntKind.i64.wrap ((H : Int) + (R : Int)) - 1)) (R : Int)) = ((vM H R : Nat) : Int) := by
  rw [jR (x := (H : Int) + R) (by omega), jR (x := (H : Int) + R - 1) (by omega), show (H : Int) + R - 1 = ((H + R - 1 : Nat) : Int) by omega, show Int.tdiv ((H + R - 1 : Nat) : Int) (R : Int) = (((H + R - 1) / R : Nat) : Int) from rfl];exact jR (x := ((vM H R : Nat) : Int)) (by omega)
 intro j
 induction j with
 | zero =>
  intro k fuel acc hk hf ha;obtain ⟨fuel, rfl⟩ : ∃ q, fuel = q + 1 := ⟨fuel - 1, by omega⟩
  unfold iL vA mW;rw [Iv (by omega), aN, hcnt, aN, cF (dF (by omega)), if_pos rfl]
  congr 2
  omega
 | succ j ih =>
  intro k fuel acc hk hf ha;obtain ⟨fuel, rfl⟩ : ∃ q, fuel = q + 1 := ⟨fuel - 1, by omega⟩
  obtain ⟨q1, q2, q3⟩ := LB hl hR.1 (i := k) (by omega);have hkR := (cnt_lt (H := H) (R := R) (i := k) hR.1).1 (by omega);have hnx : IntKind.i64.wrap ((k : Int) + 1) = ((k + 1 : Nat) : Int) := by rw [jR (by omega)]; rfl
  have e0 : IntKind.i64.wrap ((k : Int) * (R : Int)) = ((k * R : Nat) : Int) := by rw [show (k : Int) * (R : Int) = ((k * R : Nat) : Int) by simp, jR (by omega)]
  have er : min (R : Int) (IntKind.i64.wrap ((H : Int) - ((k * R : Nat) : Int))) = ((oV H R k : Nat) : Int) := by
   rw [jR (by omega)]; unfold oV; omega
  have e1 : IntKind.i64.wrap (((k * R : Nat) : Int) * (W : Int)) = ((k * R * W : Nat) : Int) := by rw [show ((k * R : Nat) : Int) * (W : Int) = ((k * R * W : Nat) : Int) by simp, jR (by omega)]
  have e2 : IntKind.i64.wrap (IntKind.i64.wrap (((k * R : Nat) : Int) + ((oV H R k : Nat) : Int)) * (W : Int)) = (((k * R + oV H R k) * W : Nat) : Int) := by
   rw [jR (x := ((k * R : Nat) : Int) + _) (by omega), show (((k * R : Nat) : Int) + ((oV H R k : Nat) : Int)) * (W : Int) = (((k * R + oV H R k) * W : Nat) : Int) by simp, jR (by omega)]
  have hs : DQ P ((k * R * W : Nat) : Int) (((k * R + oV H R k) * W : Nat) : Int) = some (partOf W H R P k) := by
   rw [J9 (by omega), Int.toNat_natCast, Int.toNat_natCast]; rfl
  have hpa : (partOf W H R P k).all (Lh d) = true := by
   rw [List.all_eq_true] at hP ⊢;exact fun x hx => hP x (List.mem_of_mem_take (List.mem_of_mem_drop hx))
  have hpl : (partOf W H R P k).length ≤ 4096 := by unfold partOf; rw [List.length_drop, List.length_take]; omega
  unfold iL vA mW mH;rw [Iv (by omega), aN, hcnt, aN, cT (dT (by omega)), e0, er, aN, aN, e1, e2, hs, aN, L7 N (by omega) hd hpl hpa, aN]
  by_cases hK : 0 < K
  ·rw [cT (dT hK), Gi N hN, aN, if_pos hK]
   by_cases h0 : (xF (W : Int) ((oV H R k : Nat) : Int) (partOf W H R P k) K Ls).2 = 0
   ·rw [cF (by rw [dT h0]; rfl), p9 (by simp; omega), aN, hnx, aN, if_pos h0];exact ih (k + 1) fuel _ (by omega) (by omega) (by simp; omega)
   ·rw [cT (by rw [dF h0]; rfl), if_neg h0, if_neg h0]; rfl
  ·rw [cF (dF hK), if_neg hK, p9 (by simp; omega), aN, hnx, aN];exact ih (k + 1) fuel _ (by omega) (by omega) (by simp; omega)
def El (f : Bool) (oW oH : Int) (P : List Int) : Ky :=
 if uQ W H D K R Ls ≠ 0 then EE (uQ W H D K R Ls) else if FF W H ph b0 b1 b2 b3 w sp g0 g1 g2 m0 m1 m2 m3 m4 m5 m6 m7 m8 am f ≠ 0 then EE (FF W H ph b0 b1 b2 b3 w sp g0 g1 g2 m0 m1 m2 m3 m4 m5 m6 m7 m8 am f) else
 if Kq oW oH P = false ∨ oW ≠ W ∨ oH ≠ H ∨ P.all (fun e => decide (e < ((2 ^ D.toNat : Nat) : Int))) = false then EE 1 else
 if (vA D.toNat K Ls W.toNat H.toNat R.toNat P (vM H.toNat R.toNat) 0 []).2 = 0 then (W, H, D, K, R, Ls, (vA D.toNat K Ls W.toNat H.toNat R.toNat P (vM H.toNat R.toNat) 0 []).1, ph, b0, b1, b2, b3, w, sp, g0, g1, g2, m0, m1, m2, m3, m4, m5, m6, m7, m8, cv, am, 0) else EE (vA D.toNat K Ls W.toNat H.toNat R.toNat P (vM H.toNat R.toNat) 0 []).2
theorem Hu (h : uQ W H D K R Ls = 0) : pA W H D R ∧ (0 ≤ K ∧ K ≤ 7) ∧ (Ls.length ≤ 17) ∧ (0 < K → qK Ls = 0) := by
 unfold uQ at h
 by_cases h1 : pA W H D R
 rotate_left
 ·rw [if_pos h1] at h; cases h
 rw [if_neg (fun q => q h1)] at h
 by_cases h2 : 0 ≤ K ∧ K ≤ 7
 rotate_left
 ·rw [if_pos h2] at h; cases h
 rw [if_neg (fun q => q h2)] at h;refine ⟨h1, h2, ?_⟩
 by_cases h3 : 0 < K
 ·rw [if_pos h3] at h;refine ⟨?_, fun _ => h⟩;obtain ⟨ns, rfl, _, _, h17, _⟩ := Hq h;rw [lK]; exact h17
 ·rw [if_neg h3] at h;refine ⟨?_, fun q => absurd q h3⟩
  by_cases h4 : 0 < Ls.length
  ·rw [if_pos h4] at h; cases h
  ·omega
theorem SU (N : Nat) (hN : 5000 ≤ N) (W H : Int) (P : List Int) : jJ W H P = Kq W H P := Option.some.inj ((He N W H P hN).symm.trans (FA N hN W H P))
theorem D8 {cv : List (Int × Int)} (h : sF cv) : cv.length ≤ 16 := by
 have := h.len
 omega
end
section
variable (W H D K R : Int) (Ls : List Int) (St : List (List UInt8)) (ph b0 b1 b2 b3 w : Int) (sp : List (Int × Int)) (g0 g1 g2 m0 m1 m2 m3 m4 m5 m6 m7 m8 : Int) (cv : List (Int × Int)) (am : Int)
theorem Hv {f : Bool} (h : FF W H ph b0 b1 b2 b3 w sp g0 g1 g2 m0 m1 m2 m3 m4 m5 m6 m7 m8 am f = 0) : BP ph b0 b1 b2 b3 w sp g0 g1 g2 m0 m1 m2 m3 m4 m5 m6 m7 m8 am = true ∧ f = true ∧ sp.all (j5 W H) = true := by
 unfold FF at h
 by_cases h1 : BP ph b0 b1 b2 b3 w sp g0 g1 g2 m0 m1 m2 m3 m4 m5 m6 m7 m8 am = false
 ·rw [if_pos h1] at h; cases h
 rw [if_neg h1] at h
 by_cases h2 : f = false
 ·rw [if_pos h2] at h; cases h
 rw [if_neg h2] at h
 by_cases h3 : sp.all (j5 W H) = false
 ·rw [if_pos h3] at h; cases h
 exact ⟨(Bool.not_eq_false _).mp h1, (Bool.not_eq_false _).mp h2, (Bool.not_eq_false _).mp h3⟩
theorem IS {P : List Int} (hP : ∀ e ∈ P, 0 ≤ e ∧ e ≤ 65535) (d : Nat) : P.all (fun e => decide (e < ((2 ^ d : Nat) : Int))) = P.all (Lh d) := by
 rw [Bool.eq_iff_iff, List.all_eq_true, List.all_eq_true]
 constructor
 ·intro h e he;have := of_decide_eq_true (h e he);exact decide_eq_true ⟨(hP e he).1, this⟩
 ·intro h e he;exact decide_eq_true (of_decide_eq_true (h e he)).2
theorem Ml {f : Bool} (hb : mR 8589934592 cv = some f) (hc : f = true ↔ sF cv) (oW oH : Int) (P : List Int) (hl : P.length ≤ 9223372036854775807) : vI 8589934592 W H D K R Ls St ph b0 b1 b2 b3 w sp g0 g1 g2 m0 m1 m2 m3 m4 m5 m6 m7 m8 cv am oW oH P = some (El W H D K R Ls ph b0 b1 b2 b3 w sp g0 g1 g2 m0 m1 m2 m3 m4 m5 m6 m7 m8 cv am f oW oH P) := by
 unfold vI El;rw [Mj W H D K R Ls St ph b0 b1 b2 b3 w sp g0 g1 g2 m0 m1 m2 m3 m4 m5 m6 m7 m8 cv am 8589934592 (by decide), aN]
 by_cases h1 : uQ W H D K R Ls = 0
 rotate_left
 ·rw [cT (by rw [decide_eq_false h1]; rfl), if_pos h1]; rfl
 rw [cF (by rw [decide_eq_true h1]; rfl), if_neg (fun q => q h1), Mk W H D K R Ls St ph b0 b1 b2 b3 w sp g0 g1 g2 m0 m1 m2 m3 m4 m5 m6 m7 m8 cv am hb hc, aN]
 by_cases h2 : FF W H ph b0 b1 b2 b3 w sp g0 g1 g2 m0 m1 m2 m3 m4 m5 m6 m7 m8 am f = 0
 rotate_left
 ·rw [cT (by rw [decide_eq_false h2]; rfl), if_pos h2]; rfl
 rw [cF (by rw [decide_eq_true h2]; rfl), if_neg (fun q => q h2), Kb 8589934592 oW oH P hl, aN, SU 8589934592 (by decide)];obtain ⟨q1, q2, q3, q4⟩ := Hu W H D K R Ls h1;obtain ⟨p1, p2, p3⟩ := Hv W H ph b0 b1 b2 b3 w sp g0 g1 g2 m0 m1 m2 m3 m4 m5 m6 m7 m8 am h2
 by_cases h3 : Kq oW oH P = true
 rotate_left
 ·have h3' := (Bool.not_eq_true _).mp h3;rw [h3', if_pos rfl, cT (by rfl), if_pos (.inl rfl)]; rfl
 rw [h3, if_neg (by decide), cF (by rfl)]
 by_cases h4 : oW = W
 rotate_left
 ·rw [cT (by rw [decide_eq_false h4]; rfl), if_pos (.inr (.inl h4))]; rfl
 by_cases h5 : oH = H
 rotate_left
 ·rw [cF (by rw [decide_eq_true h4]; rfl), cT (by rw [decide_eq_false h5]; rfl), if_pos (.inr (.inr (.inl h5)))]; rfl
 rw [cF (by rw [decide_eq_true h4]; rfl), cF (by rw [decide_eq_true h5]; rfl)];subst h4 h5;obtain ⟨w', k', rfl, rfl, a1, a2, a3, a4, a5, a6, hP⟩ := E7 h3;obtain ⟨d, rfl⟩ := Int.eq_ofNat_of_zero_le (show 0 ≤ D by unfold pA at q1; omega);obtain ⟨r, rfl⟩ := Int.eq_ofNat_of_zero_le (show 0 ≤ R by unfold pA at q1; omega);have hd : 1 ≤ d ∧ d ≤ 16 := by unfold pA at q1; omega
 have hr : 1 ≤ r ∧ r ≤ k' := by unfold pA at q1; omega
 have hpos : 1 ≤ P.length := by rw [a5]; exact Nat.mul_pos (by omega) (by omega)
 obtain ⟨M, e1, e2⟩ := max_eq 8589934592 hpos (by omega) (by decide);obtain ⟨x0, hx0⟩ : ∃ x, x ∈ P := ⟨P[0], List.getElem_mem (by omega)⟩
 have hM0 : 0 ≤ M := by
  have := (e2 M).1 (Int.le_refl _) x0 hx0;have := (hP x0 hx0).1
  omega
 obtain ⟨m, rfl⟩ := Int.eq_ofNat_of_zero_le hM0;have hp2 := Nat.two_pow_pos d
 have hsh : (0 < ((m / 2 ^ d : Nat) : Int)) ↔ P.all (fun e => decide (e < ((2 ^ d : Nat) : Int))) = false := by
  have h6 := e2 (((2 ^ d : Nat) : Int) - 1);have h7 : (0 < m / 2 ^ d) ↔ 2 ^ d ≤ m := Nat.div_pos_iff.trans ⟨fun q => q.2, fun q => ⟨hp2, q⟩⟩
  constructor
  ·intro q;rw [Bool.eq_false_iff];intro q2;rw [List.all_eq_true] at q2;have := h6.2 fun e he => by have := of_decide_eq_true (q2 e he); omega
   have := h7.1 (by omega)
   omega
  ·intro q
   have : ¬ m < 2 ^ d := fun q2 => by
    have := h6.1 (by omega);rw [Bool.eq_false_iff] at q;exact q (List.all_eq_true.2 fun e he => decide_eq_true (by have := this e he; omega))
   have := h7.2 (by omega)
   omega
 rw [e1, aN, tM, aN, E1 (by omega), Int.toNat_natCast, Int.toNat_natCast, Int.toNat_natCast, Int.toNat_natCast]
 by_cases h6 : P.all (fun e => decide (e < ((2 ^ d : Nat) : Int))) = false
 ·rw [cT (decide_eq_true (hsh.2 h6)), if_pos (.inr (.inr (.inr h6)))]; rfl
 rw [cF (decide_eq_false (fun q => h6 (hsh.1 q))), if_neg (by rintro (q | q | q | q) <;> first | exact absurd q (by decide) | exact q rfl | exact h6 q)];have h6' := (Bool.not_eq_false _).mp h6;rw [IS hP] at h6';have hcl := D8 (hc.1 p2);obtain ⟨s1, s2⟩ := BU ph b0 b1 b2 b3 w sp g0 g1 g2 m0 m1 m2 m3 m4 m5 m6 m7 m8 am p1;have hc1 : lI 8589934592 Ls = some Ls := by unfold lI; rw [p9 (by simp; omega)]; rfl
 have hc2 : iI 8589934592 sp = some sp := by unfold iI; rw [p9 (by simp; omega)]; rfl
 have hc3 : iA 8589934592 cv = some cv := by unfold iA; rw [p9 (by simp; omega)]; rfl
 have hst : uI 8589934592 (w' : Int) (k' : Int) (d : Int) K (r : Int) Ls St ph b0 b1 b2 b3 w sp g0 g1 g2 m0 m1 m2 m3 m4 m5 m6 m7 m8 cv am = some ((List.range (vM k' r)).map fun i => (((i * r : Nat) : Int), ((oV k' r i : Nat) : Int))) := by
  have hcn := CZ (H := k') (R := r) hr.1 a3;have := KA 8589934592 hr a4 (fun (l6, y5) => some l6) (vM k' r) 0 8589934592 (by omega) (by omega);rw [Nat.zero_mul] at this;exact this
 rw [hc1, aN, hc2, aN, hc3, aN, hst, aN];have hcn := CZ (H := k') (R := r) hr.1 a3;have key := Ht K Ls 8589934592 (by decide) ⟨a1, a2⟩ ⟨a3, a4⟩ hr hd a5 h6' (fun (Am, i2) => some ((w' : Int), (k' : Int), (d : Int), K, (r : Int), Ls, Am, ph, b0, b1, b2, b3, w, sp, g0, g1, g2, m0, m1, m2, m3, m4, m5, m6, m7, m8, cv, am, (0 : Int))) (vM k' r) 0 8589934592 [] (by omega) (by omega) rfl;refine Eq.trans key ?_
 split <;> rfl
theorem Og {f : Bool} (hb : gT 8589934592 cv = some f) (hc : f = true ↔ sF cv) (oW oH : Int) (P : List Int) (hS : St.length * 16 ≤ 140737488355328) : lW 8589934592 W H D K R Ls St ph b0 b1 b2 b3 w sp g0 g1 g2 m0 m1 m2 m3 m4 m5 m6 m7 m8 cv am oW oH P = some (El W H D K R Ls ph b0 b1 b2 b3 w sp g0 g1 g2 m0 m1 m2 m3 m4 m5 m6 m7 m8 cv am f oW oH P) := by
 unfold lW El;rw [Oe W H D K R Ls St ph b0 b1 b2 b3 w sp g0 g1 g2 m0 m1 m2 m3 m4 m5 m6 m7 m8 cv am 8589934592 (by decide), aN]
 by_cases h1 : uQ W H D K R Ls = 0
 rotate_left
 ·rw [cT (by rw [decide_eq_false h1]; rfl), if_pos h1]; rfl
 obtain ⟨q1, q2, q3, q4⟩ := Hu W H D K R Ls h1;rw [cF (by rw [decide_eq_true h1]; rfl), if_neg (fun q => q h1), Of W H D K R Ls St ph b0 b1 b2 b3 w sp g0 g1 g2 m0 m1 m2 m3 m4 m5 m6 m7 m8 cv am hb q1.1 q1.2.1, aN]
 by_cases h2 : FF W H ph b0 b1 b2 b3 w sp g0 g1 g2 m0 m1 m2 m3 m4 m5 m6 m7 m8 am f = 0
 rotate_left
 ·rw [cT (by rw [decide_eq_false h2]; rfl), if_pos h2]; rfl
 rw [cF (by rw [decide_eq_true h2]; rfl), if_neg (fun q => q h2), FA 8589934592 (by decide), aN];obtain ⟨p1, p2, p3⟩ := Hv W H ph b0 b1 b2 b3 w sp g0 g1 g2 m0 m1 m2 m3 m4 m5 m6 m7 m8 am h2
 by_cases h3 : Kq oW oH P = true
 rotate_left
 ·have h3' := (Bool.not_eq_true _).mp h3;rw [h3', cT (by rfl), if_pos (.inl rfl)]; rfl
 rw [h3, cF (by rfl)]
 by_cases h4 : oW = W
 rotate_left
 ·rw [cT (by rw [decide_eq_false h4]; rfl), if_pos (.inr (.inl h4))]; rfl
 by_cases h5 : oH = H
 rotate_left
 ·rw [cF (by rw [decide_eq_true h4]; rfl), cT (by rw [decide_eq_false h5]; rfl), if_pos (.inr (.inr (.inl h5)))]; rfl
 rw [cF (by rw [decide_eq_true h4]; rfl), cF (by rw [decide_eq_true h5]; rfl)];subst h4 h5;obtain ⟨w', k', rfl, rfl, a1, a2, a3, a4, a5, a6, hP⟩ := E7 h3;obtain ⟨d, rfl⟩ := Int.eq_ofNat_of_zero_le (show 0 ≤ D by unfold pA at q1; omega);obtain ⟨r, rfl⟩ := Int.eq_ofNat_of_zero_le (show 0 ≤ R by unfold pA at q1; omega);have hd : 1 ≤ d ∧ d ≤ 16 := by unfold pA at q1; omega
 have hr : 1 ≤ r ∧ r ≤ k' := by unfold pA at q1; omega
 rw [Qh 8589934592 (by decide) (by omega) hd, aN, Int.toNat_natCast, Int.toNat_natCast, Int.toNat_natCast, Int.toNat_natCast]
 by_cases h6 : P.all (fun e => decide (e < ((2 ^ d : Nat) : Int))) = false
 ·rw [h6, cT (by rfl), if_pos (.inr (.inr (.inr rfl)))]; rfl
 have h6' := (Bool.not_eq_false _).mp h6;rw [h6', cF (by rfl), if_neg (by rintro (q | q | q | q) <;> first | exact absurd q (by decide) | exact q rfl)];rw [IS hP] at h6';have hcl := D8 (hc.1 p2);obtain ⟨s1, s2⟩ := BU ph b0 b1 b2 b3 w sp g0 g1 g2 m0 m1 m2 m3 m4 m5 m6 m7 m8 am p1
 have hown : mG 8589934592 (w' : Int) (k' : Int) (d : Int) K (r : Int) Ls St ph b0 b1 b2 b3 w sp g0 g1 g2 m0 m1 m2 m3 m4 m5 m6 m7 m8 cv am = some ((w' : Int), (k' : Int), (d : Int), K, (r : Int), Ls, St, ph, b0, b1, b2, b3, w, sp, g0, g1, g2, m0, m1, m2, m3, m4, m5, m6, m7, m8, cv, am) := by
  unfold mG;rw [p9 (by simp; omega), aN, p9 (by simp; omega), aN, p9 (by simp; omega), aN, p9 (by simp; omega), aN]; rfl
 rw [hown, aN];have hcn := CZ (H := k') (R := r) hr.1 a3;have key := IR K Ls St ph b0 b1 b2 b3 w sp g0 g1 g2 m0 m1 m2 m3 m4 m5 m6 m7 m8 cv am 8589934592 (by decide) ⟨a1, a2⟩ ⟨a3, a4⟩ hr hd a5 h6' (fun (yG, i2) => some ((w' : Int), (k' : Int), (d : Int), K, (r : Int), Ls, yG, ph, b0, b1, b2, b3, w, sp, g0, g1, g2, m0, m1, m2, m3, m4, m5, m6, m7, m8, cv, am, (0 : Int))) (vM k' r) 0 8589934592 [] (by omega) (by omega) rfl;refine Eq.trans key ?_
 split <;> rfl
end
theorem Mm (N : Nat) (l : List (Int × Int)) (hl : l.length ≤ 4096) (kk) : ∀ (j k fuel : Nat), k + j = l.length → j < fuel → iV N l l kk fuel (k : Int) = kk (l.length : Int) := by
 intro j
 induction j with
 | zero =>
  intro k fuel hk hf;obtain ⟨fuel, rfl⟩ : ∃ q, fuel = q + 1 := ⟨fuel - 1, by omega⟩
  unfold iV;rw [cF (dF (by omega)), show k = l.length by omega]
 | succ j ih =>
  intro k fuel hk hf;obtain ⟨fuel, rfl⟩ : ∃ q, fuel = q + 1 := ⟨fuel - 1, by omega⟩
  have hlt : k < l.length := by omega
  unfold iV;rw [cT (dT (by omega)), jG, List.getElem?_eq_getElem hlt, aN, aN, cF (by simp), jR (x := (k : Int) + 1) (by omega), aN];exact ih (k + 1) fuel (by omega) (by omega)
theorem Mn (N : Nat) (l : List (Int × Int)) (hl : l.length ≤ 4096) (kk) : ∀ (j k fuel : Nat), k + j = l.length → j < fuel → iU N l l kk fuel (k : Int) = kk (l.length : Int) := by
 intro j
 induction j with
 | zero =>
  intro k fuel hk hf;obtain ⟨fuel, rfl⟩ : ∃ q, fuel = q + 1 := ⟨fuel - 1, by omega⟩
  unfold iU;rw [cF (dF (by omega)), show k = l.length by omega]
 | succ j ih =>
  intro k fuel hk hf;obtain ⟨fuel, rfl⟩ : ∃ q, fuel = q + 1 := ⟨fuel - 1, by omega⟩
  have hlt : k < l.length := by omega
  unfold iU;rw [cT (dT (by omega)), jG, List.getElem?_eq_getElem hlt, aN, aN, cF (by simp), jR (x := (k : Int) + 1) (by omega), aN];exact ih (k + 1) fuel (by omega) (by omega)
theorem Mo (N : Nat) (l : List (List UInt8)) (hl : l.length ≤ 4096) (kk) : ∀ (j k fuel : Nat), k + j = l.length → j < fuel → jD N l l kk fuel (k : Int) = kk (l.length : Int) := by
 intro j
 induction j with
 | zero =>
  intro k fuel hk hf;obtain ⟨fuel, rfl⟩ : ∃ q, fuel = q + 1 := ⟨fuel - 1, by omega⟩
  unfold jD;rw [cF (dF (by omega)), show k = l.length by omega]
 | succ j ih =>
  intro k fuel hk hf;obtain ⟨fuel, rfl⟩ : ∃ q, fuel = q + 1 := ⟨fuel - 1, by omega⟩
  have hlt : k < l.length := by omega
  unfold jD;rw [cT (dT (by omega)), jG, List.getElem?_eq_getElem hlt, aN, aN, cF (by simp), jR (x := (k : Int) + 1) (by omega), aN];exact ih (k + 1) fuel (by omega) (by omega)
section
variable (W H D K R : Int) (Ls : List Int) (St : List (List UInt8)) (ph b0 b1 b2 b3 w : Int) (sp : List (Int × Int)) (g0 g1 g2 m0 m1 m2 m3 m4 m5 m6 m7 m8 : Int) (cv : List (Int × Int)) (am : Int)
theorem Hw (N : Nat) (hN : 5000 ≤ N) (hs : sp.length ≤ 4096) (hv : cv.length ≤ 4096) : k6 N ph b0 b1 b2 b3 w sp g0 g1 g2 m0 m1 m2 m3 m4 m5 m6 m7 m8 cv am ph b0 b1 b2 b3 w sp g0 g1 g2 m0 m1 m2 m3 m4 m5 m6 m7 m8 cv am = some true := by
 unfold k6;rw [cF (by simp), cF (by simp), cF (by simp), cF (by simp), cF (by simp), cF (by simp), cF (by simp), cF (by simp)];refine (Mm N sp hs _ sp.length 0 N (by omega) (by omega)).trans ?_;exact Mn N cv hv _ cv.length 0 N (by omega) (by omega)
theorem Em (N : Nat) (hN : 5000 ≤ N) (hL : Ls.length ≤ 4096) (hS : St.length ≤ 4096) (hs : sp.length ≤ 4096) (hv : cv.length ≤ 4096) : jE N W H D K R Ls St ph b0 b1 b2 b3 w sp g0 g1 g2 m0 m1 m2 m3 m4 m5 m6 m7 m8 cv am W H D K R Ls St ph b0 b1 b2 b3 w sp g0 g1 g2 m0 m1 m2 m3 m4 m5 m6 m7 m8 cv am = some true := by
 unfold jE;rw [cF (by simp), cF (by simp), cF (by simp), cF (by simp), cF (by simp), SP N Ls (by omega) (by omega), aN, cF (by rfl), cF (by simp), Hw ph b0 b1 b2 b3 w sp g0 g1 g2 m0 m1 m2 m3 m4 m5 m6 m7 m8 cv am N hN hs hv, aN, cF (by rfl)];exact Mo N St hS _ St.length 0 N (by omega) (by omega)
theorem D9 (d : Nat) : ∀ (n i : Nat) (acc : List (List UInt8)) (W H R : Nat) (P : List Int), (vA d K Ls W H R P n i acc).1.length ≤ acc.length + n
 | 0, i, acc, _, _, _, _ => Nat.le_refl _
 | n + 1, i, acc, W, H, R, P => by
  unfold vA
  split
  ·split
   ·refine Nat.le_trans (D9 d n _ _ _ _ _ _) ?_
    simp; omega
   ·simp
  ·refine Nat.le_trans (D9 d n _ _ _ _ _ _) ?_
   simp; omega
def LC (N : Nat) (r : Ky) : Option Bool := jE N r.1 r.2.1 r.2.2.1 r.2.2.2.1 r.2.2.2.2.1 r.2.2.2.2.2.1 r.2.2.2.2.2.2.1 r.2.2.2.2.2.2.2.1 r.2.2.2.2.2.2.2.2.1 r.2.2.2.2.2.2.2.2.2.1 r.2.2.2.2.2.2.2.2.2.2.1 r.2.2.2.2.2.2.2.2.2.2.2.1 r.2.2.2.2.2.2.2.2.2.2.2.2.1 r.2.2.2.2.2.2.2.2.2.2.2.2.2.1 r.2.2.2.2.2.2.2.2.2.2.2.2.2.2.1 r.2.2.2.2.2.2.2.2.2.2.2.2.2.2.2.1 r.2.2.2.2.2.2.2.2.2.2.2.2.2.2.2.2.1 r.2.2.2.2.2.2.2.2.2.2.2.2.2.2.2.2.2.1 r.2.2.2.2.2.2.2.2.2.2.2.2.2.2.2.2.2.2.1 r.2.2.2.2.2.2.2.2.2.2.2.2.2.2.2.2.2.2.2.1 r.2.2.2.2.2.2.2.2.2.2.2.2.2.2.2.2.2.2.2.2.1 r.2.2.2.2.2.2.2.2.2.2.2.2.2.2.2.2.2.2.2.2.2.1 r.2.2.2.2.2.2.2.2.2.2.2.2.2.2.2.2.2.2.2.2.2.2.1 r.2.2.2.2.2.2.2.2.2.2.2.2.2.2.2.2.2.2.2.2.2.2.2.1 r.2.2.2.2.2.2.2.2.2.2.2.2.2.2.2.2.2.2.2.2.2.2.2.2.1 r.2.2.2.2.2.2.2.2.2.2.2.2.2.2.2.2.2.2.2.2.2.2.2.2.2.1 r.2.2.2.2.2.2.2.2.2.2.2.2.2.2.2.2.2.2.2.2.2.2.2.2.2.2.1 r.2.2.2.2.2.2.2.2.2.2.2.2.2.2.2.2.2.2.2.2.2.2.2.2.2.2.2.1
 r.1 r.2.1 r.2.2.1 r.2.2.2.1 r.2.2.2.2.1 r.2.2.2.2.2.1 r.2.2.2.2.2.2.1 r.2.2.2.2.2.2.2.1 r.2.2.2.2.2.2.2.2.1 r.2.2.2.2.2.2.2.2.2.1 r.2.2.2.2.2.2.2.2.2.2.1 r.2.2.2.2.2.2.2.2.2.2.2.1 r.2.2.2.2.2.2.2.2.2.2.2.2.1 r.2.2.2.2.2.2.2.2.2.2.2.2.2.1 r.2.2.2.2.2.2.2.2.2.2.2.2.2.2.1 r.2.2.2.2.2.2.2.2.2.2.2.2.2.2.2.1 r.2.2.2.2.2.2.2.2.2.2.2.2.2.2.2.2.1 r.2.2.2.2.2.2.2.2.2.2.2.2.2.2.2.2.2.1 r.2.2.2.2.2.2.2.2.2.2.2.2.2.2.2.2.2.2.1 r.2.2.2.2.2.2.2.2.2.2.2.2.2.2.2.2.2.2.2.1 r.2.2.2.2.2.2.2.2.2.2.2.2.2.2.2.2.2.2.2.2.1 r.2.2.2.2.2.2.2.2.2.2.2.2.2.2.2.2.2.2.2.2.2.1 r.2.2.2.2.2.2.2.2.2.2.2.2.2.2.2.2.2.2.2.2.2.2.1 r.2.2.2.2.2.2.2.2.2.2.2.2.2.2.2.2.2.2.2.2.2.2.2.1 r.2.2.2.2.2.2.2.2.2.2.2.2.2.2.2.2.2.2.2.2.2.2.2.2.1 r.2.2.2.2.2.2.2.2.2.2.2.2.2.2.2.2.2.2.2.2.2.2.2.2.2.1 r.2.2.2.2.2.2.2.2.2.2.2.2.2.2.2.2.2.2.2.2.2.2.2.2.2.2.1 r.2.2.2.2.2.2.2.2.2.2.2.2.2.2.2.2.2.2.2.2.2.2.2.2.2.2.2.1
theorem Qi (N : Nat) (hN : 5000 ≤ N) (e : Int) : LC N (EE e) = some true := Em 0 0 0 0 0 [] [] 0 0 0 0 0 0 [] 0 0 0 0 0 0 0 0 0 0 0 0 [] 0 N hN (by decide) (by decide) (by decide) (by decide)
def KC (r : Ky) : List Int := r.2.2.2.2.2.1
def Hx (r : Ky) : List (Int × Int) := r.2.2.2.2.2.2.2.2.2.2.2.2.2.2.2.2.2.2.2.2.2.2.2.2.2.2.1
theorem KD {f : Bool} (hc : f = true ↔ sF cv) (oW oH : Int) (P : List Int) : LC 8589934592 (El W H D K R Ls ph b0 b1 b2 b3 w sp g0 g1 g2 m0 m1 m2 m3 m4 m5 m6 m7 m8 cv am f oW oH P) = some true ∧ (KC (El W H D K R Ls ph b0 b1 b2 b3 w sp g0 g1 g2 m0 m1 m2 m3 m4 m5 m6 m7 m8 cv am f oW oH P)).length ≤ 4096 ∧ (Hx (El W H D K R Ls ph b0 b1 b2 b3 w sp g0 g1 g2 m0 m1 m2 m3 m4 m5 m6 m7 m8 cv am f oW oH P)).length ≤ 4096 := by
 have z : ∀ e, LC 8589934592 (EE e) = some true ∧ (KC (EE e)).length ≤ 4096 ∧ (Hx (EE e)).length ≤ 4096 := fun e => ⟨Qi 8589934592 (by decide) e, by simp [KC, EE], by simp [Hx, EE]⟩
 unfold El
 by_cases h1 : uQ W H D K R Ls = 0
 rotate_left
 ·rw [if_pos h1]; exact z _
 obtain ⟨q1, q2, q3, q4⟩ := Hu W H D K R Ls h1;rw [if_neg (fun q => q h1)]
 by_cases h2 : FF W H ph b0 b1 b2 b3 w sp g0 g1 g2 m0 m1 m2 m3 m4 m5 m6 m7 m8 am f = 0
 rotate_left
 ·rw [if_pos h2]; exact z _
 obtain ⟨p1, p2, p3⟩ := Hv W H ph b0 b1 b2 b3 w sp g0 g1 g2 m0 m1 m2 m3 m4 m5 m6 m7 m8 am h2;rw [if_neg (fun q => q h2)]
 split
 ·exact z _
 split
 rotate_left
 ·exact z _
 have hcl := D8 (hc.1 p2);obtain ⟨s1, s2⟩ := BU ph b0 b1 b2 b3 w sp g0 g1 g2 m0 m1 m2 m3 m4 m5 m6 m7 m8 am p1;obtain ⟨r, rfl⟩ := Int.eq_ofNat_of_zero_le (show 0 ≤ R by unfold pA at q1; omega);obtain ⟨hh, rfl⟩ := Int.eq_ofNat_of_zero_le (show 0 ≤ H by unfold pA at q1; omega);have hcn := CZ (H := hh) (R := r) (by unfold pA at q1; omega) (by unfold pA at q1; omega);have hfl := D9 K Ls D.toNat (vM hh r) 0 [] W.toNat hh r P;rw [Int.toNat_natCast, Int.toNat_natCast];refine ⟨Em _ _ _ _ _ _ _ _ _ _ _ _ _ _ _ _ _ _ _ _ _ _ _ _ _ _ _ _ 8589934592 (by decide) (show Ls.length ≤ _ by omega) ?_ (show sp.length ≤ _ by omega) (show cv.length ≤ _ by omega), ?_, ?_⟩
 ·show (vA D.toNat K Ls W.toNat hh r P (vM hh r) 0 []).1.length ≤ _;unfold pA at q1; simp at hfl; omega
 ·show Ls.length ≤ _; omega
 ·show cv.length ≤ _; omega
end
theorem IT : mY 8589934592 = some true := by kernel_rfl
section
variable (W H D K R : Int) (Ls : List Int) (St : List (List UInt8)) (ph b0 b1 b2 b3 w : Int) (sp : List (Int × Int)) (g0 g1 g2 m0 m1 m2 m3 m4 m5 m6 m7 m8 : Int) (cv : List (Int × Int)) (am : Int)
theorem Gj (oW oH : Int) (P : List Int) (hl : P.length ≤ 9223372036854775807) (hS : St.length * 16 ≤ 140737488355328) : mZ 8589934592 W H D K R Ls St ph b0 b1 b2 b3 w sp g0 g1 g2 m0 m1 m2 m3 m4 m5 m6 m7 m8 cv am oW oH P = some true := by
 obtain ⟨f, hb, hb', hc⟩ := Kj cv;have hsame := (KD W H D K R Ls ph b0 b1 b2 b3 w sp g0 g1 g2 m0 m1 m2 m3 m4 m5 m6 m7 m8 cv am hc oW oH P).1;unfold mZ;rw [Ml W H D K R Ls St ph b0 b1 b2 b3 w sp g0 g1 g2 m0 m1 m2 m3 m4 m5 m6 m7 m8 cv am hb hc oW oH P hl, aN, Og W H D K R Ls St ph b0 b1 b2 b3 w sp g0 g1 g2 m0 m1 m2 m3 m4 m5 m6 m7 m8 cv am hb' hc oW oH P hS, aN, IT, aN, cT rfl, cT (dT rfl)];unfold LC at hsame;rw [hsame]; rfl
end
end
section
open Go.RowKit
section
variable {P : Program} {ops : Array Oper} {Q O : Exit → Act → World → Prop} {S : World → Prop} {nR need : Nat → Bool} {R : Act → World → Prop}
def H8 (ops : Array Oper) (rem : List Nat) (i : Nat) : Bool := rem.all fun j => !waits ops i j
def vN (P : Program) (O : Exit → Act → World → Prop) (ops : Array Oper) (S : World → Prop) (nR need : Nat → Bool) (R : Act → World → Prop) : Nat → List Nat → Act → World → Prop
 | 0, rem, a, w => rem = [] ∧ R a w
 | n + 1, rem, a, w =>
  (∃ i ∈ rem, nR i = true ∧ H8 ops rem i = true ∧ ∃ o, ops[i]? = some o ∧ ∃ v, rT P ops S o v a ∧ vN P O ops S nR need R n (rem.erase i) (a.put o.dst v) w) ∨
  ((∀ i ∈ rem, nR i = true → H8 ops rem i = false) ∧ ∀ c ∈ rem, nR c = false → H8 ops rem c = true → wpOp P ops O c (fun a' w' => (need c = true → S w') ∧ vN P O ops S nR need R n (rem.erase c) a' w') a w)
def C0 (ops : Array Oper) (nR : Nat → Bool) (i j : Nat) : Bool :=
 match ops[i]?, ops[j]? with
 | some oi, some oj => waits ops i j || ((!nR i || oi.apart ops oj) && (!nR j || oj.apart ops oi))
 | _, _ => false
def IU (ops : Array Oper) (nR need : Nat → Bool) : Bool :=
 Region.noSelect ops && K8 ops && ((List.range ops.size).all fun i => (List.range i).all fun j => C0 ops nR i j) &&
 (List.range ops.size).all fun i => nR i || need i || !Fe ops nR i
def Mp (O : Exit → Act → World → Prop) : Prop := (∀ e a d v w, O e (a.put d v) w → O e a w) ∧ ¬ LetsOut O
theorem Qj : Mp zC := ⟨fun _ _ _ _ _ h => h.elim, fun ⟨_, _, h⟩ => h.elim⟩
theorem IV (hO : Mp O) {j : Nat} {oi oj : Oper} {v : Value} (hj : ops[j]? = some oj) (hap : oi.apart ops oj = true)
  (hsi : ∀ cs b, oi.op ≠ .select cs b) (hsj : ∀ cs b, oj.op ≠ .select cs b) {K : Act → World → Prop} {a : Act} {w : World}
  (hy : rT P ops S oi v a) (h : wpOp P ops O j K (a.put oi.dst v) w) :
  wpOp P ops O j (fun a' w' => rT P ops S oi v a' ∧ K (a'.put oi.dst v) w') a w := by
 obtain ⟨h1, h2, h3⟩ := Oper.apart_spec hap
 have keep : ∀ (a : Act), rT P ops S oi v a → ∀ u, rT P ops S oi v (a.put oj.dst u) := fun a hy u =>
  hy.same (execOp_put oi hsi a oj.dst u h3) (wanted_put oi a oj.dst u h3)
 have keepD : ∀ d, rT P ops S oi v { a with defers := d :: a.defers } := fun d => hy.same rfl rfl
 unfold wpOp at *;simp only [hj] at *;rw [wanted_put oj a oi.dst v h1] at h
 split
 ·rename_i hw
  simp only [hw, if_true] at h
  rcases h with h | ⟨_, hl⟩
  case inr => exact absurd hl hO.2
  refine .inl ?_;unfold Oper.wp at *;rw [execOp_put oj hsj a oi.dst v h1] at h
  generalize (execOp a.eval oj).run P w = r at *
  cases r with
  | ok n w' =>
   cases n <;> simp only [Oper.upon] at h ⊢
   case value u => exact ⟨keep a hy u, by rw [← Act.put_comm a v u h2]; exact h⟩
   case skip => exact ⟨keep a hy _, by rw [← Act.put_comm a v undef h2]; exact h⟩
   case defer d =>
    refine ⟨keep _ (keepD d) _, ?_⟩;rw [← Act.put_comm _ v undef h2, ← Act.put_defers];exact h
   case enter f args =>
    refine Calls.mono h fun e w'' he => ?_
    cases e with
    | returned u => exact ⟨keep a hy u, by rw [← Act.put_comm a v u h2]; exact he⟩
    | panicked c => exact hO.1 _ _ _ _ _ he
    | outgrown => exact absurd he hO.2
   case row row args => exact Rows.mono h fun u w'' he => ⟨keep a hy u, by rw [← Act.put_comm a v u h2]; exact he⟩
  | halt x w' => cases x <;> simp only [Oper.upon] at h ⊢; exact hO.1 _ _ _ _ _ h
 ·rename_i hw
  simp only [hw] at h;exact ⟨keep a hy _, by rw [← Act.put_comm a v undef h2]; exact h⟩
theorem Mq (hO : Mp O) (hQ : ∀ e a w, O e a w → Q e a w) {i : Nat} {K : Act → World → Prop} {a : Act} {w : World} (h : wpOp P ops O i K a w) : wpOp P ops Q i K a w := by
  unfold wpOp at *
  split
  · rename_i h0
    simp only [h0] at h
    exact h
  · rename_i o ho
    simp only [ho] at h
    split
    · rename_i hw
      rw [if_pos hw] at h
      rcases h with h | ⟨_, hl⟩
      case inr => exact absurd hl hO.2
      refine .inl ?_
      unfold Oper.wp at *
      generalize (execOp a.eval o).run P w = r at *
      cases r with
      | ok n w' =>
        cases n <;> simp only [Oper.upon] at h ⊢ <;> first
          | exact h
          | (refine Calls.mono h fun e w'' he => ?_
             cases e with
             | returned u => exact he
             | panicked c => exact hQ _ _ _ he
             | outgrown => exact absurd he hO.2)
      | halt x w' => cases x <;> simp only [Oper.upon] at h ⊢; exact hQ _ _ _ h
    · rename_i hw
      rw [if_neg hw] at h
      exact h
theorem xK {rem : List Nat} {i k : Nat} (h : H8 ops rem i = true) : H8 ops (rem.erase k) i = true := by
 unfold H8 at *;rw [List.all_eq_true] at *;exact fun j hj => h j (List.mem_of_mem_erase hj)
theorem tU {rem : List Nat} {i j : Nat} (h : H8 ops rem i = true) (hj : j ∈ rem) : waits ops i j = false := by
 unfold H8 at h;rw [List.all_eq_true] at h
 simpa using h j hj
theorem LD {i : Nat} {oi : Oper} (hi : ops[i]? = some oi) (hr : nR i = true) (hsel : ∀ (j : Nat) (o : Oper) cs b, ops[j]? = some o → o.op ≠ .select cs b)
  (zD : ∀ j k oj ok, j ≠ k → ops[j]? = some oj → ops[k]? = some ok → waits ops j k = false → waits ops k j = false → (nR j = true → oj.apart ops ok = true)) :
  ∀ (n : Nat) (rem : List Nat) (a : Act) (w : World), i ∈ rem → H8 ops rem i = true → vN P O ops S nR need R (n + 1) rem a w → ∃ v, rT P ops S oi v a ∧ vN P O ops S nR need R n (rem.erase i) (a.put oi.dst v) w := by
 intro n
 induction n with
 | zero =>
  intro rem a w him hrd h
  rcases h with ⟨i0, hi0, hr0, hd0, o0, ho0, u, hu, h⟩ | ⟨hno, _⟩
  ·obtain ⟨hnil, hR⟩ := h
   have : i0 = i := by
    by_cases e : i0 = i
    ·exact e
    ·have : i ∈ rem.erase i0 := (List.mem_erase_of_ne (fun h => e h.symm)).2 him;rw [hnil] at this; cases this
   subst this;obtain rfl : o0 = oi := Option.some.inj (ho0.symm.trans hi);exact ⟨u, hu, hnil, hR⟩
  ·rw [hno i him hr] at hrd; cases hrd
 | succ n ih =>
  intro rem a w him hrd h
  rcases h with ⟨i0, hi0, hr0, hd0, o0, ho0, u, hu, h⟩ | ⟨hno, _⟩
  ·by_cases e : i0 = i
   ·subst e;obtain rfl : o0 = oi := Option.some.inj (ho0.symm.trans hi);exact ⟨u, hu, h⟩
   ·have Zd : i ∈ rem.erase i0 := (List.mem_erase_of_ne (fun h => e h.symm)).2 him;obtain ⟨v, hv, h⟩ := ih _ _ _ Zd (xK hrd) h;have w1 := tU hrd hi0;have w2 := tU hd0 him;have ap1 := zD i i0 oi o0 (fun h => e h.symm) hi ho0 w1 w2 hr;have ap2 := zD i0 i o0 oi e ho0 hi w2 w1 hr0;obtain ⟨p1, p2, p3⟩ := Oper.apart_spec ap1;obtain ⟨q1, q2, q3⟩ := Oper.apart_spec ap2;have hv' : rT P ops S oi v a := hv.same (execOp_put oi (fun cs b => hsel i oi cs b hi) a o0.dst u p3).symm (wanted_put oi a o0.dst u p3).symm;refine ⟨v, hv', .inl ⟨i0, (List.mem_erase_of_ne e).2 hi0, hr0, xK hd0, o0, ho0, u, ?_, ?_⟩⟩
    ·exact hu.same (execOp_put o0 (fun cs b => hsel i0 o0 cs b ho0) a oi.dst v q3) (wanted_put o0 a oi.dst v q3)
    ·rw [List.erase_comm, Act.put_comm a v u p2]; exact h
  ·rw [hno i him hr] at hrd; cases hrd
theorem Qk (hO : Mp O) {c : Nat} {oc : Oper} (hc : ops[c]? = some oc) (hrc : nR c = false) (hsel : ∀ (j : Nat) (o : Oper) cs b, ops[j]? = some o → o.op ≠ .select cs b)
  (zD : ∀ j k oj ok, j ≠ k → ops[j]? = some oj → ops[k]? = some ok → waits ops j k = false → waits ops k j = false → (nR j = true → oj.apart ops ok = true)) :
  ∀ (n : Nat) (rem : List Nat) (a : Act) (w : World), c ∈ rem → H8 ops rem c = true → vN P O ops S nR need R (n + 1) rem a w → wpOp P ops O c (fun a' w' => (need c = true → S w') ∧ vN P O ops S nR need R n (rem.erase c) a' w') a w := by
 intro n
 induction n with
 | zero =>
  intro rem a w hcm hrd h
  rcases h with ⟨i0, hi0, hr0, hd0, o0, ho0, u, hu, h⟩ | ⟨_, h⟩
  ·obtain ⟨hnil, hR⟩ := h;have e : i0 ≠ c := fun e => by subst e; rw [hrc] at hr0; cases hr0
   have : c ∈ rem.erase i0 := (List.mem_erase_of_ne (fun h => e h.symm)).2 hcm;rw [hnil] at this; cases this
  ·exact h c hcm hrc hrd
 | succ n ih =>
  intro rem a w hcm hrd h
  rcases h with ⟨i0, hi0, hr0, hd0, o0, ho0, u, hu, h⟩ | ⟨_, h⟩
  ·have e : i0 ≠ c := fun e => by subst e; rw [hrc] at hr0; cases hr0
   have hcm' : c ∈ rem.erase i0 := (List.mem_erase_of_ne (fun h => e h.symm)).2 hcm;have h2 := ih _ _ _ hcm' (xK hrd) h;have w1 := tU hrd hi0;have w2 := tU hd0 hcm;have ap := zD i0 c o0 oc e ho0 hc w2 w1 hr0;have h3 := IV hO hc ap (fun cs b => hsel i0 o0 cs b ho0) (fun cs b => hsel c oc cs b hc) hu h2;refine wpOp_mono ?_ h3;rintro a' w' ⟨hy, hn, hk⟩;refine ⟨hn, .inl ⟨i0, (List.mem_erase_of_ne e).2 hi0, hr0, xK hd0, o0, ho0, u, hy, ?_⟩⟩;rw [List.erase_comm]; exact hk
  ·exact h c hcm hrc hrd
theorem Bh {l : List Nat} (hl : l.Nodup) (i : Nat) : l.filter (· != i) = l.erase i := by
 rw [List.Nodup.erase_eq_filter hl]
theorem IW (hO : Mp O) (hQ : ∀ e a w, O e a w → Q e a w) (hok : IU ops nR need = true) : ∀ (fuel : Nat) (listed : Array Bool) (a : Act) (w : World), listed.size = ops.size → Closed ops listed → (jS ops listed).length = fuel →
  (∀ r ∈ jS ops listed, nR r = true → S w) → vN P O ops S nR need (Q .normal) fuel (jS ops listed) a w → wpAny P .any ops Q fuel listed a w := by
 simp only [IU, Bool.and_eq_true] at hok;obtain ⟨⟨⟨Ic, hback⟩, KE⟩, Id⟩ := hok;have hsel := Region.noSelect_spec Ic;have hp : ∀ i < ops.size, ∀ j < i, C0 ops nR i j = true := fun i hi j hj => List.all_eq_true.1 (List.all_eq_true.1 KE i (List.mem_range.2 hi)) j (List.mem_range.2 hj)
 have zD : ∀ j k oj ok, j ≠ k → ops[j]? = some oj → ops[k]? = some ok → waits ops j k = false → waits ops k j = false → (nR j = true → oj.apart ops ok = true) := by
  intro j k oj ok hjk hj hk w1 w2 hr;have hjl := (Array.getElem?_eq_some_iff.1 hj).1;have hkl := (Array.getElem?_eq_some_iff.1 hk).1
  rcases Nat.lt_or_gt_of_ne hjk with hlt | hlt
  ·have h := hp k hkl j hlt;unfold C0 at h;simp only [hj, hk, w2, Bool.false_or, Bool.and_eq_true, Bool.or_eq_true, Bool.not_eq_true'] at h
   rcases h.2 with h0 | h0
   ·rw [hr] at h0; cases h0
   ·exact h0
  ·have h := hp j hjl k hlt;unfold C0 at h;simp only [hj, hk, w1, Bool.false_or, Bool.and_eq_true, Bool.or_eq_true, Bool.not_eq_true'] at h
   rcases h.1 with h0 | h0
   ·rw [hr] at h0; cases h0
   ·exact h0
 have hbk : ∀ i o, ops[i]? = some o → ∀ e ∈ o.after, Region.binds .any e = true → e.on < i := fun i o ho e he hb => by
  have hi : i < ops.size := (Array.getElem?_eq_some_iff.1 ho).1;have h := List.all_eq_true.1 hback i (List.mem_range.2 hi);simp only [ho] at h;have h2 := Array.all_eq_true_iff_forall_mem.1 h e he
  simpa [hb] using h2
 have hnd : ∀ i < ops.size, nR i = false → ∀ r < ops.size, nR r = true → waits ops i r = false → need i = true := fun i hi CA r hr hrr hw => by
  have h := List.all_eq_true.1 Id i (List.mem_range.2 hi);simp only [CA, Bool.false_or, Bool.or_eq_true, Bool.not_eq_true'] at h;refine h.resolve_right fun h0 => ?_
  have : Fe ops nR i = true := by
   refine List.any_eq_true.2 ⟨r, List.mem_range.2 hr, ?_⟩;have : r ≠ i := fun e => by subst e; rw [CA] at hrr; cases hrr
   simp [hrr, hw, this]
  rw [this] at h0;cases h0
 intro fuel
 induction fuel with
 | zero =>
  intro listed a w hs hc hlen _ h;have hnil : jS ops listed = [] := List.eq_nil_of_length_eq_zero hlen;obtain ⟨_, h⟩ := h;refine ⟨?_, h⟩;refine List.eq_nil_iff_forall_not_mem.2 fun i hi => ?_
  obtain ⟨h0, o, ho, _⟩ := mem_ready.1 hi;have : i ∈ jS ops listed := lG.2 ⟨(Array.getElem?_eq_some_iff.1 ho).1, h0⟩;rw [hnil] at this;cases this
 | succ fuel ih =>
  intro listed a w hs hc hlen hS h;refine ⟨fun h0 => ?_, fun i hi => ?_⟩
  ·exfalso
   match hr : jS ops listed, hlen with
   | i0 :: rest, _ =>
    have hm0 : i0 ∈ jS ops listed := by rw [hr]; exact List.mem_cons_self ..
    obtain ⟨hlt, hun⟩ := lG.1 hm0;have zE := sQ (ops := ops) listed;rw [hr, List.pairwise_cons] at zE
    have : i0 ∈ Region.ready .any ops listed := by
     refine mem_ready.2 ⟨hun, ops[i0], Array.getElem?_eq_getElem hlt, fun e he hb => ?_⟩;have hlt2 := hbk i0 _ (Array.getElem?_eq_getElem hlt) e he hb;cases hl : listed.getD e.on false with
     | true => rfl
     | false =>
      have hm : e.on ∈ jS ops listed := lG.2 ⟨by omega, by rw [xI (by omega)]; exact hl⟩;rw [hr] at hm
      rcases List.mem_cons.1 hm with hm | hm
      ·omega
      ·have := zE.1 _ hm; omega
    rw [h0] at this;cases this
  ·obtain ⟨hun, oi, hoi, hall⟩ := mem_ready.1 hi;have hilt : i < ops.size := (Array.getElem?_eq_some_iff.1 hoi).1;have him : i ∈ jS ops listed := lG.2 ⟨hilt, hun⟩;have KF : (jS ops listed).Nodup := (sQ (ops := ops) listed).imp fun h => Nat.ne_of_lt h
   have zF : jS ops (listed.setIfInBounds i true) = (jS ops listed).erase i := by rw [DP hs hilt, Bh KF]
   have hlen' : (jS ops (listed.setIfInBounds i true)).length = fuel := by
    rw [zF, List.length_erase_of_mem him]; omega
   have hs' : (listed.setIfInBounds i true).size = ops.size := by simpa using hs
   have hc' : Closed ops (listed.setIfInBounds i true) := by
    intro k hk j hj
    by_cases hik : i = k
    ·subst hik; exact getD_set_true (rW hi hj)
    ·rw [getD_set_ne false hik] at hk; exact getD_set_true (hc k hk j hj)
   have hrd : H8 ops (jS ops listed) i = true := by
    unfold H8;rw [List.all_eq_true];intro j hj;obtain ⟨h1, h2⟩ := lG.1 hj;cases hw : waits ops i j with
    | false => rfl
    | true =>
     have := rW hi hw;rw [← xI (by omega), h2] at this; cases this
   cases CA : nR i with
   | true =>
    have hSw : S w := hS i him CA;obtain ⟨v, hv, hrest⟩ := LD hoi CA hsel zD fuel _ a w him hrd h;refine hv.run hoi hSw (ih _ _ _ hs' hc' hlen' (fun _ _ _ => hSw) (by rw [zF]; exact hrest))
   | false =>
    have h2 := Qk hO hoi CA hsel zD fuel _ a w him hrd h;refine Mq hO hQ (wpOp_mono ?_ h2);rintro a' w' ⟨hn, hk⟩;refine ih _ _ _ hs' hc' hlen' ?_ (by rw [zF]; exact hk);intro r hr hrr;rw [zF] at hr;have hrm := List.mem_of_mem_erase hr;exact hn (hnd i hilt CA r (lG.1 hrm).1 hrr (tU hrd hrm))
theorem Hy (hO : Mp O) (hQ : ∀ e a w, O e a w → Q e a w) {id : Nat} {a : Act} {w : World} {l : List Oper} (S : World → Prop) (f : List Nat) (n : Nat) (rem : List Nat) (hm : P.follows .mixedOrders = true) (hok : IU l.toArray (oP f) (kF f) = true)
  (hl : List.range l.toArray.size = rem) (hn : rem.length = n) (hS : S w.drew) (h : vN P O l.toArray S (oP f) (kF f) (Q .normal) n rem a w.drew) : (Code.region id l.toArray true).wp P Q a w := by
 refine wp_region_any hm ?_
 have Ez : jS l.toArray (Array.replicate l.toArray.size false) = List.range l.toArray.size := by
  unfold jS;refine List.filter_eq_self.2 fun i hi => ?_
  have := List.mem_range.1 hi
  simp at this
  simp [this]
 refine IW hO hQ hok l.toArray.size (Array.replicate l.toArray.size false) a _ (by simp) ?_ (by rw [Ez]; simp) (fun _ _ _ => hS) ?_
 ·intro i hi;rw [vD] at hi;cases hi
 ·rw [Ez, hl];have : l.toArray.size = n := by rw [← hn, ← hl]; simp
  rw [this]; exact h
theorem uR {id : Nat} {a : Act} {w : World} {l : List Oper} (S : World → Prop) (f : List Nat) (n : Nat) (rem : List Nat) (hm : P.follows .mixedOrders = true) (hok : IU l.toArray (oP f) (kF f) = true)
  (hl : List.range l.toArray.size = rem) (hn : rem.length = n) (hS : S w.drew) (h : vN P zC l.toArray S (oP f) (kF f) (Q .normal) n rem a w.drew) : (Code.region id l.toArray true).wp P Q a w :=
 Hy Qj (fun _ _ _ h => h.elim) S f n rem hm hok hl hn hS h
theorem put_defers (a : Act) (d : Option Nat) (v : Value) : (a.put d v).defers = a.defers := by cases d <;> rfl
variable {D : List Deferred} {a : Act} {w : World} {N : Nat} {l : List (Nat × Value)} {o : Oper} {v : Value} {post : Value → World → Prop} {d i c n : Nat} {rem AU : List Nat} {f : List Nat}
theorem eL (i : Nat) (AU : List Nat) (hc : (rem.elem i && oP f i && H8 ops rem i && rem.erase i == AU) = true) (ho : ops[i]? = some o) (K : Kd D a N l) (hw : Region.wanted o (yielded ops a.tmps) = true) (hd : o.dst = some d) (hN : Nat.blt d N = true) (hr : Rd P S a o v)
  (k : ∀ a', Kd D a' N ((d, v) :: l) → vN P O ops S (oP f) (kF f) R n AU a' w) : vN P O ops S (oP f) (kF f) R (n + 1) rem a w := by
 simp only [Bool.and_eq_true, beq_iff_eq, List.elem_iff] at hc;obtain ⟨⟨⟨h1, h2⟩, h3⟩, rfl⟩ := hc;refine .inl ⟨i, h1, h2, h3, o, ho, v, .inl ⟨hw, hr⟩, ?_⟩;have := K.put (d := o.dst) (by rw [hd]; exact hN) v;rw [hd] at this ⊢;exact k _ this
def SV (p : Nat → Prop) : List Nat → Prop
 | [] => True
 | c :: cs => p c ∧ SV p cs
theorem IX {p : Nat → Prop} : ∀ {cs : List Nat}, SV p cs → ∀ c ∈ cs, p c
 | [], _, c, h => by cases h
 | d :: cs, h, c, hc => by
  rcases List.mem_cons.1 hc with rfl | hc
  ·exact h.1
  ·exact IX h.2 c hc
theorem jI (cs : List Nat) (hc : ((rem.all fun i => !oP f i || !H8 ops rem i) && (rem.filter fun c => !oP f c && H8 ops rem c) == cs) = true)
  (h : SV (fun c => wpOp P ops O c (fun a' w' => (kF f c = true → S w') ∧ vN P O ops S (oP f) (kF f) R n (rem.erase c) a' w') a w) cs) : vN P O ops S (oP f) (kF f) R (n + 1) rem a w := by
 simp only [Bool.and_eq_true, beq_iff_eq] at hc;obtain ⟨h1, rfl⟩ := hc;refine .inr ⟨fun i hi hr => ?_, fun c hcm hr hrd => IX h c (List.mem_filter.2 ⟨hcm, by simp [hr, hrd]⟩)⟩;have := List.all_eq_true.1 h1 i hi
 simpa [hr] using this
theorem mX (AU : List Nat) (hc : (rem.erase c == AU) = true) (ho : ops[c]? = some o) (K : Kd D a N l) (hw : Region.wanted o (yielded ops a.tmps) = true) (hd : o.dst = some d) (hN : Nat.blt d N = true) (h : Ac P o a w post)
  (k : ∀ v a' w', post v w' → Kd D a' N ((d, v) :: l) → (kF f c = true → S w') ∧ vN P O ops S (oP f) (kF f) R n AU a' w') : wpOp P ops O c (fun a' w' => (kF f c = true → S w') ∧ vN P O ops S (oP f) (kF f) R n (rem.erase c) a' w') a w := by
 obtain rfl : rem.erase c = AU := by simpa using hc
 unfold wpOp;simp only [ho, hw, if_true];refine .inl (h _ _ fun v w' hp => ?_);have := K.put (d := o.dst) (by rw [hd]; exact hN) v;rw [hd] at this ⊢;exact k v _ w' hp this
theorem xG (AU : List Nat) (hc : (rem.erase c == AU) = true) (ho : ops[c]? = some o) (K : Kd D a N l) (hw : Region.wanted o (yielded ops a.tmps) = true) (hd : o.dst = none) (h : Ac P o a w post)
  (k : ∀ v a' w', post v w' → Kd D a' N l → (kF f c = true → S w') ∧ vN P O ops S (oP f) (kF f) R n AU a' w') : wpOp P ops O c (fun a' w' => (kF f c = true → S w') ∧ vN P O ops S (oP f) (kF f) R n (rem.erase c) a' w') a w := by
 obtain rfl : rem.erase c = AU := by simpa using hc
 unfold wpOp;simp only [ho, hw, if_true];refine .inl (h _ _ fun v w' hp => ?_);rw [hd];exact k v _ w' hp K
theorem BV {St Rt : Type} {Rel : St → Act → World → Prop} {kk : St → Option Rt} {jf : (St → Option Rt) → Option Rt} {r : Rt} {p : Code} (h : jf kk = some r) (hk : ∀ st a w, Rel st a w → kk st = some r → Q .normal a w)
  (hc : ∀ kk : St → Option Rt, (∀ st a w, Rel st a w → kk st = some r → Q .normal a w) → jf kk = some r → p.wp P Q a w) : p.wp P Q a w := hc kk hk h
def Bo (P : Program) (o : Oper) (a : Act) (w : World) (Pn : List PanicEntry → World → Prop) : Prop :=
 ∀ (K : Act → World → Prop) (Q : Exit → Act → World → Prop), (∀ ch w', Pn ch w' → Q (.panic ch) a w') → o.wp P a w K Q
theorem Ql {Pn : List PanicEntry → World → Prop} {fi : FuncId} {x : Operand} {cap vs : List Value} {args : Array Operand} {ts : Array TypeId} (ho : o.op = .call { callee := .value x, args := args, argTypes := ts }) (hf : fT P fi = true) (K : Kd D a N l) (hx : kE l x = some (.func (.func fi) #[] cap.toArray)) (hargs : args.toList.map (kE l) = vs.map some)
  (h : Calls P fi (vs ++ cap).toArray w fun e w' => ∃ ch, e = .panicked ch ∧ Pn ch w') : Bo P o a w Pn := by
 have hE : args.map a.eval = vs.toArray := by
  apply Array.ext'
  simp only [Array.toList_map]
  have : ∀ (xs : List Operand) (vs : List Value), xs.map (kE l) = vs.map some → xs.map a.eval = vs := by
   intro xs
   induction xs with
   | nil => intro vs h; cases vs <;> simp_all
   | cons x xs ih =>
    intro vs h;cases vs with
    | nil => simp at h
    | cons v vs => simp only [List.map_cons, List.cons.injEq] at h ⊢; exact ⟨K.ev h.1, ih vs h.2⟩
  exact this _ _ hargs
 have hrun : (execOp a.eval o).run P w = .ok (.enter fi (vs ++ cap).toArray) w := by
  unfold fT at hf
  split at hf
  ·rename_i fn hfn
   simp only [Bool.and_eq_true, bne_iff_ne, ne_eq] at hf;obtain ⟨b, hb⟩ := Option.isSome_iff_exists.1 hf.1;unfold execOp
   simp [ho, resolve, K.ev hx, hE, Deferred.ofValue, invoke, callFunc, hfn, hb, hf.2]
  ·cases hf
 intro K' Q hK;unfold Oper.wp;rw [hrun, Oper.upon_enter];refine h.mono ?_;rintro e w' ⟨ch, rfl, hp⟩;exact hK ch w' hp
theorem qB {Pn : List PanicEntry → World → Prop} {x : Operand} {T : TypeId} {u : Value} (ho : o.op = .panic x) (K : Kd D a N l) (hx : kE l x = some (.iface T u)) (h : Pn [{ v := .iface T u, recovered := false }] w) : Bo P o a w Pn := by
 intro K2 Q2 hQ;unfold Oper.wp
 have : (execOp a.eval o).run P w = .halt (.panic (.iface T u)) w := by
  unfold execOp
  simp [ho, K.ev hx, run_panic_iface, Result.andThen]
 rw [this];exact hQ _ _ h
theorem qC {rest : List Oper} {Pn : List PanicEntry → World → Prop} (K : Kd D a N l) (hw : Region.wanted o (yielded ops a.tmps) = true) (h : Bo P o a w Pn) (k : ∀ ch w', Pn ch w' → Q (.panic ch) a w') : wpList P ops Q (o :: rest) a w := by
 refine wpList_step fun Kc hK => ?_
 rw [if_pos hw];exact h _ _ k
theorem eR {K : Act → World → Prop} {ch : List PanicEntry} (h : Q (.panic ch) a w) : Exit.then K Q (.panic ch) a w := h
theorem jH {id : Nat} {ch : List PanicEntry} (h : Q (.panic ch) a w) : Exit.inBlock id Q (.panic ch) a w := h
theorem kD {fn : Func} {Rp : Ending → World → Prop} {ch : List PanicEntry} (hd : a.defers = []) (h : Rp (.panicked ch) w) : bodyPost P fn Rp (.panic ch) a w := ⟨hd, h⟩
theorem pG (h : R a w) : vN P O ops S (oP f) (kF f) R 0 [] a w := ⟨rfl, h⟩
end
section
variable {P : Program} {S : World → Prop} {base : Nat} {W w : World} {L : List lL} {D : List Deferred} {a : Act} {N : Nat} {l : List (Nat × Value)} {o : Oper} {v v' : Value} {x y ix : Operand} {k : IntKind} {m n : Int} {t e t' : TypeId} {g off : Nat} {cs : List Value} {α : Type} {C : sP α} {xs ys zs : List α} {A B : Option Addr} {c c' : Nat}
theorem Vk : (⟨g, off, none⟩ : Addr).add 0 = ⟨g, off, none⟩ := by unfold Addr.add; split <;> simp_all
theorem nS {len s : Nat} (ho : o.op = .slice t x none none none) (ht : P.underlying t = some (.array len e)) (hsz : (P.info? e).map (·.size) = some s) (K : Kd D a N l) (hx : kE l x = some (.pointer (some ⟨g, off, none⟩))) :
  Rd P S a o (.slice (some ⟨g, off, none⟩) len len) := fun w _ => by
 simp only [Option.map_eq_some_iff] at hsz;obtain ⟨i, qS, hs⟩ := hsz;unfold execOp
 simp [ho, K.ev hx, Instr.sliceAt, Instr.sliceBounds, Instr.sureAddr, run_underlying ht, sizeOf, typeInfo, qS, hs, Vk]
theorem Ea (hx : (cs.drop off).take (C.all xs).length = C.all xs) (h : kR w g t cs.toArray) : SL w C (some ⟨g, off, none⟩) xs := fun _ => ⟨g, off, rfl, fun j u hu => by
 rw [h.cell];have hj : j < (C.all xs).length := (List.getElem?_eq_some_iff.1 hu).1;rw [← hx, List.getElem?_take, if_pos hj, List.getElem?_drop] at hu
 simpa using hu⟩
theorem nJ (ho : o.op = .makeInterface t x) (ht : P.concrete t = true) (K : Kd D a N l) (hx : kE l x = some v) : Rd P S a o (.iface t v) := fun w _ => by
 unfold execOp
 simp [ho, K.ev hx, run_makeInterface w t v ht]
def Ze (P : Program) (t : TypeId) (f : Nat) : Option (TypeId × Nat) := match P.underlying t with
 | some (.struct fs) => (fs[f]?).map fun fl => (fl.type, fl.offset)
 | _ => none
theorem Mr {f : Nat} (ho : o.op = .field t x f) (hf : Ze P t f = some (e, off)) (ht : F8 P e = true) (K : Kd D a N l) (hx : kE l x = some (.agg cs.toArray)) (hv : cs[off]? = some v) : Rd P S a o v := fun w _ => by
 unfold Ze at hf
 split at hf
 ·rename_i fs hu
  obtain ⟨fl, hfl, he⟩ := Option.map_eq_some_iff.1 hf;cases he;unfold execOp
  simp [ho, K.ev hx, Instr.field, run_underlying hu, hfl, part, asAgg, (uC ht w).1, hv]
 ·cases hf
theorem SL.FG {C : sP α} {A : Option Addr} {xs : List α} (h : SL w C A xs) (hA : A.isNone = true) : xs = [] := by
 rcases Nat.eq_zero_or_pos xs.length with h0 | h0
 ·exact List.length_eq_zero_iff.1 h0
 ·obtain ⟨b, o', rfl, _⟩ := h h0;cases hA
theorem xL {n : Nat} (ho : o.op = .binOp .eql t x y t') (ht : ∃ e, P.underlying t = some (.slice e)) (K : Kd D a N l) (hx : kE l x = some (.slice A n c)) (hy : kE l y = some (.slice none 0 0)) : Rd P S a o (.bool A.isNone) := fun w hS => by
 obtain ⟨e, ht⟩ := ht;unfold execOp;simp only [ho, K.ev hx, K.ev hy, Sem.run_bind];have h1 := Lib.run_eql_slice_nil (P := P) w t e A n c 0 0 ht
 cases A <;> simp [eqGuard, h1]
theorem tN {b s : Nat} (ho : o.op = .buildSlice t 0 #[]) (ht : Gd P t e s b = true) (hs : s = C.size) (K : Kd D a N l) (M : Mem base W w L) :
  Ac P o a w fun v w' => ∃ g, v = .slice (some ⟨g, 0, none⟩) ([] : List α).length 0 ∧ Mem base W w' (.row e s (some ⟨g, 0, none⟩) ([] : List α).length 0 (C.all ([] : List α)) :: L) := by
 refine uE (v := .slice (some ⟨w.heap.size, 0, none⟩) 0 0) (w' := w.alloc (.cells #[] e)) ?_ ⟨_, rfl, ?_⟩
 ·obtain ⟨hu, i, qS, hsz, _⟩ := mF ht;unfold execOp
  simp [ho, Instr.buildSlice, Sem.run_bind, run_underlying hu, Result.andThen_ok, sizeOf, typeInfo, run_program, qS, hsz, Instr.fill, newRow, run_newObj_alloc]
  congr 2
  exact Array.eq_empty_of_size_eq_zero (by simp)
 ·exact (M.new e []).kA 0 rfl C [] rfl rfl hs
theorem Aq {p : Code} {Q : Exit → Act → World → Prop} {w : World} (n : Nat) (h : Code.rounds P p Q n a w) : (Code.loop p).wp P Q a w := wp_loop_rounds n h
theorem kN {p : Code} {Q : Exit → Act → World → Prop} {w : World} {n : Nat} (h : p.wp P (Exit.then (Code.rounds P p Q n) Q) a w) : Code.rounds P p Q (n + 1) a w := h
end
abbrev I (n : Int) : Value := .int .i64 n
inductive Stp (P : Program) (ops : Array Oper) (S : World → Prop) (D : List Deferred) (N : Nat) (l : List (Nat × Value)) (o : Oper) (v : Value) : Prop where
 | yes (hw : ∀ a, Kd D a N l → Region.wanted o (yielded ops a.tmps) = true) (hr : ∀ a, Kd D a N l → Rd P S a o v)
 | no (hw : ∀ a, Kd D a N l → Region.wanted o (yielded ops a.tmps) = false) (hv : undef = v)
section
variable {P : Program} {base : Nat} {W w : World} {L : List lL} {S : World → Prop} {D : List Deferred} {a : Act} {N : Nat} {l : List (Nat × Value)} {o : Oper} {v : Value} {post : Value → World → Prop}
  {ops : Array Oper} {Q : Exit → Act → World → Prop} {R : Act → World → Prop} {rest : List Oper} {d : Nat} {f : List Nat}
theorem aK (K : Kd D a N l) (M : Mem base W w L) (k : ∀ a', Kd D a' N ((d, v) :: l) → wpList P ops Q rest a' w) (hd : o.dst = some d := by exact rfl) (hN : Nat.blt d N = true := by exact rfl)
    (hs : Stp P ops (fun w => Mem base W w L) D N l o v := by
      first
      | exact .no (fun a K => K.no rfl rfl rfl rfl) rfl
      | exact .no (fun a K => K.W7 rfl rfl rfl) rfl
      | exact .yes (by first | exact fun a K => aD rfl | exact fun a K => K.yes rfl rfl rfl) (by
         first
         | exact fun a K => dZ rfl K rfl
         | exact fun a K => bU rfl K rfl
         | exact fun a K => iW rfl K rfl rfl
         | exact fun a K => kO rfl K rfl rfl
         | exact fun a K => o8 rfl K rfl
         | exact fun a K => AO rfl K rfl rfl
         | exact fun a K => rd_not rfl K rfl
         | exact fun a K => lC rfl K rfl rfl
         | exact fun a K => lQ rfl K rfl rfl
         | exact fun a K => BE rfl K rfl rfl
         | exact fun a K => xM rfl K rfl rfl
         | exact fun a K => DV rfl K rfl rfl
         | exact fun a K => GT rfl K rfl rfl
         | exact fun a K => Fl rfl K rfl rfl
         | exact fun a K => GR rfl K rfl rfl
         | exact fun a K => GS rfl K rfl rfl
         | exact fun a K => GW rfl K rfl rfl
         | exact fun a K => GV rfl K rfl rfl
         | exact fun a K => GU rfl K rfl rfl)) : wpList P ops Q (o :: rest) a w := by
  cases hs with
  | yes hw hr => exact PJ K (hw a K) hd hN (hr a K) M k
  | no hw hv => subst hv; exact Xn K (hw a K) hd hN k
theorem aO (M : Mem base W w L) (k : ∀ a', Kd D a' N ((d, v) :: l) → wpList P ops Q rest a' w) (hd : o.dst = some d := by exact rfl) (hN : Nat.blt d N = true := by exact rfl)
    (hs : Stp P ops (fun w => Mem base W w L) D N l o v := by
      first
      | exact .no (fun a K => K.no rfl rfl rfl rfl) rfl
      | exact .no (fun a K => K.W7 rfl rfl rfl) rfl
      | exact .yes (by first | exact fun a K => aD rfl | exact fun a K => K.yes rfl rfl rfl) (by
         first
         | exact fun a K => dZ rfl K rfl
         | exact fun a K => bU rfl K rfl
         | exact fun a K => iW rfl K rfl rfl
         | exact fun a K => kO rfl K rfl rfl
         | exact fun a K => o8 rfl K rfl
         | exact fun a K => AO rfl K rfl rfl
         | exact fun a K => rd_not rfl K rfl
         | exact fun a K => lC rfl K rfl rfl
         | exact fun a K => lQ rfl K rfl rfl
         | exact fun a K => BE rfl K rfl rfl
         | exact fun a K => xM rfl K rfl rfl
         | exact fun a K => DV rfl K rfl rfl
         | exact fun a K => GT rfl K rfl rfl
         | exact fun a K => Fl rfl K rfl rfl
         | exact fun a K => GR rfl K rfl rfl
         | exact fun a K => GS rfl K rfl rfl
         | exact fun a K => GW rfl K rfl rfl
         | exact fun a K => GV rfl K rfl rfl
         | exact fun a K => GU rfl K rfl rfl)) : ∀ a, Kd D a N l → wpList P ops Q (o :: rest) a w := fun a K => aK K M k hd hN hs
theorem bA (hr : ∀ a, Kd D a N l → Rd P (fun w => Mem base W w L) a o v) (M : Mem base W w L) (k : ∀ a', Kd D a' N ((d, v) :: l) → wpList P ops Q rest a' w)
  (hw : ∀ a, Kd D a N l → Region.wanted o (yielded ops a.tmps) = true := by first | exact fun a K => aD rfl | exact fun a K => K.yes rfl rfl rfl) (hd : o.dst = some d := by exact rfl) (hN : Nat.blt d N = true := by exact rfl) :
  ∀ a, Kd D a N l → wpList P ops Q (o :: rest) a w := fun a K => PJ K (hw a K) hd hN (hr a K) M k
theorem dU (K : Kd D a N l) (hr : Rd P (fun w => Mem base W w L) a o v) (M : Mem base W w L) (k : ∀ a', Kd D a' N ((d, v) :: l) → wpList P ops Q rest a' w)
  (hw : ∀ a, Kd D a N l → Region.wanted o (yielded ops a.tmps) = true := by first | exact fun a K => aD rfl | exact fun a K => K.yes rfl rfl rfl) (hd : o.dst = some d := by exact rfl) (hN : Nat.blt d N = true := by exact rfl) :
  wpList P ops Q (o :: rest) a w := PJ K (hw a K) hd hN hr M k
theorem eB (K : Kd D a N l) (h : Ac P o a w post) (k : ∀ v a' w', post v w' → Kd D a' N ((d, v) :: l) → wpList P ops Q rest a' w')
  (hw : ∀ a, Kd D a N l → Region.wanted o (yielded ops a.tmps) = true := by first | exact fun a K => aD rfl | exact fun a K => K.yes rfl rfl rfl) (hd : o.dst = some d := by exact rfl) (hN : Nat.blt d N = true := by exact rfl) :
  wpList P ops Q (o :: rest) a w := Uo K (hw a K) hd hN h k
theorem mD (K : Kd D a N l) (h : Ac P o a w post) (k : ∀ v a' w', post v w' → Kd D a' N l → wpList P ops Q rest a' w')
  (hw : ∀ a, Kd D a N l → Region.wanted o (yielded ops a.tmps) = true := by first | exact fun a K => aD rfl | exact fun a K => K.yes rfl rfl rfl) (hd : o.dst = none := by exact rfl) :
  wpList P ops Q (o :: rest) a w := Sn K (hw a K) hd h k
theorem qQ (K : Kd D a N l) (k : ∀ a', Kd D a' N ((d, v) :: l) → pH P ops S R (marked f rest) a' w) (hd : o.dst = some d := by exact rfl) (hN : Nat.blt d N = true := by exact rfl)
    (hs : Stp P ops S D N l o v := by
      first
      | exact .no (fun a K => K.no rfl rfl rfl rfl) rfl
      | exact .no (fun a K => K.W7 rfl rfl rfl) rfl
      | exact .yes (by first | exact fun a K => aD rfl | exact fun a K => K.yes rfl rfl rfl) (by
         first
         | exact fun a K => dZ rfl K rfl
         | exact fun a K => bU rfl K rfl
         | exact fun a K => iW rfl K rfl rfl
         | exact fun a K => kO rfl K rfl rfl
         | exact fun a K => o8 rfl K rfl
         | exact fun a K => AO rfl K rfl rfl
         | exact fun a K => rd_not rfl K rfl
         | exact fun a K => lC rfl K rfl rfl
         | exact fun a K => lQ rfl K rfl rfl
         | exact fun a K => BE rfl K rfl rfl
         | exact fun a K => xM rfl K rfl rfl
         | exact fun a K => DV rfl K rfl rfl
         | exact fun a K => GT rfl K rfl rfl
         | exact fun a K => Fl rfl K rfl rfl
         | exact fun a K => GR rfl K rfl rfl
         | exact fun a K => GS rfl K rfl rfl
         | exact fun a K => GW rfl K rfl rfl
         | exact fun a K => GV rfl K rfl rfl
         | exact fun a K => GU rfl K rfl rfl)) : pH P ops S R (marked (0 :: f) (o :: rest)) a w := by
  cases hs with
  | yes hw hr => exact So K (hw a K) hd hN (hr a K) k
  | no hw hv => subst hv; exact Xo K (hw a K) hd hN k
theorem lD (k : ∀ a', Kd D a' N ((d, v) :: l) → pH P ops S R (marked f rest) a' w) (hd : o.dst = some d := by exact rfl) (hN : Nat.blt d N = true := by exact rfl)
    (hs : Stp P ops S D N l o v := by
      first
      | exact .no (fun a K => K.no rfl rfl rfl rfl) rfl
      | exact .no (fun a K => K.W7 rfl rfl rfl) rfl
      | exact .yes (by first | exact fun a K => aD rfl | exact fun a K => K.yes rfl rfl rfl) (by
         first
         | exact fun a K => dZ rfl K rfl
         | exact fun a K => bU rfl K rfl
         | exact fun a K => iW rfl K rfl rfl
         | exact fun a K => kO rfl K rfl rfl
         | exact fun a K => o8 rfl K rfl
         | exact fun a K => AO rfl K rfl rfl
         | exact fun a K => rd_not rfl K rfl
         | exact fun a K => lC rfl K rfl rfl
         | exact fun a K => lQ rfl K rfl rfl
         | exact fun a K => BE rfl K rfl rfl
         | exact fun a K => xM rfl K rfl rfl
         | exact fun a K => DV rfl K rfl rfl
         | exact fun a K => GT rfl K rfl rfl
         | exact fun a K => Fl rfl K rfl rfl
         | exact fun a K => GR rfl K rfl rfl
         | exact fun a K => GS rfl K rfl rfl
         | exact fun a K => GW rfl K rfl rfl
         | exact fun a K => GV rfl K rfl rfl
         | exact fun a K => GU rfl K rfl rfl)) : ∀ a, Kd D a N l → pH P ops S R (marked (0 :: f) (o :: rest)) a w := fun a K => qQ K k hd hN hs
theorem iO (hr : ∀ a, Kd D a N l → Rd P S a o v) (k : ∀ a', Kd D a' N ((d, v) :: l) → pH P ops S R (marked f rest) a' w)
  (hw : ∀ a, Kd D a N l → Region.wanted o (yielded ops a.tmps) = true := by first | exact fun a K => aD rfl | exact fun a K => K.yes rfl rfl rfl) (hd : o.dst = some d := by exact rfl) (hN : Nat.blt d N = true := by exact rfl) :
  ∀ a, Kd D a N l → pH P ops S R (marked (0 :: f) (o :: rest)) a w := fun a K => So K (hw a K) hd hN (hr a K) k
theorem xB (K : Kd D a N l) (hr : Rd P S a o v) (k : ∀ a', Kd D a' N ((d, v) :: l) → pH P ops S R (marked f rest) a' w)
  (hw : ∀ a, Kd D a N l → Region.wanted o (yielded ops a.tmps) = true := by first | exact fun a K => aD rfl | exact fun a K => K.yes rfl rfl rfl) (hd : o.dst = some d := by exact rfl) (hN : Nat.blt d N = true := by exact rfl) :
  pH P ops S R (marked (0 :: f) (o :: rest)) a w := So K (hw a K) hd hN hr k
theorem y9 (K : Kd D a N l) (h : Ac P o a w post) (k : ∀ v a' w', post v w' → Kd D a' N ((d, v) :: l) → S w' ∧ pH P ops S R (marked f rest) a' w')
  (hw : ∀ a, Kd D a N l → Region.wanted o (yielded ops a.tmps) = true := by first | exact fun a K => aD rfl | exact fun a K => K.yes rfl rfl rfl) (hd : o.dst = some d := by exact rfl) (hN : Nat.blt d N = true := by exact rfl) :
  pH P ops S R (marked (1 :: f) (o :: rest)) a w := Up K (hw a K) hd hN h k
theorem SW (K : Kd D a N l) (h : Ac P o a w post) (k : ∀ v a' w', post v w' → Kd D a' N l → pH P ops S R (marked f rest) a' w')
  (hw : ∀ a, Kd D a N l → Region.wanted o (yielded ops a.tmps) = true := by first | exact fun a K => aD rfl | exact fun a K => K.yes rfl rfl rfl) (hd : o.dst = none := by exact rfl) :
  pH P ops S R (marked (2 :: f) (o :: rest)) a w := Uq K (hw a K) hd h k
end
theorem tJ (l : List UInt8) : (bs l).size = l.length := by simp [bs, ByteArray.size]
theorem GF (l : List UInt8) : (bs l).toList = l := ByteArray.toList_mk l
theorem Ms (l m : List UInt8) : bs l ++ bs m = bs (l ++ m) := by
 apply ByteArray.ext
 simp [bs, ByteArray.data_append]
section
variable {P : Program} {base : Nat} {W w : World} {L : List lL} {S : World → Prop} {D : List Deferred} {a : Act} {N : Nat} {l : List (Nat × Value)} {o : Oper} {x y ix : Operand} {t t' e : TypeId} {m n p q : Int} {k k' : IntKind}
  {xs ys zs : List UInt8} {A : Option Addr} {c : Nat} {ns : List Int}
theorem lA (ho : o.op = .call { callee := .builtin .len, args := #[x], argTypes := #[t] }) (h : P.underlying t = some .string) (K : Kd D a N l) (hx : kE l x = some (.string (bs xs))) : Rd P S a o (.int .i64 xs.length) := by
 have := PG (P := P) (S := S) ho h K hx;rw [tJ] at this;exact this
theorem tO (ho : o.op = .index t x ix) (ht : P.underlying t = some .string) (K : Kd D a N l) (hx : kE l x = some (.string (bs xs))) (hi : kE l ix = some (.int k n)) {b : UInt8} (he : idx xs n = some b) : Rd P S a o (.int .u8 (b.toNat : Int)) :=
 Sm ho ht K hx hi he
theorem Co (ho : o.op = .binOp .add t x y t') (K : Kd D a N l) (hx : kE l x = some (.string (bs xs))) (hy : kE l y = some (.string (bs ys))) (hz : G0 xs ys = some zs) : Rd P S a o (.string (bs zs)) := by
 obtain ⟨rfl, h⟩ := LT hz;refine qH ho K hx hy fun w => ?_
 have h1 := tJ xs;have h2 := tJ ys
 simp [eqGuard, binOp_string_add, Op.stringOp, Ms]
 omega
theorem E8 (ho : o.op = .binOp .eql t x y t') (K : Kd D a N l) (hx : kE l x = some (.string (bs xs))) (hy : kE l y = some (.string (bs ys))) : Rd P S a o (.bool (decide (xs = ys))) :=
 qH ho K hx hy fun w => by
  have e : (xs == ys) = decide (xs = ys) := by rw [Bool.eq_iff_iff]; simp
  rw [Sem.run_bind]; simp [eqGuard, binOp_string_eql, GF, e]
theorem AV (ho : o.op = .binOp .neq t x y t') (K : Kd D a N l) (hx : kE l x = some (.string (bs xs))) (hy : kE l y = some (.string (bs ys))) : Rd P S a o (.bool (!decide (xs = ys))) :=
 qH ho K hx hy fun w => by
  have e : (xs == ys) = decide (xs = ys) := by rw [Bool.eq_iff_iff]; simp
  rw [Sem.run_bind]; simp [eqGuard, binOp_string_neq, GF, e]
theorem sU {b : Nat} (ho : o.op = .convert t t' x) (ht : Gd P t e 1 b = true) (he : P.underlying e = some (.int .u8)) (hd : P.underlying t' = some .string) (K : Kd D a N l) (hx : kE l x = some (.slice A ns.length c)) (hb : ∀ w, S w → SL w (cI .u8) A ns) : Rd P S a o (.string (bs (toB ns))) := fun w hS => by
 obtain ⟨hu, _⟩ := mF ht;unfold execOp;simp only [ho, K.ev hx]
 have key : (convert t t' (.slice A ns.length c)).run P w = .ok (.string (bs (toB ns))) w := by
  by_cases h0 : 0 < ns.length
  ·obtain ⟨b, off, rfl, hc⟩ := hb w hS h0;refine run_convert_bytes_arg w t e hu he b off ns.length c ns rfl (fun i hi => ?_) t' hd;refine hc i _ ?_;have := sP.vP (cI .u8) ns i 0 ns[i] (.int .u8 ns[i]) (List.getElem?_eq_getElem hi) rfl;rw [List.getD_eq_getElem?_getD, List.getElem?_eq_getElem hi];have h1 : (cI .u8).size = 1 := rfl;rw [h1, Nat.mul_one, Nat.add_zero] at this;exact this
  ·have hn : ns = [] := List.eq_nil_of_length_eq_zero (by omega);subst hn;cases A with
   | none => exact run_convert_bytes_nil w t e hu he _ _ t' hd
   | some ad =>
    rw [run_convert_bytes_string w t t' e (some ad) _ c hu he hd];exact run_bytesToString w ad 0 c [] (run_loadCells_list (P := P) w ad [] (fun j v hj => by simp at hj))
 simp [key]
theorem Eb {b : Nat} (ho : o.op = .convert t t' x) (ht : Gd P t e 1 b = true) (he : P.underlying e = some (.int .u8)) (hd : P.underlying t' = some .string) (K : Kd D a N l) (hx : kE l x = some (.slice A ns.length c)) (M : Mem base W w L) (R : SL w (cI .u8) A ns) :
  Ac P o a w fun v w' => v = .string (bs (toB ns)) ∧ Mem base W w' L :=
 uE (sU (S := fun w' => w' = w) ho ht he hd K hx (fun w' hw => hw ▸ R) w rfl) ⟨rfl, M⟩
theorem l1 {lo hi : Option Operand} (ho : o.op = .slice t x lo hi none) (ht : P.underlying t = some .string) (K : Kd D a N l) (hx : kE l x = some (.string (bs xs)))
  (hlo : (match lo with | some z => kE l z = some (.int k p) | none => p = 0)) (hhi : (match hi with | some z => kE l z = some (.int k' q) | none => q = xs.length)) (hy : DQ xs p q = some ys) : Rd P S a o (.string (bs ys)) := fun w _ => by
 obtain ⟨h0, h1, h2, rfl⟩ := Dk hy;have hs : ((bs xs).size : Int) = xs.length := by rw [tJ]
 have hex : (bs xs).extract p.toNat q.toNat = bs ((xs.take q.toNat).drop p.toNat) := by
  rw [show bs xs = ByteArray.mk xs.toArray from rfl, ByteArray.extract_mk, List.drop_take]; rfl
 have hS : ∀ a b c, (Instr.sliceAt t (.string (bs xs)) a b c).run P w = (Instr.slice t (.string (bs xs)) a b c).run P w := fun a b c => by rw [run_sliceAt_string w t _ a b c ht]
 unfold execOp;cases lo with
 | none =>
  simp only at hlo; subst hlo;cases hi with
  | none =>
   simp only at hhi; subst hhi;have := run_slice_string_all (P := P) w t (bs xs) ht;rw [tJ] at this;rw [Int.toNat_zero, Int.toNat_natCast] at hex;rw [hex] at this;simp only [ho, K.ev hx, Sem.run_bind, Option.map, hS, this]
   simp
  | some z =>
   simp only at hhi;have := run_slice_string_to_if (P := P) w t (bs xs) k' q ht;rw [if_pos ⟨by omega, by omega⟩] at this;rw [Int.toNat_zero] at hex;rw [hex] at this;simp only [ho, K.ev hx, K.ev hhi, Sem.run_bind, Option.map, hS, this]
   simp
 | some z =>
  simp only at hlo;cases hi with
  | none =>
   simp only at hhi; subst hhi;have := run_slice_string_from_if (P := P) w t (bs xs) k p ht;rw [if_pos ⟨by omega, by omega⟩, tJ] at this;rw [Int.toNat_natCast] at hex;rw [hex] at this;simp only [ho, K.ev hx, K.ev hlo, Sem.run_bind, Option.map, hS, this]
   simp
  | some z2 =>
   simp only at hhi;have := run_slice_string (P := P) w t (bs xs) k k' p q ht h0 h1 (by omega);rw [hex] at this;simp only [ho, K.ev hx, K.ev hlo, K.ev hhi, Sem.run_bind, Option.map, hS, this]
   simp
theorem Ec (s : List UInt8) : Lib.strCells (bs s) = (cI .u8).all (pN s) := by
 show s.map (fun b => Value.int .u8 b.toNat) = _
 induction s with
 | nil => rfl
 | cons x s ih =>
  show _ = (cI .u8).enc (x.toNat : Int) ++ (cI .u8).all (pN s);rw [List.map_cons, ih]; rfl
theorem zN (s : List UInt8) : (pN s).length = s.length := by simp [pN]
theorem Mt {i : TypeInfo} {v v' : Value} {n : Nat} {vs : List Value} {w' : World} (s : ByteArray) (ht : P.underlying t = some (.slice e)) (hu : P.underlying t' = some .string) (hi : P.info? e = some i) (hz : i.zero = some (.int .u8 0)) (hsize : i.size = 1) (hby : i.bytes = 1)
  (hown : w.ownsRow 0 e 1 v n vs) (hb : n + s.size ≤ 140737488355328) (ty : TypeId) (hr : (Builtin.append_ #[t, t'] ty #[v, .string s]).run P w = .ok v' w') (h0 : v ≠ .slice none 0 0 ∨ 0 < s.size) : v'.ownBlock = v.ownBlock ∨ v'.ownBlock = some w.heap.size := by
 have hxl : vs.length = n := by simpa using hown.1
 rcases hown.2 with ⟨rfl, rfl⟩ | ⟨g, cap, cur, rfl, hbg, hg, hnc, hcm, hcs, htake⟩
 ·have hm : 0 < s.size := by
   rcases h0 with h0 | h0
   ·exact absurd rfl h0
   ·exact h0
  have := run_append_nil_string (P := P) w t t' ty e i (.int .u8 0) ht hu hi hz s (by omega) (by omega) (by rw [hby]; omega);rw [hr] at this
  injection this with h1 _
  right; rw [h1]; rfl
 ·by_cases hroom : n + s.size ≤ cap
  ·have := Lib.run_append_room_string (P := P) w t t' ty e i ht hu hi hsize g n cap cur hg s hroom (by omega);rw [hr] at this
   injection this with h1 _
   left; rw [h1]; rfl
  ·have holds : ∀ j u, vs[j]? = some u → w.cell? ((⟨g, 0, none⟩ : Addr).add j) = some u := hown.cells (g := g) rfl;have := Lib.run_append_grow_string (P := P) w t t' ty e i (.int .u8 0) ht hu hi hz ⟨g, 0, none⟩ n cap vs (by rw [hsize]; simpa using hxl) holds s (by omega) (by omega) (by rw [hby]; exact growslice_fits (by omega) (by omega));rw [hr] at this
   injection this with h1 _
   right; rw [h1]; rfl
theorem Dp {zs : List Int} (ho : o.op = .call { callee := .builtin .append, args := #[x, y], argTypes := #[t, t'] }) (ht : Gd P t e 1 1 = true) (hu : P.underlying t' = some .string) (hz : (P.info? e).bind (·.zero) = some (.int .u8 0)) (K : Kd D a N l)
  (hx : kE l x = some (.slice A ns.length c)) (hy : kE l y = some (.string (bs ys))) (i : Nat) (M : Mem base W w L) (hi : L[i]? = some (.row e 1 A ns.length c ((cI .u8).all ns))) (hlen : app 1 ns (pN ys) = some zs) :
  Ac P o a w fun v w' => ∃ A' c'', v = .slice A' zs.length c'' ∧ Mem base W w' (L.set i (.row e 1 A' zs.length c'' ((cI .u8).all zs))) := by
 obtain ⟨rfl, hbytes⟩ := If hlen;rw [zN] at hbytes;obtain ⟨hsl, inf, qS, hsz, hby⟩ := mF ht;have hzz : inf.zero = some (.int .u8 0) := by rw [qS] at hz; exact hz
 have hown := M.has i _ hi;have hsize : (bs ys).size = ys.length := tJ ys;have hb2 : ns.length + (bs ys).size ≤ 140737488355328 := by rw [hsize]; omega
 obtain ⟨v', w', hr, h2, h3, h4⟩ := Lib.run_append_own_string (P := P) w 0 t t' o.type e inf hsl hu qS hzz hsz hby (.slice A ns.length c) ns.length ((cI .u8).all ns) hown (bs ys) (by simp only [maxLen]; omega) hb2 (Nat.zero_le _);rw [Ec, hsize, ← sP.all_append] at h2
 by_cases h0 : (Value.slice A ns.length c) = .slice none 0 0 ∧ ys = []
 ·obtain ⟨h00, rfl⟩ := h0
  injection h00 with e1 e2 e3
  subst e1 e3;have hns : ns = [] := List.eq_nil_of_length_eq_zero e2;subst hns
  have hr2 : (Builtin.append_ #[t, t'] o.type #[.slice none ([] : List Int).length 0, .string (bs [])]).run P w = .ok (.slice none 0 0) w := by
   have hf := Lib.run_firstCells_string (P := P) w 1 (bs []);have hm : (bs []).size = 0 := rfl;rw [hm] at hf
   simp [Builtin.append_, run_underlying hsl, run_underlying hu, sizeOf, typeInfo, qS, hsz, Builtin.lenOf, hm, hf]
  refine uE (v := .slice none 0 0) (w' := w) ?_ ⟨none, 0, rfl, ?_⟩
  ·unfold execOp;simp only [ho, resolve, invoke, builtin, Sem.run_bind, Sem.run_pure, Result.andThen_ok, List.map_toArray, List.map_cons, List.map_nil, K.ev hx, K.ev hy];rw [hr2]; rfl
  ·have : L.set i (.row e 1 none (([] : List Int) ++ pN []).length 0 ((cI .u8).all ([] ++ pN []))) = L := by
    obtain ⟨hlt, he⟩ := List.getElem?_eq_some_iff.1 hi;exact he ▸ List.set_getElem_self hlt
   rw [this]; exact M
 have hne : (Value.slice A ns.length c) ≠ .slice none 0 0 ∨ 0 < (bs ys).size := by
  by_cases hy0 : ys = []
  ·left; exact fun e => h0 ⟨e, hy0⟩
  ·right; rw [hsize]; exact List.length_pos_iff.2 hy0
 have hpl := Mt (bs ys) hsl hu qS hzz hsz hby hown hb2 o.type hr hne
 have hv' : v' ≠ .slice none 0 0 := fun e => by
  obtain ⟨q1, q2⟩ := h4.1 e;rw [hsize] at q2;exact h0 ⟨q1, List.eq_nil_of_length_eq_zero q2⟩
 rcases h2.2 with ⟨e1, _⟩ | ⟨g, cap, cur, rfl, _⟩
 ·exact absurd e1 hv'
 refine uE (v := .slice (some ⟨g, 0, none⟩) (ns.length + ys.length) cap) (w' := w') ?_ ⟨some ⟨g, 0, none⟩, cap, by rw [List.length_append, zN], ?_⟩
 ·unfold execOp;simp only [ho, resolve, invoke, builtin, Sem.run_bind, Sem.run_pure, Result.andThen_ok, List.map_toArray, List.map_cons, List.map_nil, K.ev hx, K.ev hy];rw [hr]; rfl
 ·have h3' : w.grownBy w' (A.map (·.block)) := by
   cases A with
   | none => exact h3
   | some ad => exact h3
  rw [List.length_append, zN];refine M.grown i hi h3' h2 ?_
  rcases hpl with hpl | hpl
  ·left
   cases A with
   | none => simp [Value.ownBlock] at hpl
   | some ad => simpa [Value.ownBlock] using hpl.symm
  ·right
   simp [Value.ownBlock] at hpl
   omega
end
end
section
open Go.RowKit Go.WideMaps
section
variable {P : Program} {base : Nat} {W w : World} {L : List lL} {S : World → Prop} {D : List Deferred} {a : Act} {N : Nat} {l : List (Nat × Value)} {o : Oper} {x y z : Operand} {t k e T : TypeId} {g n c : Nat} {A : Option Addr}
  {m m' : List (List UInt8 × Int)} {s : List UInt8} {r : Int × Bool} {v : Int}
theorem Mem.swap {e e' : lL} (M : Mem base W w L) (i : Nat) (hi : L[i]? = some e) (h : lL.holds w e') (hf : e'.foot = e.foot) : Mem base W w (L.set i e') :=
 M.Nd i hi (Below.refl _ _) h (fun _ _ _ => rfl) (fun g hg => .inl (hf ▸ hg)) M.LR
theorem Mem.Q9 (e : TypeId) (M : Mem base W w (.blk g T [.pointer none, .slice none 0 0] :: L)) : Mem base W w (.row e 1 none ([] : List UInt8).length 0 ((cI .u8).all (pN ([] : List UInt8))) :: .DS g T none ([] : List UInt8).length 0 :: L) :=
 Mem.aS e 1 (cI .u8) (M.swap 0 rfl (show lL.holds w (.DS g T none 0 0) from ⟨none, .inl rfl, M.has 0 _ rfl⟩) rfl)
theorem Mem.Vl (M : Mem base W w L) (i : Nat) (hi : L[i]? = some (.blk g T [.pointer (some ⟨g, 0, none⟩), .slice A n c])) : Mem base W w (L.set i (.DS g T A n c)) :=
 M.swap i hi (show lL.holds w (.DS g T A n c) from ⟨_, .inr rfl, M.has i _ hi⟩) rfl
theorem Mem.builder {b : List UInt8} (M : Mem base W w (.DS g T A b.length c :: .row e 1 A b.length c ((cI .u8).all (pN b)) :: L)) : Lib.IsBuilder T e base g (Lib.byteCells b) w := by
 obtain ⟨p, hp, hb⟩ := M.has 0 _ rfl;have hrow : w.ownsRow 0 e 1 (.slice A b.length c) b.length ((cI .u8).all (pN b)) := M.has 1 _ rfl;rw [← Ec] at hrow;have hup := M.up 0 _ g rfl rfl
 have hat : Lib.BuilderAt T e base g (.pointer p) (Lib.byteCells b) w := by
  refine ⟨hup, .slice A b.length c, hb, ?_, ?_⟩
  ·rw [Lib.byteCells_length];obtain ⟨h1, h2⟩ := hrow;refine ⟨h1, ?_⟩
   rcases h2 with h2 | ⟨g', cap, cur, q1, q2, q3⟩
   ·exact .inl h2
   ·refine .inr ⟨g', cap, cur, q1, ?_, q3⟩
    injection q1 with q1 _ _
    exact M.up 1 _ g' rfl (by simp [lL.foot, q1])
  ·intro h;cases A with
   | none => simp [Value.ownBlock] at h
   | some ad =>
    have h' : ad.block = g := by simpa [Value.ownBlock] using h
    have := M.one 0 1 _ _ g rfl rfl rfl (by simp [lL.foot, h'])
    omega
 rcases hp with rfl | rfl
 ·exact .inl hat
 ·exact .inr hat
theorem iR {α : Type} {C : sP α} {xs : List α} {el : α} {b s' : Nat} {i : Int} {kk : IntKind} {w' : World} (ho : o.op = .indexAddr t x y) (ht : Gd P t e s' b = true) (K : Kd D a N l) (hx : kE l x = some (.slice A xs.length c)) (hi : kE l y = some (.int kk i)) (hb : SL w' C A xs) (he : idx xs i = some el) : Rd P S a o (.pointer (some ((Nf A).add (i.toNat * s')))) := fun w hS => by
 obtain ⟨hu, inf, qS, hs, _⟩ := mF ht;obtain ⟨h0, hlt, hel⟩ := t8 he;obtain ⟨b', o', hA, hc⟩ := hb (by omega);have h1 : i < xs.length := by omega
 unfold execOp;subst hA
 simp [ho, K.ev hx, K.ev hi, Instr.indexAt, asIntOf, run_underlying hu, sizeOf, typeInfo, qS, hs, h0, h1, Nf]
theorem Bi {O : Exit → Act → World → Prop} {ops : Array Oper} {f : List Nat} {d cc n' : Nat} {u : Value} {R : Act → World → Prop} {rem : List Nat} (AU : List Nat) (hc : (rem.erase cc == AU) = true) (ho : ops[cc]? = some o) (K : Kd D a N l) (hw : Region.wanted o (yielded ops a.tmps) = true) (hd : o.dst = some d) (hN : Nat.blt d N = true)
  (hr : Rd P (fun w => Mem base W w L) a o u) (M : Mem base W w L) (k : ∀ a', Kd D a' N ((d, u) :: l) → (kF f cc = true → S w) ∧ vN P O ops S (oP f) (kF f) R n' AU a' w) :
  wpOp P ops O cc (fun a' w' => (kF f cc = true → S w') ∧ vN P O ops S (oP f) (kF f) R n' (rem.erase cc) a' w') a w :=
 mX AU hc ho K hw hd hN (post := fun v' w' => v' = u ∧ w' = w) (uE (hr w M) ⟨rfl, rfl⟩) fun v' a' w' hp K' => by obtain ⟨rfl, rfl⟩ := hp; exact k a' K'
theorem Vm {Q : Exit → Act → World → Prop} {St Rt : Type} {Rel : St → Act → World → Prop} {kk : St → Option Rt} {lf : (St → Option Rt) → Nat → St → Option Rt} {r : Rt} {p : Code} {n : Nat} {st : St}
  (h : lf kk n st = some r) (hz : ∀ kk st, lf kk 0 st = none) (h0 : Rel st a w) (hk : ∀ st a w, Rel st a w → kk st = some r → Q .ret a w)
  (round : ∀ (kk : St → Option Rt) n st a w, (∀ st a w, Rel st a w → kk st = some r → Q .ret a w) → Rel st a w → lf kk (n + 1) st = some r → p.wp P (Exit.then (fun a w => ∃ st, Rel st a w ∧ lf kk n st = some r) Q) a w) : (Code.loop p).wp P Q a w := by
 refine Nh (I := fun n a w => ∃ st, Rel st a w ∧ lf kk n st = some r) n ⟨st, h0, h⟩ (fun a w ⟨st, _, h⟩ => by rw [hz] at h; cases h) ?_;rintro n a w ⟨st, hr, h⟩;exact round kk n st a w hk hr h
theorem ZZ (i : Nat) (h : L[i]? = some (.DJ P k e g m)) : ∀ w, Mem base W w L → SMap P k e w g m := fun _ M => M.has i _ h
theorem SMap.new (w : World) : SMap P k e (w.alloc (.map #[] 0)) w.heap.size [] := ⟨.map [], World.ownsMap_made w P k _, fun s => ⟨rfl, fun z => rfl⟩⟩
theorem KG (ho : o.op = .makeMap t none) (k e : TypeId) (M : Mem base W w L) : Ac P o a w fun v w' => ∃ g, v = .map (some g) ∧ Mem base W w' (.DJ P k e g [] :: L) := by
 refine uE (v := .map (some w.heap.size)) (w' := w.alloc (.map #[] 0)) ?_ ⟨_, rfl, ?_⟩
 ·unfold execOp
  simp [ho, run_makeMap_plain]
 ·refine (M.below ((Below.refl _ _).alloc (Nat.le_refl _) _)).cons (show lL.holds _ (.DJ P k e w.heap.size []) from SMap.new w) fun g hg => ?_
  simp [lL.foot] at hg
  subst hg;exact ⟨M.sz, fun i e' h he => by have := M.DT i e' _ h he; omega⟩
theorem LE (ho : o.op = .lookup t x y true) (ht : P.underlying t = some (.map k e)) (hk : P.underlying k = some .string) (he : P.underlying e = some (.int .i64)) (hz : (P.info? e).bind (·.zero) = some (.int .i64 0)) (K : Kd D a N l)
  (hx : kE l x = some (.map (some g))) (hy : kE l y = some (.string (bs s))) (hM : ∀ w, S w → SMap P k e w g m) (hl : Ig m s = some r) : Rd P S a o (.tuple #[.int .i64 r.1, .bool r.2]) := fun w hS => by
 obtain ⟨rfl, hs⟩ := JX hl;obtain ⟨D, hown, hD⟩ := hM w hS
 have hz : ∀ w, (zeroValue e).run P w = .ok (.int .i64 0) w := fun w => by
  simp only [Option.bind_eq_some_iff] at hz;obtain ⟨inf, qS, hz0⟩ := hz
  simp [zeroValue, typeInfo, qS, hz0]
 have hkey : keyOf P k (.string (bs s)) = some (.string s) := keyOf_string_mk hk (by rw [tJ]; unfold maxLen; omega);obtain ⟨v, ps, hrun, hv⟩ := hown.look_ok (Maps.string_keyed hk) ht (hz w) (plainElem_int he (by decide)) hkey;obtain ⟨c, rfl, hc, _⟩ := plainElem_int_inv he hv;obtain ⟨h1, h2⟩ := hD s;simp only [Prod.mk.injEq] at hc
 have hcc : c = (wK m s).getD 0 := by
  have h3 := h2 (.lit (.int .i64 0));rw [hc.1] at h3;cases hm : wK m s with
  | none => rw [hm] at h3; simp at h3; simp [h3]
  | some q => rw [hm] at h3; simp at h3; simp [h3]
 subst hcc;rw [h1] at hrun;unfold execOp
 simp [ho, K.ev hx, K.ev hy, hrun]
theorem GG (ho : o.op = .mapUpdate t x y z) (ht : P.underlying t = some (.map k e)) (hk : P.underlying k = some .string) (he : P.underlying e = some (.int .i64)) (K : Kd D a N l)
  (hx : kE l x = some (.map (some g))) (hy : kE l y = some (.string (bs s))) (hv : kE l z = some (.int .i64 v)) (i : Nat) (M : Mem W.heap.size W w L) (hi : L[i]? = some (.DJ P k e g m)) (hp : Nc m s v = some m') :
  Ac P o a w fun _ w' => Mem W.heap.size W w' (L.set i (.DJ P k e g m')) := by
 obtain ⟨rfl, h1, h2, h3, h4⟩ := LQ hp;obtain ⟨D, hown, hD⟩ := M.has i _ hi;have hkey : keyOf P k (.string (bs s)) = some (.string s) := keyOf_string_mk hk (by rw [tJ]; unfold maxLen; omega);obtain ⟨w', hrun, hown', hg⟩ := hown.update (Maps.string_keyed hk) ht (by unfold maxLen; omega) hkey (plainElem_int he (WalkArith.wf_i64 ⟨h3, h4⟩));refine EV (w' := w') ?_ (M.Um rfl i hi ((Below.refl _ w).grown hg M.sz fun k hk => M.up i _ k hi (by cases hk; rfl)) (show lL.holds w' (.DJ P k e g ((s, v) :: m)) from ⟨_, hown', fun s' => ?_⟩) (fun j hj hne => hg.block j hj fun h => hne (by cases h; rfl)) (fun g' hg' => .inl hg'))
 ·unfold execOp
  simp [ho, K.ev hx, K.ev hy, K.ev hv, hrun]
 ·have hkl : WideAt.IsKeyLit (.string s) := trivial
  by_cases hs : s = s'
  ·subst hs;refine ⟨?_, fun z => ?_⟩
   ·rw [Maps.has_put_same hown.isMap hkl]; simp [wK]
   ·rw [Maps.atKey_put_same hown.isMap hkl]; simp [wK]
  ·have hne : (Lit.string s' : Lit) ≠ .string s := fun h => hs (by injection h with h; exact h.symm)
   obtain ⟨q1, q2⟩ := hD s';refine ⟨?_, fun z => ?_⟩
   ·rw [Maps.has_put_other hne, q1]; simp [wK, hs]
   ·rw [Maps.atKey_put_other hne, q2]; simp [wK, hs]
end
end
section
open Go.RowKit
section
variable {P : Program} {base : Nat} {W w : World} {L H T : List lL} {e : lL}
theorem Mem.tl (M : Mem base W w (e :: L)) : Mem base W w L :=
 ⟨M.low, M.LR, M.bs, fun i e' h => M.has (i + 1) e' h, fun i e' g h hf => M.up (i + 1) e' g h hf, fun i j e1 e2 g h1 h2 f1 f2 => by
  have := M.one (i + 1) (j + 1) e1 e2 g h1 h2 f1 f2
  omega⟩
theorem Mem.oC (n : Nat) (hn : H.length = n) (M : Mem base W w (H ++ T)) (is : List Nat) (h : is.Nodup) (hl : ∀ i ∈ is, i < n) : Mem base W w (Fk H is ++ T) := by
 have h2 : (is ++ (List.range T.length).map (n + ·)).Nodup := by
  rw [List.nodup_append];refine ⟨h, ?_, ?_⟩
  ·exact List.Pairwise.map _ (fun a b (hab : a ≠ b) => show n + a ≠ n + b by omega) List.nodup_range
  ·intro a ha b hb;obtain ⟨j, _, rfl⟩ := List.mem_map.1 hb;have := hl a ha
   omega
 have := M.pick _ h2
 have e : Fk (H ++ T) (is ++ (List.range T.length).map (n + ·)) = Fk H is ++ T := by
  unfold Fk;rw [List.map_append]
  congr 1
  ·refine List.map_congr_left fun i hi => ?_
   have := hl i hi;rw [List.getD_eq_getElem?_getD, List.getD_eq_getElem?_getD, List.getElem?_append_left (by omega)]
  ·rw [List.map_map];refine List.ext_getElem? fun i => ?_
   rw [List.getElem?_map]
   by_cases hi : i < T.length
   ·rw [List.getElem?_range hi]
    simp [← hn, List.getElem?_append_right, List.getElem?_eq_getElem hi]
   ·rw [List.getElem?_eq_none (by simp; omega), List.getElem?_eq_none (by omega)]; rfl
 rwa [e] at this
theorem Xa {α : Type} {C : sP α} {xs : List α} {g : Nat} (i : Nat) (h : L[i]? = some (.JG g (C.all xs))) : ∀ w, Mem base W w L → SL w C (some ⟨g, 0, none⟩) xs := fun w M _ => by
 obtain ⟨arr, t, q, hh, hp⟩ := M.has i _ h;refine ⟨g, 0, rfl, fun j u hu => ?_⟩;rw [Nat.zero_add, cell_of_row w g j arr t q hh];exact hp j u hu
variable {S : World → Prop} {D : List Deferred} {a : Act} {N : Nat} {l : List (Nat × Value)} {o : Oper} {x y z : Operand} {t t' et : TypeId} {s : List UInt8}
theorem GH {b : Nat} (ho : o.op = .convert t t' x) (hs : P.underlying t = some .string) (ht : Gd P t' et 1 b = true) (he : P.underlying et = some (.int .u8)) (K : Kd D a N l) (hx : kE l x = some (.string (bs s))) (M : Mem base W w L) :
  Ac P o a w fun v w' => ∃ g c, v = .slice (some ⟨g, 0, none⟩) (pN s).length c ∧ (pN s).length ≤ c ∧ Mem base W w' (.JG g ((cI .u8).all (pN s)) :: L) := by
 obtain ⟨hu, _⟩ := mF ht;have hr := run_bytes_of_string (P := P) w t t' et (bs s) hs hu he;have hsz : (bs s).size = (pN s).length := by rw [zN]; exact tJ s
 have hcap : (pN s).length ≤ grownCap w (bs s).size 0 et := by
  rw [← hsz]; exact grownCap_ge _ _ _ _
 have hrun : (execOp a.eval o).run P w = .ok (.value (.slice (some ⟨w.heap.size, 0, none⟩) (pN s).length (grownCap w (bs s).size 0 et))) (w.drew.alloc (.cells (bytesRow (bs s) (grownCap w (bs s).size 0 et)) et ((bytesRow (bs s) (grownCap w (bs s).size 0 et)).size, (bytesRow (bs s) (grownCap w (bs s).size 0 et)).size + 1))) := by
  unfold execOp;simp only [ho, K.ev hx, Sem.run_bind, hr, ← hsz]; rfl
 refine uE hrun ⟨w.heap.size, grownCap w (bs s).size 0 et, rfl, hcap, ?_⟩
 ·refine ((M.drew).below ((Below.refl _ _).alloc (Nat.le_refl _) _)).cons ?_ fun g hg => ?_
  ·refine ⟨_, _, _, heap_alloc_new w.drew _, fun j u hu => ?_⟩;rw [← Ec] at hu;have hl : (Lib.strCells (bs s)).length = (bs s).size := by unfold Lib.strCells; simp [bs, ByteArray.size]
   unfold bytesRow;have hj := (List.getElem?_eq_some_iff.1 hu).1;rw [hl] at hj;rw [Array.getElem?_append_left (by rw [Array.size_map]; exact hj)]
   have : Lib.strCells (bs s) = ((bs s).data.map (fun b => Value.int .u8 b.toNat)).toList := by
    show s.map _ = _
    simp [bs]
   rw [this] at hu
   simpa using hu
  ·simp [lL.foot] at hg
   subst hg;exact ⟨M.sz, fun i e' h he => by have := M.DT i e' _ h he; omega⟩
theorem IY {e : TypeId} {k : IntKind} (he : P.underlying e = some (.int k)) (hc : P.cellsOf e = 1) (d : Nat) (w : World) : ∀ (m i : Nat) (xs ys : List Int), xs.length = i + m → ys.length = i + m →
  (Op.eqItems (d + 1) e (P.cellsOf e) (xs.map (Value.int k)).toArray (ys.map (Value.int k)).toArray (List.range' i m)).run P w = .ok (decide (xs.drop i = ys.drop i)) w := by
 have hp : P.plainKey e = true := by unfold Program.plainKey; rw [he]
 intro m
 induction m with
 | zero =>
  intro i xs ys hx hy;rw [List.range'_zero, List.drop_of_length_le (by omega), List.drop_of_length_le (by omega)]
  simp [Op.eqItems]
 | succ m ih =>
  intro i xs ys hx hy;have hxi : i < xs.length := by omega
  have hyi : i < ys.length := by omega
  have p1 : (part e (xs.map (Value.int k)).toArray i).run P w = .ok (.int k xs[i]) w := run_part_plain w hp (by simp [hxi]);have p2 : (part e (ys.map (Value.int k)).toArray i).run P w = .ok (.int k ys[i]) w := run_part_plain w hp (by simp [hyi])
  have p3 : (Op.equalIn (d + 1) e (.int k xs[i]) (.int k ys[i])).run P w = .ok (decide (xs[i] = ys[i])) w := by
   simp [Op.equalIn, run_underlying he]
   rw [Bool.eq_iff_iff]; simp
  have hih := ih (i + 1) xs ys (by omega) (by omega);rw [hc] at hih;rw [List.range'_succ, hc];have ex := List.drop_eq_getElem_cons hxi;have ey := List.drop_eq_getElem_cons hyi;unfold Op.eqItems;simp only [Nat.mul_one, Sem.run_bind, p1, p2, p3, Result.andThen_ok]
  by_cases h : xs[i] = ys[i]
  ·rw [decide_eq_true h];simp only [Bool.not_true, Bool.false_eq_true, if_false];rw [hih, ex, ey, h]
   congr 1
   rw [decide_eq_decide];exact ⟨fun q => by rw [q], fun q => (List.cons.inj q).2⟩
  ·rw [decide_eq_false h, ex, ey, decide_eq_false fun q => h (List.cons.inj q).1]
   rfl
theorem Oh {t e : TypeId} {k : IntKind} {n : Nat} (hu : P.underlying t = some (.array n e)) (he : P.underlying e = some (.int k)) (hsz : (P.info? e).map (·.size) = some 1) (xs ys : List Int) (hx : xs.length = n) (hy : ys.length = n) (w : World) :
  (Op.equalIn 10000 t (.agg (xs.map (Value.int k)).toArray) (.agg (ys.map (Value.int k)).toArray)).run P w = .ok (decide (xs = ys)) w := by
 obtain ⟨i, hi, hs⟩ := Option.map_eq_some_iff.1 hsz;have hc : P.cellsOf e = 1 := by unfold Program.cellsOf; rw [hi]; exact hs
 have h1 := run_equalIn_array (P := P) (w := w) 9999 (t := t) (xs.map (Value.int k)).toArray (ys.map (Value.int k)).toArray hu hi;rw [h1, List.range_eq_range'];have := IY he hc 9998 w n 0 xs ys (by omega) (by omega)
 simpa using this
end
section
variable {P : Program} {ops : Array Oper} {Q O : Exit → Act → World → Prop} {S : World → Prop} {nR need : Nat → Bool} {R : Act → World → Prop}
theorem IZ (hL : ¬ LetsOut O) {j : Nat} {oi oj : Oper} {v : Value} (hj : ops[j]? = some oj) (hap : oi.apart ops oj = true) (hO : ∀ e a v w, O e (a.put oi.dst v) w → O e a w)
  (hsi : ∀ cs b, oi.op ≠ .select cs b) (hsj : ∀ cs b, oj.op ≠ .select cs b) {K : Act → World → Prop} {a : Act} {w : World}
  (hy : rT P ops S oi v a) (h : wpOp P ops O j K (a.put oi.dst v) w) :
  wpOp P ops O j (fun a' w' => rT P ops S oi v a' ∧ K (a'.put oi.dst v) w') a w := by
 obtain ⟨h1, h2, h3⟩ := Oper.apart_spec hap
 have keep : ∀ (a : Act), rT P ops S oi v a → ∀ u, rT P ops S oi v (a.put oj.dst u) := fun a hy u =>
  hy.same (execOp_put oi hsi a oj.dst u h3) (wanted_put oi a oj.dst u h3)
 have keepD : ∀ d, rT P ops S oi v { a with defers := d :: a.defers } := fun d => hy.same rfl rfl
 unfold wpOp at *;simp only [hj] at *;rw [wanted_put oj a oi.dst v h1] at h
 split
 ·rename_i hw
  simp only [hw, if_true] at h
  rcases h with h | ⟨_, hl⟩
  case inr => exact absurd hl hL
  refine .inl ?_;unfold Oper.wp at *;rw [execOp_put oj hsj a oi.dst v h1] at h
  generalize (execOp a.eval oj).run P w = r at *
  cases r with
  | ok n w' =>
   cases n <;> simp only [Oper.upon] at h ⊢
   case value u => exact ⟨keep a hy u, by rw [← Act.put_comm a v u h2]; exact h⟩
   case skip => exact ⟨keep a hy _, by rw [← Act.put_comm a v undef h2]; exact h⟩
   case defer d =>
    refine ⟨keep _ (keepD d) _, ?_⟩;rw [← Act.put_comm _ v undef h2, ← Act.put_defers];exact h
   case enter f args =>
    refine Calls.mono h fun e w'' he => ?_
    cases e with
    | returned u => exact ⟨keep a hy u, by rw [← Act.put_comm a v u h2]; exact he⟩
    | panicked c => exact hO _ _ _ _ he
    | outgrown => exact absurd he hL
   case row row args => exact Rows.mono h fun u w'' he => ⟨keep a hy u, by rw [← Act.put_comm a v u h2]; exact he⟩
  | halt x w' => cases x <;> simp only [Oper.upon] at h ⊢; exact hO _ _ _ _ h
 ·rename_i hw
  simp only [hw] at h;exact ⟨keep a hy _, by rw [← Act.put_comm a v undef h2]; exact h⟩
theorem Mu (hL : ¬ LetsOut O) (hQ : ∀ e a w, O e a w → Q e a w) {i : Nat} {K : Act → World → Prop} {a : Act} {w : World} (h : wpOp P ops O i K a w) : wpOp P ops Q i K a w := by
  unfold wpOp at *
  split
  · rename_i h0
    simp only [h0] at h
    exact h
  · rename_i o ho
    simp only [ho] at h
    split
    · rename_i hw
      rw [if_pos hw] at h
      rcases h with h | ⟨_, hl⟩
      case inr => exact absurd hl hL
      refine .inl ?_
      unfold Oper.wp at *
      generalize (execOp a.eval o).run P w = r at *
      cases r with
      | ok n w' =>
        cases n <;> simp only [Oper.upon] at h ⊢ <;> first
          | exact h
          | (refine Calls.mono h fun e w'' he => ?_
             cases e with
             | returned u => exact he
             | panicked c => exact hQ _ _ _ he
             | outgrown => exact absurd he hL)
      | halt x w' => cases x <;> simp only [Oper.upon] at h ⊢; exact hQ _ _ _ h
    · rename_i hw
      rw [if_neg hw] at h
      exact h
theorem Oi (hL : ¬ LetsOut O) (hO : ∀ (i : Nat) (o : Oper), ops[i]? = some o → ∀ e a v w, O e (a.put o.dst v) w → O e a w) {c : Nat} {oc : Oper} (hc : ops[c]? = some oc) (hrc : nR c = false) (hsel : ∀ (j : Nat) (o : Oper) cs b, ops[j]? = some o → o.op ≠ .select cs b)
  (zD : ∀ j k oj ok, j ≠ k → ops[j]? = some oj → ops[k]? = some ok → waits ops j k = false → waits ops k j = false → (nR j = true → oj.apart ops ok = true)) :
  ∀ (n : Nat) (rem : List Nat) (a : Act) (w : World), c ∈ rem → H8 ops rem c = true → vN P O ops S nR need R (n + 1) rem a w → wpOp P ops O c (fun a' w' => (need c = true → S w') ∧ vN P O ops S nR need R n (rem.erase c) a' w') a w := by
 intro n
 induction n with
 | zero =>
  intro rem a w hcm hrd h
  rcases h with ⟨i0, hi0, hr0, hd0, o0, ho0, u, hu, h⟩ | ⟨_, h⟩
  ·obtain ⟨hnil, hR⟩ := h;have e : i0 ≠ c := fun e => by subst e; rw [hrc] at hr0; cases hr0
   have : c ∈ rem.erase i0 := (List.mem_erase_of_ne (fun h => e h.symm)).2 hcm;rw [hnil] at this; cases this
  ·exact h c hcm hrc hrd
 | succ n ih =>
  intro rem a w hcm hrd h
  rcases h with ⟨i0, hi0, hr0, hd0, o0, ho0, u, hu, h⟩ | ⟨_, h⟩
  ·have e : i0 ≠ c := fun e => by subst e; rw [hrc] at hr0; cases hr0
   have hcm' : c ∈ rem.erase i0 := (List.mem_erase_of_ne (fun h => e h.symm)).2 hcm;have h2 := ih _ _ _ hcm' (xK hrd) h;have w1 := tU hrd hi0;have w2 := tU hd0 hcm;have ap := zD i0 c o0 oc e ho0 hc w2 w1 hr0;have h3 := IZ hL hc ap (hO i0 o0 ho0) (fun cs b => hsel i0 o0 cs b ho0) (fun cs b => hsel c oc cs b hc) hu h2;refine wpOp_mono ?_ h3;rintro a' w' ⟨hy, hn, hk⟩;refine ⟨hn, .inl ⟨i0, (List.mem_erase_of_ne e).2 hi0, hr0, xK hd0, o0, ho0, u, hy, ?_⟩⟩;rw [List.erase_comm]; exact hk
  ·exact h c hcm hrc hrd
theorem Hz (hL : ¬ LetsOut O) (hO : ∀ (i : Nat) (o : Oper), ops[i]? = some o → ∀ e a v w, O e (a.put o.dst v) w → O e a w) (hQ : ∀ e a w, O e a w → Q e a w) (hok : IU ops nR need = true) : ∀ (fuel : Nat) (listed : Array Bool) (a : Act) (w : World), listed.size = ops.size → Closed ops listed → (jS ops listed).length = fuel →
  (∀ r ∈ jS ops listed, nR r = true → S w) → vN P O ops S nR need (Q .normal) fuel (jS ops listed) a w → wpAny P .any ops Q fuel listed a w := by
 simp only [IU, Bool.and_eq_true] at hok;obtain ⟨⟨⟨Ic, hback⟩, KE⟩, Id⟩ := hok;have hsel := Region.noSelect_spec Ic;have hp : ∀ i < ops.size, ∀ j < i, C0 ops nR i j = true := fun i hi j hj => List.all_eq_true.1 (List.all_eq_true.1 KE i (List.mem_range.2 hi)) j (List.mem_range.2 hj)
 have zD : ∀ j k oj ok, j ≠ k → ops[j]? = some oj → ops[k]? = some ok → waits ops j k = false → waits ops k j = false → (nR j = true → oj.apart ops ok = true) := by
  intro j k oj ok hjk hj hk w1 w2 hr;have hjl := (Array.getElem?_eq_some_iff.1 hj).1;have hkl := (Array.getElem?_eq_some_iff.1 hk).1
  rcases Nat.lt_or_gt_of_ne hjk with hlt | hlt
  ·have h := hp k hkl j hlt;unfold C0 at h;simp only [hj, hk, w2, Bool.false_or, Bool.and_eq_true, Bool.or_eq_true, Bool.not_eq_true'] at h
   rcases h.2 with h0 | h0
   ·rw [hr] at h0; cases h0
   ·exact h0
  ·have h := hp j hjl k hlt;unfold C0 at h;simp only [hj, hk, w1, Bool.false_or, Bool.and_eq_true, Bool.or_eq_true, Bool.not_eq_true'] at h
   rcases h.1 with h0 | h0
   ·rw [hr] at h0; cases h0
   ·exact h0
 have hbk : ∀ i o, ops[i]? = some o → ∀ e ∈ o.after, Region.binds .any e = true → e.on < i := fun i o ho e he hb => by
  have hi : i < ops.size := (Array.getElem?_eq_some_iff.1 ho).1;have h := List.all_eq_true.1 hback i (List.mem_range.2 hi);simp only [ho] at h;have h2 := Array.all_eq_true_iff_forall_mem.1 h e he
  simpa [hb] using h2
 have hnd : ∀ i < ops.size, nR i = false → ∀ r < ops.size, nR r = true → waits ops i r = false → need i = true := fun i hi CA r hr hrr hw => by
  have h := List.all_eq_true.1 Id i (List.mem_range.2 hi);simp only [CA, Bool.false_or, Bool.or_eq_true, Bool.not_eq_true'] at h;refine h.resolve_right fun h0 => ?_
  have : Fe ops nR i = true := by
   refine List.any_eq_true.2 ⟨r, List.mem_range.2 hr, ?_⟩;have : r ≠ i := fun e => by subst e; rw [CA] at hrr; cases hrr
   simp [hrr, hw, this]
  rw [this] at h0;cases h0
 intro fuel
 induction fuel with
 | zero =>
  intro listed a w hs hc hlen _ h;have hnil : jS ops listed = [] := List.eq_nil_of_length_eq_zero hlen;obtain ⟨_, h⟩ := h;refine ⟨?_, h⟩;refine List.eq_nil_iff_forall_not_mem.2 fun i hi => ?_
  obtain ⟨h0, o, ho, _⟩ := mem_ready.1 hi;have : i ∈ jS ops listed := lG.2 ⟨(Array.getElem?_eq_some_iff.1 ho).1, h0⟩;rw [hnil] at this;cases this
 | succ fuel ih =>
  intro listed a w hs hc hlen hS h;refine ⟨fun h0 => ?_, fun i hi => ?_⟩
  ·exfalso
   match hr : jS ops listed, hlen with
   | i0 :: rest, _ =>
    have hm0 : i0 ∈ jS ops listed := by rw [hr]; exact List.mem_cons_self ..
    obtain ⟨hlt, hun⟩ := lG.1 hm0;have zE := sQ (ops := ops) listed;rw [hr, List.pairwise_cons] at zE
    have : i0 ∈ Region.ready .any ops listed := by
     refine mem_ready.2 ⟨hun, ops[i0], Array.getElem?_eq_getElem hlt, fun e he hb => ?_⟩;have hlt2 := hbk i0 _ (Array.getElem?_eq_getElem hlt) e he hb;cases hl : listed.getD e.on false with
     | true => rfl
     | false =>
      have hm : e.on ∈ jS ops listed := lG.2 ⟨by omega, by rw [xI (by omega)]; exact hl⟩;rw [hr] at hm
      rcases List.mem_cons.1 hm with hm | hm
      ·omega
      ·have := zE.1 _ hm; omega
    rw [h0] at this;cases this
  ·obtain ⟨hun, oi, hoi, hall⟩ := mem_ready.1 hi;have hilt : i < ops.size := (Array.getElem?_eq_some_iff.1 hoi).1;have him : i ∈ jS ops listed := lG.2 ⟨hilt, hun⟩;have KF : (jS ops listed).Nodup := (sQ (ops := ops) listed).imp fun h => Nat.ne_of_lt h
   have zF : jS ops (listed.setIfInBounds i true) = (jS ops listed).erase i := by rw [DP hs hilt, Bh KF]
   have hlen' : (jS ops (listed.setIfInBounds i true)).length = fuel := by
    rw [zF, List.length_erase_of_mem him]; omega
   have hs' : (listed.setIfInBounds i true).size = ops.size := by simpa using hs
   have hc' : Closed ops (listed.setIfInBounds i true) := by
    intro k hk j hj
    by_cases hik : i = k
    ·subst hik; exact getD_set_true (rW hi hj)
    ·rw [getD_set_ne false hik] at hk; exact getD_set_true (hc k hk j hj)
   have hrd : H8 ops (jS ops listed) i = true := by
    unfold H8;rw [List.all_eq_true];intro j hj;obtain ⟨h1, h2⟩ := lG.1 hj;cases hw : waits ops i j with
    | false => rfl
    | true =>
     have := rW hi hw;rw [← xI (by omega), h2] at this; cases this
   cases CA : nR i with
   | true =>
    have hSw : S w := hS i him CA;obtain ⟨v, hv, hrest⟩ := LD hoi CA hsel zD fuel _ a w him hrd h;refine hv.run hoi hSw (ih _ _ _ hs' hc' hlen' (fun _ _ _ => hSw) (by rw [zF]; exact hrest))
   | false =>
    have h2 := Oi hL hO hoi CA hsel zD fuel _ a w him hrd h;refine Mu hL hQ (wpOp_mono ?_ h2);rintro a' w' ⟨hn, hk⟩;refine ih _ _ _ hs' hc' hlen' ?_ (by rw [zF]; exact hk);intro r hr hrr;rw [zF] at hr;have hrm := List.mem_of_mem_erase hr;exact hn (hnd i hilt CA r (lG.1 hrm).1 hrr (tU hrd hrm))
theorem HD (hL : ¬ LetsOut O) (hQ : ∀ e a w, O e a w → Q e a w) {id : Nat} {a : Act} {w : World} {l : List Oper} (hO : ∀ (i : Nat) (o : Oper), l.toArray[i]? = some o → ∀ e a v w, O e (a.put o.dst v) w → O e a w) (S : World → Prop) (f : List Nat) (n : Nat) (rem : List Nat) (hm : P.follows .mixedOrders = true) (hok : IU l.toArray (oP f) (kF f) = true)
  (hl : List.range l.toArray.size = rem) (hn : rem.length = n) (hS : S w.drew) (h : vN P O l.toArray S (oP f) (kF f) (Q .normal) n rem a w.drew) : (Code.region id l.toArray true).wp P Q a w := by
 refine wp_region_any hm ?_
 have Ez : jS l.toArray (Array.replicate l.toArray.size false) = List.range l.toArray.size := by
  unfold jS;refine List.filter_eq_self.2 fun i hi => ?_
  have := List.mem_range.1 hi
  simp at this
  simp [this]
 refine Hz hL hO hQ hok l.toArray.size (Array.replicate l.toArray.size false) a _ (by simp) ?_ (by rw [Ez]; simp) (fun _ _ _ => hS) ?_
 ·intro i hi;rw [vD] at hi;cases hi
 ·rw [Ez, hl];have : l.toArray.size = n := by rw [← hn, ← hl]; simp
  rw [this]; exact h
def Bk (D : List Deferred) (N : Nat) (l0 : List (Nat × Value)) (Pn : List PanicEntry → World → Prop) : Exit → Act → World → Prop := fun e a w => ∃ ch, e = .panic ch ∧ Pn ch w ∧ Kd D a N l0
def LF (ops : List Oper) (l0 : List (Nat × Value)) : Bool := ops.all fun o => match o.dst with
 | some d => (xD l0 d).isNone
 | none => true
theorem Kd.Vn {D : List Deferred} {a : Act} {N : Nat} {l0 : List (Nat × Value)} {d : Option Nat} {v : Value} (h : ∀ s, d = some s → xD l0 s = none) (K : Kd D (a.put d v) N l0) : Kd D a N l0 := by
 cases d with
 | none => exact K
 | some d =>
  refine ⟨K.defs, by have := K.size; simpa [Act.put] using this, fun s u hs => ?_⟩;have h2 := K.get s u hs;have hne : d ≠ s := fun e => by subst e; rw [h d rfl] at hs; cases hs
  simp only [Act.put] at h2;rw [← h2]
  simp [Array.getD_eq_getD_getElem?, Array.getElem?_setIfInBounds, hne]
theorem lB {id : Nat} {a : Act} {w : World} {l : List Oper} {D : List Deferred} {N : Nat} (l0 : List (Nat × Value)) (Pn : List PanicEntry → World → Prop) (hcl : LF l l0 = true) (hQ : ∀ ch a w, Pn ch w → Kd D a N l0 → Q (.panic ch) a w) (S : World → Prop) (f : List Nat) (n : Nat) (rem : List Nat) (hm : P.follows .mixedOrders = true) (hok : IU l.toArray (oP f) (kF f) = true)
  (hl : List.range l.toArray.size = rem) (hn : rem.length = n) (hS : S w.drew) (h : vN P (Bk D N l0 Pn) l.toArray S (oP f) (kF f) (Q .normal) n rem a w.drew) : (Code.region id l.toArray true).wp P Q a w :=
 HD (O := Bk D N l0 Pn) (fun ⟨_, _, _, h, _⟩ => by cases h) (fun e a w ⟨ch, h1, h2, h3⟩ => by subst h1; exact hQ ch a w h2 h3)
  (fun i o ho e a v w ⟨ch, h1, h2, h3⟩ => ⟨ch, h1, h2, Kd.Vn (fun s hs => by
   unfold LF at hcl;rw [List.all_eq_true] at hcl;have hm := hcl o (by simpa using Array.mem_of_getElem? ho);rw [hs] at hm
   simpa using hm) h3⟩) S f n rem hm hok hl hn hS h
variable {D : List Deferred} {a : Act} {w : World} {N : Nat} {l l0 : List (Nat × Value)} {o : Oper} {v : Value} {d c n : Nat} {rem : List Nat} {f : List Nat} {Pn : List PanicEntry → World → Prop} {x : Operand}
theorem EF {kk : Act → World → Prop} (ho : ops[c]? = some o) (K0 : Kd D a N l0) (hw : Region.wanted o (yielded ops a.tmps) = true) (h : Bo P o a w Pn) : wpOp P ops (Bk D N l0 Pn) c kk a w := by
 unfold wpOp;simp only [ho, hw, if_true];exact .inl (h _ _ fun ch w' hp => ⟨ch, rfl, hp, K0⟩)
theorem Oj {fid : FuncId} {cap vs : List Value} {args : Array Operand} {ts : Array TypeId} (K : Kd D a N l) (ho : o.op = .call { callee := .value x, args := args, argTypes := ts }) (hf : fT P fid = true) (hx : kE l x = some (.func (.func fid) #[] cap.toArray)) (hargs : args.toList.map (kE l) = vs.map some)
  {K2 : Act → World → Prop} {Q2 : Exit → Act → World → Prop} (h : Calls P fid (vs ++ cap).toArray w fun e w' => (∃ v, e = .returned v ∧ K2 (a.put o.dst v) w') ∨ ∃ ch, e = .panicked ch ∧ Q2 (.panic ch) a w') : o.wp P a w K2 Q2 := by
 have hE : args.map a.eval = vs.toArray := by
  apply Array.ext'
  simp only [Array.toList_map]
  have : ∀ (xs : List Operand) (vs : List Value), xs.map (kE l) = vs.map some → xs.map a.eval = vs := by
   intro xs
   induction xs with
   | nil => intro vs h; cases vs <;> simp_all
   | cons x xs ih =>
    intro vs h;cases vs with
    | nil => simp at h
    | cons v vs => simp only [List.map_cons, List.cons.injEq] at h ⊢; exact ⟨K.ev h.1, ih vs h.2⟩
  exact this _ _ hargs
 have hrun : (execOp a.eval o).run P w = .ok (.enter fid (vs ++ cap).toArray) w := by
  unfold fT at hf
  split at hf
  ·rename_i fn hfn
   simp only [Bool.and_eq_true, bne_iff_ne, ne_eq] at hf;obtain ⟨b, hb⟩ := Option.isSome_iff_exists.1 hf.1;unfold execOp
   simp [ho, resolve, K.ev hx, hE, Deferred.ofValue, invoke, callFunc, hfn, hb, hf.2]
  ·cases hf
 unfold Oper.wp;rw [hrun, Oper.upon_enter];refine h.mono ?_;rintro e w' (⟨v, rfl, hp⟩ | ⟨ch, rfl, hp⟩)
 ·exact hp
 ·exact hp
theorem BW {rest : List Oper} {fid : FuncId} {cap vs : List Value} {args : Array Operand} {ts : Array TypeId} (K : Kd D a N l) (hw : Region.wanted o (yielded ops a.tmps) = true) (hd : o.dst = some d) (hN : Nat.blt d N = true)
  (ho : o.op = .call { callee := .value x, args := args, argTypes := ts }) (hf : fT P fid = true) (hx : kE l x = some (.func (.func fid) #[] cap.toArray)) (hargs : args.toList.map (kE l) = vs.map some)
  (h : Calls P fid (vs ++ cap).toArray w fun e w' => (∃ v, e = .returned v ∧ ∀ a', Kd D a' N ((d, v) :: l) → wpList P ops Q rest a' w') ∨ ∃ ch, e = .panicked ch ∧ Q (.panic ch) a w') : wpList P ops Q (o :: rest) a w := by
 refine wpList_step fun Kc hK => ?_
 rw [if_pos hw];refine Oj K ho hf hx hargs (h.mono ?_);rintro e w' (⟨v, he, hp⟩ | hp)
 ·refine .inl ⟨v, he, hK _ _ ?_⟩;have := K.put (d := o.dst) (by rw [hd]; exact hN) v;rw [hd] at this ⊢;exact hp _ this
 ·exact .inr hp
theorem HG {fid : FuncId} {cap vs : List Value} {args : Array Operand} {ts : Array TypeId} (AU : List Nat) (hc : (rem.erase c == AU) = true) (hop : ops[c]? = some o) (K : Kd D a N l) (hw : Region.wanted o (yielded ops a.tmps) = true) (hd : o.dst = some d) (hN : Nat.blt d N = true) (K0 : Kd D a N l0)
  (ho : o.op = .call { callee := .value x, args := args, argTypes := ts }) (hf : fT P fid = true) (hx : kE l x = some (.func (.func fid) #[] cap.toArray)) (hargs : args.toList.map (kE l) = vs.map some)
  (h : Calls P fid (vs ++ cap).toArray w fun e w' => (∃ v, e = .returned v ∧ ∀ a', Kd D a' N ((d, v) :: l) → (kF f c = true → S w') ∧ vN P (Bk D N l0 Pn) ops S (oP f) (kF f) R n AU a' w') ∨ ∃ ch, e = .panicked ch ∧ Pn ch w') : wpOp P ops (Bk D N l0 Pn) c (fun a' w' => (kF f c = true → S w') ∧ vN P (Bk D N l0 Pn) ops S (oP f) (kF f) R n (rem.erase c) a' w') a w := by
 obtain rfl : rem.erase c = AU := by simpa using hc
 unfold wpOp;simp only [hop, hw, if_true];refine .inl (Oj K ho hf hx hargs (h.mono ?_));rintro e w' (⟨v, he, hp⟩ | ⟨ch, he, hp⟩)
 ·refine .inl ⟨v, he, ?_⟩;have := K.put (d := o.dst) (by rw [hd]; exact hN) v;rw [hd] at this ⊢;exact hp _ this
 ·exact .inr ⟨ch, he, ch, rfl, hp, K0⟩
theorem Ok {fn : Func} {code : Code} {fid : FuncId} {args : Array Value} {Rp : Ending → World → Prop} (hf : P.funcs[fid]? = some fn) (hb : fn.body = some code) (hN : fn.ntmps = N) (hs : Nat.ble args.size N = true)
  (h : ∀ a, Kn a N (Fj 0 args.toList) → code.wp P (bodyPostD P fn Rp) a w) : Calls P fid args w Rp := by
 refine calls_of_wp_defers hf hb ?_;rw [hN];exact h _ (Kd.start args N hs)
theorem Zf {rest : List Oper} {fid : FuncId} {cap : List Value} (K : Kd D a N l) (hw : Region.wanted o (yielded ops a.tmps) = true) (hd : o.dst = none) (ho : o.op = .defer { callee := .value x, args := #[], argTypes := #[] }) (hx : kE l x = some (.func (.func fid) #[] cap.toArray))
  (k : ∀ a', Kd ({ target := .fn (.func fid) cap.toArray, args := #[] } :: D) a' N l → wpList P ops Q rest a' w) : wpList P ops Q (o :: rest) a w := by
 refine wpList_step fun Kc hK => ?_
 rw [if_pos hw];unfold Oper.wp
 have hrun : (execOp a.eval o).run P w = .ok (.defer { target := .fn (.func fid) cap.toArray, args := #[] }) w := by
  unfold execOp
  simp [ho, resolve, K.ev hx, Deferred.ofValue]
 rw [hrun, Oper.upon_defer];refine hK _ _ ?_;rw [hd];exact k _ ⟨by show _ :: a.defers = _; rw [K.defs], K.size, K.get⟩
theorem Vo {fn : Func} {Rp : Ending → World → Prop} {r1 r2 : ResultVar} {v1 v2 : Value} {fid : FuncId} {cap : Array Value} (K : Kd [{ target := .fn (.func fid) cap, args := #[] }] a N l) (hr : fn.results = #[r1, r2]) (h1 : u9 P a w r1 v1) (h2 : u9 P a w r2 v2)
  (hi : (invoke (.fn (.func fid) cap) #[]).run P w = .ok (.enter fid cap) w) (hc : CallsD P fid cap .returning w fun e u' w' => e = .returned (.tuple #[]) ∧ u' = .returning ∧ w' = w) (h : Rp (.returned (.tuple #[v1, v2])) w) : bodyPostD P fn Rp .ret a w := by
 show Leaves P fn a.tmps Rp a.defers .returning w;rw [K.defs];refine leaves_cons (by intro h; cases h) hi (hc.mono ?_);rintro e u' w' ⟨rfl, rfl, rfl⟩;refine ⟨.tuple #[v1, v2], ?_, h⟩;unfold u9 at h1 h2;rw [tS, hr]; simp [h1, h2]
theorem lX {fn : Func} {Rp : Ending → World → Prop} {r1 r2 : ResultVar} {v1 v2 : Value} {fid : FuncId} {cap : Array Value} {pe : PanicEntry} {post : World → Prop} (K : Kd [{ target := .fn (.func fid) cap, args := #[] }] a N l) (hr : fn.results = #[r1, r2])
  (hi : (invoke (.fn (.func fid) cap) #[]).run P w = .ok (.enter fid cap) w) (hc : CallsD P fid cap (.panicking [pe]) w fun e u' w' => e = .returned (.tuple #[]) ∧ u' = .panicking [{ pe with recovered := true }] ∧ post w') (hres : ∀ w', post w' → u9 P a w' r1 v1 ∧ u9 P a w' r2 v2 ∧ Rp (.returned (.tuple #[v1, v2])) w') : bodyPostD P fn Rp (.panic [pe]) a w := by
 show Leaves P fn a.tmps Rp a.defers (.panicking [pe]) w;rw [K.defs];refine leaves_cons (by intro h; cases h) hi (hc.mono ?_);rintro e u' w' ⟨rfl, rfl, hp⟩;obtain ⟨h1, h2, h⟩ := hres w' hp;refine ⟨.tuple #[v1, v2], ?_, h⟩;unfold u9 at h1 h2;rw [tS, hr]; simp [h1, h2]
end
theorem gV {P : Program} {f : FuncId} {cap : Array Value} {w : World} (hf : fT P f = true) : (invoke (.fn (.func f) cap) #[]).run P w = .ok (.enter f cap) w := by
 unfold fT at hf
 split at hf
 ·rename_i fn hfn
  simp only [Bool.and_eq_true, bne_iff_ne, ne_eq] at hf;obtain ⟨b, hb⟩ := Option.isSome_iff_exists.1 hf.1
  simp [invoke, callFunc, hfn, hb, hf.2]
 ·cases hf
theorem pB {P : Program} {S : World → Prop} {D : List Deferred} {a : Act} {N : Nat} {l : List (Nat × Value)} {o : Oper} {x ix : Operand} {t e : TypeId} {g off c : Nat} {k : IntKind} {b s j len : Nat} (ho : o.op = .indexAddr t x ix) (ht : Gd P t e s b = true) (K : Kd D a N l) (hx : kE l x = some (.slice (some ⟨g, off, none⟩) len c)) (hi : kE l ix = some (.int k j)) (hj : Nat.blt j len = true) : Rd P S a o (.pointer (some ⟨g, off + j * s, none⟩)) := fun w _ => by
  obtain ⟨hu, i, qS, hs, _⟩ := mF ht
  have h1 : (j : Int) < len := by have : j < len := by simpa [Nat.blt_eq] using hj
                                  omega
  have hadd : (⟨g, off, none⟩ : Addr).add (j * s) = ⟨g, off + j * s, none⟩ := by unfold Addr.add; split <;> simp_all
  unfold execOp
  simp [ho, K.ev hx, K.ev hi, Instr.indexAt, asIntOf, run_underlying hu, sizeOf, typeInfo, qS, hs, h1, hadd]
  intro hh; omega
theorem z1 : lH Tryz.prog 1 = some [.nilFunc] := by kernel_rfl
theorem z2 : lH Tryz.prog 2 = some [.int .i64 0] := by kernel_rfl
theorem fF : F8 Tryz.prog 3 = true := by kernel_rfl
theorem z3 : lH Tryz.prog 3 = some [.int .i64 0] := by kernel_rfl
theorem Z0 : (Tryz.prog.info? 3).bind (·.zero) = some (.int .i64 0) := by kernel_rfl
theorem DM : Tryz.prog.underlying 3 = some (.int .i64) := by kernel_rfl
theorem Cp : (Tryz.prog.info? 3).map (·.size) = some 1 := by kernel_rfl
theorem z4 : lH Tryz.prog 4 = some [.bool false] := by kernel_rfl
theorem Zg : F8 Tryz.prog 5 = true := by kernel_rfl
theorem z5 : lH Tryz.prog 5 = some [.int .u8 0] := by kernel_rfl
theorem En : Tryz.prog.underlying 5 = some (.int .u8) := by kernel_rfl
theorem Vp : (Tryz.prog.info? 5).bind (·.zero) = some (.int .u8 0) := by kernel_rfl
theorem Z1 : (Tryz.prog.info? 5).map (·.size) = some 1 := by kernel_rfl
theorem xH : F8 Tryz.prog 9 = true := by kernel_rfl
theorem z9 : lH Tryz.prog 9 = some [.string (bs ([] : List UInt8))] := by kernel_rfl
theorem qR : Tryz.prog.underlying 9 = some .string := by kernel_rfl
theorem Z2 : (Tryz.prog.info? 9).map (·.size) = some 1 := by kernel_rfl
theorem z20 : lH Tryz.prog 20 = some [.nilIface] := by kernel_rfl
theorem z21 : lH Tryz.prog 21 = some [.int .i32 0] := by kernel_rfl
theorem Vq : Tryz.prog.underlying 21 = some (.int .i32) := by kernel_rfl
theorem Vr : CL Tryz.prog 22 4 = true := by kernel_rfl
theorem Ol : Tryz.prog.underlying 22 = some (.array 4 3) := by kernel_rfl
theorem yR : F8 Tryz.prog 23 = true := by kernel_rfl
theorem BA : Gd Tryz.prog 23 92 2 16 = true := by kernel_rfl
theorem EG : ∃ e, Tryz.prog.underlying 23 = some (.slice e) := ⟨_, (mF BA).1⟩
theorem Vs : CL Tryz.prog 24 3 = true := by kernel_rfl
theorem Om : Tryz.prog.underlying 24 = some (.array 3 3) := by kernel_rfl
theorem SX : CL Tryz.prog 25 9 = true := by kernel_rfl
theorem On : Tryz.prog.underlying 25 = some (.array 9 3) := by kernel_rfl
theorem wZ : F8 Tryz.prog 26 = true := by kernel_rfl
theorem sI : Gd Tryz.prog 26 47 2 16 = true := by kernel_rfl
theorem BX : ∃ e, Tryz.prog.underlying 26 = some (.slice e) := ⟨_, (mF sI).1⟩
theorem I0 : CL Tryz.prog 28 21 = true := by kernel_rfl
theorem z28 : lH Tryz.prog 28 = some [.int .i64 0, .int .i64 0, .int .i64 0, .int .i64 0, .int .i64 0, .int .i64 0, .slice none 0 0, .int .i64 0, .int .i64 0, .int .i64 0, .int .i64 0, .int .i64 0, .int .i64 0, .int .i64 0, .int .i64 0, .int .i64 0, .int .i64 0, .int .i64 0, .int .i64 0, .slice none 0 0, .int .i64 0] := by kernel_rfl
theorem Cq : uB Tryz.prog 28 0 = some 0 := by kernel_rfl
theorem Cr : uB Tryz.prog 28 1 = some 1 := by kernel_rfl
theorem zO : uB Tryz.prog 28 2 = some 5 := by kernel_rfl
theorem mT : uB Tryz.prog 28 3 = some 6 := by kernel_rfl
theorem Cs : uB Tryz.prog 28 4 = some 7 := by kernel_rfl
theorem Ct : uB Tryz.prog 28 5 = some 10 := by kernel_rfl
theorem oX : uB Tryz.prog 28 6 = some 19 := by kernel_rfl
theorem Cu : uB Tryz.prog 28 7 = some 20 := by kernel_rfl
theorem lM : F8 Tryz.prog 29 = true := by kernel_rfl
theorem g7 : Gd Tryz.prog 29 3 1 8 = true := by kernel_rfl
theorem qG : ∃ e, Tryz.prog.underlying 29 = some (.slice e) := ⟨_, (mF g7).1⟩
theorem j3 : CL Tryz.prog 31 3 = true := by kernel_rfl
theorem z31 : lH Tryz.prog 31 = some [.int .i64 0, .int .i64 0, .slice none 0 0] := by kernel_rfl
theorem nP : uB Tryz.prog 31 0 = some 0 := by kernel_rfl
theorem v8 : uB Tryz.prog 31 1 = some 1 := by kernel_rfl
theorem iZ : uB Tryz.prog 31 2 = some 2 := by kernel_rfl
theorem tA : F8 Tryz.prog 35 = true := by kernel_rfl
theorem rU : Gd Tryz.prog 35 9 1 16 = true := by kernel_rfl
theorem EH : ∃ e, Tryz.prog.underlying 35 = some (.slice e) := ⟨_, (mF rU).1⟩
theorem gY : CL Tryz.prog 37 28 = true := by kernel_rfl
theorem z37 : lH Tryz.prog 37 = some [.int .i64 0, .int .i64 0, .int .i64 0, .int .i64 0, .int .i64 0, .slice none 0 0, .slice none 0 0, .int .i64 0, .int .i64 0, .int .i64 0, .int .i64 0, .int .i64 0, .int .i64 0, .slice none 0 0, .int .i64 0, .int .i64 0, .int .i64 0, .int .i64 0, .int .i64 0, .int .i64 0, .int .i64 0, .int .i64 0, .int .i64 0, .int .i64 0, .int .i64 0, .int .i64 0, .slice none 0 0, .int .i64 0] := by kernel_rfl
theorem oY : uB Tryz.prog 37 0 = some 0 := by kernel_rfl
theorem nZ : uB Tryz.prog 37 1 = some 1 := by kernel_rfl
theorem qL : uB Tryz.prog 37 2 = some 2 := by kernel_rfl
theorem mU : uB Tryz.prog 37 3 = some 3 := by kernel_rfl
theorem qM : uB Tryz.prog 37 4 = some 4 := by kernel_rfl
theorem nA : uB Tryz.prog 37 5 = some 5 := by kernel_rfl
theorem SY : Ze Tryz.prog 37 6 = some (35, 6) := by kernel_rfl
theorem jQ : uB Tryz.prog 37 6 = some 6 := by kernel_rfl
theorem pI : uB Tryz.prog 37 7 = some 7 := by kernel_rfl
theorem tB : F8 Tryz.prog 38 = true := by kernel_rfl
theorem z38 : lH Tryz.prog 38 = some [.int .i64 0] := by kernel_rfl
theorem z46 : lH Tryz.prog 46 = some [.int .i64 0, .int .i64 0] := by kernel_rfl
theorem Gk : CL Tryz.prog 47 2 = true := by kernel_rfl
theorem z47 : lH Tryz.prog 47 = some [.int .i64 0, .int .i64 0] := by kernel_rfl
theorem pJ : uB Tryz.prog 47 0 = some 0 := by kernel_rfl
theorem qN : uB Tryz.prog 47 1 = some 1 := by kernel_rfl
theorem Zh : (Tryz.prog).eqGuardType (Tryz.prog).depth 47 = false := by kernel_rfl
theorem Vt (x0 y0 x1 y1 : Int) (w : World) : (Op.equalIn 10000 47 (.agg #[.int .i64 x0, .int .i64 x1]) (.agg #[.int .i64 y0, .int .i64 y1])).run Tryz.prog w = .ok (decide (x0 = y0) && decide (x1 = y1)) w := by
 have hp : Tryz.prog.stoodInHeld 47 = false := by kernel_rfl
 have ht : Tryz.prog.underlying 47 = some (.struct (Tryz.prog.fieldsOf 47)) := by kernel_rfl
 rw [run_equalIn_agg (d := 9999) _ _ _ _ ht hp]
 by_cases h0 : x0 = y0 <;> by_cases h1 : x1 = y1 <;> simp [Program.fieldsOf, Tryz.underlying47, go_sem, Op.eqFields, h0, h1]
theorem z51 : lH Tryz.prog 51 = some [.nilFunc] := by kernel_rfl
theorem z70 : lH Tryz.prog 70 = some [.nilFunc] := by kernel_rfl
theorem z72 : lH Tryz.prog 72 = some [.nilFunc] := by kernel_rfl
theorem Mv : CL Tryz.prog 92 2 = true := by kernel_rfl
theorem Qm : lH Tryz.prog 92 = some [.int .i64 0, .int .i64 0] := by kernel_rfl
theorem E9 : uB Tryz.prog 92 0 = some 0 := by kernel_rfl
theorem Fa : uB Tryz.prog 92 1 = some 1 := by kernel_rfl
theorem Zi : (Tryz.prog).eqGuardType (Tryz.prog).depth 92 = false := by kernel_rfl
theorem Vu (x0 y0 x1 y1 : Int) (w : World) : (Op.equalIn 10000 92 (.agg #[.int .i64 x0, .int .i64 x1]) (.agg #[.int .i64 y0, .int .i64 y1])).run Tryz.prog w = .ok (decide (x0 = y0) && decide (x1 = y1)) w := by
 have hp : Tryz.prog.stoodInHeld 92 = false := by kernel_rfl
 have ht : Tryz.prog.underlying 92 = some (.struct (Tryz.prog.fieldsOf 92)) := by kernel_rfl
 rw [run_equalIn_agg (d := 9999) _ _ _ _ ht hp]
 by_cases h0 : x0 = y0 <;> by_cases h1 : x1 = y1 <;> simp [Program.fieldsOf, Tryz.underlying92, go_sem, Op.eqFields, h0, h1]
theorem Oo : Gd Tryz.prog 94 96 2 16 = true := by kernel_rfl
theorem Vv : ∃ e, Tryz.prog.underlying 94 = some (.slice e) := ⟨_, (mF Oo).1⟩
theorem Vw : CL Tryz.prog 96 2 = true := by kernel_rfl
theorem Zj : lH Tryz.prog 96 = some [.int .i64 0, .int .i64 0] := by kernel_rfl
theorem Oq : Tryz.prog.underlying 96 = some (.array 2 3) := by kernel_rfl
theorem z105 : lH Tryz.prog 105 = some [.nilFunc] := by kernel_rfl
theorem z116 : lH Tryz.prog 116 = some [.nilFunc] := by kernel_rfl
theorem Dq : F8 Tryz.prog 123 = true := by kernel_rfl
theorem lO : Gd Tryz.prog 123 5 1 1 = true := by kernel_rfl
theorem Ot : ∃ e, Tryz.prog.underlying 123 = some (.slice e) := ⟨_, (mF lO).1⟩
theorem z124 : lH Tryz.prog 124 = some [.slice none 0 0] := by kernel_rfl
theorem Ar : uB Tryz.prog 125 0 = some 0 := by kernel_rfl
theorem z127 : lH Tryz.prog 127 = some [.nilFunc] := by kernel_rfl
theorem sY : F8 Tryz.prog 131 = true := by kernel_rfl
theorem z131 : lH Tryz.prog 131 = some [.pointer none] := by kernel_rfl
theorem qD : uB Tryz.prog 133 0 = some 0 := by kernel_rfl
theorem z138 : lH Tryz.prog 138 = some [.int .i64 0, .int .i64 0, .int .i64 0, .int .i64 0, .int .i64 0] := by kernel_rfl
theorem GI : Tryz.prog.underlying 138 = some (.array 5 3) := by kernel_rfl
theorem z139 : lH Tryz.prog 139 = some [.nilFunc] := by kernel_rfl
theorem BY : F8 Tryz.prog 141 = true := by kernel_rfl
theorem z141 : lH Tryz.prog 141 = some [.pointer none] := by kernel_rfl
theorem z146 : lH Tryz.prog 146 = some [.pointer none] := by kernel_rfl
theorem Ou : Tryz.prog.underlying 154 = some (.int .u64) := by kernel_rfl
theorem z164 : lH Tryz.prog 164 = some [.nilFunc] := by kernel_rfl
theorem I1 : Tryz.prog.underlying 189 = some (.int .u16) := by kernel_rfl
theorem Vx : Tryz.prog.underlying 227 = some (.array 8 3) := by kernel_rfl
theorem LG : Tryz.prog.underlying 272 = some (.map 9 3) := by kernel_rfl
theorem Zk : (Tryz.prog).eqGuardType (Tryz.prog).depth 22 = false := by kernel_rfl
theorem Vy (x0 y0 x1 y1 x2 y2 x3 y3 : Int) (w : World) : (Op.equalIn 10000 22 (.agg #[.int .i64 x0, .int .i64 x1, .int .i64 x2, .int .i64 x3]) (.agg #[.int .i64 y0, .int .i64 y1, .int .i64 y2, .int .i64 y3])).run Tryz.prog w = .ok (decide ([x0, x1, x2, x3] = [y0, y1, y2, y3])) w := Oh Ol DM Cp [x0, x1, x2, x3] [y0, y1, y2, y3] rfl rfl w
theorem Zl : (Tryz.prog).eqGuardType (Tryz.prog).depth 24 = false := by kernel_rfl
theorem Vz (x0 y0 x1 y1 x2 y2 : Int) (w : World) : (Op.equalIn 10000 24 (.agg #[.int .i64 x0, .int .i64 x1, .int .i64 x2]) (.agg #[.int .i64 y0, .int .i64 y1, .int .i64 y2])).run Tryz.prog w = .ok (decide ([x0, x1, x2] = [y0, y1, y2])) w := Oh Om DM Cp [x0, x1, x2] [y0, y1, y2] rfl rfl w
theorem Zm : (Tryz.prog).eqGuardType (Tryz.prog).depth 25 = false := by kernel_rfl
theorem VA (x0 y0 x1 y1 x2 y2 x3 y3 x4 y4 x5 y5 x6 y6 x7 y7 x8 y8 : Int) (w : World) : (Op.equalIn 10000 25 (.agg #[.int .i64 x0, .int .i64 x1, .int .i64 x2, .int .i64 x3, .int .i64 x4, .int .i64 x5, .int .i64 x6, .int .i64 x7, .int .i64 x8]) (.agg #[.int .i64 y0, .int .i64 y1, .int .i64 y2, .int .i64 y3, .int .i64 y4, .int .i64 y5, .int .i64 y6, .int .i64 y7, .int .i64 y8])).run Tryz.prog w = .ok (decide ([x0, x1, x2, x3, x4, x5, x6, x7, x8] = [y0, y1, y2, y3, y4, y5, y6, y7, y8])) w := Oh On DM Cp [x0, x1, x2, x3, x4, x5, x6, x7, x8] [y0, y1, y2, y3, y4, y5, y6, y7, y8] rfl rfl w
theorem Ra : fT Tryz.prog 11 = true := by kernel_rfl
theorem VB : fT Tryz.prog 13 = true := by kernel_rfl
theorem Rb : fT Tryz.prog 14 = true := by kernel_rfl
theorem Rc : fT Tryz.prog 16 = true := by kernel_rfl
theorem Re : fT Tryz.prog 19 = true := by kernel_rfl
theorem Rf : fT Tryz.prog 20 = true := by kernel_rfl
theorem VC : fT Tryz.prog 22 = true := by kernel_rfl
theorem Ov : fT Tryz.prog 23 = true := by kernel_rfl
theorem VD : fT Tryz.prog 24 = true := by kernel_rfl
theorem VE : fT Tryz.prog 25 = true := by kernel_rfl
theorem VF : fT Tryz.prog 27 = true := by kernel_rfl
theorem VG : fT Tryz.prog 35 = true := by kernel_rfl
theorem VH : fT Tryz.prog 36 = true := by kernel_rfl
theorem Rg : fT Tryz.prog 45 = true := by kernel_rfl
theorem Rh : fT Tryz.prog 46 = true := by kernel_rfl
theorem Ri : fT Tryz.prog 47 = true := by kernel_rfl
theorem VJ : fT Tryz.prog 48 = true := by kernel_rfl
theorem VK : fT Tryz.prog 49 = true := by kernel_rfl
theorem VL : fT Tryz.prog 50 = true := by kernel_rfl
theorem Rj : fT Tryz.prog 51 = true := by kernel_rfl
theorem VM : fT Tryz.prog 52 = true := by kernel_rfl
theorem VN : fT Tryz.prog 53 = true := by kernel_rfl
theorem VO : fT Tryz.prog 55 = true := by kernel_rfl
theorem VP : fT Tryz.prog 56 = true := by kernel_rfl
theorem VQ : fT Tryz.prog 57 = true := by kernel_rfl
theorem VR : fT Tryz.prog 58 = true := by kernel_rfl
theorem VS : fT Tryz.prog 59 = true := by kernel_rfl
theorem I2 : fT Tryz.prog 60 = true := by kernel_rfl
theorem Ow : fT Tryz.prog 61 = true := by kernel_rfl
theorem Ox : fT Tryz.prog 62 = true := by kernel_rfl
theorem VT : fT Tryz.prog 63 = true := by kernel_rfl
theorem VU : fT Tryz.prog 72 = true := by kernel_rfl
theorem tC : fT Tryz.prog 74 = true := by kernel_rfl
theorem VV : fT Tryz.prog 75 = true := by kernel_rfl
theorem I3 : fT Tryz.prog 77 = true := by kernel_rfl
theorem Rk : fT Tryz.prog 78 = true := by kernel_rfl
theorem Rl : fT Tryz.prog 79 = true := by kernel_rfl
theorem As : fT Tryz.prog 80 = true := by kernel_rfl
theorem oD : fT Tryz.prog 83 = true := by kernel_rfl
theorem FH : fT Tryz.prog 84 = true := by kernel_rfl
theorem gI : fT Tryz.prog 85 = true := by kernel_rfl
theorem LH : fT Tryz.prog 86 = true := by kernel_rfl
theorem LI : fT Tryz.prog 87 = true := by kernel_rfl
theorem VW : fT Tryz.prog 88 = true := by kernel_rfl
theorem VX : fT Tryz.prog 89 = true := by kernel_rfl
theorem VY : fT Tryz.prog 90 = true := by kernel_rfl
theorem VZ : fT Tryz.prog 91 = true := by kernel_rfl
theorem FI : fT Tryz.prog 95 = true := by kernel_rfl
theorem Rm : fT Tryz.prog 98 = true := by kernel_rfl
theorem BZ : fT Tryz.prog 107 = true := by kernel_rfl
theorem SZ : fT Tryz.prog 108 = true := by kernel_rfl
theorem S0 : fT Tryz.prog 109 = true := by kernel_rfl
theorem KH : fT Tryz.prog 118 = true := by kernel_rfl
theorem Oy : fT Tryz.prog 119 = true := by kernel_rfl
theorem S1 : fT Tryz.prog 120 = true := by kernel_rfl
theorem Oz : fT Tryz.prog 121 = true := by kernel_rfl
theorem S2 : fT Tryz.prog 122 = true := by kernel_rfl
theorem OA : fT Tryz.prog 123 = true := by kernel_rfl
theorem FJ : fT Tryz.prog 124 = true := by kernel_rfl
theorem OB : fT Tryz.prog 125 = true := by kernel_rfl
theorem FK : fT Tryz.prog 126 = true := by kernel_rfl
theorem OC : fT Tryz.prog 127 = true := by kernel_rfl
theorem KI : fT Tryz.prog 129 = true := by kernel_rfl
theorem S3 : fT Tryz.prog 130 = true := by kernel_rfl
theorem OD : fT Tryz.prog 131 = true := by kernel_rfl
theorem C1 : fT Tryz.prog 132 = true := by kernel_rfl
theorem OE : fT Tryz.prog 133 = true := by kernel_rfl
theorem S4 : fT Tryz.prog 134 = true := by kernel_rfl
theorem S5 : fT Tryz.prog 135 = true := by kernel_rfl
theorem OF : fT Tryz.prog 136 = true := by kernel_rfl
theorem S6 : fT Tryz.prog 137 = true := by kernel_rfl
theorem yS : fT Tryz.prog 141 = true := by kernel_rfl
theorem Ed : fT Tryz.prog 142 = true := by kernel_rfl
theorem S7 : fT Tryz.prog 144 = true := by kernel_rfl
theorem S8 : fT Tryz.prog 145 = true := by kernel_rfl
theorem S9 : fT Tryz.prog 146 = true := by kernel_rfl
theorem Ta : fT Tryz.prog 149 = true := by kernel_rfl
theorem Tb : fT Tryz.prog 150 = true := by kernel_rfl
theorem Tc : fT Tryz.prog 157 = true := by kernel_rfl
theorem Td : fT Tryz.prog 158 = true := by kernel_rfl
theorem Te : fT Tryz.prog 159 = true := by kernel_rfl
theorem Tf : fT Tryz.prog 160 = true := by kernel_rfl
theorem Tg : fT Tryz.prog 161 = true := by kernel_rfl
theorem OG : fT Tryz.prog 163 = true := by kernel_rfl
theorem Th : fT Tryz.prog 164 = true := by kernel_rfl
theorem Ti : fT Tryz.prog 165 = true := by kernel_rfl
theorem Tj : fT Tryz.prog 166 = true := by kernel_rfl
theorem Tk : fT Tryz.prog 168 = true := by kernel_rfl
theorem OH : fT Tryz.prog 169 = true := by kernel_rfl
theorem OJ : fT Tryz.prog 170 = true := by kernel_rfl
theorem Tl : fT Tryz.prog 172 = true := by kernel_rfl
theorem Tm : fT Tryz.prog 173 = true := by kernel_rfl
theorem Tn : fT Tryz.prog 174 = true := by kernel_rfl
theorem To : fT Tryz.prog 175 = true := by kernel_rfl
theorem OK : fT Tryz.prog 176 = true := by kernel_rfl
theorem OL : fT Tryz.prog 177 = true := by kernel_rfl
theorem Tp : fT Tryz.prog 178 = true := by kernel_rfl
theorem Tq : fT Tryz.prog 179 = true := by kernel_rfl
theorem Tr : fT Tryz.prog 180 = true := by kernel_rfl
theorem Ts : fT Tryz.prog 190 = true := by kernel_rfl
theorem Tt : fT Tryz.prog 191 = true := by kernel_rfl
theorem Tu : fT Tryz.prog 192 = true := by kernel_rfl
theorem Tv : fT Tryz.prog 193 = true := by kernel_rfl
theorem OM : fT Tryz.prog 194 = true := by kernel_rfl
theorem Tw : fT Tryz.prog 195 = true := by kernel_rfl
theorem ON : fT Tryz.prog 196 = true := by kernel_rfl
theorem Tx : fT Tryz.prog 197 = true := by kernel_rfl
theorem Ty : fT Tryz.prog 209 = true := by kernel_rfl
theorem Tz : fT Tryz.prog 220 = true := by kernel_rfl
theorem cc9 : Program.concrete Tryz.prog 9 = true := by kernel_rfl
theorem yT : Program.concrete Tryz.prog 137 = true := by kernel_rfl
theorem cU {p : Prop} (h : p := by kernel_rfl) : p := h
theorem aL {p : Prop} (h : p := by decide) : p := h
abbrev aJ := @wpList_nil
theorem gF {P : Program} {D : List Deferred} {a : Act} {w : World} {N : Nat} {l : List (Nat × Value)} {o : Oper} {x : Operand} {post : Value → World → Prop} {f : FuncId} {vs : List Value} {args : Array Operand} {ts : Array TypeId} (hf : fT P f = true) (K : Kd D a N l) (h : Calls P f vs.toArray w fun e w' => ∃ v, e = .returned v ∧ post v w') (ho : o.op = .call { callee := .value x, args := args, argTypes := ts } := by exact rfl) (hx : kE l x = some (.func (.func f) #[] #[]) := by exact rfl) (hargs : args.toList.map (kE l) = vs.map some := by exact rfl) : Ac P o a w post := k7 (cap := []) ho hf K hx hargs (by rw [List.append_nil]; exact h)
theorem AN {P : Program} {D : List Deferred} {a : Act} {w : World} {N : Nat} {l : List (Nat × Value)} {o : Oper} {x : Operand} {Pn : List PanicEntry → World → Prop} {f : FuncId} {vs : List Value} {args : Array Operand} {ts : Array TypeId} (hf : fT P f = true) (K : Kd D a N l) (h : Calls P f vs.toArray w fun e w' => ∃ ch, e = .panicked ch ∧ Pn ch w') (ho : o.op = .call { callee := .value x, args := args, argTypes := ts } := by exact rfl) (hx : kE l x = some (.func (.func f) #[] #[]) := by exact rfl) (hargs : args.toList.map (kE l) = vs.map some := by exact rfl) : Bo P o a w Pn := Ql (cap := []) ho hf K hx hargs (by rw [List.append_nil]; exact h)
theorem Mem.qO {base : Nat} {W w : World} {x0 x1 : lL} {TL : List lL} (M : Mem base W w (x0 :: x1 :: TL)) : Mem base W w (x1 :: x0 :: TL) := Mem.oC (H := [x0, x1]) 2 rfl M [1,0] (by decide) (by decide)
theorem Mem.At {base : Nat} {W w : World} {x0 x1 x2 : lL} {TL : List lL} (M : Mem base W w (x0 :: x1 :: x2 :: TL)) : Mem base W w (x1 :: x2 :: x0 :: TL) := Mem.oC (H := [x0, x1, x2]) 3 rfl M [1,2,0] (by decide) (by decide)
theorem Mem.I4 {base : Nat} {W w : World} {x0 x1 x2 : lL} {TL : List lL} (M : Mem base W w (x0 :: x1 :: x2 :: TL)) : Mem base W w (x2 :: x0 :: x1 :: TL) := Mem.oC (H := [x0, x1, x2]) 3 rfl M [2,0,1] (by decide) (by decide)
theorem Mem.C2 {base : Nat} {W w : World} {x0 x1 x2 x3 : lL} {TL : List lL} (M : Mem base W w (x0 :: x1 :: x2 :: x3 :: TL)) : Mem base W w (x2 :: x3 :: x0 :: x1 :: TL) := Mem.oC (H := [x0, x1, x2, x3]) 4 rfl M [2,3,0,1] (by decide) (by decide)
theorem C3 {N : Nat} {w0 : World} {r : List Int} (h : tL N  = some r) :
  Calls Tryz.prog 149 #[] w0 fun e w' => ∃ v, e = .returned v ∧ ∃ A0 c0, v = .slice A0 r.length c0 ∧ Mem w0.heap.size w0 w' [.row 3 1 A0 r.length c0 ((cI .i64).all r)] := by
 refine cR Tryz.func149 rfl Tryz.ntmps149 rfl ?_;intro a K;have M := Mem.start w0;have K : Kn a 2 [] := K;unfold tL at h;refine wp_seq (aB ?_);refine aK K M ?_; clear K; intro a K;refine aJ (aA (wp_seq (aB ?_)));refine eB K (eG rfl g7 z3 K (vs := [(0, I 2), (1, I 3), (2, I 3), (3, I 4), (4, I 4), (5, I 4), (6, I 5), (7, I 5), (8, I 5), (9, I 6), (10, I 6), (11, I 6), (12, I 7), (13, I 7), (14, I 7), (15, I 8), (16, I 8)]) (cs := [I 2, I 3, I 3, I 4, I 4, I 4, I 5, I 5, I 5, I 6, I 6, I 6, I 7, I 7, I 7, I 8, I 8]) rfl cU rfl rfl M) ?_;have M0 := M; clear K M; rintro _ a w ⟨gs, rfl, M⟩ K;replace M := M.kA 0 rfl (cI .i64) ([2, 3, 3, 4, 4, 4, 5, 5, 5, 6, 6, 6, 7, 7, 7, 8, 8] : List Int) (n := 17) rfl rfl rfl;clear M0;refine aK K M ?_; clear K; intro a K;refine aJ (aA (wp_ret ?_));cases h;exact dD K rfl (aE K rfl) ⟨_, rfl, _, _, rfl, M.pick [0] aL⟩
theorem B1 {N : Nat} {w0 : World} {r : List (Int × Int)} (h : sB N  = some r) :
  Calls Tryz.prog 144 #[] w0 fun e w' => ∃ v, e = .returned v ∧ ∃ A0 c0, v = .slice A0 r.length c0 ∧ Mem w0.heap.size w0 w' [.row 47 2 A0 r.length c0 (fC.all r)] := by
 refine cR Tryz.func144 rfl Tryz.ntmps144 rfl ?_;intro a K;have M := Mem.start w0;have K : Kn a 4 [] := K;unfold sB at h;refine wp_seq (aB ?_);refine aK K M ?_; clear K; intro a K;refine aJ (aA (wp_seq (aB ?_)));refine dU K (dK rfl K (vs := []) (cs := [I 0, I 0]) rfl cU) M ?_; clear K;refine bA (fun _ K => dK rfl K (vs := [(0, I 65535), (1, I 65535)]) (cs := [I 65535, I 65535]) rfl cU) M ?_; intro a K;refine eB K (eG rfl sI z47 K (vs := [(0, .agg #[I 0, I 0]), (1, .agg #[I 65535, I 65535])]) (cs := [I 0, I 0, I 65535, I 65535]) rfl cU rfl rfl M) ?_;have M0 := M; clear K M; rintro _ a w ⟨gs, rfl, M⟩ K;replace M := M.kA 0 rfl fC ([(0, 0), (65535, 65535)] : List (Int × Int)) (n := 2) rfl rfl rfl;clear M0;refine aK K M ?_; clear K; intro a K;refine aJ (aA (wp_ret ?_));cases h;exact dD K rfl (aE K rfl) ⟨_, rfl, _, _, rfl, M.pick [0] aL⟩
end
end Go.Proofs.YtpmnfhifmmfglacGreatDoor
