/- Texts of the claim RawBack, joined and made small by a program. -/
import Derived.KernelRfl
import Derived.Test.YtpmnfhifmmfglacGreatDoorRawBackK4
import Derived.Test.YtpmnfhifmmfglacGreatDoorRawBackK5
import Derived.Test.YtpmnfhifmmfglacGreatDoorRawBackK6
import Derived.Test.YtpmnfhifmmfglacGreatDoorRawBackK7
set_option linter.unusedVariables false
set_option linter.unusedSimpArgs false
set_option linter.unusedSectionVars false
set_option maxRecDepth 100000
set_option maxHeartbeats 8000000
namespace Go.Proofs.YtpmnfhifmmfglacGreatDoor
section
open Go
abbrev Gf := Int × Int × Int × Int × Int × List Int × List (List UInt8) × Int × Int × Int × Int × Int × Int × List (Int × Int) × Int × Int × Int × Int × Int × Int × Int × Int × Int × Int × Int × Int × List (Int × Int) × Int × Int
def RN (e : Int) : Gf := (0, 0, 0, 0, 0, [], [], 0, 0, 0, 0, 0, 0, [], 0, 0, 0, 0, 0, 0, 0, 0, 0, 0, 0, 0, [], 0, e)
theorem U3 {β : Type} {a b : Prop} [Decidable a] [Decidable b] (kk : Bool → Option β) : cond (decide a) (kk (decide a)) (kk (decide b)) = kk (decide (a ∨ b)) := by
 by_cases h : a
 ·rw [decide_eq_true h, decide_eq_true (show a ∨ b from Or.inl h)]; rfl
 ·rw [decide_eq_false h]
  by_cases h2 : b
  ·rw [decide_eq_true h2, decide_eq_true (show a ∨ b from Or.inr h2)]; rfl
  ·rw [decide_eq_false h2, decide_eq_false (show ¬ (a ∨ b) from fun q => q.elim h h2)]; rfl
section
variable (W H D K R : Int) (Ls : List Int) (St : List (List UInt8)) (ph b0 b1 b2 b3 w : Int) (sp : List (Int × Int)) (g0 g1 g2 m0 m1 m2 m3 m4 m5 m6 m7 m8 : Int) (cv : List (Int × Int)) (am : Int)
theorem TZ (N : Nat) (kk) : xZ N H R kk = kk (decide (R < 1 ∨ H < R)) := by unfold xZ; exact U3 kk
theorem T0 (N : Nat) (kk) : yA N H D R kk = kk (decide (16 < D ∨ R < 1 ∨ H < R)) := by unfold yA; rw [TZ]; exact U3 kk
theorem T1 (N : Nat) (kk) : yB N H D R kk = kk (decide (D < 1 ∨ 16 < D ∨ R < 1 ∨ H < R)) := by unfold yB; rw [T0]; exact U3 kk
theorem T2 (N : Nat) (kk) : yC N H D R kk = kk (decide (64 < H ∨ D < 1 ∨ 16 < D ∨ R < 1 ∨ H < R)) := by unfold yC; rw [T1]; exact U3 kk
theorem T3 (N : Nat) (kk) : yD N H D R kk = kk (decide (H < 1 ∨ 64 < H ∨ D < 1 ∨ 16 < D ∨ R < 1 ∨ H < R)) := by unfold yD; rw [T2]; exact U3 kk
theorem T4 (N : Nat) (kk) : yE N W H D R kk = kk (decide (64 < W ∨ H < 1 ∨ 64 < H ∨ D < 1 ∨ 16 < D ∨ R < 1 ∨ H < R)) := by unfold yE; rw [T3]; exact U3 kk
theorem T5 (N : Nat) (kk) : yG N W H D R kk = kk (decide (W < 1 ∨ 64 < W ∨ H < 1 ∨ 64 < H ∨ D < 1 ∨ 16 < D ∨ R < 1 ∨ H < R)) := by unfold yG; rw [T4]; exact U3 kk
theorem T6 (N : Nat) (kk) : yF N K kk = kk (decide (K < 0 ∨ 7 < K)) := by unfold yF; exact U3 kk
def uL : Prop := (1 ≤ W ∧ W ≤ 64) ∧ (1 ≤ H ∧ H ≤ 64) ∧ (1 ≤ D ∧ D ≤ 16) ∧ 1 ≤ R ∧ R ≤ H
instance : Decidable (uL W H D R) := by unfold uL; exact inferInstance
def qC : Int := if ¬ uL W H D R then 3 else if ¬ (0 ≤ K ∧ K ≤ 7) then 6 else if 0 < K then jK Ls else if 0 < Ls.length then 1 else 0
theorem I9 (N : Nat) (hN : 100 ≤ N) : xP N W H D K R Ls St ph b0 b1 b2 b3 w sp g0 g1 g2 m0 m1 m2 m3 m4 m5 m6 m7 m8 cv am = some (qC W H D K R Ls) := by
 unfold xP qC;rw [T5]
 by_cases h1 : uL W H D R
 rotate_left
 ·rw [cT (decide_eq_true (by unfold uL at h1; omega)), if_pos h1]
 rw [cF (decide_eq_false (by unfold uL at h1; omega)), if_neg (fun q => q h1), T6]
 by_cases h2 : 0 ≤ K ∧ K ≤ 7
 rotate_left
 ·rw [cT (decide_eq_true (by omega)), if_pos h2]
 rw [cF (decide_eq_false (by omega)), if_neg (fun q => q h2)]
 by_cases h3 : 0 < K
 ·rw [cT (dT h3), B7 N hN, aD, if_pos h3]
 rw [cF (dF h3), if_neg h3]
 by_cases h4 : 0 < Ls.length
 ·rw [cT (dT (by omega)), if_pos h4]
 ·rw [cF (dF (by omega)), if_neg h4]
theorem RO (N : Nat) (hN : 100 ≤ N) : qL N W H D K R Ls St ph b0 b1 b2 b3 w sp g0 g1 g2 m0 m1 m2 m3 m4 m5 m6 m7 m8 cv am = some (qC W H D K R Ls) := by
 unfold qL qC;rw [sN, aD]
 by_cases h1 : 1 ≤ W ∧ W ≤ 64
 rotate_left
 ·rw [cT (by rw [dF h1]; rfl), if_pos (fun q => h1 q.1)]
 rw [cF (by rw [dT h1]; rfl), sN, aD]
 by_cases h2 : 1 ≤ H ∧ H ≤ 64
 rotate_left
 ·rw [cT (by rw [dF h2]; rfl), if_pos (fun q => h2 q.2.1)]
 rw [cF (by rw [dT h2]; rfl), sN, aD]
 by_cases h3 : 1 ≤ D ∧ D ≤ 16
 rotate_left
 ·rw [cT (by rw [dF h3]; rfl), if_pos (fun q => h3 q.2.2.1)]
 rw [cF (by rw [dT h3]; rfl), sN, aD]
 by_cases h4 : 1 ≤ R ∧ R ≤ H
 rotate_left
 ·rw [cT (by rw [dF h4]; rfl), if_pos (fun q => h4 q.2.2.2)]
 rw [cF (by rw [dT h4]; rfl), sN, aD, if_neg (fun q => q ⟨h1, h2, h3, h4⟩)]
 by_cases h5 : 0 ≤ K ∧ K ≤ 7
 rotate_left
 ·rw [cT (by rw [dF h5]; rfl), if_pos h5]
 rw [cF (by rw [dT h5]; rfl), if_neg (fun q => q h5)]
 by_cases h6 : K = 0
 ·rw [cT (dT h6), if_neg (by omega)]
  by_cases h7 : 0 < Ls.length
  ·rw [cT (dT (by omega)), if_pos h7]
  ·rw [cF (dF (by omega)), cF (dF (by omega)), if_neg h7]
 ·rw [cF (dF h6), cT (dT (by omega)), FL N hN, aD, if_pos (by omega)]
def Ep (f : Bool) : Int := if Cu ph b0 b1 b2 b3 w sp g0 g1 g2 m0 m1 m2 m3 m4 m5 m6 m7 m8 am = false then 3 else if f = false then 1 else if sp.all (kD W H) = false then 3 else 0
theorem WY (s : List (Int × Int)) (hl : s.length ≤ 4096) : ∀ (d k fuel : Nat), k + d = s.length → d < fuel →
  ∃ r, dI 8589934592 s W H D K R Ls St ph b0 b1 b2 b3 w sp g0 g1 g2 m0 m1 m2 m3 m4 m5 m6 m7 m8 cv am (fun _ => some (-1)) fuel (k : Int) = some r ∧ decide (0 ≤ r) = !((s.drop k).all fun q => decide (q.1 < W ∧ q.2 < H)) := by
 intro d
 induction d with
 | zero =>
  intro k fuel hk hf;obtain ⟨fuel, rfl⟩ : ∃ m, fuel = m + 1 := ⟨fuel - 1, by omega⟩
  obtain rfl : k = s.length := by omega
  unfold dI;rw [cF (dF (by omega))];exact ⟨_, rfl, by simp⟩
 | succ d ih =>
  intro k fuel hk hf;obtain ⟨fuel, rfl⟩ : ∃ m, fuel = m + 1 := ⟨fuel - 1, by omega⟩
  have hlt : k < s.length := by omega
  unfold dI z6;rw [cT (dT (by omega)), eX, List.getElem?_eq_getElem hlt, aD, List.drop_eq_getElem_cons hlt, List.all_cons]
  by_cases h1 : W ≤ s[k].1
  ·rw [cT (dT h1), aD, cT rfl];refine ⟨_, rfl, ?_⟩;rw [dT (by omega), decide_eq_false (show ¬ (s[k].1 < W ∧ s[k].2 < H) by omega)]; rfl
  rw [cF (dF h1), aD]
  by_cases h2 : H ≤ s[k].2
  ·rw [cT (dT h2)];refine ⟨_, rfl, ?_⟩;rw [dT (by omega), decide_eq_false (show ¬ (s[k].1 < W ∧ s[k].2 < H) by omega)]; rfl
  ·rw [cF (dF h2), gE (by omega), decide_eq_true (show (s[k].1 < W ∧ s[k].2 < H) by omega), Bool.true_and];exact ih (k + 1) fuel (by omega) (by omega)
theorem LC (s : List (Int × Int)) (hl : s.length ≤ 4096) : eC 8589934592 s W H D K R Ls St ph b0 b1 b2 b3 w sp g0 g1 g2 m0 m1 m2 m3 m4 m5 m6 m7 m8 cv am = some (!(s.all fun q => decide (q.1 < W ∧ q.2 < H))) := by
 obtain ⟨r, hr, hd⟩ := WY W H D K R Ls St ph b0 b1 b2 b3 w sp g0 g1 g2 m0 m1 m2 m3 m4 m5 m6 m7 m8 cv am s hl s.length 0 8589934592 (by omega) (by omega);have hr' : dI 8589934592 s W H D K R Ls St ph b0 b1 b2 b3 w sp g0 g1 g2 m0 m1 m2 m3 m4 m5 m6 m7 m8 cv am (fun _ => some (-1)) 8589934592 0 = some r := hr;unfold eC fS;rw [hr', aD, hd, List.drop_zero]
theorem MX {s : List (Int × Int)} (h : s.all (kD 64 64) = true) : (s.all fun q => decide (q.1 < W ∧ q.2 < H)) = s.all (kD W H) := by
 induction s with
 | nil => rfl
 | cons q s ih =>
  rw [List.all_cons, Bool.and_eq_true] at h;rw [List.all_cons, List.all_cons, ih h.2]
  congr 1
  have h1 := h.1;unfold kD at h1 ⊢;simp only [Bool.and_eq_true, decide_eq_true_eq] at h1;rw [dT h1.1.1.1, dT h1.1.2, Bool.true_and, Bool.and_true]
  by_cases a : q.1 < W <;> by_cases b : q.2 < H <;> simp [a, b]
theorem Hu (h : Cu ph b0 b1 b2 b3 w sp g0 g1 g2 m0 m1 m2 m3 m4 m5 m6 m7 m8 am = true) : sp.length ≤ 64 ∧ sp.all (kD 64 64) = true := by
 unfold Cu at h;simp only [Bool.and_eq_true, decide_eq_true_eq] at h;exact ⟨h.2.2.2.1, h.2.2.2.2.1⟩
theorem Ja {f : Bool} (hb : jT 8589934592 cv = some f) (hc : f = true ↔ qS cv) : xQ 8589934592 W H D K R Ls St ph b0 b1 b2 b3 w sp g0 g1 g2 m0 m1 m2 m3 m4 m5 m6 m7 m8 cv am = some (Ep W H ph b0 b1 b2 b3 w sp g0 g1 g2 m0 m1 m2 m3 m4 m5 m6 m7 m8 am f) := by
 unfold xQ Ep;rw [QX ph b0 b1 b2 b3 w sp g0 g1 g2 m0 m1 m2 m3 m4 m5 m6 m7 m8 cv am hb hc, aD]
 by_cases h1 : Cu ph b0 b1 b2 b3 w sp g0 g1 g2 m0 m1 m2 m3 m4 m5 m6 m7 m8 am = false
 ·rw [if_pos h1, cT (by rfl), if_pos h1]
 rw [if_neg h1, if_neg h1];have h1' := (Bool.not_eq_false _).mp h1
 by_cases h2 : f = false
 ·rw [if_pos h2, cT (by rfl), if_pos h2]
 rw [if_neg h2, cF (by rfl), if_neg h2];obtain ⟨p1, p2⟩ := Hu ph b0 b1 b2 b3 w sp g0 g1 g2 m0 m1 m2 m3 m4 m5 m6 m7 m8 am h1';rw [LC W H D K R Ls St ph b0 b1 b2 b3 w sp g0 g1 g2 m0 m1 m2 m3 m4 m5 m6 m7 m8 cv am sp (by omega), aD, MX W H p2]
 by_cases h3 : sp.all (kD W H) = false
 ·rw [h3, if_pos rfl, cT (by rfl)]
 ·rw [(Bool.not_eq_false _).mp h3, cF (by rfl), if_neg (by decide)]
theorem RP {f : Bool} (hb : iQ 8589934592 cv = some f) (hW : 1 ≤ W ∧ W ≤ 64) (hH : 1 ≤ H ∧ H ≤ 64) : qN 8589934592 W H D K R Ls St ph b0 b1 b2 b3 w sp g0 g1 g2 m0 m1 m2 m3 m4 m5 m6 m7 m8 cv am = some (Ep W H ph b0 b1 b2 b3 w sp g0 g1 g2 m0 m1 m2 m3 m4 m5 m6 m7 m8 am f) := by
 unfold qN Ep;rw [JR ph b0 b1 b2 b3 w sp g0 g1 g2 m0 m1 m2 m3 m4 m5 m6 m7 m8 cv am hb, aD]
 by_cases h1 : Cu ph b0 b1 b2 b3 w sp g0 g1 g2 m0 m1 m2 m3 m4 m5 m6 m7 m8 am = false
 ·rw [if_pos h1, cT (by rfl), if_pos h1]
 rw [if_neg h1, if_neg h1];have h1' := (Bool.not_eq_false _).mp h1
 by_cases h2 : f = false
 ·rw [if_pos h2, cT (by rfl), if_pos h2]
 rw [if_neg h2, cF (by rfl), if_neg h2];obtain ⟨p1, p2⟩ := Hu ph b0 b1 b2 b3 w sp g0 g1 g2 m0 m1 m2 m3 m4 m5 m6 m7 m8 am h1';rw [Hc sp (by omega) (by omega) (by omega), aD]
 by_cases h3 : sp.all (kD W H) = false
 ·rw [h3, if_pos rfl, cT (by rfl)]
 ·rw [(Bool.not_eq_false _).mp h3, cF (by rfl), if_neg (by decide)]
end
theorem WZ (N : Nat) {l : List Int} (hl : l.length ≤ 4096) : ∀ (j k fuel : Nat) (m : Int), k + j = l.length → j < fuel → ∃ M, j6 N l (fun (m4, i4) => some m4) fuel (m, (k : Int)) = some M ∧ ∀ b, M ≤ b ↔ m ≤ b ∧ ∀ e ∈ l.drop k, e ≤ b := by
 intro j
 induction j with
 | zero =>
  intro k fuel m hk hf;obtain ⟨fuel, rfl⟩ : ∃ q, fuel = q + 1 := ⟨fuel - 1, by omega⟩
  unfold j6;rw [cF (dF (by omega))];refine ⟨m, rfl, fun b => ⟨fun h => ⟨h, fun e he => ?_⟩, fun h => h.1⟩⟩;rw [List.drop_of_length_le (by omega)] at he; cases he
 | succ j ih =>
  intro k fuel m hk hf;obtain ⟨fuel, rfl⟩ : ∃ q, fuel = q + 1 := ⟨fuel - 1, by omega⟩
  have hlt : k < l.length := by omega
  obtain ⟨M, h1, h2⟩ := ih (k + 1) fuel (max m l[k]) (by omega) (by omega);refine ⟨M, ?_, fun b => ?_⟩
  ·unfold j6;rw [cT (dT (by omega)), eX, List.getElem?_eq_getElem hlt, aD, aD, gE (x := (k : Int) + 1) (by omega), aD];exact h1
  ·rw [h2 b, List.drop_eq_getElem_cons hlt]
   constructor
   ·rintro ⟨q1, q2⟩;refine ⟨by omega, fun e he => ?_⟩
    rcases List.mem_cons.1 he with rfl | he
    ·omega
    ·exact q2 e he
   ·rintro ⟨q1, q2⟩;have := q2 l[k] (List.mem_cons_self ..);exact ⟨by omega, fun e he => q2 e (List.mem_cons_of_mem _ he)⟩
theorem max_eq (N : Nat) {l : List Int} (h0 : 1 ≤ l.length) (hl : l.length ≤ 4096) (hN : 5000 ≤ N) : ∃ M, lG N l = some M ∧ ∀ b, M ≤ b ↔ ∀ e ∈ l, e ≤ b := by
 obtain ⟨x, l, rfl⟩ : ∃ x t, l = x :: t := by
  cases l with
  | nil => simp at h0
  | cons x t => exact ⟨x, t, rfl⟩
 obtain ⟨M, h1, h2⟩ := WZ N hl ((x :: l).length - 1) 1 N x (by omega) (by omega);refine ⟨M, ?_, fun b => ?_⟩
 ·unfold lG;rw [cF (dF (by omega)), show idx (x :: l) 0 = some x from rfl, aD];exact h1
 ·rw [h2 b, List.drop_one, List.tail_cons]
  constructor
  ·rintro ⟨q1, q2⟩ e he
   rcases List.mem_cons.1 he with rfl | he
   ·exact q1
   ·exact q2 e he
  ·intro q; exact ⟨q x (List.mem_cons_self ..), fun e he => q e (List.mem_cons_of_mem _ he)⟩
theorem T7 (N : Nat) {l : List Int} (hl : l.length ≤ 4096) {d : Nat} (hd : 1 ≤ d ∧ d ≤ 16) (kk) : ∀ (j k fuel : Nat), k + j = l.length → j < fuel → k7 N l (d : Int) kk fuel (k : Int) = if (l.drop k).all (fun e => decide (e < ((2 ^ d : Nat) : Int))) = true then kk (l.length : Int) else some false := by
 intro j
 induction j with
 | zero =>
  intro k fuel hk hf;obtain ⟨fuel, rfl⟩ : ∃ q, fuel = q + 1 := ⟨fuel - 1, by omega⟩
  obtain rfl : k = l.length := by omega
  unfold k7;rw [cF (dF (by omega)), List.drop_length, if_pos (by rfl)]
 | succ j ih =>
  intro k fuel hk hf;obtain ⟨fuel, rfl⟩ : ∃ q, fuel = q + 1 := ⟨fuel - 1, by omega⟩
  have hlt : k < l.length := by omega
  have hnx : IntKind.i64.wrap ((k : Int) + 1) = ((k + 1 : Nat) : Int) := by rw [gE (by omega)]; rfl
  have hp := vI (d := d) hd.2;have hp0 := Nat.two_pow_pos d;unfold k7;rw [cT (dT (by omega)), eX, List.getElem?_eq_getElem hlt, aD, rY, aD, AS hd.2, gE (x := ((2 ^ d : Nat) : Int) - 1) (by omega), List.drop_eq_getElem_cons hlt, List.all_cons]
  by_cases h : l[k] < ((2 ^ d : Nat) : Int)
  ·rw [cF (dF (by omega)), hnx, aD, ih (k + 1) fuel (by omega) (by omega), decide_eq_true h, Bool.true_and]
  ·rw [cT (dT (by omega)), if_neg];rw [decide_eq_false h]; simp
theorem T8 (N : Nat) (hN : 5000 ≤ N) {l : List Int} (hl : l.length ≤ 4096) {d : Nat} (hd : 1 ≤ d ∧ d ≤ 16) : sK N l (d : Int) = some (l.all (fun e => decide (e < ((2 ^ d : Nat) : Int)))) := by
 unfold sK;have := T7 N hl hd (fun _ => some true) l.length 0 N (by omega) (by omega);refine Eq.trans this ?_;rw [List.drop_zero]
 split
 ·rename_i h; rw [h]
 ·rename_i h; rw [(Bool.not_eq_true _).mp h]
def qZ (H R : Nat) : Nat := (H + R - 1) / R
def jI (H R i : Nat) : Nat := min R (H - i * R)
theorem cnt_lt {H R i : Nat} (hR : 1 ≤ R) : i < qZ H R ↔ i * R < H := by
 unfold qZ;rw [Nat.lt_div_iff_mul_lt (by omega)]
 omega
theorem AB {H R : Nat} (hR : 1 ≤ R) (hH : 1 ≤ H) : qZ H R ≤ H ∧ 1 ≤ qZ H R := by
 refine ⟨?_, ?_⟩
 ·unfold qZ;refine Nat.div_le_of_le_mul ?_;have : R * H = (R - 1) * H + H := by rw [Nat.sub_mul]; have := Nat.le_mul_of_pos_left H hR; omega
  have h2 : R - 1 ≤ (R - 1) * H := Nat.le_mul_of_pos_right _ hH
  omega
 ·have := (cnt_lt (H := H) (i := 0) hR).2 (by omega)
  omega
theorem Hv (N : Nat) {H R : Nat} (hR : 1 ≤ R ∧ R ≤ H) (hH : H ≤ 64) (kk) : ∀ (j k fuel : Nat), k + j = qZ H R → j < fuel →
  pV N (H : Int) (R : Int) kk fuel ((List.range k).map fun i => (((i * R : Nat) : Int), ((jI H R i : Nat) : Int)), ((k * R : Nat) : Int)) = kk ((List.range (qZ H R)).map fun i => (((i * R : Nat) : Int), ((jI H R i : Nat) : Int)), ((qZ H R * R : Nat) : Int)) := by
 have hcl := AB (H := H) (R := R) hR.1 (by omega);intro j
 induction j with
 | zero =>
  intro k fuel hk hf;obtain ⟨fuel, rfl⟩ : ∃ q, fuel = q + 1 := ⟨fuel - 1, by omega⟩
  obtain rfl : k = qZ H R := by omega
  have := mt (cnt_lt (H := H) (R := R) (i := qZ H R) hR.1).2 (by omega);unfold pV;rw [cF (dF (by omega))]
 | succ j ih =>
  intro k fuel hk hf;obtain ⟨fuel, rfl⟩ : ∃ q, fuel = q + 1 := ⟨fuel - 1, by omega⟩
  have hlt := (cnt_lt (H := H) (R := R) (i := k) hR.1).1 (by omega)
  have e1 : min (R : Int) (IntKind.i64.wrap ((H : Int) - ((k * R : Nat) : Int))) = ((jI H R k : Nat) : Int) := by
   rw [gE (by omega)]; unfold jI; omega
  have e2 : IntKind.i64.wrap (((k * R : Nat) : Int) + (R : Int)) = (((k + 1) * R : Nat) : Int) := by
   rw [Nat.add_mul, gE (by omega)]; omega
  unfold pV;rw [cT (dT (by omega)), e1, iO (by simp; omega), aD, e2, aD];have := ih (k + 1) fuel (by omega) (by omega);rw [List.range_succ, List.map_append, List.map_singleton] at this;exact this
def partOf (W H R : Nat) (P : List Int) (i : Nat) : List Int := (P.take ((i * R + jI H R i) * W)).drop (i * R * W)
def zV (D : Nat) (K : Int) (Ls : List Int) (W H R : Nat) (P : List Int) : Nat → Nat → List (List UInt8) → List (List UInt8) × Int
 | 0, _, acc => (acc, 0)
 | n + 1, i, acc => if 0 < K then (if (qB (W : Int) ((jI H R i : Nat) : Int) (partOf W H R P i) K Ls).2 = 0 then zV D K Ls W H R P n (i + 1) (acc ++ [(qB (W : Int) ((jI H R i : Nat) : Int) (partOf W H R P i) K Ls).1]) else ([], (qB (W : Int) ((jI H R i : Nat) : Int) (partOf W H R P i) K Ls).2))
  else zV D K Ls W H R P n (i + 1) (acc ++ [(xK D (partOf W H R P i)).map UInt8.ofNat])
theorem Ka {W H R i : Nat} {P : List Int} (hl : P.length = W * H) (hR : 1 ≤ R) (hi : i < qZ H R) : (i * R + jI H R i) * W ≤ P.length ∧ i * R * W ≤ (i * R + jI H R i) * W ∧ i * R + jI H R i ≤ H := by
 have h1 := (cnt_lt (H := H) (R := R) (i := i) hR).1 hi;have h2 : i * R + jI H R i ≤ H := by unfold jI; omega
 refine ⟨?_, Nat.mul_le_mul_right _ (by omega), h2⟩;rw [hl, Nat.mul_comm W H];exact Nat.mul_le_mul_right _ h2
section
variable (W H D K R : Int) (Ls : List Int) (St : List (List UInt8)) (ph b0 b1 b2 b3 w : Int) (sp : List (Int × Int)) (g0 g1 g2 m0 m1 m2 m3 m4 m5 m6 m7 m8 : Int) (cv : List (Int × Int)) (am : Int)
theorem Kb (N : Nat) (hN : 200000 ≤ N) {W H R d : Nat} (hW : 1 ≤ W ∧ W ≤ 64) (hH : 1 ≤ H ∧ H ≤ 64) (hR : 1 ≤ R ∧ R ≤ H) (hd : 1 ≤ d ∧ d ≤ 16) {P : List Int} (hl : P.length = W * H) (hP : P.all (KL d) = true) (kk : List (List UInt8) × Int → Option Gf) : ∀ (j k fuel : Nat) (acc : List (List UInt8)), k + j = qZ H R → j < fuel → acc.length = k →
  qK N (d : Int) K Ls (W : Int) P ((List.range (qZ H R)).map fun i => (((i * R : Nat) : Int), ((jI H R i : Nat) : Int))) kk fuel (acc, (k : Int)) = if (zV d K Ls W H R P j k acc).2 = 0 then kk ((zV d K Ls W H R P j k acc).1, ((qZ H R : Nat) : Int)) else some (RN (zV d K Ls W H R P j k acc).2) := by
 have hcl := AB (H := H) (R := R) hR.1 hH.1;have hm := Nat.mul_le_mul hW.2 hH.2;intro j
 induction j with
 | zero =>
  intro k fuel acc hk hf ha;obtain ⟨fuel, rfl⟩ : ∃ q, fuel = q + 1 := ⟨fuel - 1, by omega⟩
  unfold qK zV;rw [cF (dF (by simp; omega)), if_pos rfl]
  congr 2
  omega
 | succ j ih =>
  intro k fuel acc hk hf ha;obtain ⟨fuel, rfl⟩ : ∃ q, fuel = q + 1 := ⟨fuel - 1, by omega⟩
  obtain ⟨q1, q2, q3⟩ := Ka hl hR.1 (i := k) (by omega);have hnx : IntKind.i64.wrap ((k : Int) + 1) = ((k + 1 : Nat) : Int) := by rw [gE (by omega)]; rfl
  have e1 : IntKind.i64.wrap (((k * R : Nat) : Int) * (W : Int)) = ((k * R * W : Nat) : Int) := by rw [show ((k * R : Nat) : Int) * (W : Int) = ((k * R * W : Nat) : Int) by simp, gE (by omega)]
  have e2 : IntKind.i64.wrap (IntKind.i64.wrap (((k * R : Nat) : Int) + ((jI H R k : Nat) : Int)) * (W : Int)) = (((k * R + jI H R k) * W : Nat) : Int) := by
   rw [gE (x := ((k * R : Nat) : Int) + _) (by omega), show (((k * R : Nat) : Int) + ((jI H R k : Nat) : Int)) * (W : Int) = (((k * R + jI H R k) * W : Nat) : Int) by simp, gE (by omega)]
  have hs : Bv P ((k * R * W : Nat) : Int) (((k * R + jI H R k) * W : Nat) : Int) = some (partOf W H R P k) := by
   rw [Bm (by omega), Int.toNat_natCast, Int.toNat_natCast]; rfl
  have hpa : (partOf W H R P k).all (KL d) = true := by
   rw [List.all_eq_true] at hP ⊢;exact fun x hx => hP x (List.mem_of_mem_take (List.mem_of_mem_drop hx))
  have hpl : (partOf W H R P k).length ≤ 4096 := by unfold partOf; rw [List.length_drop, List.length_take]; omega
  have hpe : vU (partOf W H R P k) (d : Int) = 0 := by unfold vU; rw [if_neg (by omega), if_neg (by omega), Int.toNat_natCast, if_pos hpa]
  unfold qK zV;rw [cT (dT (by simp; omega)), eX, List.getElem?_map, List.getElem?_range (by omega)];show Option.bind (some _) _ = _;rw [aD]
  dsimp only
  rw [e1, e2, hs, aD, Tz N (by omega), aD, if_pos hpe]
  by_cases hK : 0 < K
  ·rw [cT (dT hK), Hr N hN, aD, if_pos hK]
   by_cases h0 : (qB (W : Int) ((jI H R k : Nat) : Int) (partOf W H R P k) K Ls).2 = 0
   ·rw [cF (by rw [dT h0]; rfl), iO (by simp; omega), aD, hnx, if_pos h0];exact ih (k + 1) fuel _ (by omega) (by omega) (by simp; omega)
   ·rw [cT (by rw [dF h0]; rfl), if_neg h0, if_neg h0]; rfl
  ·rw [cF (dF hK), if_neg hK, cF (by rfl), iO (by simp; omega), aD, hnx, Int.toNat_natCast];exact ih (k + 1) fuel _ (by omega) (by omega) (by simp; omega)
def Jb (f : Bool) (oW oH : Int) (P : List Int) : Gf :=
 if qC W H D K R Ls ≠ 0 then RN (qC W H D K R Ls) else if Ep W H ph b0 b1 b2 b3 w sp g0 g1 g2 m0 m1 m2 m3 m4 m5 m6 m7 m8 am f ≠ 0 then RN (Ep W H ph b0 b1 b2 b3 w sp g0 g1 g2 m0 m1 m2 m3 m4 m5 m6 m7 m8 am f) else
 if I5 oW oH P = false ∨ oW ≠ W ∨ oH ≠ H ∨ P.all (fun e => decide (e < ((2 ^ D.toNat : Nat) : Int))) = false then RN 1 else
 if (zV D.toNat K Ls W.toNat H.toNat R.toNat P (qZ H.toNat R.toNat) 0 []).2 = 0 then (W, H, D, K, R, Ls, (zV D.toNat K Ls W.toNat H.toNat R.toNat P (qZ H.toNat R.toNat) 0 []).1, ph, b0, b1, b2, b3, w, sp, g0, g1, g2, m0, m1, m2, m3, m4, m5, m6, m7, m8, cv, am, 0) else RN (zV D.toNat K Ls W.toNat H.toNat R.toNat P (qZ H.toNat R.toNat) 0 []).2
theorem DM (h : qC W H D K R Ls = 0) : uL W H D R ∧ (0 ≤ K ∧ K ≤ 7) ∧ (Ls.length ≤ 17) ∧ (0 < K → jK Ls = 0) := by
 unfold qC at h
 by_cases h1 : uL W H D R
 rotate_left
 ·rw [if_pos h1] at h; cases h
 rw [if_neg (fun q => q h1)] at h
 by_cases h2 : 0 ≤ K ∧ K ≤ 7
 rotate_left
 ·rw [if_pos h2] at h; cases h
 rw [if_neg (fun q => q h2)] at h;refine ⟨h1, h2, ?_⟩
 by_cases h3 : 0 < K
 ·rw [if_pos h3] at h;refine ⟨?_, fun _ => h⟩;obtain ⟨ns, rfl, _, _, Lv, _⟩ := wY h;rw [hF]; exact Lv
 ·rw [if_neg h3] at h;refine ⟨?_, fun q => absurd q h3⟩
  by_cases h4 : 0 < Ls.length
  ·rw [if_pos h4] at h; cases h
  ·omega
theorem W0 (N : Nat) (hN : 5000 ≤ N) (W H : Int) (P : List Int) : jQ W H P = I5 W H P := Option.some.inj ((JN N W H P hN).symm.trans (Lw N hN W H P))
theorem Jc {cv : List (Int × Int)} (h : qS cv) : cv.length ≤ 16 := by
 have := h.len
 omega
end
section
variable (W H D K R : Int) (Ls : List Int) (St : List (List UInt8)) (ph b0 b1 b2 b3 w : Int) (sp : List (Int × Int)) (g0 g1 g2 m0 m1 m2 m3 m4 m5 m6 m7 m8 : Int) (cv : List (Int × Int)) (am : Int)
theorem N3 {f : Bool} (h : Ep W H ph b0 b1 b2 b3 w sp g0 g1 g2 m0 m1 m2 m3 m4 m5 m6 m7 m8 am f = 0) : Cu ph b0 b1 b2 b3 w sp g0 g1 g2 m0 m1 m2 m3 m4 m5 m6 m7 m8 am = true ∧ f = true ∧ sp.all (kD W H) = true := by
 unfold Ep at h
 by_cases h1 : Cu ph b0 b1 b2 b3 w sp g0 g1 g2 m0 m1 m2 m3 m4 m5 m6 m7 m8 am = false
 ·rw [if_pos h1] at h; cases h
 rw [if_neg h1] at h
 by_cases h2 : f = false
 ·rw [if_pos h2] at h; cases h
 rw [if_neg h2] at h
 by_cases h3 : sp.all (kD W H) = false
 ·rw [if_pos h3] at h; cases h
 exact ⟨(Bool.not_eq_false _).mp h1, (Bool.not_eq_false _).mp h2, (Bool.not_eq_false _).mp h3⟩
theorem LD {P : List Int} (hP : ∀ e ∈ P, 0 ≤ e ∧ e ≤ 65535) (d : Nat) : P.all (fun e => decide (e < ((2 ^ d : Nat) : Int))) = P.all (KL d) := by
 rw [Bool.eq_iff_iff, List.all_eq_true, List.all_eq_true]
 constructor
 ·intro h e he;have := of_decide_eq_true (h e he);exact decide_eq_true ⟨(hP e he).1, this⟩
 ·intro h e he;exact decide_eq_true (of_decide_eq_true (h e he)).2
theorem Pe {f : Bool} (hb : jT 8589934592 cv = some f) (hc : f = true ↔ qS cv) (oW oH : Int) (P : List Int) (hl : P.length ≤ 9223372036854775807) : xS 8589934592 W H D K R Ls St ph b0 b1 b2 b3 w sp g0 g1 g2 m0 m1 m2 m3 m4 m5 m6 m7 m8 cv am oW oH P = some (Jb W H D K R Ls ph b0 b1 b2 b3 w sp g0 g1 g2 m0 m1 m2 m3 m4 m5 m6 m7 m8 cv am f oW oH P) := by
 unfold xS Jb;rw [I9 W H D K R Ls St ph b0 b1 b2 b3 w sp g0 g1 g2 m0 m1 m2 m3 m4 m5 m6 m7 m8 cv am 8589934592 (by decide), aD]
 by_cases h1 : qC W H D K R Ls = 0
 rotate_left
 ·rw [cT (by rw [decide_eq_false h1]; rfl), if_pos h1]; rfl
 rw [cF (by rw [decide_eq_true h1]; rfl), if_neg (fun q => q h1), Ja W H D K R Ls St ph b0 b1 b2 b3 w sp g0 g1 g2 m0 m1 m2 m3 m4 m5 m6 m7 m8 cv am hb hc, aD]
 by_cases h2 : Ep W H ph b0 b1 b2 b3 w sp g0 g1 g2 m0 m1 m2 m3 m4 m5 m6 m7 m8 am f = 0
 rotate_left
 ·rw [cT (by rw [decide_eq_false h2]; rfl), if_pos h2]; rfl
 rw [cF (by rw [decide_eq_true h2]; rfl), if_neg (fun q => q h2), MG 8589934592 oW oH P hl, aD, W0 8589934592 (by decide)];obtain ⟨q1, q2, q3, q4⟩ := DM W H D K R Ls h1;obtain ⟨p1, p2, p3⟩ := N3 W H ph b0 b1 b2 b3 w sp g0 g1 g2 m0 m1 m2 m3 m4 m5 m6 m7 m8 am h2
 by_cases h3 : I5 oW oH P = true
 rotate_left
 ·have h3' := (Bool.not_eq_true _).mp h3;rw [h3', if_pos rfl, cT (by rfl), if_pos (.inl rfl)]; rfl
 rw [h3, if_neg (by decide), cF (by rfl)]
 by_cases h4 : oW = W
 rotate_left
 ·rw [cT (by rw [decide_eq_false h4]; rfl), if_pos (.inr (.inl h4))]; rfl
 by_cases h5 : oH = H
 rotate_left
 ·rw [cF (by rw [decide_eq_true h4]; rfl), cT (by rw [decide_eq_false h5]; rfl), if_pos (.inr (.inr (.inl h5)))]; rfl
 rw [cF (by rw [decide_eq_true h4]; rfl), cF (by rw [decide_eq_true h5]; rfl)];subst h4 h5;obtain ⟨w', k', rfl, rfl, a1, a2, a3, a4, a5, a6, hP⟩ := EU h3;obtain ⟨d, rfl⟩ := Int.eq_ofNat_of_zero_le (show 0 ≤ D by unfold uL at q1; omega);obtain ⟨r, rfl⟩ := Int.eq_ofNat_of_zero_le (show 0 ≤ R by unfold uL at q1; omega);have hd : 1 ≤ d ∧ d ≤ 16 := by unfold uL at q1; omega
 have hr : 1 ≤ r ∧ r ≤ k' := by unfold uL at q1; omega
 have hpos : 1 ≤ P.length := by rw [a5]; exact Nat.mul_pos (by omega) (by omega)
 obtain ⟨M, e1, e2⟩ := max_eq 8589934592 hpos (by omega) (by decide);obtain ⟨x0, hx0⟩ : ∃ x, x ∈ P := ⟨P[0], List.getElem_mem (by omega)⟩
 have hM0 : 0 ≤ M := by
  have := (e2 M).1 (Int.le_refl _) x0 hx0;have := (hP x0 hx0).1
  omega
 obtain ⟨m, rfl⟩ := Int.eq_ofNat_of_zero_le hM0;have hp2 := Nat.two_pow_pos d
 have hsh : (0 < ((m / 2 ^ d : Nat) : Int)) ↔ P.all (fun e => decide (e < ((2 ^ d : Nat) : Int))) = false := by
  have h6 := e2 (((2 ^ d : Nat) : Int) - 1);have h7 : (0 < m / 2 ^ d) ↔ 2 ^ d ≤ m := Nat.div_pos_iff.trans ⟨fun q => q.2, fun q => ⟨hp2, q⟩⟩
  constructor
  ·intro q;rw [Bool.eq_false_iff];intro q2;rw [List.all_eq_true] at q2;have := h6.2 fun e he => by have := of_decide_eq_true (q2 e he); omega
   have := h7.1 (by omega)
   omega
  ·intro q
   have : ¬ m < 2 ^ d := fun q2 => by
    have := h6.1 (by omega);rw [Bool.eq_false_iff] at q;exact q (List.all_eq_true.2 fun e he => decide_eq_true (by have := this e he; omega))
   have := h7.2 (by omega)
   omega
 rw [e1, aD, rY, aD, DF (by omega), Int.toNat_natCast, Int.toNat_natCast, Int.toNat_natCast, Int.toNat_natCast]
 by_cases h6 : P.all (fun e => decide (e < ((2 ^ d : Nat) : Int))) = false
 ·rw [cT (decide_eq_true (hsh.2 h6)), if_pos (.inr (.inr (.inr h6)))]; rfl
 rw [cF (decide_eq_false (fun q => h6 (hsh.1 q))), if_neg (by rintro (q | q | q | q) <;> first | exact absurd q (by decide) | exact q rfl | exact h6 q)];have h6' := (Bool.not_eq_false _).mp h6;rw [LD hP] at h6';have hcl := Jc (hc.1 p2);obtain ⟨s1, s2⟩ := Hu ph b0 b1 b2 b3 w sp g0 g1 g2 m0 m1 m2 m3 m4 m5 m6 m7 m8 am p1;have hc1 : lR 8589934592 Ls = some Ls := by unfold lR; rw [iO (by simp; omega)]; rfl
 have hc2 : iI 8589934592 sp = some sp := by unfold iI; rw [iO (by simp; omega)]; rfl
 have hc3 : hJ 8589934592 cv = some cv := by unfold hJ; rw [iO (by simp; omega)]; rfl
 have hst : uT 8589934592 (w' : Int) (k' : Int) (d : Int) K (r : Int) Ls St ph b0 b1 b2 b3 w sp g0 g1 g2 m0 m1 m2 m3 m4 m5 m6 m7 m8 cv am = some ((List.range (qZ k' r)).map fun i => (((i * r : Nat) : Int), ((jI k' r i : Nat) : Int))) := by
  have hcn := AB (H := k') (R := r) hr.1 a3;have := Hv 8589934592 hr a4 (fun (l6, y5) => some l6) (qZ k' r) 0 8589934592 (by omega) (by omega);rw [Nat.zero_mul] at this;exact this
 rw [hc1, aD, hc2, aD, hc3, aD, hst, aD];have hcn := AB (H := k') (R := r) hr.1 a3;have key := Kb K Ls 8589934592 (by decide) ⟨a1, a2⟩ ⟨a3, a4⟩ hr hd a5 h6' (fun (By, i2) => some ((w' : Int), (k' : Int), (d : Int), K, (r : Int), Ls, By, ph, b0, b1, b2, b3, w, sp, g0, g1, g2, m0, m1, m2, m3, m4, m5, m6, m7, m8, cv, am, (0 : Int))) (qZ k' r) 0 8589934592 [] (by omega) (by omega) rfl;refine Eq.trans key ?_
 split <;> rfl
end
theorem Pf (N : Nat) (l : List (Int × Int)) (hl : l.length ≤ 4096) (kk) : ∀ (j k fuel : Nat), k + j = l.length → j < fuel → iV N l l kk fuel (k : Int) = kk (l.length : Int) := by
 intro j
 induction j with
 | zero =>
  intro k fuel hk hf;obtain ⟨fuel, rfl⟩ : ∃ q, fuel = q + 1 := ⟨fuel - 1, by omega⟩
  unfold iV;rw [cF (dF (by omega)), show k = l.length by omega]
 | succ j ih =>
  intro k fuel hk hf;obtain ⟨fuel, rfl⟩ : ∃ q, fuel = q + 1 := ⟨fuel - 1, by omega⟩
  have hlt : k < l.length := by omega
  unfold iV;rw [cT (dT (by omega)), eX, List.getElem?_eq_getElem hlt, aD, aD, cF (by simp), gE (x := (k : Int) + 1) (by omega), aD];exact ih (k + 1) fuel (by omega) (by omega)
theorem Pg (N : Nat) (l : List (Int × Int)) (hl : l.length ≤ 4096) (kk) : ∀ (j k fuel : Nat), k + j = l.length → j < fuel → iU N l l kk fuel (k : Int) = kk (l.length : Int) := by
 intro j
 induction j with
 | zero =>
  intro k fuel hk hf;obtain ⟨fuel, rfl⟩ : ∃ q, fuel = q + 1 := ⟨fuel - 1, by omega⟩
  unfold iU;rw [cF (dF (by omega)), show k = l.length by omega]
 | succ j ih =>
  intro k fuel hk hf;obtain ⟨fuel, rfl⟩ : ∃ q, fuel = q + 1 := ⟨fuel - 1, by omega⟩
  have hlt : k < l.length := by omega
  unfold iU;rw [cT (dT (by omega)), eX, List.getElem?_eq_getElem hlt, aD, aD, cF (by simp), gE (x := (k : Int) + 1) (by omega), aD];exact ih (k + 1) fuel (by omega) (by omega)
theorem Ph (N : Nat) (l : List (List UInt8)) (hl : l.length ≤ 4096) (kk) : ∀ (j k fuel : Nat), k + j = l.length → j < fuel → jF N l l kk fuel (k : Int) = kk (l.length : Int) := by
 intro j
 induction j with
 | zero =>
  intro k fuel hk hf;obtain ⟨fuel, rfl⟩ : ∃ q, fuel = q + 1 := ⟨fuel - 1, by omega⟩
  unfold jF;rw [cF (dF (by omega)), show k = l.length by omega]
 | succ j ih =>
  intro k fuel hk hf;obtain ⟨fuel, rfl⟩ : ∃ q, fuel = q + 1 := ⟨fuel - 1, by omega⟩
  have hlt : k < l.length := by omega
  unfold jF;rw [cT (dT (by omega)), eX, List.getElem?_eq_getElem hlt, aD, aD, cF (by simp), gE (x := (k : Int) + 1) (by omega), aD];exact ih (k + 1) fuel (by omega) (by omega)
section
variable (W H D K R : Int) (Ls : List Int) (St : List (List UInt8)) (ph b0 b1 b2 b3 w : Int) (sp : List (Int × Int)) (g0 g1 g2 m0 m1 m2 m3 m4 m5 m6 m7 m8 : Int) (cv : List (Int × Int)) (am : Int)
theorem Ke (N : Nat) (hN : 5000 ≤ N) (hs : sp.length ≤ 4096) (hv : cv.length ≤ 4096) : lM N ph b0 b1 b2 b3 w sp g0 g1 g2 m0 m1 m2 m3 m4 m5 m6 m7 m8 cv am ph b0 b1 b2 b3 w sp g0 g1 g2 m0 m1 m2 m3 m4 m5 m6 m7 m8 cv am = some true := by
 unfold lM;rw [cF (by simp), cF (by simp), cF (by simp), cF (by simp), cF (by simp), cF (by simp), cF (by simp), cF (by simp)];refine (Pf N sp hs _ sp.length 0 N (by omega) (by omega)).trans ?_;exact Pg N cv hv _ cv.length 0 N (by omega) (by omega)
theorem LE (N : Nat) (hN : 5000 ≤ N) (hL : Ls.length ≤ 4096) (hS : St.length ≤ 4096) (hs : sp.length ≤ 4096) (hv : cv.length ≤ 4096) : kI N W H D K R Ls St ph b0 b1 b2 b3 w sp g0 g1 g2 m0 m1 m2 m3 m4 m5 m6 m7 m8 cv am W H D K R Ls St ph b0 b1 b2 b3 w sp g0 g1 g2 m0 m1 m2 m3 m4 m5 m6 m7 m8 cv am = some true := by
 unfold kI;rw [cF (by simp), cF (by simp), cF (by simp), cF (by simp), cF (by simp), Rs N Ls (by omega) (by omega), aD, cF (by rfl), cF (by simp), Ke ph b0 b1 b2 b3 w sp g0 g1 g2 m0 m1 m2 m3 m4 m5 m6 m7 m8 cv am N hN hs hv, aD, cF (by rfl)];exact Ph N St hS _ St.length 0 N (by omega) (by omega)
end
theorem FZ : gV 8589934592 = some true := by kernel_rfl
def stripR (W D K : Int) (Ls : List Int) (rows : Int) (s : List UInt8) : Option (List Int) :=
 if K = 0 then (if eU s D (W * rows) = 0 then some (mW (mX s D.toNat (W * rows).toNat)) else none)
 else if (mT s W rows K Ls).2.2.2 = 0 ∧ (mT s W rows K Ls).2.2.1.all (fun e => decide (e < ((2 ^ D.toNat : Nat) : Int))) = true then some (mT s W rows K Ls).2.2.1 else none
theorem Jd {s : List UInt8} {W H kind : Int} {c : List Int} (h : (mT s W H kind c).2.2.2 = 0) : (1 ≤ W ∧ W ≤ 64) ∧ (1 ≤ H ∧ H ≤ 64) ∧ (mT s W H kind c).1 = W ∧ (mT s W H kind c).2.1 = H ∧ (mT s W H kind c).2.2.1.length = W.toNat * H.toNat ∧ ∀ e ∈ (mT s W H kind c).2.2.1, 0 ≤ e ∧ e ≤ 65535 := by
 unfold mT at h ⊢
 by_cases h1 : 1 ≤ W ∧ W ≤ 64
 rotate_left
 ·rw [if_pos h1] at h; cases h
 rw [if_neg (by omega)] at h ⊢
 by_cases h2 : 1 ≤ H ∧ H ≤ 64
 rotate_left
 ·rw [if_pos h2] at h; cases h
 rw [if_neg (by omega)] at h ⊢
 by_cases h3 : 1 ≤ kind ∧ kind ≤ 7
 rotate_left
 ·rw [if_pos h3] at h; cases h
 rw [if_neg (by omega)] at h ⊢
 by_cases h7 : jK c = 0
 rotate_left
 ·rw [if_pos h7] at h; exact absurd h h7
 rw [if_neg (by omega)] at h ⊢
 have RK : (wordsOf c).length ≤ 17 := by
  rw [sD h7];obtain ⟨ns, rfl, _, _, Lv, _⟩ := wY h7;rw [hF]; exact Lv
 rcases hr : Fv (wordsOf c) W.toNat kind (W.toNat * H.toNat) [] (mS s) with _ | ⟨P2, R2⟩
 ·rw [hr] at h; cases h
 rw [hr] at h;dsimp only at h ⊢
 by_cases hz : R2.length ≤ 7 ∧ R2 = List.replicate R2.length 48
 rotate_left
 ·rw [if_neg hz] at h; cases h
 rw [if_pos hz];obtain ⟨q1, q2, q3, q4, q5⟩ := Hq (hG c) RK (by omega) _ _ _ [] _ _ (sT s) (by simp) rfl hr;rw [List.length_nil, Nat.zero_add] at q1;exact ⟨h1, h2, rfl, rfl, q1, q2⟩
section
variable (W H D K R : Int) (Ls : List Int) (St : List (List UInt8)) (ph b0 b1 b2 b3 w : Int) (sp : List (Int × Int)) (g0 g1 g2 m0 m1 m2 m3 m4 m5 m6 m7 m8 : Int) (cv : List (Int × Int)) (am : Int)
theorem T9 {s : List UInt8} {o p : Int} (h : eU s o p = 0) : (mW (mX s o.toNat p.toNat)).length = p.toNat := by
 obtain ⟨d, n, rfl, rfl, h1, h2, h3, h4⟩ := Da h;rw [hF, Int.toNat_natCast, Int.toNat_natCast];unfold mX;exact iP _ _ _
theorem FP {W D K rows : Int} {Ls : List Int} {s : List UInt8} {l : List Int} (hW : 1 ≤ W ∧ W ≤ 64) (hr : 1 ≤ rows ∧ rows ≤ 64) (h : stripR W D K Ls rows s = some l) : l.length = W.toNat * rows.toNat := by
 unfold stripR at h
 split at h
 ·split at h
  ·rename_i hh
   injection h with h
   subst h;rw [T9 hh];obtain ⟨w', rfl⟩ := Int.eq_ofNat_of_zero_le (show 0 ≤ W by omega);obtain ⟨r', rfl⟩ := Int.eq_ofNat_of_zero_le (show 0 ≤ rows by omega)
   rfl
  ·cases h
 ·split at h
  ·rename_i hh
   injection h with h
   subst h;exact (Jd hh.1).2.2.2.2.1
  ·cases h
theorem Kf (N : Nat) (hN : 200000 ≤ N) {W D rows : Int} (hW : 1 ≤ W ∧ W ≤ 64) (hD : 1 ≤ D ∧ D ≤ 16) (hr : 1 ≤ rows ∧ rows ≤ 64) {s : List UInt8} (hs : s.length ≤ 9223372036854775807) :
  ∃ l e, vH N W H D K R Ls St ph b0 b1 b2 b3 w sp g0 g1 g2 m0 m1 m2 m3 m4 m5 m6 m7 m8 cv am s rows = some (l, e) ∧ ((e = 0 ∧ stripR W D K Ls rows s = some l) ∨ (e ≠ 0 ∧ stripR W D K Ls rows s = none)) := by
 obtain ⟨w', rfl⟩ := Int.eq_ofNat_of_zero_le (show 0 ≤ W by omega);obtain ⟨r', rfl⟩ := Int.eq_ofNat_of_zero_le (show 0 ≤ rows by omega);obtain ⟨d, rfl⟩ := Int.eq_ofNat_of_zero_le (show 0 ≤ D by omega);have hm := Nat.mul_le_mul (show w' ≤ 64 by omega) (show r' ≤ 64 by omega);have hwr : IntKind.i64.wrap ((w' : Int) * (r' : Int)) = (w' : Int) * (r' : Int) := by rw [show (w' : Int) * (r' : Int) = ((w' * r' : Nat) : Int) by simp, gE (by omega)]
 unfold vH stripR
 by_cases hK : K = 0
 ·rw [cT (dT hK), if_pos hK, hwr, OX N (by omega) s hs, aD]
  by_cases he : eU s (d : Int) ((w' : Int) * (r' : Int)) = 0
  ·rw [if_pos he, if_pos he];exact ⟨_, _, rfl, .inl ⟨rfl, rfl⟩⟩
  ·rw [if_neg he, if_neg he];exact ⟨_, _, rfl, .inr ⟨he, rfl⟩⟩
 rw [cF (dF hK), if_neg hK, IC N hN, aD]
 by_cases he : (mT s (w' : Int) (r' : Int) K Ls).2.2.2 = 0
 rotate_left
 ·rw [cF (dF he), if_neg (fun q => he q.1)];exact ⟨_, _, rfl, .inr ⟨he, rfl⟩⟩
 obtain ⟨_, _, _, _, hl, hP⟩ := Jd he;rw [Int.toNat_natCast, Int.toNat_natCast] at hl;have hpos : 1 ≤ w' * r' := Nat.mul_pos (by omega) (by omega);obtain ⟨M, e1, e2⟩ := max_eq N (l := (mT s (w' : Int) (r' : Int) K Ls).2.2.1) (by omega) (by omega) (by omega)
 generalize (mT s (w' : Int) (r' : Int) K Ls).2.2.1 = P at *
 rw [cT (dT he), e1, aD, rY, aD, Int.toNat_natCast];obtain ⟨x0, hx0⟩ : ∃ x, x ∈ P := ⟨P[0], List.getElem_mem (by omega)⟩
 have hM0 : 0 ≤ M := by
  have := (e2 M).1 (Int.le_refl _) x0 hx0;have := (hP x0 hx0).1
  omega
 obtain ⟨m, rfl⟩ := Int.eq_ofNat_of_zero_le hM0;have hp2 := Nat.two_pow_pos d
 have hsh : (0 < ((m / 2 ^ d : Nat) : Int)) ↔ P.all (fun e => decide (e < ((2 ^ d : Nat) : Int))) = false := by
  have h6 := e2 (((2 ^ d : Nat) : Int) - 1);have h7 : (0 < m / 2 ^ d) ↔ 2 ^ d ≤ m := Nat.div_pos_iff.trans ⟨fun q => q.2, fun q => ⟨hp2, q⟩⟩
  constructor
  ·intro q;rw [Bool.eq_false_iff];intro q2;rw [List.all_eq_true] at q2;have := h6.2 fun e he => by have := of_decide_eq_true (q2 e he); omega
   have := h7.1 (by omega)
   omega
  ·intro q
   have : ¬ m < 2 ^ d := fun q2 => by
    have := h6.1 (by omega);rw [Bool.eq_false_iff] at q;exact q (List.all_eq_true.2 fun e he => decide_eq_true (by have := this e he; omega))
   have := h7.2 (by omega)
   omega
 rw [DF (by omega)]
 by_cases h6 : P.all (fun e => decide (e < ((2 ^ d : Nat) : Int))) = false
 ·rw [cT (decide_eq_true (hsh.2 h6)), if_neg (fun q => by rw [h6] at q; exact absurd q.2 (by decide))];exact ⟨_, _, rfl, .inr ⟨by decide, rfl⟩⟩
 ·rw [cF (decide_eq_false (fun q => h6 (hsh.1 q))), if_pos ⟨he, (Bool.not_eq_false _).mp h6⟩];exact ⟨_, _, rfl, .inl ⟨he, rfl⟩⟩
def uM (W D K : Int) (Ls : List Int) (H R : Nat) : Nat → List (List UInt8) → List Int → Option (List Int)
 | _, [], acc => some acc
 | i, s :: t, acc => match stripR W D K Ls ((jI H R i : Nat) : Int) s with
  | none => none
  | some l => uM W D K Ls H R (i + 1) t (acc ++ l)
theorem EX {H R i : Nat} (hR : 1 ≤ R ∧ R ≤ H) (hH : H ≤ 64) (hi : i < qZ H R) : 1 ≤ ((jI H R i : Nat) : Int) ∧ ((jI H R i : Nat) : Int) ≤ 64 := by
 have := (cnt_lt (H := H) (i := i) hR.1).1 hi;unfold jI
 omega
theorem ID (N : Nat) (hN : 200000 ≤ N) {w' h r d : Nat} (hW : 1 ≤ w' ∧ w' ≤ 64) (hH : 1 ≤ h ∧ h ≤ 64) (hR : 1 ≤ r ∧ r ≤ h) (hd : 1 ≤ d ∧ d ≤ 16) (hs : ∀ y ∈ St, y.length ≤ 9223372036854775807) (hl : St.length = qZ h r) (kk) :
  ∀ (j k fuel : Nat) (acc : List Int), k + j = St.length → j < fuel → acc.length ≤ 4096 * k →
  rR N (w' : Int) (h : Int) (d : Int) K (r : Int) Ls St ph b0 b1 b2 b3 w sp g0 g1 g2 m0 m1 m2 m3 m4 m5 m6 m7 m8 cv am ((List.range (qZ h r)).map fun i => (((i * r : Nat) : Int), ((jI h r i : Nat) : Int))) kk fuel (acc, (k : Int)) = match uM (w' : Int) (d : Int) K Ls h r k (St.drop k) acc with
   | none => some (0, 0, [], 1)
   | some P => kk (P, (St.length : Int)) := by
 have hcl := AB (H := h) (R := r) hR.1 hH.1;intro j
 induction j with
 | zero =>
  intro k fuel acc hk hf ha;obtain ⟨fuel, rfl⟩ : ∃ q, fuel = q + 1 := ⟨fuel - 1, by omega⟩
  unfold rR;rw [cF (dF (by omega)), List.drop_of_length_le (by omega), show k = St.length by omega]
  rfl
 | succ j ih =>
  intro k fuel acc hk hf ha;obtain ⟨fuel, rfl⟩ : ∃ q, fuel = q + 1 := ⟨fuel - 1, by omega⟩
  have hlt : k < St.length := by omega
  have BX := EX (i := k) hR hH.2 (by omega);have hnx : IntKind.i64.wrap ((k : Int) + 1) = ((k + 1 : Nat) : Int) := by rw [gE (by omega)]; rfl
  have hm := Nat.mul_le_mul hW.2 (show jI h r k ≤ 64 by omega);unfold rR;rw [cT (dT (by omega)), eX, List.getElem?_eq_getElem hlt, aD, eX, List.getElem?_map, List.getElem?_range (by omega)];show Option.bind (some _) _ = _;rw [aD]
  dsimp only
  obtain ⟨l, e, q1, q2⟩ := Kf (h : Int) K (r : Int) Ls St ph b0 b1 b2 b3 w sp g0 g1 g2 m0 m1 m2 m3 m4 m5 m6 m7 m8 cv am N hN (W := (w' : Int)) (D := (d : Int)) (by omega) (by omega) BX (hs St[k] (List.getElem_mem hlt));rw [q1, aD, List.drop_eq_getElem_cons hlt];unfold uM
  rcases q2 with ⟨rfl, q2⟩ | ⟨q3, q2⟩
  ·have hll := FP (by omega) BX q2;rw [Int.toNat_natCast, Int.toNat_natCast] at hll;rw [q2, cF (by rfl)]
   dsimp only
   rw [iO (by omega), aD, hnx];exact ih (k + 1) fuel _ (by omega) (by omega) (by rw [List.length_append]; omega)
  ·rw [q2, cT (by rw [dF q3]; rfl)]
def tJ (f : Bool) : Int × Int × List Int × Int :=
 if qC W H D K R Ls ≠ 0 then (0, 0, [], qC W H D K R Ls) else if St.length ≠ qZ H.toNat R.toNat then (0, 0, [], 2) else
 if Ep W H ph b0 b1 b2 b3 w sp g0 g1 g2 m0 m1 m2 m3 m4 m5 m6 m7 m8 am f ≠ 0 then (0, 0, [], Ep W H ph b0 b1 b2 b3 w sp g0 g1 g2 m0 m1 m2 m3 m4 m5 m6 m7 m8 am f) else
 match uM W D K Ls H.toNat R.toNat 0 St [] with
 | none => (0, 0, [], 1)
 | some P => (W, H, P, 0)
theorem LF (N : Nat) (hN : 5000 ≤ N) {k' r : Nat} (hr : 1 ≤ r ∧ r ≤ k') (hk : 1 ≤ k' ∧ k' ≤ 64) : uT N W (k' : Int) D K (r : Int) Ls St ph b0 b1 b2 b3 w sp g0 g1 g2 m0 m1 m2 m3 m4 m5 m6 m7 m8 cv am = some ((List.range (qZ k' r)).map fun i => (((i * r : Nat) : Int), ((jI k' r i : Nat) : Int))) := by
 have hcn := AB (H := k') (R := r) hr.1 hk.1;have := Hv N hr hk.2 (fun (l6, y5) => some l6) (qZ k' r) 0 N (by omega) (by omega);rw [Nat.zero_mul] at this;exact this
theorem Hw {f : Bool} (hb : jT 8589934592 cv = some f) (hc : f = true ↔ qS cv) (hs : ∀ y ∈ St, y.length ≤ 9223372036854775807) : uH 8589934592 W H D K R Ls St ph b0 b1 b2 b3 w sp g0 g1 g2 m0 m1 m2 m3 m4 m5 m6 m7 m8 cv am = some (tJ W H D K R Ls St ph b0 b1 b2 b3 w sp g0 g1 g2 m0 m1 m2 m3 m4 m5 m6 m7 m8 am f) := by
 unfold uH tJ;rw [I9 W H D K R Ls St ph b0 b1 b2 b3 w sp g0 g1 g2 m0 m1 m2 m3 m4 m5 m6 m7 m8 cv am 8589934592 (by decide), aD]
 by_cases h1 : qC W H D K R Ls = 0
 rotate_left
 ·rw [cT (by rw [decide_eq_false h1]; rfl), if_pos h1]
 obtain ⟨q1, q2, q3, q4⟩ := DM W H D K R Ls h1;rw [cF (by rw [decide_eq_true h1]; rfl), if_neg (fun q => q h1)];unfold uL at q1;obtain ⟨w', rfl⟩ := Int.eq_ofNat_of_zero_le (show 0 ≤ W by omega);obtain ⟨k', rfl⟩ := Int.eq_ofNat_of_zero_le (show 0 ≤ H by omega);obtain ⟨d, rfl⟩ := Int.eq_ofNat_of_zero_le (show 0 ≤ D by omega);obtain ⟨r, rfl⟩ := Int.eq_ofNat_of_zero_le (show 0 ≤ R by omega);rw [LF _ _ K Ls St ph b0 b1 b2 b3 w sp g0 g1 g2 m0 m1 m2 m3 m4 m5 m6 m7 m8 cv am 8589934592 (by decide) (by omega) (by omega), aD, List.length_map, List.length_range, Int.toNat_natCast, Int.toNat_natCast]
 by_cases h2 : St.length = qZ k' r
 rotate_left
 ·rw [cT (by rw [dF (by omega)]; rfl), if_pos h2]
 rw [cF (by rw [dT (by omega)]; rfl), if_neg (fun q => q h2), Ja _ _ _ K _ Ls St ph b0 b1 b2 b3 w sp g0 g1 g2 m0 m1 m2 m3 m4 m5 m6 m7 m8 cv am hb hc, aD]
 by_cases h3 : Ep (w' : Int) (k' : Int) ph b0 b1 b2 b3 w sp g0 g1 g2 m0 m1 m2 m3 m4 m5 m6 m7 m8 am f = 0
 rotate_left
 ·rw [cT (by rw [decide_eq_false h3]; rfl), if_pos h3]
 rw [cF (by rw [decide_eq_true h3]; rfl), if_neg (fun q => q h3)];have hcn := AB (H := k') (R := r) (by omega) (by omega);have key := ID K Ls St ph b0 b1 b2 b3 w sp g0 g1 g2 m0 m1 m2 m3 m4 m5 m6 m7 m8 cv am 8589934592 (by decide) (w' := w') (h := k') (r := r) (d := d) (by omega) (by omega) (by omega) (by omega) hs h2 (fun (G7, i2) => some ((w' : Int), (k' : Int), G7, (0 : Int))) St.length 0 8589934592 [] (by omega) (by omega) (by simp);rw [List.drop_zero] at key;refine Eq.trans key ?_
 cases uM (w' : Int) (d : Int) K Ls k' r 0 St [] <;> rfl
theorem Pi (N : Nat) (hN : 200000 ≤ N) {W D : Int} (hW : 1 ≤ W ∧ W ≤ 64) (hD : 1 ≤ D ∧ D ≤ 16) {h r k : Nat} (hH : 1 ≤ h ∧ h ≤ 64) (hR : 1 ≤ r ∧ r ≤ h) (hk : k < qZ h r) (hlt : k < St.length) (hs : St[k].length ≤ 9223372036854775807) :
  ∃ l b, uJ N W (h : Int) D K (r : Int) Ls St ph b0 b1 b2 b3 w sp g0 g1 g2 m0 m1 m2 m3 m4 m5 m6 m7 m8 cv am (k : Int) = some (l, b) ∧ ((b = true ∧ stripR W D K Ls ((jI h r k : Nat) : Int) St[k] = some l) ∨ (b = false ∧ stripR W D K Ls ((jI h r k : Nat) : Int) St[k] = none)) := by
 obtain ⟨w', rfl⟩ := Int.eq_ofNat_of_zero_le (show 0 ≤ W by omega);obtain ⟨d, rfl⟩ := Int.eq_ofNat_of_zero_le (show 0 ≤ D by omega);have BX := EX (i := k) hR hH.2 hk;have hkR := (cnt_lt (H := h) (i := k) hR.1).1 hk;have hm := Nat.mul_le_mul (show w' ≤ 64 by omega) (show jI h r k ≤ 64 by omega);have hwr : IntKind.i64.wrap ((w' : Int) * ((jI h r k : Nat) : Int)) = (w' : Int) * ((jI h r k : Nat) : Int) := by rw [show (w' : Int) * ((jI h r k : Nat) : Int) = ((w' * jI h r k : Nat) : Int) by simp, gE (by omega)]
 have e0 : IntKind.i64.wrap ((k : Int) * (r : Int)) = ((k * r : Nat) : Int) := by rw [show (k : Int) * (r : Int) = ((k * r : Nat) : Int) by simp, gE (by omega)]
 have er : min (r : Int) (IntKind.i64.wrap ((h : Int) - ((k * r : Nat) : Int))) = ((jI h r k : Nat) : Int) := by
  rw [gE (by omega)]; unfold jI; omega
 unfold uJ xJ stripR;rw [e0, er, aD]
 by_cases hK : K = 0
 ·rw [cT (dT hK), if_pos hK, eX, List.getElem?_eq_getElem hlt, aD, hwr, Ln N (by omega) _ hs, aD]
  by_cases he : eU St[k] (d : Int) ((w' : Int) * ((jI h r k : Nat) : Int)) = 0
  ·rw [if_pos he, if_pos he];exact ⟨_, _, rfl, .inl ⟨rfl, rfl⟩⟩
  ·rw [if_neg he, if_neg he];exact ⟨_, _, rfl, .inr ⟨dF he, rfl⟩⟩
 rw [cF (dF hK), if_neg hK, eX, List.getElem?_eq_getElem hlt, aD, J9 N hN, aD]
 by_cases he : (mT St[k] (w' : Int) ((jI h r k : Nat) : Int) K Ls).2.2.2 = 0
 rotate_left
 ·rw [cF (dF he), if_neg (fun q => he q.1)];exact ⟨_, _, rfl, .inr ⟨rfl, rfl⟩⟩
 have hl := Ht St[k] (w' : Int) ((jI h r k : Nat) : Int) K Ls;rw [cT (dT he), T8 N (by omega) hl (by omega), aD, Int.toNat_natCast]
 by_cases h6 : (mT St[k] (w' : Int) ((jI h r k : Nat) : Int) K Ls).2.2.1.all (fun e => decide (e < ((2 ^ d : Nat) : Int))) = true
 ·rw [if_pos ⟨he, h6⟩];exact ⟨_, _, rfl, .inl ⟨h6, rfl⟩⟩
 ·rw [if_neg (fun q => h6 q.2)];exact ⟨_, _, rfl, .inr ⟨(Bool.not_eq_true _).mp h6, rfl⟩⟩
theorem Kg (N : Nat) (hN : 200000 ≤ N) {w' h r d : Nat} (hW : 1 ≤ w' ∧ w' ≤ 64) (hH : 1 ≤ h ∧ h ≤ 64) (hR : 1 ≤ r ∧ r ≤ h) (hd : 1 ≤ d ∧ d ≤ 16) (hs : ∀ y ∈ St, y.length ≤ 9223372036854775807) (hl : St.length = qZ h r) (kk) :
  ∀ (j k fuel : Nat) (acc : List Int), k + j = St.length → j < fuel → acc.length ≤ 4096 * k →
  kO N (w' : Int) (h : Int) (d : Int) K (r : Int) Ls St ph b0 b1 b2 b3 w sp g0 g1 g2 m0 m1 m2 m3 m4 m5 m6 m7 m8 cv am kk fuel (acc, (k : Int)) = match uM (w' : Int) (d : Int) K Ls h r k (St.drop k) acc with
   | none => some (0, 0, [], 1)
   | some P => kk (P, (St.length : Int)) := by
 have hcl := AB (H := h) (R := r) hR.1 hH.1;intro j
 induction j with
 | zero =>
  intro k fuel acc hk hf ha;obtain ⟨fuel, rfl⟩ : ∃ q, fuel = q + 1 := ⟨fuel - 1, by omega⟩
  unfold kO;rw [cF (dF (by omega)), List.drop_of_length_le (by omega), show k = St.length by omega]
  rfl
 | succ j ih =>
  intro k fuel acc hk hf ha;obtain ⟨fuel, rfl⟩ : ∃ q, fuel = q + 1 := ⟨fuel - 1, by omega⟩
  have hlt : k < St.length := by omega
  have BX := EX (i := k) hR hH.2 (by omega);have hnx : IntKind.i64.wrap ((k : Int) + 1) = ((k + 1 : Nat) : Int) := by rw [gE (by omega)]; rfl
  have hm := Nat.mul_le_mul hW.2 (show jI h r k ≤ 64 by omega);unfold kO;obtain ⟨l, e, q1, q2⟩ := Pi K Ls St ph b0 b1 b2 b3 w sp g0 g1 g2 m0 m1 m2 m3 m4 m5 m6 m7 m8 cv am N hN (W := (w' : Int)) (D := (d : Int)) (by omega) (by omega) hH hR (k := k) (by omega) hlt (hs St[k] (List.getElem_mem hlt));rw [cT (dT (by omega)), q1, aD, List.drop_eq_getElem_cons hlt];unfold uM
  rcases q2 with ⟨rfl, q2⟩ | ⟨rfl, q2⟩
  ·have hll := FP (by omega) BX q2;rw [Int.toNat_natCast, Int.toNat_natCast] at hll;rw [q2, cF (by rfl)]
   dsimp only
   rw [iO (by omega), aD, hnx, aD];exact ih (k + 1) fuel _ (by omega) (by omega) (by rw [List.length_append]; omega)
  ·rw [q2, cT (by rfl)]
theorem Pj (N : Nat) {k' r : Nat} (hr : 1 ≤ r ∧ r ≤ k') (hk : 1 ≤ k' ∧ k' ≤ 64) : uA N W (k' : Int) D K (r : Int) Ls St ph b0 b1 b2 b3 w sp g0 g1 g2 m0 m1 m2 m3 m4 m5 m6 m7 m8 cv am = some ((qZ k' r : Nat) : Int) := by
 have hcl := AB (H := k') (R := r) hr.1 hk.1;unfold uA;rw [Le (by omega), aD, gE (x := (k' : Int) + r) (by omega), gE (x := (k' : Int) + r - 1) (by omega), show (k' : Int) + r - 1 = ((k' + r - 1 : Nat) : Int) by omega, show Int.tdiv ((k' + r - 1 : Nat) : Int) (r : Int) = (((k' + r - 1) / r : Nat) : Int) from rfl];exact congrArg some (gE (x := ((qZ k' r : Nat) : Int)) (by omega))
theorem Pk {f : Bool} (hb : iQ 8589934592 cv = some f) (hs : ∀ y ∈ St, y.length ≤ 9223372036854775807) : nY 8589934592 W H D K R Ls St ph b0 b1 b2 b3 w sp g0 g1 g2 m0 m1 m2 m3 m4 m5 m6 m7 m8 cv am = some (tJ W H D K R Ls St ph b0 b1 b2 b3 w sp g0 g1 g2 m0 m1 m2 m3 m4 m5 m6 m7 m8 am f) := by
 unfold nY tJ;rw [RO W H D K R Ls St ph b0 b1 b2 b3 w sp g0 g1 g2 m0 m1 m2 m3 m4 m5 m6 m7 m8 cv am 8589934592 (by decide), aD]
 by_cases h1 : qC W H D K R Ls = 0
 rotate_left
 ·rw [cT (by rw [decide_eq_false h1]; rfl), if_pos h1]
 obtain ⟨q1, q2, q3, q4⟩ := DM W H D K R Ls h1;rw [cF (by rw [decide_eq_true h1]; rfl), if_neg (fun q => q h1)];unfold uL at q1;obtain ⟨w', rfl⟩ := Int.eq_ofNat_of_zero_le (show 0 ≤ W by omega);obtain ⟨k', rfl⟩ := Int.eq_ofNat_of_zero_le (show 0 ≤ H by omega);obtain ⟨d, rfl⟩ := Int.eq_ofNat_of_zero_le (show 0 ≤ D by omega);obtain ⟨r, rfl⟩ := Int.eq_ofNat_of_zero_le (show 0 ≤ R by omega);rw [Pj _ _ K Ls St ph b0 b1 b2 b3 w sp g0 g1 g2 m0 m1 m2 m3 m4 m5 m6 m7 m8 cv am 8589934592 (by omega) (by omega), aD, Int.toNat_natCast, Int.toNat_natCast]
 by_cases h2 : St.length = qZ k' r
 rotate_left
 ·rw [cT (by rw [dF (by omega)]; rfl), if_pos h2]
 rw [cF (by rw [dT (by omega)]; rfl), if_neg (fun q => q h2), RP _ _ _ K _ Ls St ph b0 b1 b2 b3 w sp g0 g1 g2 m0 m1 m2 m3 m4 m5 m6 m7 m8 cv am hb (by omega) (by omega), aD]
 by_cases h3 : Ep (w' : Int) (k' : Int) ph b0 b1 b2 b3 w sp g0 g1 g2 m0 m1 m2 m3 m4 m5 m6 m7 m8 am f = 0
 rotate_left
 ·rw [cT (by rw [decide_eq_false h3]; rfl), if_pos h3]
 rw [cF (by rw [decide_eq_true h3]; rfl), if_neg (fun q => q h3)];have hcn := AB (H := k') (R := r) (by omega) (by omega);have key := Kg K Ls St ph b0 b1 b2 b3 w sp g0 g1 g2 m0 m1 m2 m3 m4 m5 m6 m7 m8 cv am 8589934592 (by decide) (w' := w') (h := k') (r := r) (d := d) (by omega) (by omega) (by omega) (by omega) hs h2 (fun (Ww, i4) => some ((w' : Int), (k' : Int), Ww, (0 : Int))) St.length 0 8589934592 [] (by omega) (by omega) (by simp);rw [List.drop_zero] at key;refine Eq.trans key ?_
 cases uM (w' : Int) (d : Int) K Ls k' r 0 St [] <;> rfl
theorem Hx {W D K : Int} {Ls : List Int} {H R : Nat} (hW : 1 ≤ W ∧ W ≤ 64) (hR : 1 ≤ R ∧ R ≤ H) (hH : H ≤ 64) : ∀ (t : List (List UInt8)) (i : Nat) (acc P : List Int), uM W D K Ls H R i t acc = some P → i + t.length = qZ H R → P.length = acc.length + W.toNat * (H - i * R)
 | [], i, acc, P, h, hi => by
  injection h with h
  subst h;have := mt (cnt_lt (H := H) (i := i) hR.1).2 (by simp only [List.length_nil] at hi; omega);rw [show H - i * R = 0 by omega]; simp
 | s :: t, i, acc, P, h, hi => by
  have hlt : i < qZ H R := by rw [List.length_cons] at hi; omega
  have h1 := (cnt_lt (H := H) (i := i) hR.1).1 hlt;unfold uM at h
  split at h
  ·cases h
  ·rename_i l hl
   have hll := FP hW (EX hR hH hlt) hl;rw [Int.toNat_natCast] at hll;have ih := Hx hW hR hH t (i + 1) _ P h (by rw [List.length_cons] at hi; omega);rw [ih, List.length_append, hll, Nat.add_assoc, ← Nat.mul_add]
   congr 2
   rw [Nat.add_mul];unfold jI
   omega
theorem MY (f : Bool) : (tJ W H D K R Ls St ph b0 b1 b2 b3 w sp g0 g1 g2 m0 m1 m2 m3 m4 m5 m6 m7 m8 am f).2.2.1.length ≤ 4096 := by
 unfold tJ
 by_cases h1 : qC W H D K R Ls = 0
 rotate_left
 ·rw [if_pos h1]; simp
 obtain ⟨q1, q2, q3, q4⟩ := DM W H D K R Ls h1;rw [if_neg (fun q => q h1)]
 by_cases h2 : St.length = qZ H.toNat R.toNat
 rotate_left
 ·rw [if_pos h2]; simp
 rw [if_neg (fun q => q h2)]
 split
 ·simp
 unfold uL at q1
 rcases hp : uM W D K Ls H.toNat R.toNat 0 St [] with _ | P
 ·simp
 ·have := Hx (by omega) (by omega) (by omega) St 0 [] P hp (by omega);have hm := Nat.mul_le_mul (show W.toNat ≤ 64 by omega) (show H.toNat ≤ 64 by omega);rw [Nat.zero_mul, Nat.sub_zero, List.length_nil, Nat.zero_add] at this;show P.length ≤ 4096
  omega
theorem Db {f : Bool} (hb : jT 8589934592 cv = some f) (hc : f = true ↔ qS cv) (hs : ∀ y ∈ St, y.length ≤ 9223372036854775807) : qA 8589934592 W H D K R Ls St ph b0 b1 b2 b3 w sp g0 g1 g2 m0 m1 m2 m3 m4 m5 m6 m7 m8 cv am = some (tJ W H D K R Ls St ph b0 b1 b2 b3 w sp g0 g1 g2 m0 m1 m2 m3 m4 m5 m6 m7 m8 am f).2.2.2 := by
 unfold qA;rw [Hw W H D K R Ls St ph b0 b1 b2 b3 w sp g0 g1 g2 m0 m1 m2 m3 m4 m5 m6 m7 m8 cv am hb hc hs, aD]
end
def nI (n : Int) : List Int := [(n / 16777216) % 256, (n / 65536) % 256, (n / 256) % 256, n % 256]
def Je (l : List Int) : List Int := (l.map nI).flatten
def tI (s : List UInt8) : List Int := nI s.length ++ qX s
def pI (p : Int × Int) : List Int := nI p.1 ++ nI p.2
theorem GI (a b : List Int) : toB (a ++ b) = toB a ++ toB b := by simp [toB]
theorem Kh (n : Int) : toB (nI n) = nB n := rfl
theorem RQ (s : List UInt8) : toB (tI s) = tB s := by unfold tI tB; rw [GI, Kh, JU]
theorem W1 (p : Int × Int) : toB (pI p) = pB p := by unfold pI pB; rw [GI, Kh, Kh]
theorem EY {α : Type} {f : α → List Int} {g : α → List UInt8} (h : ∀ x, toB (f x) = g x) : ∀ l : List α, toB ((l.map f).flatten) = (l.map g).flatten
 | [] => rfl
 | x :: l => by rw [List.map_cons, List.flatten_cons, GI, h, EY h l]; rfl
theorem Hy (n : Int) : (nI n).length = 4 := rfl
theorem Ki : ∀ l : List Int, (Je l).length = 4 * l.length
 | [] => rfl
 | n :: l => by
  have := Ki l;unfold Je at this ⊢;rw [List.map_cons, List.flatten_cons, List.length_append, Hy, this, List.length_cons]; omega
theorem RR (s : List UInt8) : (tI s).length = 4 + s.length := by unfold tI; rw [List.length_append, Hy, qT]
theorem Kj (p : Int × Int) : (pI p).length = 8 := by unfold pI; rw [List.length_append, Hy, Hy]
theorem GJ {α : Type} {f : α → List Int} {c : Nat} : ∀ l : List α, (∀ x ∈ l, (f x).length ≤ c) → ((l.map f).flatten).length ≤ c * l.length
 | [], _ => by simp
 | x :: l, h => by
  have := GJ l fun y hy => h y (List.mem_cons_of_mem _ hy)
  have := h x (List.mem_cons_self ..);rw [List.map_cons, List.flatten_cons, List.length_append, List.length_cons, Nat.mul_add]; omega
theorem u8w (x : Int) : IntKind.u8.wrap x = x % 256 := by
 simp [IntKind.wrap, IntKind.bits, IntKind.signed]
theorem Kk (e : Int) {k : Nat} (hk : k ≤ 64) : iZ .i64 e (k : Int) = e / ((2 ^ k : Nat) : Int) := by
 unfold iZ;rw [Int.toNat_natCast, show min k (IntKind.i64.bits) = k by show min k 64 = k; omega];rw [Int.fdiv_eq_ediv_of_nonneg _ (by exact Int.le_of_lt (Int.pow_pos (by decide)))]
 norm_cast
theorem aDi (e : Int) : IntKind.u8.wrap (iZ .i64 e 24) = (e / 16777216) % 256 := by rw [u8w, show (24 : Int) = ((24 : Nat) : Int) from rfl, Kk e (by decide)]; rfl
theorem aDj (e : Int) : IntKind.u8.wrap (iZ .i64 e 16) = (e / 65536) % 256 := by rw [u8w, show (16 : Int) = ((16 : Nat) : Int) from rfl, Kk e (by decide)]; rfl
theorem aDk (e : Int) : IntKind.u8.wrap (iZ .i64 e 8) = (e / 256) % 256 := by rw [u8w, show (8 : Int) = ((8 : Nat) : Int) from rfl, Kk e (by decide)]; rfl
theorem aDl (e : Int) : IntKind.u8.wrap (iZ .i64 e 0) = e % 256 := by rw [u8w, show (0 : Int) = ((0 : Nat) : Int) from rfl, Kk e (by decide)]; simp
theorem W2 (N : Nat) (e : Int) (kk) (b : List Int) (hb : b.length + 4 ≤ 140737488355328) (fuel : Nat) : iN N e kk (fuel + 5) (b, 3) = kk (b ++ nI e, -1) := by
 unfold iN;rw [cT (by rfl), show nn (IntKind.i64.wrap (8 * 3)) = some () from rfl, aD, show IntKind.i64.wrap (8 * 3) = 24 from rfl, aDi, iO (by simp; omega), aD, show IntKind.i64.wrap (3 - 1) = 2 from rfl, aD];unfold iN;rw [cT (by rfl), show nn (IntKind.i64.wrap (8 * 2)) = some () from rfl, aD, show IntKind.i64.wrap (8 * 2) = 16 from rfl, aDj, iO (by simp; omega), aD, show IntKind.i64.wrap (2 - 1) = 1 from rfl, aD];unfold iN;rw [cT (by rfl), show nn (IntKind.i64.wrap (8 * 1)) = some () from rfl, aD, show IntKind.i64.wrap (8 * 1) = 8 from rfl, aDk, iO (by simp; omega), aD, show IntKind.i64.wrap (1 - 1) = 0 from rfl, aD];unfold iN;rw [cT (by rfl), show nn (IntKind.i64.wrap (8 * 0)) = some () from rfl, aD, show IntKind.i64.wrap (8 * 0) = 0 from rfl, aDl, iO (by simp; omega), aD, show IntKind.i64.wrap (0 - 1) = -1 from rfl, aD];unfold iN;rw [cF (by rfl)];unfold nI;simp only [List.append_assoc, List.cons_append, List.nil_append]
theorem W3 (N : Nat) (hN : 5 ≤ N) (l : List Int) (hl : l.length ≤ 1000000000000) (kk) : ∀ (j k fuel : Nat) (b : List Int), k + j = l.length → j < fuel → b.length + 4 * j ≤ 140737488355328 →
  lU N l kk fuel (b, (k : Int)) = kk (b ++ Je (l.drop k), (l.length : Int)) := by
 intro j
 induction j with
 | zero =>
  intro k fuel b hk hf hb;obtain ⟨fuel, rfl⟩ : ∃ q, fuel = q + 1 := ⟨fuel - 1, by omega⟩
  obtain rfl : k = l.length := by omega
  unfold lU;rw [cF (dF (by omega)), List.drop_length];unfold Je
  simp
 | succ j ih =>
  intro k fuel b hk hf hb;obtain ⟨fuel, rfl⟩ : ∃ q, fuel = q + 1 := ⟨fuel - 1, by omega⟩
  obtain ⟨M, rfl⟩ : ∃ q, N = q + 5 := ⟨N - 5, by omega⟩
  have hlt : k < l.length := by omega
  unfold lU;rw [cT (dT (by omega)), eX, List.getElem?_eq_getElem hlt, aD, W2 _ _ _ _ (by omega)]
  dsimp only
  rw [gE (x := (k : Int) + 1) (by omega)];have := ih (k + 1) fuel (b ++ nI l[k]) (by omega) (by omega) (by rw [List.length_append, Hy]; omega);refine Eq.trans this ?_;rw [List.drop_eq_getElem_cons hlt, List.append_assoc]; rfl
theorem lV (N : Nat) (b l : List Int) (hl : l.length + 5 ≤ N) (h2 : l.length ≤ 1000000000000) (hb : b.length + 4 * l.length ≤ 140737488355328) : eM N b l = some (b ++ Je l) := by
 unfold eM;exact W3 N (by omega) l h2 _ l.length 0 N b (by omega) (by omega) hb
theorem LG (N : Nat) (hN : 6 ≤ N) (b : List Int) (s : List UInt8) (hb : b.length + 4 + s.length ≤ 140737488355328) : pE N b s = some (b ++ tI s) := by
 unfold pE;rw [lV N b _ (by simp; omega) (by simp) (by simp; omega), aD, iO (by rw [List.length_append, Ki, qT]; simp; omega), aD, List.append_assoc];unfold tI Je
 simp
section
variable (W H D K R : Int) (Ls : List Int) (St : List (List UInt8)) (ph b0 b1 b2 b3 w : Int) (sp : List (Int × Int)) (g0 g1 g2 m0 m1 m2 m3 m4 m5 m6 m7 m8 : Int) (cv : List (Int × Int)) (am : Int)
theorem FQ {α : Type} {f : α → List Int} (l : List α) {k : Nat} (h : k < l.length) : ((l.drop k).map f).flatten = f l[k] ++ ((l.drop (k + 1)).map f).flatten := by
 rw [List.drop_eq_getElem_cons h]; rfl
theorem Zy (N : Nat) (hN : 6 ≤ N) (kk) (hl : St.length ≤ 1000) (hs : ∀ s ∈ St, s.length ≤ 1000000) : ∀ (j k fuel : Nat) (b : List Int), k + j = St.length → j < fuel → b.length + 1000004 * j ≤ 140737488355328 →
  rW N St kk fuel (b, (k : Int)) = kk (b ++ ((St.drop k).map tI).flatten, (St.length : Int)) := by
 intro j
 induction j with
 | zero =>
  intro k fuel b hk hf hb;obtain ⟨fuel, rfl⟩ : ∃ q, fuel = q + 1 := ⟨fuel - 1, by omega⟩
  obtain rfl : k = St.length := by omega
  unfold rW;rw [cF (dF (by omega)), List.drop_length]; simp
 | succ j ih =>
  intro k fuel b hk hf hb;obtain ⟨fuel, rfl⟩ : ∃ q, fuel = q + 1 := ⟨fuel - 1, by omega⟩
  have hlt : k < St.length := by omega
  have := hs St[k] (List.getElem_mem hlt);unfold rW;rw [cT (dT (by omega)), eX, List.getElem?_eq_getElem hlt, aD, LG N hN _ _ (by omega), aD, gE (x := (k : Int) + 1) (by omega)];refine Eq.trans (ih (k + 1) fuel (b ++ tI St[k]) (by omega) (by omega) (by rw [List.length_append, RR]; omega)) ?_;rw [FQ St hlt, List.append_assoc]
theorem Zz (N : Nat) (hN : 10 ≤ N) (kk) (hl : sp.length ≤ 1000) : ∀ (j k fuel : Nat) (b : List Int), k + j = sp.length → j < fuel → b.length + 8 * j ≤ 140737488355328 →
  rV N sp kk fuel (b, (k : Int)) = kk (b ++ ((sp.drop k).map pI).flatten, (sp.length : Int)) := by
 intro j
 induction j with
 | zero =>
  intro k fuel b hk hf hb;obtain ⟨fuel, rfl⟩ : ∃ q, fuel = q + 1 := ⟨fuel - 1, by omega⟩
  obtain rfl : k = sp.length := by omega
  unfold rV;rw [cF (dF (by omega)), List.drop_length]; simp
 | succ j ih =>
  intro k fuel b hk hf hb;obtain ⟨fuel, rfl⟩ : ∃ q, fuel = q + 1 := ⟨fuel - 1, by omega⟩
  have hlt : k < sp.length := by omega
  unfold rV;rw [cT (dT (by omega)), eX, List.getElem?_eq_getElem hlt, aD, lV N _ _ (by simp; omega) (by simp) (by simp; omega), aD, gE (x := (k : Int) + 1) (by omega)];refine Eq.trans (ih (k + 1) fuel (b ++ pI sp[k]) (by omega) (by omega) (by rw [List.length_append, Kj]; omega)) ?_;rw [FQ sp hlt, List.append_assoc]
theorem ZA (N : Nat) (hN : 10 ≤ N) (kk) (hl : cv.length ≤ 1000) : ∀ (j k fuel : Nat) (b : List Int), k + j = cv.length → j < fuel → b.length + 8 * j ≤ 140737488355328 →
  rU N cv kk fuel (b, (k : Int)) = kk (b ++ ((cv.drop k).map pI).flatten, (cv.length : Int)) := by
 intro j
 induction j with
 | zero =>
  intro k fuel b hk hf hb;obtain ⟨fuel, rfl⟩ : ∃ q, fuel = q + 1 := ⟨fuel - 1, by omega⟩
  obtain rfl : k = cv.length := by omega
  unfold rU;rw [cF (dF (by omega)), List.drop_length]; simp
 | succ j ih =>
  intro k fuel b hk hf hb;obtain ⟨fuel, rfl⟩ : ∃ q, fuel = q + 1 := ⟨fuel - 1, by omega⟩
  have hlt : k < cv.length := by omega
  unfold rU;rw [cT (dT (by omega)), eX, List.getElem?_eq_getElem hlt, aD, lV N _ _ (by simp; omega) (by simp) (by simp; omega), aD, gE (x := (k : Int) + 1) (by omega)];refine Eq.trans (ih (k + 1) fuel (b ++ pI cv[k]) (by omega) (by omega) (by rw [List.length_append, Kj]; omega)) ?_;rw [FQ cv hlt, List.append_assoc]
def MZ : List Int := tI DS ++ (Je [W, H, D, K, R, (Ls.length : Int)] ++ (Je Ls ++ (Je [(St.length : Int)] ++ ((St.map tI).flatten ++ (Je [ph, b0, b1, b2, b3, w, (sp.length : Int)] ++ ((sp.map pI).flatten ++ (Je [g0, g1, g2] ++ (Je [m0, m1, m2, m3, m4, m5, m6, m7, m8] ++ (Je [(cv.length : Int)] ++ ((cv.map pI).flatten ++ Je [am]))))))))))
theorem Pm : toB (MZ W H D K R Ls St ph b0 b1 b2 b3 w sp g0 g1 g2 m0 m1 m2 m3 m4 m5 m6 m7 m8 cv am) = Iy W H D K R Ls St ph b0 b1 b2 b3 w sp g0 g1 g2 m0 m1 m2 m3 m4 m5 m6 m7 m8 cv am := by
 have hns : ∀ l, toB (Je l) = (l.map nB).flatten := fun l => EY Kh l
 unfold MZ Iy lB;simp only [GI, hns, RQ, EY RQ, EY W1, List.map_cons, List.map_nil, List.flatten_cons, List.flatten_nil, List.append_assoc, List.append_nil]
theorem LH (N : Nat) (hN : 2000 ≤ N) (hL : Ls.length ≤ 1000) (hSt : St.length ≤ 1000) (hs : ∀ s ∈ St, s.length ≤ 1000000) (hsp : sp.length ≤ 1000) (hcv : cv.length ≤ 1000) {e : Int} (hc : qA N W H D K R Ls St ph b0 b1 b2 b3 w sp g0 g1 g2 m0 m1 m2 m3 m4 m5 m6 m7 m8 cv am = some e) :
  nS N W H D K R Ls St ph b0 b1 b2 b3 w sp g0 g1 g2 m0 m1 m2 m3 m4 m5 m6 m7 m8 cv am = some (if e = 0 then (Iy W H D K R Ls St ph b0 b1 b2 b3 w sp g0 g1 g2 m0 m1 m2 m3 m4 m5 m6 m7 m8 cv am, 0) else ([], e)) := by
 have f1 := GJ (f := tI) (c := 1000004) St fun s hq => by have := hs s hq; rw [RR]; omega
 have f2 := GJ (f := pI) (c := 8) sp fun s hq => by rw [Kj]; exact Nat.le_refl _
 have f3 := GJ (f := pI) (c := 8) cv fun s hq => by rw [Kj]; exact Nat.le_refl _
 have nl : ∀ l : List Int, (Je l).length = 4 * l.length := Ki;have tl : (tI DS).length = 8 := rfl;unfold nS;rw [hc, aD]
 by_cases h : e = 0
 rotate_left
 ·rw [cT (by rw [dF h]; rfl), if_neg h]
 rw [cF (by rw [dT h]; rfl), if_pos h];rw [show pE N ([] : List Int) ([100, 97, 114, 107] : List UInt8) = some (tI DS) from LG N (by omega) [] DS (by decide), aD];rw [lV N _ _ (by simp; omega) (by simp) (by simp [tl]), aD, lV N _ _ (by omega) (by omega) (by simp [tl, nl]; omega), aD, lV N _ _ (by simp; omega) (by simp) (by simp [tl, nl]; omega), aD];have key1 := fun kk => Zy St N (by omega) kk hSt hs St.length 0 N (tI DS ++ Je [W, H, D, K, R, (Ls.length : Int)] ++ Je Ls ++ Je [(St.length : Int)]) (by omega) (by omega) (by simp [tl, nl]; omega)
 rw [List.drop_zero] at key1;refine (key1 _).trans ?_
 dsimp only
 rw [lV N _ _ (by simp; omega) (by simp) (by simp only [List.length_append, tl, nl, List.length_cons, List.length_nil]; omega), aD, lV N _ _ (by simp; omega) (by simp) (by simp only [List.length_append, tl, nl, List.length_cons, List.length_nil]; omega), aD, lV N _ _ (by simp; omega) (by simp) (by simp only [List.length_append, tl, nl, List.length_cons, List.length_nil]; omega), aD];have key2 := fun kk b hb => Zz sp N (by omega) kk hsp sp.length 0 N b (by omega) (by omega) hb
 rw [List.drop_zero] at key2;refine (key2 _ _ (by simp only [List.length_append, tl, nl, List.length_cons, List.length_nil]; omega)).trans ?_
 dsimp only
 rw [lV N _ _ (by simp; omega) (by simp) (by simp only [List.length_append, tl, nl, List.length_cons, List.length_nil]; omega), aD, lV N _ _ (by simp; omega) (by simp) (by simp only [List.length_append, tl, nl, List.length_cons, List.length_nil]; omega), aD, lV N _ _ (by simp; omega) (by simp) (by simp only [List.length_append, tl, nl, List.length_cons, List.length_nil]; omega), aD];have ZB := fun kk b hb => ZA cv N (by omega) kk hcv cv.length 0 N b (by omega) (by omega) hb
 rw [List.drop_zero] at ZB;refine (ZB _ _ (by simp only [List.length_append, tl, nl, List.length_cons, List.length_nil]; omega)).trans ?_
 dsimp only
 rw [lV N _ _ (by simp; omega) (by simp) (by simp only [List.length_append, tl, nl, List.length_cons, List.length_nil]; omega), aD, ← Pm W H D K R Ls St ph b0 b1 b2 b3 w sp g0 g1 g2 m0 m1 m2 m3 m4 m5 m6 m7 m8 cv am];unfold MZ
 congr 3
 simp only [Je, List.append_assoc, List.map_cons, List.map_nil, List.flatten_cons, List.flatten_nil, List.append_nil, List.cons_append, List.nil_append]
end
theorem aDm {n : Int} (h : 0 ≤ n ∧ n < 4294967296) : IntKind.i32.wrap n = if n < 2147483648 then n else n - 4294967296 := by
 have e : IntKind.i32.wrap n = if n % 4294967296 ≥ 2147483648 then n % 4294967296 - 4294967296 else n % 4294967296 := by
  simp [IntKind.wrap, IntKind.bits, IntKind.signed]
 rw [e, show n % 4294967296 = n by omega]
 split <;> split <;> omega
theorem Ua {x y : Nat} (hx : x < 16777216) (hy : y < 256) : Iu .i64 (nX .i64 (x : Int) 8) (IntKind.i64.wrap (y : Int)) = ((x * 256 + y : Nat) : Int) := by
 rw [show (8 : Int) = ((8 : Nat) : Int) from rfl, uW (by decide) (by omega), gE (by omega)];exact FI (h := x) (d := 8) (e := y) (by omega) (by omega)
theorem Ub (a b c d : UInt8) : IntKind.i64.wrap (IntKind.i32.wrap ((((a.toNat * 256 + b.toNat) * 256 + c.toNat) * 256 + d.toNat : Nat) : Int)) = v32 a b c d := by
 have ha := a.toNat_lt; have hb := b.toNat_lt; have hc := c.toNat_lt; have hd := d.toNat_lt;rw [aDm (by omega)];unfold v32
 by_cases q : (a.toNat : Int) < 128
 ·rw [if_pos q, if_pos (by omega), gE (by omega)]; omega
 ·rw [if_neg q, if_neg (by omega), gE (by omega)]; omega
theorem W4 (N : Nat) (l : List UInt8 × List UInt8) (kk) (hl : l.1.length ≤ 4) : ∀ (j k fuel x : Nat), k + j = l.1.length → j < fuel → x < 256 ^ k → jB N l kk fuel ((x : Int), (k : Int)) = kk (((((l.1.drop k).foldl (fun x b => x * 256 + b.toNat) x : Nat)) : Int), (l.1.length : Int)) := by
 intro j
 induction j with
 | zero =>
  intro k fuel x hk hf hx;obtain ⟨fuel, rfl⟩ : ∃ q, fuel = q + 1 := ⟨fuel - 1, by omega⟩
  unfold jB;rw [cF (dF (by rw [qT]; omega)), List.drop_of_length_le (by omega), show k = l.1.length by omega]; rfl
 | succ j ih =>
  intro k fuel x hk hf hx;obtain ⟨fuel, rfl⟩ : ∃ q, fuel = q + 1 := ⟨fuel - 1, by omega⟩
  have hlt : k < l.1.length := by omega
  have hb := (l.1[k]).toNat_lt
  have hx2 : x < 16777216 := by
   have : 256 ^ k ≤ 256 ^ 3 := Nat.pow_le_pow_right (by decide) (by omega);have e : (256 : Nat) ^ 3 = 16777216 := by decide
   omega
  unfold jB;rw [cT (dT (by rw [qT]; omega)), eX];have e1 : (qX l.1)[k]? = some ((l.1[k].toNat : Nat) : Int) := by unfold qX; rw [List.getElem?_map, List.getElem?_eq_getElem hlt]; rfl
  rw [e1, aD, Ua hx2 hb, aD, gE (x := (k : Int) + 1) (by omega)];refine Eq.trans (ih (k + 1) fuel (x * 256 + l.1[k].toNat) (by omega) (by omega) (by rw [Nat.pow_succ]; omega)) ?_;rw [List.drop_eq_getElem_cons hlt, List.foldl_cons]
theorem Er (N : Nat) (S : List UInt8) (n : Int) : iK N S n = some (if 0 ≤ n ∧ n ≤ S.length then some (S.take n.toNat, S.drop n.toNat) else none) := by
 unfold iK
 by_cases h1 : n < 0
 ·rw [cT (dT h1), if_neg (by omega)]
 rw [cF (dF h1)]
 by_cases h2 : (S.length : Int) < n
 ·rw [cT (dT h2), if_neg (by omega)]
 rw [cF (dF h2), Bm (by omega), aD, Bm (by omega), aD, if_pos (by omega), show ((0 : Int)).toNat = 0 from rfl, List.drop_zero, Int.toNat_natCast, List.take_length]
theorem w5 (N : Nat) (hN : 6 ≤ N) (S : List UInt8) : aS N S = some (vS S) := by
 unfold aS;rw [Er, aD]
 rcases S with _ | ⟨a, _ | ⟨b, _ | ⟨c, _ | ⟨d, t⟩⟩⟩⟩
 ·rfl
 ·rfl
 ·rfl
 ·rfl
 rw [if_pos (by simp; omega)];show jB N ([a, b, c, d], t) _ N (0, 0) = _;have key := W4 N ([a, b, c, d], t) (fun (n4, i2) => some (some (IntKind.i64.wrap (IntKind.i32.wrap n4), t))) (by simp) 4 0 N 0 rfl (by omega) (by decide);refine Eq.trans key ?_;show some (some (IntKind.i64.wrap (IntKind.i32.wrap ((((0 * 256 + a.toNat) * 256 + b.toNat) * 256 + c.toNat) * 256 + d.toNat : Nat)), t)) = some (some (v32 a b c d, t));rw [← Ub, Nat.zero_mul, Nat.zero_add]
def PS {α β : Type} (no : Option β) (kk : List α × List UInt8 × Int → Option β) (l : List α) (i : Int) : Option (List α × List UInt8) → Option β
 | none => no
 | some (m, u) => kk (l ++ m, u, i)
section
variable {γ : Type} {out : Option γ → Option Gf} {no : Option Gf}
theorem tR {N : Nat} (hN : 6 ≤ N) (hno : out none = no) (S : List UInt8) {k : Int × List UInt8 → Option Gf} {g : Int × List UInt8 → Option γ} (h : ∀ n t, k (n, t) = out (g (n, t))) : (Option.bind (aS N S) fun q => Ab q no k) = out ((vS S).bind g) := by
 rw [w5 N hN, aD]
 rcases vS S with _ | ⟨n, t⟩
 ·exact hno.symm
 ·exact h n t
theorem ZC {N : Nat} (hN : 6 ≤ N) (hno : out none = no) (S : List UInt8) {k : List UInt8 × List UInt8 → Option Gf} {g : List UInt8 × List UInt8 → Option γ} (h : ∀ n t, k (n, t) = out (g (n, t))) : (Option.bind (aS N S) fun q => Ab q no fun r2 => Option.bind (iK N r2.2 r2.1) fun q2 => Ab q2 no k) = out ((Iq S).bind g) := by
 rw [w5 N hN, aD];unfold Iq PP
 rcases vS S with _ | ⟨n, t⟩
 ·exact hno.symm
 show (Option.bind (iK N t n) fun q2 => Ab q2 no k) = out ((((if _ then _ else _ : Option (Nat × List UInt8))).bind _).bind g);rw [Er, aD]
 dsimp only
 by_cases q : 0 ≤ n ∧ n ≤ t.length
 ·rw [if_pos q, if_pos q]; exact h _ _
 ·rw [if_neg q, if_neg q]; exact hno.symm
theorem N4 {N : Nat} (hN : 2147483655 ≤ N) (hno : out none = no) (S : List UInt8) {α : Type} {f : List UInt8 → Option (α × List UInt8)} {lp : Int × List UInt8 → (List α × List UInt8 × Int → Option Gf) → Nat → List α × List UInt8 × Int → Option Gf} {kk : List α × List UInt8 × Int → Option Gf} {g : List α × List UInt8 → Option γ}
  (hl : ∀ (n : Int) (s0 : List UInt8), n < 2147483648 → ∀ (j fuel : Nat) (l : List α) (t : List UInt8), l.length + j = n.toNat → j < fuel → lp (n, s0) kk fuel (l, t, (l.length : Int)) = PS no kk l (((l.length + j : Nat)) : Int) (AI f j t))
  (h : ∀ l t i, kk (l, t, i) = out (g (l, t))) : (Option.bind (aS N S) fun q => Ab q no fun r9 => cond (decide (r9.1 < 0)) no (cond (decide ((r9.2.length : Int) < r9.1)) no (lp r9 kk N ([], r9.2, 0)))) = out ((F9 f S).bind g) := by
 rw [w5 N (by omega), aD];unfold F9 PP
 rcases hr : vS S with _ | ⟨n, t⟩
 ·exact hno.symm
 obtain ⟨_, hi⟩ := eL hr;unfold is32 at hi;show cond (decide (n < 0)) no (cond (decide ((t.length : Int) < n)) no (lp (n, t) kk N ([], t, 0))) = out ((((if _ then _ else _ : Option (Nat × List UInt8))).bind _).bind g)
 by_cases q1 : n < 0
 ·rw [cT (dT q1), if_neg (fun q => by have := q.1; omega)]; exact hno.symm
 rw [cF (dF q1)]
 by_cases q2 : (t.length : Int) < n
 ·rw [cT (dT q2), if_neg (fun q => by have : n ≤ (t.length : Int) := q.2; omega)]; exact hno.symm
 rw [cF (dF q2), if_pos ⟨by omega, by show n ≤ (t.length : Int); omega⟩];have := hl n t (by omega) n.toNat N [] t (by simp) (by omega);refine Eq.trans this ?_
 dsimp only
 show _ = out ((AI f n.toNat t).bind g)
 rcases AI f n.toNat t with _ | ⟨m, u⟩
 ·exact hno.symm
 ·show kk ([] ++ m, u, _) = _;rw [List.nil_append]; exact h _ _ _
end
def y9 : Option Gf := some (0, 0, 0, 0, 0, [], [], 0, 0, 0, 0, 0, 0, [], 0, 0, 0, 0, 0, 0, 0, 0, 0, 0, 0, 0, [], 0, 1)
theorem ZD (N : Nat) (hN : 6 ≤ N) (kk) (n : Int) (s0 : List UInt8) (hn : n < 2147483648) : ∀ (j fuel : Nat) (l : List Int) (t : List UInt8), l.length + j = n.toNat → j < fuel → qR N (n, s0) kk fuel (l, t, (l.length : Int)) = PS y9 kk l (((l.length + j : Nat)) : Int) (AI vS j t) := by
 intro j
 induction j with
 | zero =>
  intro fuel l t hl hf;obtain ⟨fuel, rfl⟩ : ∃ q, fuel = q + 1 := ⟨fuel - 1, by omega⟩
  unfold qR;rw [cF (dF (by show ¬ (l.length : Int) < n; omega))];show kk _ = kk _;rw [List.append_nil]; rfl
 | succ j ih =>
  intro fuel l t hl hf;obtain ⟨fuel, rfl⟩ : ∃ q, fuel = q + 1 := ⟨fuel - 1, by omega⟩
  unfold qR AI;rw [cT (dT (by show (l.length : Int) < n; omega)), w5 N hN, aD]
  rcases vS t with _ | ⟨x, u⟩
  ·rfl
  show (Option.bind (app 8 l [x]) _) = _;rw [iO (by simp; omega), aD, gE (x := (l.length : Int) + 1) (by omega)];have := ih fuel (l ++ [x]) u (by simp; omega) (by omega);rw [List.length_append] at this;refine Eq.trans this ?_;show _ = PS y9 kk l (((l.length + (j + 1) : Nat)) : Int) ((AI vS j u).bind fun q => some (x :: q.1, q.2))
  rcases AI vS j u with _ | ⟨m, v⟩
  ·rfl
  ·show kk _ = kk _;rw [List.append_assoc]
   congr 3
   simp; omega
theorem ZE (N : Nat) (hN : 6 ≤ N) (kk) (n : Int) (s0 : List UInt8) (hn : n < 2147483648) : ∀ (j fuel : Nat) (l : List (List UInt8)) (t : List UInt8), l.length + j = n.toNat → j < fuel → qQ N (n, s0) kk fuel (l, t, (l.length : Int)) = PS y9 kk l (((l.length + j : Nat)) : Int) (AI Iq j t) := by
 intro j
 induction j with
 | zero =>
  intro fuel l t hl hf;obtain ⟨fuel, rfl⟩ : ∃ q, fuel = q + 1 := ⟨fuel - 1, by omega⟩
  unfold qQ;rw [cF (dF (by show ¬ (l.length : Int) < n; omega))];show kk _ = kk _;rw [List.append_nil]; rfl
 | succ j ih =>
  intro fuel l t hl hf;obtain ⟨fuel, rfl⟩ : ∃ q, fuel = q + 1 := ⟨fuel - 1, by omega⟩
  unfold qQ AI;rw [cT (dT (by show (l.length : Int) < n; omega)), w5 N hN, aD];unfold Iq PP
  rcases vS t with _ | ⟨x, u⟩
  ·rfl
  show (Option.bind (iK N u x) fun Y8 => Ab Y8 _ _) = _;rw [Er, aD];show _ = PS y9 kk l (((l.length + (j + 1) : Nat)) : Int) ((((if _ then _ else _ : Option (Nat × List UInt8))).bind fun p => some (p.2.take p.1, p.2.drop p.1)).bind _)
  by_cases q : 0 ≤ x ∧ x ≤ (u.length : Int)
  rotate_left
  ·rw [if_neg q, if_neg (fun q' => q q')]; rfl
  rw [if_pos q, if_pos (show 0 ≤ (x, u).1 ∧ (x, u).1 ≤ ((x, u).2.length : Int) from q)];show (Option.bind (app 16 l [u.take x.toNat]) _) = _;rw [iO (by simp; omega), aD, gE (x := (l.length : Int) + 1) (by omega)];have := ih fuel (l ++ [u.take x.toNat]) (u.drop x.toNat) (by simp; omega) (by omega);rw [List.length_append] at this;refine Eq.trans this ?_;show _ = PS y9 kk l (((l.length + (j + 1) : Nat)) : Int) ((AI Iq j (u.drop x.toNat)).bind fun q => some (u.take x.toNat :: q.1, q.2))
  rcases AI Iq j (u.drop x.toNat) with _ | ⟨m, v⟩
  ·rfl
  ·show kk _ = kk _;rw [List.append_assoc]
   congr 3
   simp; omega
theorem ZF (N : Nat) (hN : 6 ≤ N) (kk) (n : Int) (s0 : List UInt8) (hn : n < 2147483648) : ∀ (j fuel : Nat) (l : List (Int × Int)) (t : List UInt8), l.length + j = n.toNat → j < fuel → qP N (n, s0) kk fuel (l, t, (l.length : Int)) = PS y9 kk l (((l.length + j : Nat)) : Int) (AI G2 j t) := by
 intro j
 induction j with
 | zero =>
  intro fuel l t hl hf;obtain ⟨fuel, rfl⟩ : ∃ q, fuel = q + 1 := ⟨fuel - 1, by omega⟩
  unfold qP;rw [cF (dF (by show ¬ (l.length : Int) < n; omega))];show kk _ = kk _;rw [List.append_nil]; rfl
 | succ j ih =>
  intro fuel l t hl hf;obtain ⟨fuel, rfl⟩ : ∃ q, fuel = q + 1 := ⟨fuel - 1, by omega⟩
  unfold qP AI;rw [cT (dT (by show (l.length : Int) < n; omega)), w5 N hN, aD];unfold G2
  rcases vS t with _ | ⟨x, u⟩
  ·rfl
  show (Option.bind (aS N u) fun Wx => Ab Wx _ _) = PS y9 kk l (((l.length + (j + 1) : Nat)) : Int) ((((vS u).bind _)).bind _);rw [w5 N hN, aD]
  rcases vS u with _ | ⟨y, v⟩
  ·rfl
  show (Option.bind (app 16 l [(x, y)]) _) = _;rw [iO (by simp; omega), aD, gE (x := (l.length : Int) + 1) (by omega)];have := ih fuel (l ++ [(x, y)]) v (by simp; omega) (by omega);rw [List.length_append] at this;refine Eq.trans this ?_;show _ = PS y9 kk l (((l.length + (j + 1) : Nat)) : Int) ((AI G2 j v).bind fun q => some ((x, y) :: q.1, q.2))
  rcases AI G2 j v with _ | ⟨m, z⟩
  ·rfl
  ·show kk _ = kk _;rw [List.append_assoc]
   congr 3
   simp; omega
theorem ZG (N : Nat) (hN : 6 ≤ N) (kk) (n : Int) (s0 : List UInt8) (hn : n < 2147483648) : ∀ (j fuel : Nat) (l : List (Int × Int)) (t : List UInt8), l.length + j = n.toNat → j < fuel → qO N (n, s0) kk fuel (l, t, (l.length : Int)) = PS y9 kk l (((l.length + j : Nat)) : Int) (AI G2 j t) := by
 intro j
 induction j with
 | zero =>
  intro fuel l t hl hf;obtain ⟨fuel, rfl⟩ : ∃ q, fuel = q + 1 := ⟨fuel - 1, by omega⟩
  unfold qO;rw [cF (dF (by show ¬ (l.length : Int) < n; omega))];show kk _ = kk _;rw [List.append_nil]; rfl
 | succ j ih =>
  intro fuel l t hl hf;obtain ⟨fuel, rfl⟩ : ∃ q, fuel = q + 1 := ⟨fuel - 1, by omega⟩
  unfold qO AI;rw [cT (dT (by show (l.length : Int) < n; omega)), w5 N hN, aD];unfold G2
  rcases vS t with _ | ⟨x, u⟩
  ·rfl
  show (Option.bind (aS N u) fun Wx => Ab Wx _ _) = PS y9 kk l (((l.length + (j + 1) : Nat)) : Int) ((((vS u).bind _)).bind _);rw [w5 N hN, aD]
  rcases vS u with _ | ⟨y, v⟩
  ·rfl
  show (Option.bind (app 16 l [(x, y)]) _) = _;rw [iO (by simp; omega), aD, gE (x := (l.length : Int) + 1) (by omega)];have := ih fuel (l ++ [(x, y)]) v (by simp; omega) (by omega);rw [List.length_append] at this;refine Eq.trans this ?_;show _ = PS y9 kk l (((l.length + (j + 1) : Nat)) : Int) ((AI G2 j v).bind fun q => some ((x, y) :: q.1, q.2))
  rcases AI G2 j v with _ | ⟨m, z⟩
  ·rfl
  ·show kk _ = kk _;rw [List.append_assoc]
   congr 3
   simp; omega
def vA (N : Nat) : Option (Wn × List UInt8) → Option Gf
 | none => y9
 | some ((W, H, D, K, R, Ls, St, ph, b0, b1, b2, b3, w, sp, g0, g1, g2, m0, m1, m2, m3, m4, m5, m6, m7, m8, cv, am), t) =>
  cond (!decide (t = ([] : List UInt8))) y9 (Option.bind (qA N W H D K R Ls St ph b0 b1 b2 b3 w sp g0 g1 g2 m0 m1 m2 m3 m4 m5 m6 m7 m8 cv am) fun e => cond (!decide (e = 0)) y9 (some (W, H, D, K, R, Ls, St, ph, b0, b1, b2, b3, w, sp, g0, g1, g2, m0, m1, m2, m3, m4, m5, m6, m7, m8, cv, am, 0)))
theorem DW (N : Nat) (hN : 2147483655 ≤ N) (s : List UInt8) : oF N s = vA N (JD s) := by
 have h6 : 6 ≤ N := by omega
 have no : vA N none = y9 := rfl;unfold oF JD;refine ZC (out := vA N) h6 no s fun m s => ?_
 dsimp only
 by_cases hm : m = [100, 97, 114, 107]
 rotate_left
 ·rw [cT (by rw [dF hm]; rfl), if_pos (show m ≠ DS from hm)]; rfl
 rw [cF (by rw [dT hm]; rfl), if_neg (fun q => q hm)];refine tR (out := vA N) h6 no s fun W s => ?_; dsimp only
 refine tR (out := vA N) h6 no s fun H s => ?_; dsimp only
 refine tR (out := vA N) h6 no s fun D s => ?_; dsimp only
 refine tR (out := vA N) h6 no s fun K s => ?_; dsimp only
 refine tR (out := vA N) h6 no s fun R s => ?_; dsimp only
 refine N4 (out := vA N) hN no s (lp := qR N) (fun n s0 hn => ZD N h6 _ n s0 hn) fun Ls s i => ?_; dsimp only
 refine N4 (out := vA N) hN no s (lp := qQ N) (fun n s0 hn => ZE N h6 _ n s0 hn) fun St s i => ?_; dsimp only
 refine tR (out := vA N) h6 no s fun ph s => ?_; dsimp only
 refine tR (out := vA N) h6 no s fun b0 s => ?_; dsimp only
 refine tR (out := vA N) h6 no s fun b1 s => ?_; dsimp only
 refine tR (out := vA N) h6 no s fun b2 s => ?_; dsimp only
 refine tR (out := vA N) h6 no s fun b3 s => ?_; dsimp only
 refine tR (out := vA N) h6 no s fun w s => ?_; dsimp only
 refine N4 (out := vA N) hN no s (lp := qP N) (fun n s0 hn => ZF N h6 _ n s0 hn) fun sp s i => ?_; dsimp only
 refine tR (out := vA N) h6 no s fun g0 s => ?_; dsimp only
 refine tR (out := vA N) h6 no s fun g1 s => ?_; dsimp only
 refine tR (out := vA N) h6 no s fun g2 s => ?_; dsimp only
 refine tR (out := vA N) h6 no s fun m0 s => ?_; dsimp only
 refine tR (out := vA N) h6 no s fun m1 s => ?_; dsimp only
 refine tR (out := vA N) h6 no s fun m2 s => ?_; dsimp only
 refine tR (out := vA N) h6 no s fun m3 s => ?_; dsimp only
 refine tR (out := vA N) h6 no s fun m4 s => ?_; dsimp only
 refine tR (out := vA N) h6 no s fun m5 s => ?_; dsimp only
 refine tR (out := vA N) h6 no s fun m6 s => ?_; dsimp only
 refine tR (out := vA N) h6 no s fun m7 s => ?_; dsimp only
 refine tR (out := vA N) h6 no s fun m8 s => ?_; dsimp only
 refine N4 (out := vA N) hN no s (lp := qO N) (fun n s0 hn => ZG N h6 _ n s0 hn) fun cv s i => ?_; dsimp only
 refine tR (out := vA N) h6 no s fun am s => ?_; dsimp only
 rfl
theorem GK (N : Nat) (S : List UInt8) : aG N S true = some (0, S, true) := by
 unfold aG; rfl
theorem or4 (a b c d : UInt8) : Iu .i64 (Iu .i64 (Iu .i64 (nX .i64 (IntKind.i64.wrap (a.toNat : Int)) 24) (nX .i64 (IntKind.i64.wrap (b.toNat : Int)) 16)) (nX .i64 (IntKind.i64.wrap (c.toNat : Int)) 8)) (IntKind.i64.wrap (d.toNat : Int)) = ((((a.toNat * 256 + b.toNat) * 256 + c.toNat) * 256 + d.toNat : Nat) : Int) := by
 have ha := a.toNat_lt; have hb := b.toNat_lt; have hc := c.toNat_lt; have hd := d.toNat_lt;rw [gE (x := (a.toNat : Int)) (by omega), gE (x := (b.toNat : Int)) (by omega), gE (x := (c.toNat : Int)) (by omega), gE (x := (d.toNat : Int)) (by omega)];rw [show (24 : Int) = ((24 : Nat) : Int) from rfl, show (16 : Int) = ((16 : Nat) : Int) from rfl, show (8 : Int) = ((8 : Nat) : Int) from rfl];rw [uW (h := a.toNat) (k := 24) (by decide) (by omega), uW (h := b.toNat) (k := 16) (by decide) (by omega), uW (h := c.toNat) (k := 8) (by decide) (by omega)];rw [FI (h := a.toNat) (d := 24) (e := b.toNat * 2 ^ 16) (by omega) (by omega)];rw [show a.toNat * 2 ^ 24 + b.toNat * 2 ^ 16 = (a.toNat * 256 + b.toNat) * 2 ^ 16 by omega, FI (h := a.toNat * 256 + b.toNat) (d := 16) (e := c.toNat * 2 ^ 8) (by omega) (by omega)];rw [show (a.toNat * 256 + b.toNat) * 2 ^ 16 + c.toNat * 2 ^ 8 = ((a.toNat * 256 + b.toNat) * 256 + c.toNat) * 2 ^ 8 by omega, FI (h := (a.toNat * 256 + b.toNat) * 256 + c.toNat) (d := 8) (e := d.toNat) (by omega) (by omega)]
theorem B8 (N : Nat) (S : List UInt8) : aG N S false = some (match vS S with | none => (0, S, true) | some (n, t) => (n, t, false)) := by
 unfold aG;rw [cF rfl]
 rcases S with _ | ⟨a, _ | ⟨b, _ | ⟨c, _ | ⟨d, t⟩⟩⟩⟩
 ·rfl
 ·rfl
 ·rfl
 ·rfl
 have ha := a.toNat_lt; have hb := b.toNat_lt; have hc := c.toNat_lt; have hd := d.toNat_lt;rw [cF (dF (by simp; omega)), show idx (a :: b :: c :: d :: t) 0 = some a from rfl, aD, show idx (a :: b :: c :: d :: t) 1 = some b from rfl, aD, show idx (a :: b :: c :: d :: t) 2 = some c from rfl, aD, aD, show idx (a :: b :: c :: d :: t) 3 = some d from rfl, aD, aD, or4, Bm (by simp; omega), aD];have e : (List.take (((a :: b :: c :: d :: t).length : Int)).toNat (a :: b :: c :: d :: t)).drop (4 : Int).toNat = t := by rw [Int.toNat_natCast, List.take_length]; rfl
 rw [e];show _ = some (v32 a b c d, t, false);unfold v32
 by_cases q : (a.toNat : Int) < 128
 ·rw [if_pos q, cF (dF (by omega))]
  congr 2; omega
 ·rw [if_neg q, cT (dT (by omega)), gE (by omega), aD]
  congr 2; omega
def Uc {α β : Type} (kk : List α × List UInt8 × Bool × Int → Option β) (l : List α) (bad : Option β) : Option (List α × List UInt8) → Option β
 | none => bad
 | some (m, u) => kk (l ++ m, u, false, 0)
section
variable {β : Type}
def GD (no : Option β) (e : List UInt8 → Bool → Option β) (f : List UInt8 → Option β) : Prop := (∀ S, e S true = no) ∧ ∀ S, e S false = f S
variable {γ : Type} {out : Option γ → Option β} {no : Option β} {N : Nat}
theorem GN (hno : out none = no) {k : Int × List UInt8 × Bool → Option β} {g : Int × List UInt8 → Option γ} (h : ∀ n, GD no (fun S b => k (n, S, b)) (fun S => out (g (n, S)))) : GD no (fun S b => Option.bind (aG N S b) k) (fun S => out ((vS S).bind g)) := by
 refine ⟨fun S => ?_, fun S => ?_⟩
 ·dsimp only
  rw [GK, aD]; exact (h 0).1 S
 ·dsimp only
  rw [B8, aD]
  rcases vS S with _ | ⟨n, t⟩
  ·exact ((h 0).1 S).trans hno.symm
  ·exact (h n).2 t
theorem LI (S : List UInt8) : ∃ n, fQ N S true = some (n, S, true) ∧ n = 0 := by
 unfold fQ;rw [GK, aD]
 by_cases q : (S.length : Int) < 0
 ·omega
 ·rw [cF (by rfl), cF (dF q), cT rfl]; exact ⟨_, rfl, rfl⟩
theorem N5 (S : List UInt8) : ∃ n t b, fQ N S false = some (n, t, b) ∧ ((PP S = none ∧ n = 0 ∧ b = true) ∨ ∃ m, PP S = some (m, t) ∧ n = (m : Int) ∧ b = false) := by
 unfold fQ PP;rw [B8, aD]
 rcases vS S with _ | ⟨n, t⟩
 ·by_cases q : (S.length : Int) < 0
  ·omega
  ·dsimp only
   rw [cF (by rfl), cF (dF q), cT rfl]; exact ⟨_, _, _, rfl, .inl ⟨rfl, rfl, rfl⟩⟩
 dsimp only
 rw [aD]
 dsimp only
 by_cases q1 : n < 0
 ·rw [cT (dT q1), if_neg (fun q => by have := q.1; omega)];exact ⟨_, _, _, rfl, .inl ⟨rfl, rfl, rfl⟩⟩
 rw [cF (dF q1)]
 by_cases q2 : (t.length : Int) < n
 ·rw [cT (dT q2), if_neg (fun q => by have := q.2; omega)];exact ⟨_, _, _, rfl, .inl ⟨rfl, rfl, rfl⟩⟩
 rw [cF (dF q2), cF rfl, if_pos ⟨by omega, by omega⟩];exact ⟨_, _, _, rfl, .inr ⟨n.toNat, rfl, by omega, rfl⟩⟩
theorem RT (S : List UInt8) : iE N S true = some ([], S, true) := by
 unfold iE;obtain ⟨n, h, _⟩ := LI (N := N) S;rw [h, aD]; rfl
theorem N6 (S : List UInt8) : ∃ t, iE N S false = some (match Iq S with | none => ([], t, true) | some (x, u) => (x, u, false)) := by
 unfold iE Iq;obtain ⟨n, t, b, h, ⟨h1, rfl, rfl⟩ | ⟨m, h1, rfl, rfl⟩⟩ := N5 (N := N) S
 ·rw [h, aD, h1]; exact ⟨_, rfl⟩
 ·have hm := (Gu h1).2.2;rw [h, aD, h1]
  dsimp only
  rw [cT (by rfl), Bm (by omega), aD, Bm (by omega), aD];refine ⟨[], ?_⟩;show _ = some (t.take m, t.drop m, false);rw [Int.toNat_natCast, Int.toNat_natCast, List.take_length, show ((0 : Int)).toNat = 0 from rfl, List.drop_zero]
theorem GT (hno : out none = no) {k : List UInt8 × List UInt8 × Bool → Option β} {g : List UInt8 × List UInt8 → Option γ} (h : ∀ n, GD no (fun S b => k (n, S, b)) (fun S => out (g (n, S)))) : GD no (fun S b => Option.bind (iE N S b) k) (fun S => out ((Iq S).bind g)) := by
 refine ⟨fun S => ?_, fun S => ?_⟩
 ·dsimp only
  rw [RT, aD]; exact (h []).1 S
 ·dsimp only
  obtain ⟨t, ht⟩ := N6 (N := N) S;rw [ht, aD]
  rcases Iq S with _ | ⟨n, u⟩
  ·exact ((h []).1 t).trans hno.symm
  ·exact (h n).2 u
theorem GL (hN : 2147483655 ≤ N) (hno : out none = no) {α : Type} {f : List UInt8 → Option (α × List UInt8)} {lp : (List α × List UInt8 × Bool × Int → Option β) → Nat → List α × List UInt8 × Bool × Int → Option β} {kk : List α × List UInt8 × Bool × Int → Option β} {g : List α × List UInt8 → Option γ}
  (hbad : ∀ (fuel : Nat) (l : List α) (t : List UInt8) (i : Int), lp kk (fuel + 1) (l, t, true, i) = kk (l, t, true, i))
  (hl : ∀ (j fuel : Nat) (l : List α) (t : List UInt8), l.length + j < 2147483648 → j + 1 < fuel → ∃ l2 t2 i2, lp kk fuel (l, t, false, (j : Int)) = Uc kk l (kk (l2, t2, true, i2)) (AI f j t))
  (h : ∀ l i, GD no (fun S b => kk (l, S, b, i)) (fun S => out (g (l, S)))) : GD no (fun S b => Option.bind (fQ N S b) fun r8 => lp kk N ([], r8.2.1, r8.2.2, r8.1)) (fun S => out ((F9 f S).bind g)) := by
 obtain ⟨M, rfl⟩ : ∃ q, N = q + 1 := ⟨N - 1, by omega⟩
 refine ⟨fun S => ?_, fun S => ?_⟩
 ·dsimp only
  obtain ⟨n, hc, rfl⟩ := LI (N := M + 1) S;rw [hc, aD]
  dsimp only
  rw [hbad]; exact (h [] 0).1 S
 ·dsimp only
  unfold F9;obtain ⟨n, t, b, hc, ⟨h1, rfl, rfl⟩ | ⟨m, h1, rfl, rfl⟩⟩ := N5 (N := M + 1) S
  ·rw [hc, aD, h1]
   dsimp only
   rw [hbad]; exact ((h [] 0).1 t).trans hno.symm
  ·have hm := (Gu h1).2.1;rw [hc, aD, h1]
   dsimp only
   obtain ⟨l2, t2, i2, hh⟩ := hl m (M + 1) [] t (by simp; omega) (by omega);refine hh.trans ?_;show _ = out ((AI f m t).bind g)
   rcases AI f m t with _ | ⟨x, u⟩
   ·exact ((h l2 i2).1 t2).trans hno.symm
   ·exact (h _ 0).2 u
end
theorem N7 (N : Nat) (kk) (fuel : Nat) (l : List Int) (t : List UInt8) (i : Int) : g8 N kk (fuel + 1) (l, t, true, i) = kk (l, t, true, i) := by
 unfold g8
 by_cases q : 0 < i
 ·rw [cT (dT q), cF (by rfl)]
 ·rw [cF (dF q)]
theorem ZH (N : Nat) (kk) : ∀ (j fuel : Nat) (l : List Int) (t : List UInt8), l.length + j < 2147483648 → j + 1 < fuel → ∃ l2 t2 i2, g8 N kk fuel (l, t, false, (j : Int)) = Uc kk l (kk (l2, t2, true, i2)) (AI vS j t) := by
 intro j
 induction j with
 | zero =>
  intro fuel l t hl hf;obtain ⟨fuel, rfl⟩ : ∃ q, fuel = q + 1 := ⟨fuel - 1, by omega⟩
  unfold g8;rw [cF (by rfl)];refine ⟨[], [], 0, ?_⟩;show kk _ = kk _;rw [List.append_nil]; rfl
 | succ j ih =>
  intro fuel l t hl hf;obtain ⟨fuel, rfl⟩ : ∃ q, fuel = q + 1 + 1 := ⟨fuel - 2, by omega⟩
  have hj : IntKind.i64.wrap (((j + 1 : Nat) : Int) - 1) = (j : Int) := by rw [gE (by omega)]; omega
  unfold g8 AI;rw [cT (dT (by omega)), cT (by rfl)];rw [B8, aD]
  rcases vS t with _ | ⟨x, u⟩
  ·dsimp only
   rw [iO (by simp; omega), aD, hj, aD, N7];exact ⟨_, _, _, rfl⟩
  dsimp only
  rw [iO (by simp; omega), aD, hj, aD];obtain ⟨l2, t2, i2, hh⟩ := ih (fuel + 1) (l ++ [x]) u (by simp; omega) (by omega);refine ⟨l2, t2, i2, hh.trans ?_⟩;show _ = Uc kk l (kk (l2, t2, true, i2)) ((AI vS j u).bind fun q => some (x :: q.1, q.2))
  rcases AI vS j u with _ | ⟨m, v⟩
  ·rfl
  ·show kk _ = kk _;rw [List.append_assoc]; rfl
theorem N8 (N : Nat) (kk) (fuel : Nat) (l : List (List UInt8)) (t : List UInt8) (i : Int) : g7 N kk (fuel + 1) (l, t, true, i) = kk (l, t, true, i) := by
 unfold g7
 by_cases q : 0 < i
 ·rw [cT (dT q), cF (by rfl)]
 ·rw [cF (dF q)]
theorem ZI (N : Nat) (kk) : ∀ (j fuel : Nat) (l : List (List UInt8)) (t : List UInt8), l.length + j < 2147483648 → j + 1 < fuel → ∃ l2 t2 i2, g7 N kk fuel (l, t, false, (j : Int)) = Uc kk l (kk (l2, t2, true, i2)) (AI Iq j t) := by
 intro j
 induction j with
 | zero =>
  intro fuel l t hl hf;obtain ⟨fuel, rfl⟩ : ∃ q, fuel = q + 1 := ⟨fuel - 1, by omega⟩
  unfold g7;rw [cF (by rfl)];refine ⟨[], [], 0, ?_⟩;show kk _ = kk _;rw [List.append_nil]; rfl
 | succ j ih =>
  intro fuel l t hl hf;obtain ⟨fuel, rfl⟩ : ∃ q, fuel = q + 1 + 1 := ⟨fuel - 2, by omega⟩
  have hj : IntKind.i64.wrap (((j + 1 : Nat) : Int) - 1) = (j : Int) := by rw [gE (by omega)]; omega
  unfold g7 AI;rw [cT (dT (by omega)), cT (by rfl)];obtain ⟨t0, ht⟩ := N6 (N := N) t;rw [ht, aD]
  rcases Iq t with _ | ⟨x, u⟩
  ·dsimp only
   rw [iO (by simp; omega), aD, hj, aD, N8];exact ⟨_, _, _, rfl⟩
  dsimp only
  rw [iO (by simp; omega), aD, hj, aD];obtain ⟨l2, t2, i2, hh⟩ := ih (fuel + 1) (l ++ [x]) u (by simp; omega) (by omega);refine ⟨l2, t2, i2, hh.trans ?_⟩;show _ = Uc kk l (kk (l2, t2, true, i2)) ((AI Iq j u).bind fun q => some (x :: q.1, q.2))
  rcases AI Iq j u with _ | ⟨m, v⟩
  ·rfl
  ·show kk _ = kk _;rw [List.append_assoc]; rfl
theorem Kl (N : Nat) (kk) (fuel : Nat) (l : List (Int × Int)) (t : List UInt8) (i : Int) : gZ N kk (fuel + 1) (l, t, true, i) = kk (l, t, true, i) := by
 unfold gZ
 by_cases q : 0 < i
 ·rw [cT (dT q), cF (by rfl)]
 ·rw [cF (dF q)]
theorem ZJ (N : Nat) (kk) : ∀ (j fuel : Nat) (l : List (Int × Int)) (t : List UInt8), l.length + j < 2147483648 → j + 1 < fuel → ∃ l2 t2 i2, gZ N kk fuel (l, t, false, (j : Int)) = Uc kk l (kk (l2, t2, true, i2)) (AI G2 j t) := by
 intro j
 induction j with
 | zero =>
  intro fuel l t hl hf;obtain ⟨fuel, rfl⟩ : ∃ q, fuel = q + 1 := ⟨fuel - 1, by omega⟩
  unfold gZ;rw [cF (by rfl)];refine ⟨[], [], 0, ?_⟩;show kk _ = kk _;rw [List.append_nil]; rfl
 | succ j ih =>
  intro fuel l t hl hf;obtain ⟨fuel, rfl⟩ : ∃ q, fuel = q + 1 + 1 := ⟨fuel - 2, by omega⟩
  have hj : IntKind.i64.wrap (((j + 1 : Nat) : Int) - 1) = (j : Int) := by rw [gE (by omega)]; omega
  unfold gZ AI;rw [cT (dT (by omega)), cT (by rfl)];rw [B8, aD];rw [show G2 t = ((vS t).bind fun p => (vS p.2).bind fun q => some ((p.1, q.1), q.2)) from rfl]
  rcases vS t with _ | ⟨x, u⟩
  ·dsimp only
   rw [GK, aD]
   dsimp only
   rw [iO (by simp; omega), aD, hj, aD, Kl];exact ⟨_, _, _, rfl⟩
  dsimp only
  rw [B8, aD];simp only [Option.bind_some]
  rcases vS u with _ | ⟨y, v⟩
  ·dsimp only
   rw [iO (by simp; omega), aD, hj, Kl];exact ⟨_, _, _, rfl⟩
  dsimp only
  rw [iO (by simp; omega), aD, hj];obtain ⟨l2, t2, i2, hh⟩ := ih (fuel + 1) (l ++ [(x, y)]) v (by simp; omega) (by omega);refine ⟨l2, t2, i2, hh.trans ?_⟩;show _ = Uc kk l (kk (l2, t2, true, i2)) ((AI G2 j v).bind fun q => some ((x, y) :: q.1, q.2))
  rcases AI G2 j v with _ | ⟨m, z⟩
  ·rfl
  ·show kk _ = kk _;rw [List.append_assoc]; rfl
theorem Km (N : Nat) (kk) (fuel : Nat) (l : List (Int × Int)) (t : List UInt8) (i : Int) : gY N kk (fuel + 1) (l, t, true, i) = kk (l, t, true, i) := by
 unfold gY
 by_cases q : 0 < i
 ·rw [cT (dT q), cF (by rfl)]
 ·rw [cF (dF q)]
theorem ZK (N : Nat) (kk) : ∀ (j fuel : Nat) (l : List (Int × Int)) (t : List UInt8), l.length + j < 2147483648 → j + 1 < fuel → ∃ l2 t2 i2, gY N kk fuel (l, t, false, (j : Int)) = Uc kk l (kk (l2, t2, true, i2)) (AI G2 j t) := by
 intro j
 induction j with
 | zero =>
  intro fuel l t hl hf;obtain ⟨fuel, rfl⟩ : ∃ q, fuel = q + 1 := ⟨fuel - 1, by omega⟩
  unfold gY;rw [cF (by rfl)];refine ⟨[], [], 0, ?_⟩;show kk _ = kk _;rw [List.append_nil]; rfl
 | succ j ih =>
  intro fuel l t hl hf;obtain ⟨fuel, rfl⟩ : ∃ q, fuel = q + 1 + 1 := ⟨fuel - 2, by omega⟩
  have hj : IntKind.i64.wrap (((j + 1 : Nat) : Int) - 1) = (j : Int) := by rw [gE (by omega)]; omega
  unfold gY AI;rw [cT (dT (by omega)), cT (by rfl)];rw [B8, aD];rw [show G2 t = ((vS t).bind fun p => (vS p.2).bind fun q => some ((p.1, q.1), q.2)) from rfl]
  rcases vS t with _ | ⟨x, u⟩
  ·dsimp only
   rw [GK, aD]
   dsimp only
   rw [iO (by simp; omega), aD, hj, aD, Km];exact ⟨_, _, _, rfl⟩
  dsimp only
  rw [B8, aD];simp only [Option.bind_some]
  rcases vS u with _ | ⟨y, v⟩
  ·dsimp only
   rw [iO (by simp; omega), aD, hj, Km];exact ⟨_, _, _, rfl⟩
  dsimp only
  rw [iO (by simp; omega), aD, hj];obtain ⟨l2, t2, i2, hh⟩ := ih (fuel + 1) (l ++ [(x, y)]) v (by simp; omega) (by omega);refine ⟨l2, t2, i2, hh.trans ?_⟩;show _ = Uc kk l (kk (l2, t2, true, i2)) ((AI G2 j v).bind fun q => some ((x, y) :: q.1, q.2))
  rcases AI G2 j v with _ | ⟨m, z⟩
  ·rfl
  ·show kk _ = kk _;rw [List.append_assoc]; rfl
theorem ZL (N : Nat) (kk) (fuel : Nat) (S : List UInt8) (b : Bool) (x0 x1 x2 x3 : Int) : cM N kk (fuel + 1) (S, b, x0, x1, x2, x3, 0) = Option.bind (aG N S b) fun r => cM N kk fuel (r.2.1, r.2.2, r.1, x1, x2, x3, 1) := by
 conv => lhs; unfold cM
 rw [cT (by rfl)]
 rfl
theorem ZM (N : Nat) (kk) (fuel : Nat) (S : List UInt8) (b : Bool) (x0 x1 x2 x3 : Int) : cM N kk (fuel + 1) (S, b, x0, x1, x2, x3, 1) = Option.bind (aG N S b) fun r => cM N kk fuel (r.2.1, r.2.2, x0, r.1, x2, x3, 2) := by
 conv => lhs; unfold cM
 rw [cT (by rfl)]
 rfl
theorem ZN (N : Nat) (kk) (fuel : Nat) (S : List UInt8) (b : Bool) (x0 x1 x2 x3 : Int) : cM N kk (fuel + 1) (S, b, x0, x1, x2, x3, 2) = Option.bind (aG N S b) fun r => cM N kk fuel (r.2.1, r.2.2, x0, x1, r.1, x3, 3) := by
 conv => lhs; unfold cM
 rw [cT (by rfl)]
 rfl
theorem ZO (N : Nat) (kk) (fuel : Nat) (S : List UInt8) (b : Bool) (x0 x1 x2 x3 : Int) : cM N kk (fuel + 1) (S, b, x0, x1, x2, x3, 3) = Option.bind (aG N S b) fun r => cM N kk fuel (r.2.1, r.2.2, x0, x1, x2, r.1, 4) := by
 conv => lhs; unfold cM
 rw [cT (by rfl)]
 rfl
theorem ZP (N : Nat) (kk) (fuel : Nat) (S : List UInt8) (b : Bool) (x0 x1 x2 x3 : Int) : cM N kk (fuel + 1) (S, b, x0, x1, x2, x3, 4) = kk (S, b, x0, x1, x2, x3, 4) := by
 conv => lhs; unfold cM
 rw [cF (by rfl)]
theorem ZQ (N : Nat) (kk) (fuel : Nat) (S : List UInt8) (b : Bool) (x0 x1 x2 : Int) : cV N kk (fuel + 1) (S, b, x0, x1, x2, 0) = Option.bind (aG N S b) fun r => cV N kk fuel (r.2.1, r.2.2, r.1, x1, x2, 1) := by
 conv => lhs; unfold cV
 rw [cT (by rfl)]
 rfl
theorem ZR (N : Nat) (kk) (fuel : Nat) (S : List UInt8) (b : Bool) (x0 x1 x2 : Int) : cV N kk (fuel + 1) (S, b, x0, x1, x2, 1) = Option.bind (aG N S b) fun r => cV N kk fuel (r.2.1, r.2.2, x0, r.1, x2, 2) := by
 conv => lhs; unfold cV
 rw [cT (by rfl)]
 rfl
theorem ZS (N : Nat) (kk) (fuel : Nat) (S : List UInt8) (b : Bool) (x0 x1 x2 : Int) : cV N kk (fuel + 1) (S, b, x0, x1, x2, 2) = Option.bind (aG N S b) fun r => cV N kk fuel (r.2.1, r.2.2, x0, x1, r.1, 3) := by
 conv => lhs; unfold cV
 rw [cT (by rfl)]
 rfl
theorem ZT (N : Nat) (kk) (fuel : Nat) (S : List UInt8) (b : Bool) (x0 x1 x2 : Int) : cV N kk (fuel + 1) (S, b, x0, x1, x2, 3) = kk (S, b, x0, x1, x2, 3) := by
 conv => lhs; unfold cV
 rw [cF (by rfl)]
theorem ZU (N : Nat) (kk) (fuel : Nat) (S : List UInt8) (b : Bool) (x0 x1 x2 x3 x4 x5 x6 x7 x8 : Int) : aK N kk (fuel + 1) (S, b, x0, x1, x2, x3, x4, x5, x6, x7, x8, 0) = Option.bind (aG N S b) fun r => aK N kk fuel (r.2.1, r.2.2, r.1, x1, x2, x3, x4, x5, x6, x7, x8, 1) := by
 conv => lhs; unfold aK
 rw [cT (by rfl)]
 rfl
theorem ZV (N : Nat) (kk) (fuel : Nat) (S : List UInt8) (b : Bool) (x0 x1 x2 x3 x4 x5 x6 x7 x8 : Int) : aK N kk (fuel + 1) (S, b, x0, x1, x2, x3, x4, x5, x6, x7, x8, 1) = Option.bind (aG N S b) fun r => aK N kk fuel (r.2.1, r.2.2, x0, r.1, x2, x3, x4, x5, x6, x7, x8, 2) := by
 conv => lhs; unfold aK
 rw [cT (by rfl)]
 rfl
theorem ZW (N : Nat) (kk) (fuel : Nat) (S : List UInt8) (b : Bool) (x0 x1 x2 x3 x4 x5 x6 x7 x8 : Int) : aK N kk (fuel + 1) (S, b, x0, x1, x2, x3, x4, x5, x6, x7, x8, 2) = Option.bind (aG N S b) fun r => aK N kk fuel (r.2.1, r.2.2, x0, x1, r.1, x3, x4, x5, x6, x7, x8, 3) := by
 conv => lhs; unfold aK
 rw [cT (by rfl)]
 rfl
theorem ZX (N : Nat) (kk) (fuel : Nat) (S : List UInt8) (b : Bool) (x0 x1 x2 x3 x4 x5 x6 x7 x8 : Int) : aK N kk (fuel + 1) (S, b, x0, x1, x2, x3, x4, x5, x6, x7, x8, 3) = Option.bind (aG N S b) fun r => aK N kk fuel (r.2.1, r.2.2, x0, x1, x2, r.1, x4, x5, x6, x7, x8, 4) := by
 conv => lhs; unfold aK
 rw [cT (by rfl)]
 rfl
theorem ZY (N : Nat) (kk) (fuel : Nat) (S : List UInt8) (b : Bool) (x0 x1 x2 x3 x4 x5 x6 x7 x8 : Int) : aK N kk (fuel + 1) (S, b, x0, x1, x2, x3, x4, x5, x6, x7, x8, 4) = Option.bind (aG N S b) fun r => aK N kk fuel (r.2.1, r.2.2, x0, x1, x2, x3, r.1, x5, x6, x7, x8, 5) := by
 conv => lhs; unfold aK
 rw [cT (by rfl)]
 rfl
theorem ZZ (N : Nat) (kk) (fuel : Nat) (S : List UInt8) (b : Bool) (x0 x1 x2 x3 x4 x5 x6 x7 x8 : Int) : aK N kk (fuel + 1) (S, b, x0, x1, x2, x3, x4, x5, x6, x7, x8, 5) = Option.bind (aG N S b) fun r => aK N kk fuel (r.2.1, r.2.2, x0, x1, x2, x3, x4, r.1, x6, x7, x8, 6) := by
 conv => lhs; unfold aK
 rw [cT (by rfl)]
 rfl
theorem Z0 (N : Nat) (kk) (fuel : Nat) (S : List UInt8) (b : Bool) (x0 x1 x2 x3 x4 x5 x6 x7 x8 : Int) : aK N kk (fuel + 1) (S, b, x0, x1, x2, x3, x4, x5, x6, x7, x8, 6) = Option.bind (aG N S b) fun r => aK N kk fuel (r.2.1, r.2.2, x0, x1, x2, x3, x4, x5, r.1, x7, x8, 7) := by
 conv => lhs; unfold aK
 rw [cT (by rfl)]
 rfl
theorem Z1 (N : Nat) (kk) (fuel : Nat) (S : List UInt8) (b : Bool) (x0 x1 x2 x3 x4 x5 x6 x7 x8 : Int) : aK N kk (fuel + 1) (S, b, x0, x1, x2, x3, x4, x5, x6, x7, x8, 7) = Option.bind (aG N S b) fun r => aK N kk fuel (r.2.1, r.2.2, x0, x1, x2, x3, x4, x5, x6, r.1, x8, 8) := by
 conv => lhs; unfold aK
 rw [cT (by rfl)]
 rfl
theorem Z2 (N : Nat) (kk) (fuel : Nat) (S : List UInt8) (b : Bool) (x0 x1 x2 x3 x4 x5 x6 x7 x8 : Int) : aK N kk (fuel + 1) (S, b, x0, x1, x2, x3, x4, x5, x6, x7, x8, 8) = Option.bind (aG N S b) fun r => aK N kk fuel (r.2.1, r.2.2, x0, x1, x2, x3, x4, x5, x6, x7, r.1, 9) := by
 conv => lhs; unfold aK
 rw [cT (by rfl)]
 rfl
theorem Z3 (N : Nat) (kk) (fuel : Nat) (S : List UInt8) (b : Bool) (x0 x1 x2 x3 x4 x5 x6 x7 x8 : Int) : aK N kk (fuel + 1) (S, b, x0, x1, x2, x3, x4, x5, x6, x7, x8, 9) = kk (S, b, x0, x1, x2, x3, x4, x5, x6, x7, x8, 9) := by
 conv => lhs; unfold aK
 rw [cF (by rfl)]
theorem Z4 (N : Nat) (hN : 20 ≤ N) (kk) (S : List UInt8) (b : Bool) (x0 x1 x2 x3 : Int) : cM N kk N (S, b, x0, x1, x2, x3, 0) = Option.bind (aG N S b) fun r0 => Option.bind (aG N r0.2.1 r0.2.2) fun r1 => Option.bind (aG N r1.2.1 r1.2.2) fun r2 => Option.bind (aG N r2.2.1 r2.2.2) fun r3 => kk (r3.2.1, r3.2.2, r0.1, r1.1, r2.1, r3.1, 4) := by
 obtain ⟨M, hM⟩ : ∃ q, N = q + 5 := ⟨N - 5, by omega⟩
 have e : cM N kk N (S, b, x0, x1, x2, x3, 0) = cM N kk (M + 5) (S, b, x0, x1, x2, x3, 0) := congrFun (congrArg (cM N kk) hM) _;rw [e, ZL];refine congrArg (Option.bind _) (funext fun r0 => ?_);rw [ZM];refine congrArg (Option.bind _) (funext fun r1 => ?_);rw [ZN];refine congrArg (Option.bind _) (funext fun r2 => ?_);rw [ZO];refine congrArg (Option.bind _) (funext fun r3 => ?_);rw [ZP]
theorem Z5 (N : Nat) (hN : 20 ≤ N) (kk) (S : List UInt8) (b : Bool) (x0 x1 x2 : Int) : cV N kk N (S, b, x0, x1, x2, 0) = Option.bind (aG N S b) fun r0 => Option.bind (aG N r0.2.1 r0.2.2) fun r1 => Option.bind (aG N r1.2.1 r1.2.2) fun r2 => kk (r2.2.1, r2.2.2, r0.1, r1.1, r2.1, 3) := by
 obtain ⟨M, hM⟩ : ∃ q, N = q + 4 := ⟨N - 4, by omega⟩
 have e : cV N kk N (S, b, x0, x1, x2, 0) = cV N kk (M + 4) (S, b, x0, x1, x2, 0) := congrFun (congrArg (cV N kk) hM) _;rw [e, ZQ];refine congrArg (Option.bind _) (funext fun r0 => ?_);rw [ZR];refine congrArg (Option.bind _) (funext fun r1 => ?_);rw [ZS];refine congrArg (Option.bind _) (funext fun r2 => ?_);rw [ZT]
theorem Z6 (N : Nat) (hN : 20 ≤ N) (kk) (S : List UInt8) (b : Bool) (x0 x1 x2 x3 x4 x5 x6 x7 x8 : Int) : aK N kk N (S, b, x0, x1, x2, x3, x4, x5, x6, x7, x8, 0) = Option.bind (aG N S b) fun r0 => Option.bind (aG N r0.2.1 r0.2.2) fun r1 => Option.bind (aG N r1.2.1 r1.2.2) fun r2 => Option.bind (aG N r2.2.1 r2.2.2) fun r3 => Option.bind (aG N r3.2.1 r3.2.2) fun r4 => Option.bind (aG N r4.2.1 r4.2.2) fun r5 => Option.bind (aG N r5.2.1 r5.2.2) fun r6 => Option.bind (aG N r6.2.1 r6.2.2) fun r7 => Option.bind (aG N r7.2.1 r7.2.2) fun r8 => kk (r8.2.1, r8.2.2, r0.1, r1.1, r2.1, r3.1, r4.1, r5.1, r6.1, r7.1, r8.1, 9) := by
 obtain ⟨M, hM⟩ : ∃ q, N = q + 10 := ⟨N - 10, by omega⟩
 have e : aK N kk N (S, b, x0, x1, x2, x3, x4, x5, x6, x7, x8, 0) = aK N kk (M + 10) (S, b, x0, x1, x2, x3, x4, x5, x6, x7, x8, 0) := congrFun (congrArg (aK N kk) hM) _;rw [e, ZU];refine congrArg (Option.bind _) (funext fun r0 => ?_);rw [ZV];refine congrArg (Option.bind _) (funext fun r1 => ?_);rw [ZW];refine congrArg (Option.bind _) (funext fun r2 => ?_);rw [ZX];refine congrArg (Option.bind _) (funext fun r3 => ?_);rw [ZY];refine congrArg (Option.bind _) (funext fun r4 => ?_);rw [ZZ];refine congrArg (Option.bind _) (funext fun r5 => ?_);rw [Z0];refine congrArg (Option.bind _) (funext fun r6 => ?_);rw [Z1];refine congrArg (Option.bind _) (funext fun r7 => ?_);rw [Z2];refine congrArg (Option.bind _) (funext fun r8 => ?_);rw [Z3]
theorem W5 {β γ : Type} {out : Option γ → Option β} {no : Option β} {N : Nat} (hno : out none = no) {k : List UInt8 × List UInt8 × Bool → Option β} {g : List UInt8 × List UInt8 → Option γ} (h : ∀ n, GD no (fun S b => k (n, S, b)) (fun S => out (g (n, S)))) (S : List UInt8) : Option.bind (iE N S false) k = out ((Iq S).bind g) := (GT (N := N) hno h).2 S
abbrev Z7 := Int × Int × Int × Int × Int × List Int × List (List UInt8) × Int × Int × Int × Int × Int × Int × List (Int × Int) × Int × Int × Int × Int × Int × Int × Int × Int × Int × Int × Int × Int × List (Int × Int) × Int × Bool
def Hz : Option Z7 := (some (0, 0, 0, 0, 0, ([] : List Int), ([] : List (List UInt8)), 0, 0, 0, 0, 0, 0, ([] : List (Int × Int)), 0, 0, 0, 0, 0, 0, 0, 0, 0, 0, 0, 0, ([] : List (Int × Int)), 0, false))
def vK (N : Nat) : Option (Wn × List UInt8) → Option Z7
 | none => Hz
 | some ((W, H, D, K, R, Ls, St, ph, b0, b1, b2, b3, w, sp, g0, g1, g2, m0, m1, m2, m3, m4, m5, m6, m7, m8, cv, am), t) =>
  cond (!decide (t = ([] : List UInt8))) Hz (Option.bind (nY N W H D K R Ls St ph b0 b1 b2 b3 w sp g0 g1 g2 m0 m1 m2 m3 m4 m5 m6 m7 m8 cv am) fun r => cond (!decide (r.2.2.2 = 0)) Hz (some (W, H, D, K, R, Ls, St, ph, b0, b1, b2, b3, w, sp, g0, g1, g2, m0, m1, m2, m3, m4, m5, m6, m7, m8, cv, am, true)))
theorem Ko (N : Nat) (hN : 2147483655 ≤ N) (s : List UInt8) : oQ N s = vK N (JD s) := by
 have no : vK N none = Hz := rfl;have h20 : 20 ≤ N := by omega
 unfold oQ JD;refine W5 (out := vK N) no (fun m => ?_) s
 dsimp only
 by_cases hm : m = [100, 97, 114, 107]
 rotate_left
 ·refine ⟨fun S => ?_, fun S => ?_⟩
  ·dsimp only
   rw [cT (by rw [dF hm]; rfl)]; rfl
  ·dsimp only
   rw [cT (by rw [dF hm]; rfl), if_pos (show m ≠ DS from hm)]; rfl
 have hc : ∀ {δ : Type} (x y : δ), cond (!decide (m = [100, 97, 114, 107])) x y = y := fun x y => cF (by rw [dT hm]; rfl) x y
 simp only [hc, if_neg (show ¬ m ≠ DS from fun q => q hm)];refine GN (out := vK N) no fun W => ?_
 dsimp only
 refine GN (out := vK N) no fun H => ?_
 dsimp only
 refine GN (out := vK N) no fun D => ?_
 dsimp only
 refine GN (out := vK N) no fun K => ?_
 dsimp only
 refine GN (out := vK N) no fun R => ?_
 dsimp only
 refine GL (out := vK N) hN no (lp := g8 N) (N7 N _) (ZH N _) fun Ls i => ?_
 dsimp only
 refine GL (out := vK N) hN no (lp := g7 N) (N8 N _) (ZI N _) fun St i => ?_
 dsimp only
 refine GN (out := vK N) no fun ph => ?_
 dsimp only
 simp only [Z4 N h20];refine GN (out := vK N) no fun b0 => ?_
 dsimp only
 refine GN (out := vK N) no fun b1 => ?_
 dsimp only
 refine GN (out := vK N) no fun b2 => ?_
 dsimp only
 refine GN (out := vK N) no fun b3 => ?_
 dsimp only
 refine GN (out := vK N) no fun w => ?_
 dsimp only
 refine GL (out := vK N) hN no (lp := gZ N) (Kl N _) (ZJ N _) fun sp i => ?_
 dsimp only
 simp only [Z5 N h20];refine GN (out := vK N) no fun g0 => ?_
 dsimp only
 refine GN (out := vK N) no fun g1 => ?_
 dsimp only
 refine GN (out := vK N) no fun g2 => ?_
 dsimp only
 simp only [Z6 N h20];refine GN (out := vK N) no fun m0 => ?_
 dsimp only
 refine GN (out := vK N) no fun m1 => ?_
 dsimp only
 refine GN (out := vK N) no fun m2 => ?_
 dsimp only
 refine GN (out := vK N) no fun m3 => ?_
 dsimp only
 refine GN (out := vK N) no fun m4 => ?_
 dsimp only
 refine GN (out := vK N) no fun m5 => ?_
 dsimp only
 refine GN (out := vK N) no fun m6 => ?_
 dsimp only
 refine GN (out := vK N) no fun m7 => ?_
 dsimp only
 refine GN (out := vK N) no fun m8 => ?_
 dsimp only
 refine GL (out := vK N) hN no (lp := gY N) (Km N _) (ZK N _) fun cv i => ?_
 dsimp only
 refine GN (out := vK N) no fun am => ?_
 dsimp only
 exact ⟨fun S => rfl, fun S => rfl⟩
theorem Ud (D : List UInt8) : (MU D).length = (D.length + 7) / 8 := by unfold MU; rw [List.length_map]; simp [gr]
theorem RU {W D K rows : Int} {Ls : List Int} {s : List UInt8} {l : List Int} (h : stripR W D K Ls rows s = some l) : s.length ≤ 16384 := by
 unfold stripR at h
 split at h
 ·split at h
  ·rename_i hh
   obtain ⟨d, n, _, _, h1, h2, h3, _⟩ := Da hh;have := Nat.mul_le_mul h2 h1.2
   omega
  ·cases h
 ·split at h
  ·rename_i hh
   have h1 := LB s W rows K Ls hh.1;have h2 := Ht s W rows K Ls
   generalize mT s W rows K Ls = r at h1 h2
   unfold qB at h1
   split at h1
   ·injection h1 with _ q; cases q
   split at h1
   ·injection h1 with _ q; cases q
   split at h1
   ·rename_i q1 q2 q3; injection h1 with _ q; exact absurd q q3
   split at h1
   ·injection h1 with q _
    rw [← q, Ud];have := C9 (hG Ls) (Ly r.1.toNat r.2.2.1 K);rw [En] at this
    omega
   ·injection h1 with _ q; cases q
  ·cases h
theorem HD {W D K : Int} {Ls : List Int} {H R : Nat} : ∀ (t : List (List UInt8)) (i : Nat) (acc P : List Int), uM W D K Ls H R i t acc = some P → ∀ s ∈ t, s.length ≤ 16384
 | [], i, acc, P, h, s, hs => by cases hs
 | s0 :: t, i, acc, P, h, s, hs => by
  unfold uM at h
  split at h
  ·cases h
  ·rename_i l hl
   rcases List.mem_cons.1 hs with rfl | hs
   ·exact RU hl
   ·exact HD t (i + 1) _ P h s hs
section
variable (W H D K R : Int) (Ls : List Int) (St : List (List UInt8)) (ph b0 b1 b2 b3 w : Int) (sp : List (Int × Int)) (g0 g1 g2 m0 m1 m2 m3 m4 m5 m6 m7 m8 : Int) (cv : List (Int × Int)) (am : Int)
theorem EZ {f : Bool} (hc : f = true ↔ qS cv) (h : (tJ W H D K R Ls St ph b0 b1 b2 b3 w sp g0 g1 g2 m0 m1 m2 m3 m4 m5 m6 m7 m8 am f).2.2.2 = 0) :
  Wo W H D K R Ls St ph b0 b1 b2 b3 w sp g0 g1 g2 m0 m1 m2 m3 m4 m5 m6 m7 m8 cv am ∧ Ls.length ≤ 17 ∧ St.length ≤ 64 ∧ (∀ s ∈ St, s.length ≤ 16384) ∧ sp.length ≤ 64 ∧ cv.length ≤ 16 := by
 unfold tJ at h
 by_cases h1 : qC W H D K R Ls = 0
 rotate_left
 ·rw [if_pos h1] at h; exact absurd h h1
 obtain ⟨q1, q2, q3, q4⟩ := DM W H D K R Ls h1;rw [if_neg (fun q => q h1)] at h
 by_cases h2 : St.length = qZ H.toNat R.toNat
 rotate_left
 ·rw [if_pos h2] at h; cases h
 rw [if_neg (fun q => q h2)] at h
 by_cases h3 : Ep W H ph b0 b1 b2 b3 w sp g0 g1 g2 m0 m1 m2 m3 m4 m5 m6 m7 m8 am f = 0
 rotate_left
 ·rw [if_pos h3] at h; exact absurd h h3
 rw [if_neg (fun q => q h3)] at h;obtain ⟨p1, p2, p3⟩ := N3 W H ph b0 b1 b2 b3 w sp g0 g1 g2 m0 m1 m2 m3 m4 m5 m6 m7 m8 am h3
 rcases hp : uM W D K Ls H.toNat R.toNat 0 St [] with _ | P
 ·rw [hp] at h; cases h
 have hall := HD St 0 [] P hp;have hcv := hc.1 p2;have hcl := Jc hcv;unfold uL at q1;have hcn := AB (H := H.toNat) (R := R.toNat) (by omega) (by omega)
 have hLs : ∀ x ∈ Ls, is32 x := by
  intro x hx
  by_cases hK : 0 < K
  ·obtain ⟨ns, rfl, UY, _⟩ := wY (q4 hK);unfold mW at hx;obtain ⟨n, hn, rfl⟩ := List.mem_map.1 hx;have := UY n hn;unfold is32; omega
  ·unfold qC at h1;rw [if_neg (fun q => q q1), if_neg (fun q => q q2), if_neg hK] at h1
   split at h1
   ·cases h1
   ·rename_i q
    have : Ls = [] := List.length_eq_zero_iff.1 (by omega);subst this; cases hx
 unfold Cu C2 z7 at p1;simp only [List.all_cons, List.all_nil, Bool.and_eq_true, decide_eq_true_eq, Bool.and_true, Zh] at p1;obtain ⟨a1, a2, ⟨a3, a4, a5, a6⟩, a7, a8, ⟨c1, c2, c3⟩, ⟨e0, e1, e2, e3, e4, e5, e6, e7, e8⟩, a9⟩ := p1
 have hsp : ∀ x ∈ sp, is32 x.1 ∧ is32 x.2 := by
  intro x hx;have := List.all_eq_true.1 a8 x hx;unfold kD at this;simp only [Bool.and_eq_true, decide_eq_true_eq] at this;unfold is32; omega
 have aDn : ∀ x ∈ cv, is32 x.1 ∧ is32 x.2 := by
  intro x hx;obtain ⟨i, hi, rfl⟩ := List.getElem_of_mem hx;have := hcv.bd hi;unfold cX cY at this;rw [List.getD_eq_getElem?_getD, List.getElem?_eq_getElem hi] at this;simp only [Option.getD_some] at this;unfold is32; omega
 refine ⟨⟨⟨?_, ?_, ?_, ?_, ?_⟩, ⟨by omega, hLs⟩, ⟨by omega, fun s hs => by have := hall s hs; omega⟩, ⟨?_, ?_, ?_, ?_, ?_, ?_⟩, ⟨by omega, hsp⟩, ⟨?_, ?_, ?_⟩, ⟨?_, ?_, ?_, ?_, ?_, ?_, ?_, ?_, ?_⟩, ⟨by omega, aDn⟩, ?_⟩, q3, by omega, hall, a7, hcl⟩
 all_goals (unfold is32; omega)
theorem HG {f : Bool} (hb : jT 8589934592 cv = some f) (hc : f = true ↔ qS cv) (hs : ∀ y ∈ St, y.length ≤ 9223372036854775807) : nS 8589934592 W H D K R Ls St ph b0 b1 b2 b3 w sp g0 g1 g2 m0 m1 m2 m3 m4 m5 m6 m7 m8 cv am = some (if (tJ W H D K R Ls St ph b0 b1 b2 b3 w sp g0 g1 g2 m0 m1 m2 m3 m4 m5 m6 m7 m8 am f).2.2.2 = 0 then (Iy W H D K R Ls St ph b0 b1 b2 b3 w sp g0 g1 g2 m0 m1 m2 m3 m4 m5 m6 m7 m8 cv am, 0) else ([], (tJ W H D K R Ls St ph b0 b1 b2 b3 w sp g0 g1 g2 m0 m1 m2 m3 m4 m5 m6 m7 m8 am f).2.2.2)) := by
 have hck := Db W H D K R Ls St ph b0 b1 b2 b3 w sp g0 g1 g2 m0 m1 m2 m3 m4 m5 m6 m7 m8 cv am hb hc hs
 by_cases h : (tJ W H D K R Ls St ph b0 b1 b2 b3 w sp g0 g1 g2 m0 m1 m2 m3 m4 m5 m6 m7 m8 am f).2.2.2 = 0
 ·obtain ⟨_, l1, l2, l3, l4, l5⟩ := EZ W H D K R Ls St ph b0 b1 b2 b3 w sp g0 g1 g2 m0 m1 m2 m3 m4 m5 m6 m7 m8 cv am hc h;exact LH W H D K R Ls St ph b0 b1 b2 b3 w sp g0 g1 g2 m0 m1 m2 m3 m4 m5 m6 m7 m8 cv am 8589934592 (by decide) (by omega) (by omega) (fun s q => by have := l3 s q; omega) (by omega) (by omega) hck
 ·unfold nS;rw [hck, aD, cT (by rw [dF h]; rfl), if_neg h]
end
theorem M5 (s : List UInt8) : (oF 8589934592 s = y9 ∧ oQ 8589934592 s = Hz) ∨ ∃ (W H D K R : Int) (Ls : List Int) (St : List (List UInt8)) (ph b0 b1 b2 b3 w : Int) (sp : List (Int × Int)) (g0 g1 g2 m0 m1 m2 m3 m4 m5 m6 m7 m8 : Int) (cv : List (Int × Int)) (am : Int) (f : Bool),
  s = Iy W H D K R Ls St ph b0 b1 b2 b3 w sp g0 g1 g2 m0 m1 m2 m3 m4 m5 m6 m7 m8 cv am ∧ jT 8589934592 cv = some f ∧ (f = true ↔ qS cv) ∧ (tJ W H D K R Ls St ph b0 b1 b2 b3 w sp g0 g1 g2 m0 m1 m2 m3 m4 m5 m6 m7 m8 am f).2.2.2 = 0 ∧
  oF 8589934592 s = some (W, H, D, K, R, Ls, St, ph, b0, b1, b2, b3, w, sp, g0, g1, g2, m0, m1, m2, m3, m4, m5, m6, m7, m8, cv, am, 0) ∧ oQ 8589934592 s = some (W, H, D, K, R, Ls, St, ph, b0, b1, b2, b3, w, sp, g0, g1, g2, m0, m1, m2, m3, m4, m5, m6, m7, m8, cv, am, true) := by
 rw [DW 8589934592 (by decide), Ko 8589934592 (by decide)]
 rcases hp : JD s with _ | ⟨⟨W, H, D, K, R, Ls, St, ph, b0, b1, b2, b3, w, sp, g0, g1, g2, m0, m1, m2, m3, m4, m5, m6, m7, m8, cv, am⟩, t⟩
 ·exact .inl ⟨rfl, rfl⟩
 unfold vA vK
 dsimp only
 by_cases ht : t = []
 rotate_left
 ·rw [cT (by rw [dF ht]; rfl), cT (by rw [dF ht]; rfl)]; exact .inl ⟨rfl, rfl⟩
 obtain ⟨W6, hfit⟩ := Tm W H D K R Ls St ph b0 b1 b2 b3 w sp g0 g1 g2 m0 m1 m2 m3 m4 m5 m6 m7 m8 cv am hp ht;have hs : ∀ y ∈ St, y.length ≤ 9223372036854775807 := fun y hy => by have := hfit.2.2.1.2 y hy; omega
 obtain ⟨f, hb, hb', hc⟩ := Hb cv;rw [cF (by rw [dT ht]; rfl), cF (by rw [dT ht]; rfl), Db W H D K R Ls St ph b0 b1 b2 b3 w sp g0 g1 g2 m0 m1 m2 m3 m4 m5 m6 m7 m8 cv am hb hc hs, aD, Pk W H D K R Ls St ph b0 b1 b2 b3 w sp g0 g1 g2 m0 m1 m2 m3 m4 m5 m6 m7 m8 cv am hb' hs, aD]
 by_cases h0 : (tJ W H D K R Ls St ph b0 b1 b2 b3 w sp g0 g1 g2 m0 m1 m2 m3 m4 m5 m6 m7 m8 am f).2.2.2 = 0
 rotate_left
 ·rw [cT (by rw [dF h0]; rfl), cT (by rw [dF h0]; rfl)]; exact .inl ⟨rfl, rfl⟩
 rw [cF (by rw [dT h0]; rfl), cF (by rw [dT h0]; rfl)];exact .inr ⟨W, H, D, K, R, Ls, St, ph, b0, b1, b2, b3, w, sp, g0, g1, g2, m0, m1, m2, m3, m4, m5, m6, m7, m8, cv, am, f, W6, hb, hc, h0, rfl, rfl⟩
theorem RW (W H D K R : Int) (Ls : List Int) (St : List (List UInt8)) (ph b0 b1 b2 b3 w : Int) (sp : List (Int × Int)) (g0 g1 g2 m0 m1 m2 m3 m4 m5 m6 m7 m8 : Int) (cv : List (Int × Int)) (am : Int) {f : Bool} (hb : jT 8589934592 cv = some f) (hc : f = true ↔ qS cv) (h : (tJ W H D K R Ls St ph b0 b1 b2 b3 w sp g0 g1 g2 m0 m1 m2 m3 m4 m5 m6 m7 m8 am f).2.2.2 = 0) :
  oF 8589934592 (Iy W H D K R Ls St ph b0 b1 b2 b3 w sp g0 g1 g2 m0 m1 m2 m3 m4 m5 m6 m7 m8 cv am) = some (W, H, D, K, R, Ls, St, ph, b0, b1, b2, b3, w, sp, g0, g1, g2, m0, m1, m2, m3, m4, m5, m6, m7, m8, cv, am, 0) := by
 obtain ⟨hfit, l1, l2, l3, l4, l5⟩ := EZ W H D K R Ls St ph b0 b1 b2 b3 w sp g0 g1 g2 m0 m1 m2 m3 m4 m5 m6 m7 m8 cv am hc h;rw [DW 8589934592 (by decide), Tl W H D K R Ls St ph b0 b1 b2 b3 w sp g0 g1 g2 m0 m1 m2 m3 m4 m5 m6 m7 m8 cv am hfit];unfold vA
 dsimp only
 rw [cF (by rfl), Db W H D K R Ls St ph b0 b1 b2 b3 w sp g0 g1 g2 m0 m1 m2 m3 m4 m5 m6 m7 m8 cv am hb hc (fun y hy => by have := l3 y hy; omega), aD, cF (by rw [dT h]; rfl)]
theorem RX {W H R i : Nat} {P : List Int} (hl : P.length = W * H) (hR : 1 ≤ R) (hi : i < qZ H R) : (partOf W H R P i).length = W * jI H R i := by
 obtain ⟨q1, q2, q3⟩ := Ka hl hR hi;unfold partOf;rw [List.length_drop, List.length_take, Nat.min_eq_left q1, Nat.add_mul, Nat.mul_comm W]
 omega
theorem RY {W H R i : Nat} {P : List Int} (hl : P.length = W * H) (hR : 1 ≤ R) (hi : i < qZ H R) : P.take (i * R * W) ++ partOf W H R P i = P.take ((i + 1) * R * W) := by
 obtain ⟨q1, q2, q3⟩ := Ka hl hR hi;have h1 := (cnt_lt (H := H) (R := R) (i := i) hR).1 hi
 have e1 : P.take (i * R * W) ++ partOf W H R P i = P.take ((i * R + jI H R i) * W) := by
  unfold partOf;have : P.take (i * R * W) = (P.take ((i * R + jI H R i) * W)).take (i * R * W) := by rw [List.take_take, Nat.min_eq_left q2]
  rw [this, List.take_append_drop]
 rw [e1]
 by_cases h : (i + 1) * R ≤ H
 ·have : jI H R i = R := by unfold jI; rw [Nat.add_mul] at h; omega
  rw [this, Nat.add_mul i 1 R, Nat.one_mul]
 ·have : i * R + jI H R i = H := by unfold jI; rw [Nat.add_mul] at h; omega
  rw [this, List.take_of_length_le (by rw [hl, Nat.mul_comm]; exact Nat.le_refl _), List.take_of_length_le];rw [hl, Nat.mul_comm W H];exact Nat.mul_le_mul_right _ (by omega)
theorem Jf {W H R d : Nat} (hW : 1 ≤ W ∧ W ≤ 64) (hH : 1 ≤ H ∧ H ≤ 64) (hR : 1 ≤ R ∧ R ≤ H) (hd : 1 ≤ d ∧ d ≤ 16) {K : Int} (hK : 0 ≤ K) {Ls P : List Int} (hl : P.length = W * H) (hP : P.all (KL d) = true) : ∀ (n i : Nat) (acc : List (List UInt8)), i + n = qZ H R → (zV d K Ls W H R P n i acc).2 = 0 →
  ∃ ss, (zV d K Ls W H R P n i acc).1 = acc ++ ss ∧ ss.length = n ∧ uM (W : Int) (d : Int) K Ls H R i ss (P.take (i * R * W)) = some P
 | 0, i, acc, hi, h => by
  refine ⟨[], by rw [List.append_nil]; rfl, rfl, ?_⟩;have := mt (cnt_lt (H := H) (i := i) hR.1).2 (by omega);show some _ = _;rw [List.take_of_length_le];rw [hl, Nat.mul_comm W H];exact Nat.mul_le_mul_right _ (by omega)
 | n + 1, i, acc, hi, h => by
  have hlt : i < qZ H R := by omega
  have BX := EX (i := i) hR hH.2 hlt;have hpl := RX hl hR.1 hlt;have hm := Nat.mul_le_mul hW.2 (show jI H R i ≤ 64 by omega)
  have hpa : (partOf W H R P i).all (KL d) = true := by
   rw [List.all_eq_true] at hP ⊢;exact fun x hx => hP x (List.mem_of_mem_take (List.mem_of_mem_drop hx))
  have step : ∀ s, stripR (W : Int) (d : Int) K Ls ((jI H R i : Nat) : Int) s = some (partOf W H R P i) → (zV d K Ls W H R P n (i + 1) (acc ++ [s])).2 = 0 → ∃ ss, (zV d K Ls W H R P n (i + 1) (acc ++ [s])).1 = acc ++ ss ∧ ss.length = n + 1 ∧ uM (W : Int) (d : Int) K Ls H R i ss (P.take (i * R * W)) = some P := by
   intro s hs h2;obtain ⟨ss, e1, e2, e3⟩ := Jf hW hH hR hd hK hl hP n (i + 1) (acc ++ [s]) (by omega) h2;refine ⟨s :: ss, by rw [e1, List.append_assoc]; rfl, by rw [List.length_cons, e2], ?_⟩;unfold uM;rw [hs]
   dsimp only
   rw [RY hl hR.1 hlt];exact e3
  unfold zV at h ⊢
  by_cases hK0 : 0 < K
  ·rw [if_pos hK0] at h ⊢
   by_cases h0 : (qB (W : Int) ((jI H R i : Nat) : Int) (partOf W H R P i) K Ls).2 = 0
   ·rw [if_pos h0] at h ⊢;refine step _ ?_ h;obtain ⟨q1, _⟩ := MW _ _ _ _ _ h0;unfold stripR;rw [if_neg (by omega), q1, if_pos];refine ⟨rfl, ?_⟩;rw [Int.toNat_natCast, List.all_eq_true];intro e he;have := of_decide_eq_true (List.all_eq_true.1 hpa e he);exact decide_eq_true this.2
   ·rw [if_neg h0] at h; exact absurd h h0
  ·rw [if_neg hK0] at h ⊢;refine step _ ?_ h;obtain ⟨u1, u2⟩ := unpack_pack hd hpa (by omega);have e : (W : Int) * ((jI H R i : Nat) : Int) = (((partOf W H R P i).length : Nat) : Int) := by rw [hpl]; simp
   unfold stripR;rw [if_pos (by omega), e, if_pos u1, Int.toNat_natCast, Int.toNat_natCast, u2]
section
variable (W H D K R : Int) (Ls : List Int) (St : List (List UInt8)) (ph b0 b1 b2 b3 w : Int) (sp : List (Int × Int)) (g0 g1 g2 m0 m1 m2 m3 m4 m5 m6 m7 m8 : Int) (cv : List (Int × Int)) (am : Int)
theorem M6 {f : Bool} (oW oH : Int) (P : List Int) (h : (Jb W H D K R Ls ph b0 b1 b2 b3 w sp g0 g1 g2 m0 m1 m2 m3 m4 m5 m6 m7 m8 cv am f oW oH P).2.2.2.2.2.2.2.2.2.2.2.2.2.2.2.2.2.2.2.2.2.2.2.2.2.2.2.2 = 0) :
  ∃ ss, Jb W H D K R Ls ph b0 b1 b2 b3 w sp g0 g1 g2 m0 m1 m2 m3 m4 m5 m6 m7 m8 cv am f oW oH P = (W, H, D, K, R, Ls, ss, ph, b0, b1, b2, b3, w, sp, g0, g1, g2, m0, m1, m2, m3, m4, m5, m6, m7, m8, cv, am, 0) ∧ tJ W H D K R Ls ss ph b0 b1 b2 b3 w sp g0 g1 g2 m0 m1 m2 m3 m4 m5 m6 m7 m8 am f = (oW, oH, P, 0) := by
 unfold Jb at h ⊢
 by_cases h1 : qC W H D K R Ls = 0
 rotate_left
 ·rw [if_pos h1] at h; exact absurd h h1
 obtain ⟨q1, q2, q3, q4⟩ := DM W H D K R Ls h1;rw [if_neg (fun q => q h1)] at h ⊢
 by_cases h2 : Ep W H ph b0 b1 b2 b3 w sp g0 g1 g2 m0 m1 m2 m3 m4 m5 m6 m7 m8 am f = 0
 rotate_left
 ·rw [if_pos h2] at h; exact absurd h h2
 rw [if_neg (fun q => q h2)] at h ⊢
 by_cases h3 : I5 oW oH P = false ∨ oW ≠ W ∨ oH ≠ H ∨ P.all (fun e => decide (e < ((2 ^ D.toNat : Nat) : Int))) = false
 ·rw [if_pos h3] at h; cases h
 rw [if_neg h3] at h ⊢
 have hp : I5 oW oH P = true := by
  cases hq : I5 oW oH P
  ·exact absurd (.inl hq) h3
  ·rfl
 obtain rfl : oW = W := Classical.byContradiction fun q => h3 (.inr (.inl q))
 obtain rfl : oH = H := Classical.byContradiction fun q => h3 (.inr (.inr (.inl q)))
 have hal : P.all (fun e => decide (e < ((2 ^ D.toNat : Nat) : Int))) = true := by
  cases hq : P.all (fun e => decide (e < ((2 ^ D.toNat : Nat) : Int)))
  ·exact absurd (.inr (.inr (.inr hq))) h3
  ·rfl
 obtain ⟨w', k', rfl, rfl, a1, a2, a3, a4, a5, a6, hP⟩ := EU hp;unfold uL at q1;obtain ⟨d, rfl⟩ := Int.eq_ofNat_of_zero_le (show 0 ≤ D by omega);obtain ⟨r, rfl⟩ := Int.eq_ofNat_of_zero_le (show 0 ≤ R by omega);rw [Int.toNat_natCast] at hal;rw [LD hP] at hal;rw [Int.toNat_natCast, Int.toNat_natCast, Int.toNat_natCast, Int.toNat_natCast] at h ⊢
 by_cases h4 : (zV d K Ls w' k' r P (qZ k' r) 0 []).2 = 0
 rotate_left
 ·rw [if_neg h4] at h; exact absurd h h4
 rw [if_pos h4];obtain ⟨ss, e1, e2, e3⟩ := Jf (W := w') (H := k') (R := r) (d := d) ⟨a1, a2⟩ ⟨a3, a4⟩ (by omega) (by omega) q2.1 a5 hal (qZ k' r) 0 [] (by omega) h4;rw [List.nil_append] at e1;rw [e1];refine ⟨ss, rfl, ?_⟩;unfold tJ;rw [if_neg (fun q => q h1), Int.toNat_natCast, Int.toNat_natCast, if_neg (fun q => q e2), if_neg (fun q => q h2)];rw [Nat.zero_mul, Nat.zero_mul, List.take_zero] at e3;rw [e3]
end
theorem Kp (W H D K R : Int) (Ls : List Int) (St : List (List UInt8)) (ph b0 b1 b2 b3 w : Int) (sp : List (Int × Int)) (g0 g1 g2 m0 m1 m2 m3 m4 m5 m6 m7 m8 : Int) (cv : List (Int × Int)) (am oW oH : Int) (P : List Int) (s : List UInt8) (hl : P.length ≤ 9223372036854775807) : oR 8589934592 W H D K R Ls St ph b0 b1 b2 b3 w sp g0 g1 g2 m0 m1 m2 m3 m4 m5 m6 m7 m8 cv am oW oH P s = some true := by
 obtain ⟨f, hb, hb', hc⟩ := Hb cv;unfold oR;rw [Pe W H D K R Ls St ph b0 b1 b2 b3 w sp g0 g1 g2 m0 m1 m2 m3 m4 m5 m6 m7 m8 cv am hb hc oW oH P hl, aD]
 have hrest : ∀ e : Option Bool, e = (Option.bind (oF 8589934592 s) fun jA =>
   cond (!decide (jA.2.2.2.2.2.2.2.2.2.2.2.2.2.2.2.2.2.2.2.2.2.2.2.2.2.2.2.2 = 0)) (
   Option.bind (gV 8589934592 ) fun zE => some zE) (
   Option.bind (nS 8589934592 jA.1 jA.2.1 jA.2.2.1 jA.2.2.2.1 jA.2.2.2.2.1 jA.2.2.2.2.2.1 jA.2.2.2.2.2.2.1 jA.2.2.2.2.2.2.2.1 jA.2.2.2.2.2.2.2.2.1 jA.2.2.2.2.2.2.2.2.2.1 jA.2.2.2.2.2.2.2.2.2.2.1 jA.2.2.2.2.2.2.2.2.2.2.2.1 jA.2.2.2.2.2.2.2.2.2.2.2.2.1 jA.2.2.2.2.2.2.2.2.2.2.2.2.2.1 jA.2.2.2.2.2.2.2.2.2.2.2.2.2.2.1 jA.2.2.2.2.2.2.2.2.2.2.2.2.2.2.2.1 jA.2.2.2.2.2.2.2.2.2.2.2.2.2.2.2.2.1 jA.2.2.2.2.2.2.2.2.2.2.2.2.2.2.2.2.2.1 jA.2.2.2.2.2.2.2.2.2.2.2.2.2.2.2.2.2.2.1 jA.2.2.2.2.2.2.2.2.2.2.2.2.2.2.2.2.2.2.2.1 jA.2.2.2.2.2.2.2.2.2.2.2.2.2.2.2.2.2.2.2.2.1 jA.2.2.2.2.2.2.2.2.2.2.2.2.2.2.2.2.2.2.2.2.2.1 jA.2.2.2.2.2.2.2.2.2.2.2.2.2.2.2.2.2.2.2.2.2.2.1 jA.2.2.2.2.2.2.2.2.2.2.2.2.2.2.2.2.2.2.2.2.2.2.2.1 jA.2.2.2.2.2.2.2.2.2.2.2.2.2.2.2.2.2.2.2.2.2.2.2.2.1 jA.2.2.2.2.2.2.2.2.2.2.2.2.2.2.2.2.2.2.2.2.2.2.2.2.2.1 jA.2.2.2.2.2.2.2.2.2.2.2.2.2.2.2.2.2.2.2.2.2.2.2.2.2.2.1 jA.2.2.2.2.2.2.2.2.2.2.2.2.2.2.2.2.2.2.2.2.2.2.2.2.2.2.2.1) fun Ft =>
   Option.bind (gV 8589934592 ) fun DC =>
   cond (DC) (cond (decide (Ft.2 = 0)) (some (decide (Ft.1 = s))) (some false)) (some false))) → e = some true := by
  rintro e rfl
  rcases M5 s with ⟨e1, e2⟩ | ⟨W, H, D, K, R, Ls, St, ph, b0, b1, b2, b3, w, sp, g0, g1, g2, m0, m1, m2, m3, m4, m5, m6, m7, m8, cv, am, f, W6, hb, hc, h0, e1, e2⟩
  ·rw [e1];unfold y9;rw [aD, cT (by rfl), FZ]; rfl
  ·obtain ⟨_, l1, l2, l3, l4, l5⟩ := EZ W H D K R Ls St ph b0 b1 b2 b3 w sp g0 g1 g2 m0 m1 m2 m3 m4 m5 m6 m7 m8 cv am hc h0;rw [e1, aD, cF (by rfl)]
   dsimp only
   rw [HG W H D K R Ls St ph b0 b1 b2 b3 w sp g0 g1 g2 m0 m1 m2 m3 m4 m5 m6 m7 m8 cv am hb hc (fun y hy => by have := l3 y hy; omega), aD, if_pos h0, FZ, aD, cT rfl, cT (by rfl), ← W6];exact congrArg some (dT rfl)
 by_cases h0 : (Jb W H D K R Ls ph b0 b1 b2 b3 w sp g0 g1 g2 m0 m1 m2 m3 m4 m5 m6 m7 m8 cv am f oW oH P).2.2.2.2.2.2.2.2.2.2.2.2.2.2.2.2.2.2.2.2.2.2.2.2.2.2.2.2 = 0
 rotate_left
 ·rw [cF (dF h0)]; exact hrest _ rfl
 obtain ⟨ss, e1, e2⟩ := M6 W H D K R Ls ph b0 b1 b2 b3 w sp g0 g1 g2 m0 m1 m2 m3 m4 m5 m6 m7 m8 cv am oW oH P h0;have e0 : (tJ W H D K R Ls ss ph b0 b1 b2 b3 w sp g0 g1 g2 m0 m1 m2 m3 m4 m5 m6 m7 m8 am f).2.2.2 = 0 := by rw [e2]
 have hpl := MY W H D K R Ls ss ph b0 b1 b2 b3 w sp g0 g1 g2 m0 m1 m2 m3 m4 m5 m6 m7 m8 am f;rw [e2] at hpl;obtain ⟨_, l1, l2, l3, l4, l5⟩ := EZ W H D K R Ls ss ph b0 b1 b2 b3 w sp g0 g1 g2 m0 m1 m2 m3 m4 m5 m6 m7 m8 cv am hc e0;have hs : ∀ y ∈ ss, y.length ≤ 9223372036854775807 := fun y hy => by have := l3 y hy; omega
 rw [cT (dT h0), e1]
 dsimp only
 rw [Hw W H D K R Ls ss ph b0 b1 b2 b3 w sp g0 g1 g2 m0 m1 m2 m3 m4 m5 m6 m7 m8 cv am hb hc hs, aD, e2, HG W H D K R Ls ss ph b0 b1 b2 b3 w sp g0 g1 g2 m0 m1 m2 m3 m4 m5 m6 m7 m8 cv am hb hc hs, aD, if_pos e0]
 dsimp only
 rw [RW W H D K R Ls ss ph b0 b1 b2 b3 w sp g0 g1 g2 m0 m1 m2 m3 m4 m5 m6 m7 m8 cv am hb hc e0, aD]
 dsimp only
 rw [cF (by rfl), cF (by rfl), cF (by rfl), TV 8589934592 (by decide) oW oH hpl, aD, cF (by rfl), LE W H D K R Ls ss ph b0 b1 b2 b3 w sp g0 g1 g2 m0 m1 m2 m3 m4 m5 m6 m7 m8 cv am 8589934592 (by decide) (by omega) (by omega) (by omega) (by omega), aD, cF (by rfl)];exact hrest _ rfl
end
section
open Go.RowKit
section
variable {P : Program} {ops : Array Oper} {Q O : Exit → Act → World → Prop} {S : World → Prop} {oU need : Nat → Bool} {R : Act → World → Prop}
def KO (ops : Array Oper) (rem : List Nat) (i : Nat) : Bool := rem.all fun j => !waits ops i j
def xU (P : Program) (O : Exit → Act → World → Prop) (ops : Array Oper) (S : World → Prop) (oU need : Nat → Bool) (R : Act → World → Prop) : Nat → List Nat → Act → World → Prop
 | 0, rem, a, w => rem = [] ∧ R a w
 | n + 1, rem, a, w =>
  (∃ i ∈ rem, oU i = true ∧ KO ops rem i = true ∧ ∃ o, ops[i]? = some o ∧ ∃ v, tU P ops S o v a ∧ xU P O ops S oU need R n (rem.erase i) (a.put o.dst v) w) ∨
  ((∀ i ∈ rem, oU i = true → KO ops rem i = false) ∧ ∀ c ∈ rem, oU c = false → KO ops rem c = true → wpOp P ops O c (fun a' w' => (need c = true → S w') ∧ xU P O ops S oU need R n (rem.erase c) a' w') a w)
def Es (ops : Array Oper) (oU : Nat → Bool) (i j : Nat) : Bool :=
 match ops[i]?, ops[j]? with
 | some oi, some oj => waits ops i j || ((!oU i || oi.apart ops oj) && (!oU j || oj.apart ops oi))
 | _, _ => false
def LJ (ops : Array Oper) (oU need : Nat → Bool) : Bool :=
 Region.noSelect ops && Nu ops && ((List.range ops.size).all fun i => (List.range i).all fun j => Es ops oU i j) &&
 (List.range ops.size).all fun i => oU i || need i || !GO ops oU i
def Po (O : Exit → Act → World → Prop) : Prop := (∀ e a d v w, O e (a.put d v) w → O e a w) ∧ ¬ LetsOut O
theorem Ue : Po AM := ⟨fun _ _ _ _ _ h => h.elim, fun ⟨_, _, h⟩ => h.elim⟩
theorem LK (hO : Po O) {j : Nat} {oi oj : Oper} {v : Value} (hj : ops[j]? = some oj) (hap : oi.apart ops oj = true)
  (hsi : ∀ cs b, oi.op ≠ .select cs b) (hsj : ∀ cs b, oj.op ≠ .select cs b) {K : Act → World → Prop} {a : Act} {w : World}
  (hy : tU P ops S oi v a) (h : wpOp P ops O j K (a.put oi.dst v) w) :
  wpOp P ops O j (fun a' w' => tU P ops S oi v a' ∧ K (a'.put oi.dst v) w') a w := by
 obtain ⟨h1, h2, h3⟩ := Oper.apart_spec hap
 have keep : ∀ (a : Act), tU P ops S oi v a → ∀ u, tU P ops S oi v (a.put oj.dst u) := fun a hy u =>
  hy.same (execOp_put oi hsi a oj.dst u h3) (wanted_put oi a oj.dst u h3)
 have keepD : ∀ d, tU P ops S oi v { a with defers := d :: a.defers } := fun d => hy.same rfl rfl
 unfold wpOp at *;simp only [hj] at *;rw [wanted_put oj a oi.dst v h1] at h
 split
 ·rename_i hw
  simp only [hw, if_true] at h
  rcases h with h | ⟨_, hl⟩
  case inr => exact absurd hl hO.2
  refine .inl ?_;unfold Oper.wp at *;rw [execOp_put oj hsj a oi.dst v h1] at h
  generalize (execOp a.eval oj).run P w = r at *
  cases r with
  | ok n w' =>
   cases n <;> simp only [Oper.upon] at h ⊢
   case value u => exact ⟨keep a hy u, by rw [← Act.put_comm a v u h2]; exact h⟩
   case skip => exact ⟨keep a hy _, by rw [← Act.put_comm a v undef h2]; exact h⟩
   case defer d =>
    refine ⟨keep _ (keepD d) _, ?_⟩;rw [← Act.put_comm _ v undef h2, ← Act.put_defers];exact h
   case enter f args =>
    refine Calls.mono h fun e w'' he => ?_
    cases e with
    | returned u => exact ⟨keep a hy u, by rw [← Act.put_comm a v u h2]; exact he⟩
    | panicked c => exact hO.1 _ _ _ _ _ he
    | outgrown => exact absurd he hO.2
   case row row args => exact Rows.mono h fun u w'' he => ⟨keep a hy u, by rw [← Act.put_comm a v u h2]; exact he⟩
  | halt x w' => cases x <;> simp only [Oper.upon] at h ⊢; exact hO.1 _ _ _ _ _ h
 ·rename_i hw
  simp only [hw] at h;exact ⟨keep a hy _, by rw [← Act.put_comm a v undef h2]; exact h⟩
theorem Pp (hO : Po O) (hQ : ∀ e a w, O e a w → Q e a w) {i : Nat} {K : Act → World → Prop} {a : Act} {w : World} (h : wpOp P ops O i K a w) : wpOp P ops Q i K a w := by
  unfold wpOp at *
  split
  · rename_i h0
    simp only [h0] at h
    exact h
  · rename_i o ho
    simp only [ho] at h
    split
    · rename_i hw
      rw [if_pos hw] at h
      rcases h with h | ⟨_, hl⟩
      case inr => exact absurd hl hO.2
      refine .inl ?_
      unfold Oper.wp at *
      generalize (execOp a.eval o).run P w = r at *
      cases r with
      | ok n w' =>
        cases n <;> simp only [Oper.upon] at h ⊢ <;> first
          | exact h
          | (refine Calls.mono h fun e w'' he => ?_
             cases e with
             | returned u => exact he
             | panicked c => exact hQ _ _ _ he
             | outgrown => exact absurd he hO.2)
      | halt x w' => cases x <;> simp only [Oper.upon] at h ⊢; exact hQ _ _ _ h
    · rename_i hw
      rw [if_neg hw] at h
      exact h
theorem Ae {rem : List Nat} {i k : Nat} (h : KO ops rem i = true) : KO ops (rem.erase k) i = true := by
 unfold KO at *;rw [List.all_eq_true] at *;exact fun j hj => h j (List.mem_of_mem_erase hj)
theorem wG {rem : List Nat} {i j : Nat} (h : KO ops rem i = true) (hj : j ∈ rem) : waits ops i j = false := by
 unfold KO at h;rw [List.all_eq_true] at h
 simpa using h j hj
theorem N9 {i : Nat} {oi : Oper} (hi : ops[i]? = some oi) (hr : oU i = true) (hsel : ∀ (j : Nat) (o : Oper) cs b, ops[j]? = some o → o.op ≠ .select cs b)
  (wC : ∀ j k oj ok, j ≠ k → ops[j]? = some oj → ops[k]? = some ok → waits ops j k = false → waits ops k j = false → (oU j = true → oj.apart ops ok = true)) :
  ∀ (n : Nat) (rem : List Nat) (a : Act) (w : World), i ∈ rem → KO ops rem i = true → xU P O ops S oU need R (n + 1) rem a w → ∃ v, tU P ops S oi v a ∧ xU P O ops S oU need R n (rem.erase i) (a.put oi.dst v) w := by
 intro n
 induction n with
 | zero =>
  intro rem a w him hrd h
  rcases h with ⟨i0, hi0, hr0, hd0, o0, ho0, u, hu, h⟩ | ⟨hno, _⟩
  ·obtain ⟨hnil, hR⟩ := h
   have : i0 = i := by
    by_cases e : i0 = i
    ·exact e
    ·have : i ∈ rem.erase i0 := (List.mem_erase_of_ne (fun h => e h.symm)).2 him;rw [hnil] at this; cases this
   subst this;obtain rfl : o0 = oi := Option.some.inj (ho0.symm.trans hi);exact ⟨u, hu, hnil, hR⟩
  ·rw [hno i him hr] at hrd; cases hrd
 | succ n ih =>
  intro rem a w him hrd h
  rcases h with ⟨i0, hi0, hr0, hd0, o0, ho0, u, hu, h⟩ | ⟨hno, _⟩
  ·by_cases e : i0 = i
   ·subst e;obtain rfl : o0 = oi := Option.some.inj (ho0.symm.trans hi);exact ⟨u, hu, h⟩
   ·have aDo : i ∈ rem.erase i0 := (List.mem_erase_of_ne (fun h => e h.symm)).2 him;obtain ⟨v, hv, h⟩ := ih _ _ _ aDo (Ae hrd) h;have w1 := wG hrd hi0;have w2 := wG hd0 him;have ap1 := wC i i0 oi o0 (fun h => e h.symm) hi ho0 w1 w2 hr;have ap2 := wC i0 i o0 oi e ho0 hi w2 w1 hr0;obtain ⟨p1, p2, p3⟩ := Oper.apart_spec ap1;obtain ⟨q1, q2, q3⟩ := Oper.apart_spec ap2;have hv' : tU P ops S oi v a := hv.same (execOp_put oi (fun cs b => hsel i oi cs b hi) a o0.dst u p3).symm (wanted_put oi a o0.dst u p3).symm;refine ⟨v, hv', .inl ⟨i0, (List.mem_erase_of_ne e).2 hi0, hr0, Ae hd0, o0, ho0, u, ?_, ?_⟩⟩
    ·exact hu.same (execOp_put o0 (fun cs b => hsel i0 o0 cs b ho0) a oi.dst v q3) (wanted_put o0 a oi.dst v q3)
    ·rw [List.erase_comm, Act.put_comm a v u p2]; exact h
  ·rw [hno i him hr] at hrd; cases hrd
theorem Uf (hO : Po O) {c : Nat} {oc : Oper} (hc : ops[c]? = some oc) (hrc : oU c = false) (hsel : ∀ (j : Nat) (o : Oper) cs b, ops[j]? = some o → o.op ≠ .select cs b)
  (wC : ∀ j k oj ok, j ≠ k → ops[j]? = some oj → ops[k]? = some ok → waits ops j k = false → waits ops k j = false → (oU j = true → oj.apart ops ok = true)) :
  ∀ (n : Nat) (rem : List Nat) (a : Act) (w : World), c ∈ rem → KO ops rem c = true → xU P O ops S oU need R (n + 1) rem a w → wpOp P ops O c (fun a' w' => (need c = true → S w') ∧ xU P O ops S oU need R n (rem.erase c) a' w') a w := by
 intro n
 induction n with
 | zero =>
  intro rem a w hcm hrd h
  rcases h with ⟨i0, hi0, hr0, hd0, o0, ho0, u, hu, h⟩ | ⟨_, h⟩
  ·obtain ⟨hnil, hR⟩ := h;have e : i0 ≠ c := fun e => by subst e; rw [hrc] at hr0; cases hr0
   have : c ∈ rem.erase i0 := (List.mem_erase_of_ne (fun h => e h.symm)).2 hcm;rw [hnil] at this; cases this
  ·exact h c hcm hrc hrd
 | succ n ih =>
  intro rem a w hcm hrd h
  rcases h with ⟨i0, hi0, hr0, hd0, o0, ho0, u, hu, h⟩ | ⟨_, h⟩
  ·have e : i0 ≠ c := fun e => by subst e; rw [hrc] at hr0; cases hr0
   have hcm' : c ∈ rem.erase i0 := (List.mem_erase_of_ne (fun h => e h.symm)).2 hcm;have h2 := ih _ _ _ hcm' (Ae hrd) h;have w1 := wG hrd hi0;have w2 := wG hd0 hcm;have ap := wC i0 c o0 oc e ho0 hc w2 w1 hr0;have h3 := LK hO hc ap (fun cs b => hsel i0 o0 cs b ho0) (fun cs b => hsel c oc cs b hc) hu h2;refine wpOp_mono ?_ h3;rintro a' w' ⟨hy, hn, hk⟩;refine ⟨hn, .inl ⟨i0, (List.mem_erase_of_ne e).2 hi0, hr0, Ae hd0, o0, ho0, u, hy, ?_⟩⟩;rw [List.erase_comm]; exact hk
  ·exact h c hcm hrc hrd
theorem Cw {l : List Nat} (hl : l.Nodup) (i : Nat) : l.filter (· != i) = l.erase i := by
 rw [List.Nodup.erase_eq_filter hl]
theorem LL (hO : Po O) (hQ : ∀ e a w, O e a w → Q e a w) (hok : LJ ops oU need = true) : ∀ (fuel : Nat) (listed : Array Bool) (a : Act) (w : World), listed.size = ops.size → Closed ops listed → (jY ops listed).length = fuel →
  (∀ r ∈ jY ops listed, oU r = true → S w) → xU P O ops S oU need (Q .normal) fuel (jY ops listed) a w → wpAny P .any ops Q fuel listed a w := by
 simp only [LJ, Bool.and_eq_true] at hok;obtain ⟨⟨⟨KV, hback⟩, M7⟩, KW⟩ := hok;have hsel := Region.noSelect_spec KV;have hp : ∀ i < ops.size, ∀ j < i, Es ops oU i j = true := fun i hi j hj => List.all_eq_true.1 (List.all_eq_true.1 M7 i (List.mem_range.2 hi)) j (List.mem_range.2 hj)
 have wC : ∀ j k oj ok, j ≠ k → ops[j]? = some oj → ops[k]? = some ok → waits ops j k = false → waits ops k j = false → (oU j = true → oj.apart ops ok = true) := by
  intro j k oj ok hjk hj hk w1 w2 hr;have hjl := (Array.getElem?_eq_some_iff.1 hj).1;have hkl := (Array.getElem?_eq_some_iff.1 hk).1
  rcases Nat.lt_or_gt_of_ne hjk with hlt | hlt
  ·have h := hp k hkl j hlt;unfold Es at h;simp only [hj, hk, w2, Bool.false_or, Bool.and_eq_true, Bool.or_eq_true, Bool.not_eq_true'] at h
   rcases h.2 with h0 | h0
   ·rw [hr] at h0; cases h0
   ·exact h0
  ·have h := hp j hjl k hlt;unfold Es at h;simp only [hj, hk, w1, Bool.false_or, Bool.and_eq_true, Bool.or_eq_true, Bool.not_eq_true'] at h
   rcases h.1 with h0 | h0
   ·rw [hr] at h0; cases h0
   ·exact h0
 have hbk : ∀ i o, ops[i]? = some o → ∀ e ∈ o.after, Region.binds .any e = true → e.on < i := fun i o ho e he hb => by
  have hi : i < ops.size := (Array.getElem?_eq_some_iff.1 ho).1;have h := List.all_eq_true.1 hback i (List.mem_range.2 hi);simp only [ho] at h;have h2 := Array.all_eq_true_iff_forall_mem.1 h e he
  simpa [hb] using h2
 have hnd : ∀ i < ops.size, oU i = false → ∀ r < ops.size, oU r = true → waits ops i r = false → need i = true := fun i hi BX r hr hrr hw => by
  have h := List.all_eq_true.1 KW i (List.mem_range.2 hi);simp only [BX, Bool.false_or, Bool.or_eq_true, Bool.not_eq_true'] at h;refine h.resolve_right fun h0 => ?_
  have : GO ops oU i = true := by
   refine List.any_eq_true.2 ⟨r, List.mem_range.2 hr, ?_⟩;have : r ≠ i := fun e => by subst e; rw [BX] at hrr; cases hrr
   simp [hrr, hw, this]
  rw [this] at h0;cases h0
 intro fuel
 induction fuel with
 | zero =>
  intro listed a w hs hc hlen _ h;have hnil : jY ops listed = [] := List.eq_nil_of_length_eq_zero hlen;obtain ⟨_, h⟩ := h;refine ⟨?_, h⟩;refine List.eq_nil_iff_forall_not_mem.2 fun i hi => ?_
  obtain ⟨h0, o, ho, _⟩ := mem_ready.1 hi;have : i ∈ jY ops listed := lP.2 ⟨(Array.getElem?_eq_some_iff.1 ho).1, h0⟩;rw [hnil] at this;cases this
 | succ fuel ih =>
  intro listed a w hs hc hlen hS h;refine ⟨fun h0 => ?_, fun i hi => ?_⟩
  ·exfalso
   match hr : jY ops listed, hlen with
   | i0 :: rest, _ =>
    have hm0 : i0 ∈ jY ops listed := by rw [hr]; exact List.mem_cons_self ..
    obtain ⟨hlt, hun⟩ := lP.1 hm0;have AN := uS (ops := ops) listed;rw [hr, List.pairwise_cons] at AN
    have : i0 ∈ Region.ready .any ops listed := by
     refine mem_ready.2 ⟨hun, ops[i0], Array.getElem?_eq_getElem hlt, fun e he hb => ?_⟩;have hlt2 := hbk i0 _ (Array.getElem?_eq_getElem hlt) e he hb;cases hl : listed.getD e.on false with
     | true => rfl
     | false =>
      have hm : e.on ∈ jY ops listed := lP.2 ⟨by omega, by rw [Aa (by omega)]; exact hl⟩;rw [hr] at hm
      rcases List.mem_cons.1 hm with hm | hm
      ·omega
      ·have := AN.1 _ hm; omega
    rw [h0] at this;cases this
  ·obtain ⟨hun, oi, hoi, hall⟩ := mem_ready.1 hi;have hilt : i < ops.size := (Array.getElem?_eq_some_iff.1 hoi).1;have him : i ∈ jY ops listed := lP.2 ⟨hilt, hun⟩;have M8 : (jY ops listed).Nodup := (uS (ops := ops) listed).imp fun h => Nat.ne_of_lt h
   have AO : jY ops (listed.setIfInBounds i true) = (jY ops listed).erase i := by rw [Fy hs hilt, Cw M8]
   have hlen' : (jY ops (listed.setIfInBounds i true)).length = fuel := by
    rw [AO, List.length_erase_of_mem him]; omega
   have hs' : (listed.setIfInBounds i true).size = ops.size := by simpa using hs
   have hc' : Closed ops (listed.setIfInBounds i true) := by
    intro k hk j hj
    by_cases hik : i = k
    ·subst hik; exact getD_set_true (tY hi hj)
    ·rw [getD_set_ne false hik] at hk; exact getD_set_true (hc k hk j hj)
   have hrd : KO ops (jY ops listed) i = true := by
    unfold KO;rw [List.all_eq_true];intro j hj;obtain ⟨h1, h2⟩ := lP.1 hj;cases hw : waits ops i j with
    | false => rfl
    | true =>
     have := tY hi hw;rw [← Aa (by omega), h2] at this; cases this
   cases BX : oU i with
   | true =>
    have hSw : S w := hS i him BX;obtain ⟨v, hv, hrest⟩ := N9 hoi BX hsel wC fuel _ a w him hrd h;refine hv.run hoi hSw (ih _ _ _ hs' hc' hlen' (fun _ _ _ => hSw) (by rw [AO]; exact hrest))
   | false =>
    have h2 := Uf hO hoi BX hsel wC fuel _ a w him hrd h;refine Pp hO hQ (wpOp_mono ?_ h2);rintro a' w' ⟨hn, hk⟩;refine ih _ _ _ hs' hc' hlen' ?_ (by rw [AO]; exact hk);intro r hr hrr;rw [AO] at hr;have hrm := List.mem_of_mem_erase hr;exact hn (hnd i hilt BX r (lP.1 hrm).1 hrr (wG hrd hrm))
theorem Kq (hO : Po O) (hQ : ∀ e a w, O e a w → Q e a w) {id : Nat} {a : Act} {w : World} {l : List Oper} (S : World → Prop) (f : List Nat) (n : Nat) (rem : List Nat) (hm : P.follows .mixedOrders = true) (hok : LJ l.toArray (pZ f) (kK f) = true)
  (hl : List.range l.toArray.size = rem) (hn : rem.length = n) (hS : S w.drew) (h : xU P O l.toArray S (pZ f) (kK f) (Q .normal) n rem a w.drew) : (Code.region id l.toArray true).wp P Q a w := by
 refine wp_region_any hm ?_
 have F8 : jY l.toArray (Array.replicate l.toArray.size false) = List.range l.toArray.size := by
  unfold jY;refine List.filter_eq_self.2 fun i hi => ?_
  have := List.mem_range.1 hi
  simp at this
  simp [this]
 refine LL hO hQ hok l.toArray.size (Array.replicate l.toArray.size false) a _ (by simp) ?_ (by rw [F8]; simp) (fun _ _ _ => hS) ?_
 ·intro i hi;rw [xN] at hi;cases hi
 ·rw [F8, hl];have : l.toArray.size = n := by rw [← hn, ← hl]; simp
  rw [this]; exact h
theorem B9 {id : Nat} {a : Act} {w : World} {l : List Oper} (S : World → Prop) (f : List Nat) (n : Nat) (rem : List Nat) (hm : P.follows .mixedOrders = true) (hok : LJ l.toArray (pZ f) (kK f) = true)
  (hl : List.range l.toArray.size = rem) (hn : rem.length = n) (hS : S w.drew) (h : xU P AM l.toArray S (pZ f) (kK f) (Q .normal) n rem a w.drew) : (Code.region id l.toArray true).wp P Q a w :=
 Kq Ue (fun _ _ _ h => h.elim) S f n rem hm hok hl hn hS h
theorem put_defers (a : Act) (d : Option Nat) (v : Value) : (a.put d v).defers = a.defers := by cases d <;> rfl
variable {D : List Deferred} {a : Act} {w : World} {N : Nat} {l : List (Nat × Value)} {o : Oper} {v : Value} {post : Value → World → Prop} {d i c n : Nat} {rem Ca : List Nat} {f : List Nat}
theorem gP (i : Nat) (Ca : List Nat) (hc : (rem.elem i && pZ f i && KO ops rem i && rem.erase i == Ca) = true) (ho : ops[i]? = some o) (K : Kd D a N l) (hw : Region.wanted o (yielded ops a.tmps) = true) (hd : o.dst = some d) (hN : Nat.blt d N = true) (hr : Rd P S a o v)
  (k : ∀ a', Kd D a' N ((d, v) :: l) → xU P O ops S (pZ f) (kK f) R n Ca a' w) : xU P O ops S (pZ f) (kK f) R (n + 1) rem a w := by
 simp only [Bool.and_eq_true, beq_iff_eq, List.elem_iff] at hc;obtain ⟨⟨⟨h1, h2⟩, h3⟩, rfl⟩ := hc;refine .inl ⟨i, h1, h2, h3, o, ho, v, .inl ⟨hw, hr⟩, ?_⟩;have := K.put (d := o.dst) (by rw [hd]; exact hN) v;rw [hd] at this ⊢;exact k _ this
def W7 (p : Nat → Prop) : List Nat → Prop
 | [] => True
 | c :: cs => p c ∧ W7 p cs
theorem LM {p : Nat → Prop} : ∀ {cs : List Nat}, W7 p cs → ∀ c ∈ cs, p c
 | [], _, c, h => by cases h
 | d :: cs, h, c, hc => by
  rcases List.mem_cons.1 hc with rfl | hc
  ·exact h.1
  ·exact LM h.2 c hc
theorem lF (cs : List Nat) (hc : ((rem.all fun i => !pZ f i || !KO ops rem i) && (rem.filter fun c => !pZ f c && KO ops rem c) == cs) = true)
  (h : W7 (fun c => wpOp P ops O c (fun a' w' => (kK f c = true → S w') ∧ xU P O ops S (pZ f) (kK f) R n (rem.erase c) a' w') a w) cs) : xU P O ops S (pZ f) (kK f) R (n + 1) rem a w := by
 simp only [Bool.and_eq_true, beq_iff_eq] at hc;obtain ⟨h1, rfl⟩ := hc;refine .inr ⟨fun i hi hr => ?_, fun c hcm hr hrd => LM h c (List.mem_filter.2 ⟨hcm, by simp [hr, hrd]⟩)⟩;have := List.all_eq_true.1 h1 i hi
 simpa [hr] using this
theorem tK (Ca : List Nat) (hc : (rem.erase c == Ca) = true) (ho : ops[c]? = some o) (K : Kd D a N l) (hw : Region.wanted o (yielded ops a.tmps) = true) (hd : o.dst = some d) (hN : Nat.blt d N = true) (h : Ac P o a w post)
  (k : ∀ v a' w', post v w' → Kd D a' N ((d, v) :: l) → (kK f c = true → S w') ∧ xU P O ops S (pZ f) (kK f) R n Ca a' w') : wpOp P ops O c (fun a' w' => (kK f c = true → S w') ∧ xU P O ops S (pZ f) (kK f) R n (rem.erase c) a' w') a w := by
 obtain rfl : rem.erase c = Ca := by simpa using hc
 unfold wpOp;simp only [ho, hw, if_true];refine .inl (h _ _ fun v w' hp => ?_);have := K.put (d := o.dst) (by rw [hd]; exact hN) v;rw [hd] at this ⊢;exact k v _ w' hp this
theorem Bp (Ca : List Nat) (hc : (rem.erase c == Ca) = true) (ho : ops[c]? = some o) (K : Kd D a N l) (hw : Region.wanted o (yielded ops a.tmps) = true) (hd : o.dst = none) (h : Ac P o a w post)
  (k : ∀ v a' w', post v w' → Kd D a' N l → (kK f c = true → S w') ∧ xU P O ops S (pZ f) (kK f) R n Ca a' w') : wpOp P ops O c (fun a' w' => (kK f c = true → S w') ∧ xU P O ops S (pZ f) (kK f) R n (rem.erase c) a' w') a w := by
 obtain rfl : rem.erase c = Ca := by simpa using hc
 unfold wpOp;simp only [ho, hw, if_true];refine .inl (h _ _ fun v w' hp => ?_);rw [hd];exact k v _ w' hp K
theorem Dc {St Rt : Type} {Rel : St → Act → World → Prop} {kk : St → Option Rt} {jf : (St → Option Rt) → Option Rt} {r : Rt} {p : Code} (h : jf kk = some r) (hk : ∀ st a w, Rel st a w → kk st = some r → Q .normal a w)
  (hc : ∀ kk : St → Option Rt, (∀ st a w, Rel st a w → kk st = some r → Q .normal a w) → jf kk = some r → p.wp P Q a w) : p.wp P Q a w := hc kk hk h
def Bo (P : Program) (o : Oper) (a : Act) (w : World) (Pn : List PanicEntry → World → Prop) : Prop :=
 ∀ (K : Act → World → Prop) (Q : Exit → Act → World → Prop), (∀ ch w', Pn ch w' → Q (.panic ch) a w') → o.wp P a w K Q
theorem Ug {Pn : List PanicEntry → World → Prop} {fi : FuncId} {x : Operand} {cap vs : List Value} {args : Array Operand} {ts : Array TypeId} (ho : o.op = .call { callee := .value x, args := args, argTypes := ts }) (hf : iA P fi = true) (K : Kd D a N l) (hx : kQ l x = some (.func (.func fi) #[] cap.toArray)) (hargs : args.toList.map (kQ l) = vs.map some)
  (h : Calls P fi (vs ++ cap).toArray w fun e w' => ∃ ch, e = .panicked ch ∧ Pn ch w') : Bo P o a w Pn := by
 have hE : args.map a.eval = vs.toArray := by
  apply Array.ext'
  simp only [Array.toList_map]
  have : ∀ (xs : List Operand) (vs : List Value), xs.map (kQ l) = vs.map some → xs.map a.eval = vs := by
   intro xs
   induction xs with
   | nil => intro vs h; cases vs <;> simp_all
   | cons x xs ih =>
    intro vs h;cases vs with
    | nil => simp at h
    | cons v vs => simp only [List.map_cons, List.cons.injEq] at h ⊢; exact ⟨K.ev h.1, ih vs h.2⟩
  exact this _ _ hargs
 have hrun : (execOp a.eval o).run P w = .ok (.enter fi (vs ++ cap).toArray) w := by
  unfold iA at hf
  split at hf
  ·rename_i fn hfn
   simp only [Bool.and_eq_true, bne_iff_ne, ne_eq] at hf;obtain ⟨b, hb⟩ := Option.isSome_iff_exists.1 hf.1;unfold execOp
   simp [ho, resolve, K.ev hx, hE, Deferred.ofValue, invoke, callFunc, hfn, hb, hf.2]
  ·cases hf
 intro K' Q hK;unfold Oper.wp;rw [hrun, Oper.upon_enter];refine h.mono ?_;rintro e w' ⟨ch, rfl, hp⟩;exact hK ch w' hp
theorem sA {Pn : List PanicEntry → World → Prop} {x : Operand} {T : TypeId} {u : Value} (ho : o.op = .panic x) (K : Kd D a N l) (hx : kQ l x = some (.iface T u)) (h : Pn [{ v := .iface T u, recovered := false }] w) : Bo P o a w Pn := by
 intro K2 Q2 hQ;unfold Oper.wp
 have : (execOp a.eval o).run P w = .halt (.panic (.iface T u)) w := by
  unfold execOp
  simp [ho, K.ev hx, run_panic_iface, Result.andThen]
 rw [this];exact hQ _ _ h
theorem sB {rest : List Oper} {Pn : List PanicEntry → World → Prop} (K : Kd D a N l) (hw : Region.wanted o (yielded ops a.tmps) = true) (h : Bo P o a w Pn) (k : ∀ ch w', Pn ch w' → Q (.panic ch) a w') : wpList P ops Q (o :: rest) a w := by
 refine wpList_step fun Kc hK => ?_
 rw [if_pos hw];exact h _ _ k
theorem eD {K : Act → World → Prop} {ch : List PanicEntry} (h : Q (.panic ch) a w) : Exit.then K Q (.panic ch) a w := h
theorem jJ {id : Nat} {ch : List PanicEntry} (h : Q (.panic ch) a w) : Exit.inBlock id Q (.panic ch) a w := h
theorem kJ {fn : Func} {Rp : Ending → World → Prop} {ch : List PanicEntry} (hd : a.defers = []) (h : Rp (.panicked ch) w) : bodyPost P fn Rp (.panic ch) a w := ⟨hd, h⟩
theorem uZ (h : R a w) : xU P O ops S (pZ f) (kK f) R 0 [] a w := ⟨rfl, h⟩
end
end
end Go.Proofs.YtpmnfhifmmfglacGreatDoor
