/- Texts of the claim ShotWrites, joined and made small by a program. -/
import Derived.ChangeKeysEq
import Derived.KernelRfl
import Derived.Laws.BytesArg
import Derived.Laws.CopyRow
import Derived.Laws.IdiomCopy
import Derived.Laws.IdiomStrings
import Derived.Laws.Strings2
import Derived.Laws.Strings3
import Derived.Lib.AppendStr
import Derived.Lib.AtoiAllCases
import Derived.Lib.SliceRun
import Derived.LoopN
import Derived.Maps.OwnSet
import Derived.Recover
import Derived.WalkSpells
import Derived.WideMake
import Derived.Test.YtpmnfhifmmfglacGreatDoorShotWritesK4
import Derived.Test.YtpmnfhifmmfglacGreatDoorShotWritesK5
set_option linter.unusedVariables false
set_option linter.unusedSimpArgs false
set_option linter.unusedSectionVars false
set_option maxRecDepth 100000
set_option maxHeartbeats 8000000
namespace Go.Proofs.YtpmnfhifmmfglacGreatDoor
section
open Go
theorem Hj (k s : List UInt8) (v : Int) (m : List (List UInt8 × Int)) : yR ((k, v) :: m) s = if k = s then some v else yR m s := rfl
structure BK (V : List (List UInt8)) (m : List (List UInt8 × Int)) : Prop where
 wd : ∀ (i : Nat) (s : List UInt8), V[i]? = some s → s ≠ [] → yR m s = some (i : Int)
 pr : ∀ (s w : List UInt8), w ∈ V → s <+: w → s ≠ w → yR m s = some (-1)
 no : ∀ (s : List UInt8), (∀ w ∈ V, w ≠ [] → ¬ s <+: w) → yR m s = none
theorem PF.sub {V : List (List UInt8)} {w : List UInt8} (h : PF (V ++ [w])) : PF V := fun i j u v hij hu hv h0 =>
 h i j u v hij (by rw [List.getElem?_append_left (List.getElem?_eq_some_iff.1 hu).1]; exact hu) (by rw [List.getElem?_append_left (List.getElem?_eq_some_iff.1 hv).1]; exact hv) h0
theorem PF.last {V : List (List UInt8)} {w u : List UInt8} (h : PF (V ++ [w])) (hu : u ∈ V) : (u ≠ [] → ¬ u <+: w) ∧ (w ≠ [] → ¬ w <+: u) := by
 obtain ⟨i, hi⟩ := List.mem_iff_getElem?.1 hu;have hlt := (List.getElem?_eq_some_iff.1 hi).1;have h1 : (V ++ [w])[i]? = some u := by rw [List.getElem?_append_left hlt]; exact hi
 have h2 : (V ++ [w])[V.length]? = some w := by simp
 exact ⟨h i V.length u w (by omega) h1 h2, h V.length i w u (by omega) h2 h1⟩
theorem BK.step {V : List (List UInt8)} {w : List UInt8} {m m2 : List (List UInt8 × Int)} (B : BK V m) (hp : PF (V ++ [w])) (hw : w ≠ [])
  (h1 : ∀ s, s <+: w → s ≠ w → yR m s = none → yR m2 s = some (-1)) (h2 : ∀ s, ¬ (s <+: w ∧ s ≠ w ∧ yR m s = none) → yR m2 s = yR m s) : BK (V ++ [w]) ((w, (V.length : Int)) :: m2) := by
 have pre : ∀ s, s <+: w → s ≠ w → yR m2 s = some (-1) := fun s h3 h4 => by
  rcases hm : yR m s with _ | x
  ·exact h1 s h3 h4 hm
  ·rw [h2 s (fun h => by rw [h.2.2] at hm; cases hm), hm]
   by_cases hex : ∃ u ∈ V, u ≠ [] ∧ s <+: u
   ·obtain ⟨u, hu, hu0, hsu⟩ := hex
    by_cases e : s = u
    ·subst e; exact absurd h3 ((hp.last hu).1 hu0)
    ·rw [← hm]; exact B.pr s u hu hsu e
   ·rw [B.no s fun u hu hu0 hsu => hex ⟨u, hu, hu0, hsu⟩] at hm; cases hm
 refine ⟨fun i s hi h0 => ?_, fun s u hu h3 h4 => ?_, fun s h => ?_⟩
 ·rw [Hj]
  by_cases hlt : i < V.length
  ·rw [List.getElem?_append_left hlt] at hi;have hmem := List.mem_of_getElem? hi;rw [if_neg (fun e => by subst e; exact (hp.last hmem).1 h0 (List.prefix_refl _)), h2 s (fun h => (hp.last hmem).1 h0 h.1)];exact B.wd i s hi h0
  ·have hl := (List.getElem?_eq_some_iff.1 hi).1
   simp at hl
   obtain rfl : i = V.length := by omega
   simp at hi
   rw [if_pos hi]
 ·rw [Hj]
  rcases List.mem_append.1 hu with hu | hu
  ·rw [if_neg (fun e => by subst e; exact (hp.last hu).2 hw h3)];have := B.pr s u hu h3 h4;rw [h2 s (fun h => by rw [h.2.2] at this; cases this)];exact this
  ·obtain rfl : u = w := by simpa using hu
   rw [if_neg (fun e => h4 e.symm)];exact pre s h3 h4
 ·rw [Hj];have hsw := h w (by simp) hw;rw [if_neg (fun e => hsw (by subst e; exact List.prefix_refl _)), h2 s (fun h => hsw h.1)];exact B.no s fun u hu hu0 => h u (by simp [hu]) hu0
theorem BK.nil {V : List (List UInt8)} {m : List (List UInt8 × Int)} (B : BK V m) : BK (V ++ [[]]) m := by
 refine ⟨fun i s hi h0 => ?_, fun s u hu h3 h4 => ?_, fun s h => ?_⟩
 ·by_cases hlt : i < V.length
  ·rw [List.getElem?_append_left hlt] at hi; exact B.wd i s hi h0
  ·have hl := (List.getElem?_eq_some_iff.1 hi).1
   simp at hl
   obtain rfl : i = V.length := by omega
   simp at hi
   exact absurd hi h0
 ·rcases List.mem_append.1 hu with hu | hu
  ·exact B.pr s u hu h3 h4
  ·obtain rfl : u = [] := by simpa using hu
   exact absurd (List.prefix_nil.1 h3) h4
 ·exact B.no s fun u hu hu0 => h u (by simp [hu]) hu0
def gsv (kind a b c : Int) : Int := if kind = 1 then a else if kind = 2 then b else if kind = 3 then c else if kind = 4 then a + b - c else if kind = 5 then a + (b - c) / 2 else if kind = 6 then b + (a - c) / 2 else (a + b) / 2
def gs (W : Nat) (P : List Int) (kind : Int) (i : Nat) : Int := if i = 0 then 32768 else if i / W = 0 then P.getD (i - 1) 0 else if i % W = 0 then P.getD (i - W) 0 else gsv kind (P.getD (i - 1) 0) (P.getD (i - W) 0) (P.getD (i - W - 1) 0)
def dfn (n g : Int) : Int := if 32768 < (n - g) % 65536 then (n - g) % 65536 - 65536 else (n - g) % 65536
def ds (W : Nat) (P : List Int) (kind : Int) : List Int := (List.range P.length).map fun i => dfn (P.getD i 0) (gs W P kind i)
abbrev aAc := Int × Int × Int × Int × Int × List Int × List (List UInt8) × Int × Int × Int × Int × Int × Int × List (Int × Int) × Int × Int × Int × Int × Int × Int × Int × Int × Int × Int × Int × Int × List (Int × Int) × Int × Int
section
variable (W H D K R : Int) (Ls : List Int) (St : List (List UInt8)) (ph b0 b1 b2 b3 w : Int) (sp : List (Int × Int)) (g0 g1 g2 m0 m1 m2 m3 m4 m5 m6 m7 m8 : Int) (cv : List (Int × Int)) (am : Int)
def Qf : Prop := (1 ≤ W ∧ W ≤ 64) ∧ (1 ≤ H ∧ H ≤ 64) ∧ (1 ≤ D ∧ D ≤ 16) ∧ 1 ≤ R ∧ R ≤ H
instance : Decidable (Qf W H D R) := by unfold Qf; exact inferInstance
end
theorem VB (x : Int) : IntKind.u8.wrap x = x % 256 := by
 simp [IntKind.wrap, IntKind.bits, IntKind.signed]
theorem UO (e : Int) {k : Nat} (hk : k ≤ 64) : iZ .i64 e (k : Int) = e / ((2 ^ k : Nat) : Int) := by
 unfold iZ;rw [Int.toNat_natCast, show min k (IntKind.i64.bits) = k by show min k 64 = k; omega];rw [Int.fdiv_eq_ediv_of_nonneg _ (by exact Int.le_of_lt (Int.pow_pos (by decide)))]
 norm_cast
theorem V9 (e : Int) : IntKind.u8.wrap (iZ .i64 e 8) = (e / 256) % 256 := by rw [VB, show (8 : Int) = ((8 : Nat) : Int) from rfl, UO e (by decide)]; rfl
theorem Su {x y : Nat} (hx : x < 16777216) (hy : y < 256) : FY .i64 (oG .i64 (x : Int) 8) (IntKind.i64.wrap (y : Int)) = ((x * 256 + y : Nat) : Int) := by
 rw [show (8 : Int) = ((8 : Nat) : Int) from rfl, Sq (by decide) (by omega), wV (by omega)];exact UN (h := x) (d := 8) (e := y) (by omega) (by omega)
def Hk (deep : Bool) : List UInt8 := if deep then [54, 53, 53, 51, 53] else [50, 53, 53]
def w6 (w h : Nat) (deep : Bool) : List UInt8 := [80, 54, 10] ++ (sO 20 w ++ (32 :: (sO 20 h ++ (10 :: (Hk deep ++ [10])))))
def Qg (deep : Bool) (n : Int) : List UInt8 := UInt8.ofNat ((n / 256) % 256).toNat :: (if deep then [UInt8.ofNat (n % 256).toNat] else [])
def Nm (deep : Bool) (p : Px) : List UInt8 := Qg deep p.1 ++ (Qg deep p.2.1 ++ Qg deep p.2.2)
def Og (w h : Nat) (deep : Bool) (P : List Px) : List UInt8 := w6 w h deep ++ (P.map (Nm deep)).flatten
def kQ (deep : Bool) : Nat := if deep then 2 else 1
theorem EK (deep : Bool) (n : Int) : (Qg deep n).length = kQ deep := by unfold Qg kQ; cases deep <;> rfl
theorem KD (deep : Bool) (p : Px) : (Nm deep p).length = 3 * kQ deep := by unfold Nm; rw [List.length_append, List.length_append, EK, EK, EK]; omega
theorem tP : ∀ (k u : Nat), (sO k u).length ≤ k
 | 0, _ => Nat.le_refl _
 | k + 1, u => by
  unfold sO
  split
  ·simp
  ·have := tP k (u / 10);rw [List.length_append]; simp; omega
theorem LI : ∀ (k u : Nat), ∀ b ∈ sO k u, 48 ≤ b.toNat ∧ b.toNat ≤ 57
 | 0, _, b, h => by cases h
 | k + 1, u, b, h => by
  unfold sO at h
  split at h
  ·rename_i q
   obtain rfl := List.mem_singleton.1 h;rw [UInt8.toNat_ofNat']; omega
  ·rcases List.mem_append.1 h with h | h
   ·exact LI k _ b h
   ·obtain rfl := List.mem_singleton.1 h;rw [UInt8.toNat_ofNat']; omega
theorem Hl (w h : Nat) (deep : Bool) : (w6 w h deep).length ≤ 100 := by
 have h1 := tP 20 w;have h2 := tP 20 h;unfold w6 Hk
 cases deep <;> simp <;> omega
theorem BE {n : Nat} (h : n ≤ 100000) (N : Nat) : f9 N (n : Int) = some (sO 20 n) := by
 unfold f9;rw [if_pos (by omega)];unfold Hx;rw [if_neg (by omega), Int.toNat_natCast]
theorem KE {b : List UInt8} {y : Int} (hb : b.length + 1 ≤ 140737488355328) (hy : 0 ≤ y ∧ y < 256) : Sf b y = some (b ++ [UInt8.ofNat y.toNat]) := by
 unfold Sf;rw [if_pos ⟨hb, hy.1, hy.2⟩]
theorem iY {a b : List UInt8} (h : a.length + b.length ≤ 140737488355328) : sV a b = some (a ++ b) := by
 unfold sV;rw [if_pos (by omega)]
theorem UP (N : Nat) (deep : Bool) (p : Px) (kk) (b : List UInt8) (hb : b.length + 6 ≤ 140737488355328) (fuel : Nat) : kV N deep p kk (fuel + 4) (b, 0) = kk (b ++ Nm deep p, 3) := by
 have st : ∀ (i : Int) (f : Nat) (b : List UInt8) (e : Int), 0 ≤ i ∧ i < 3 → idx [p.1, p.2.1, p.2.2] i = some e → b.length + 2 ≤ 140737488355328 → kV N deep p kk (f + 1) (b, i) = kV N deep p kk f (b ++ Qg deep e, i + 1) := by
  intro i f b e hi he hb
  conv => lhs; unfold kV
  rw [cT (dT hi.2), he, aS, V9, KE (by omega) (by omega), aS, wV (x := i + 1) (by omega)];cases deep
  ·rw [cF rfl]; rfl
  ·rw [cT rfl, VB, KE (by simp; omega) (by omega), aS];unfold Qg;rw [List.append_assoc]; rfl
 have l := fun e => EK deep e
 have hz : kQ deep ≤ 2 := by unfold kQ; split <;> omega
 rw [st 0 (fuel + 3) b p.1 (by decide) rfl (by omega), st _ (fuel + 2) _ p.2.1 (by decide) rfl (by rw [List.length_append, l]; omega), st _ (fuel + 1) _ p.2.2 (by decide) rfl (by rw [List.length_append, List.length_append, l, l]; omega)];unfold kV;rw [cF (by rfl)];unfold Nm;simp only [List.append_assoc]
 rfl
theorem UQ (N : Nat) (deep : Bool) (p : Px) (kk) (b : List UInt8) (hb : b.length + 6 ≤ 140737488355328) (fuel : Nat) : kW N deep p kk (fuel + 4) (b, 0) = kk (b ++ Nm deep p, 3) := by
 have st : ∀ (i : Int) (f : Nat) (b : List UInt8) (e : Int), 0 ≤ i ∧ i < 3 → idx [p.1, p.2.1, p.2.2] i = some e → b.length + 2 ≤ 140737488355328 → kW N deep p kk (f + 1) (b, i) = kW N deep p kk f (b ++ Qg deep e, i + 1) := by
  intro i f b e hi he hb
  conv => lhs; unfold kW
  rw [cT (dT hi.2), he, aS, V9, KE (by omega) (by omega), aS, wV (x := i + 1) (by omega)];cases deep
  ·rw [cF rfl]; rfl
  ·rw [cT rfl, VB, KE (by simp; omega) (by omega), aS];unfold Qg;rw [List.append_assoc]; rfl
 have l := fun e => EK deep e
 have hz : kQ deep ≤ 2 := by unfold kQ; split <;> omega
 rw [st 0 (fuel + 3) b p.1 (by decide) rfl (by omega), st _ (fuel + 2) _ p.2.1 (by decide) rfl (by rw [List.length_append, l]; omega), st _ (fuel + 1) _ p.2.2 (by decide) rfl (by rw [List.length_append, List.length_append, l, l]; omega)];unfold kW;rw [cF (by rfl)];unfold Nm;simp only [List.append_assoc]
 rfl
theorem UR (N : Nat) (hN : 10 ≤ N) (deep : Bool) (P : List Px) (hP : P.length ≤ 4096) (kk) : ∀ (j k fuel : Nat) (b : List UInt8), k + j = P.length → j < fuel → b.length + 6 * j ≤ 100000 → o6 N P deep kk fuel (b, (k : Int)) = kk (b ++ ((P.drop k).map (Nm deep)).flatten, (P.length : Int)) := by
 have hz : kQ deep ≤ 2 := by unfold kQ; split <;> omega
 intro j
 induction j with
 | zero =>
  intro k fuel b hk hf hb;obtain ⟨fuel, rfl⟩ := Hw fuel (by omega);obtain rfl : k = P.length := by omega
  unfold o6;rw [cF (dF (by omega)), List.drop_length]; simp
 | succ j ih =>
  intro k fuel b hk hf hb;obtain ⟨fuel, rfl⟩ := Hw fuel (by omega);obtain ⟨M, hM⟩ : ∃ q, N = q + 4 := ⟨N - 4, by omega⟩
  have hlt : k < P.length := by omega
  unfold o6;rw [cT (dT (by omega)), At, List.getElem?_eq_getElem hlt, aS];have key := fun kk => UP N deep P[k] kk b (by omega) M
  rw [← hM] at key;rw [key]
  dsimp only
  rw [wV (x := (k : Int) + 1) (by omega)];refine Eq.trans (ih (k + 1) fuel (b ++ Nm deep P[k]) (by omega) (by omega) (by rw [List.length_append, KD]; omega)) ?_;rw [List.drop_eq_getElem_cons hlt, List.append_assoc]; rfl
theorem US (N : Nat) (hN : 10 ≤ N) (deep : Bool) (P : List Px) (hP : P.length ≤ 4096) (kk) : ∀ (j k fuel : Nat) (b : List UInt8), k + j = P.length → j < fuel → b.length + 6 * j ≤ 100000 → o7 N P deep kk fuel (b, (k : Int)) = kk (b ++ ((P.drop k).map (Nm deep)).flatten, (P.length : Int)) := by
 have hz : kQ deep ≤ 2 := by unfold kQ; split <;> omega
 intro j
 induction j with
 | zero =>
  intro k fuel b hk hf hb;obtain ⟨fuel, rfl⟩ := Hw fuel (by omega);obtain rfl : k = P.length := by omega
  unfold o7;rw [cF (dF (by omega)), List.drop_length]; simp
 | succ j ih =>
  intro k fuel b hk hf hb;obtain ⟨fuel, rfl⟩ := Hw fuel (by omega);obtain ⟨M, hM⟩ : ∃ q, N = q + 4 := ⟨N - 4, by omega⟩
  have hlt : k < P.length := by omega
  unfold o7;rw [cT (dT (by omega)), At, List.getElem?_eq_getElem hlt, aS];have key := fun kk => UQ N deep P[k] kk b (by omega) M
  rw [← hM] at key;rw [key]
  dsimp only
  rw [wV (x := (k : Int) + 1) (by omega)];refine Eq.trans (ih (k + 1) fuel (b ++ Nm deep P[k]) (by omega) (by omega) (by rw [List.length_append, KD]; omega)) ?_;rw [List.drop_eq_getElem_cons hlt, List.append_assoc]; rfl
theorem Nn (N : Nat) (hN : 5000 ≤ N) (W H : Int) (P : List Px) (deep : Bool) : kK N W H P deep = some (if CS W H P = true then (Og W.toNat H.toNat deep P, 0) else ([], 1)) := by
 obtain ⟨a, b, l, ht⟩ := O2 N W H P hN;unfold kK;rw [ht, aS];cases hp : CS W H P
 ·rw [cT (by rfl)]; rfl
 have hs := EJ hp;obtain ⟨w', rfl⟩ := Int.eq_ofNat_of_zero_le (show 0 ≤ W by have := hs.1; omega);obtain ⟨k', rfl⟩ := Int.eq_ofNat_of_zero_le (show 0 ≤ H by have := hs.2.2.1; omega);have hw : w' ≤ 64 := by have := hs.2.1; omega
 have hk : k' ≤ 64 := by have := hs.2.2.2.1; omega
 have hP := (Gg hs).1;rw [cF (by rfl), if_pos rfl, Int.toNat_natCast, Int.toNat_natCast];have d1 := tP 20 w';have d2 := tP 20 k';unfold Og;cases deep
 ·rw [cF rfl, BE (by omega), aS, iY (by simp; omega), aS, iY (by simp; omega), aS, BE (by omega), aS, iY (by simp; omega), aS, iY (by simp; omega), aS, show f9 N 255 = some [50, 53, 53] from rfl, aS, iY (by simp; omega), aS, iY (by simp; omega), aS, show ∀ x : List UInt8, x.length ≤ 1000 → MF [] x = some x from fun x hx => by unfold MF; rw [if_pos (by simp; omega)]; rfl, aS]
  ·have key := US N (by omega) false P hP (fun (Ln, w5) => some (Ln, (0 : Int))) P.length 0 N ([80, 54, 10] ++ sO 20 w' ++ [32] ++ sO 20 k' ++ [10] ++ [50, 53, 53] ++ [10]) (by omega) (by omega) (by simp; omega);rw [List.drop_zero] at key;refine Eq.trans key ?_;unfold w6 Hk;simp only [List.append_assoc, List.cons_append, List.nil_append]
   rfl
  ·simp; omega
 ·rw [cT rfl, BE (by omega), aS, iY (by simp; omega), aS, iY (by simp; omega), aS, BE (by omega), aS, iY (by simp; omega), aS, iY (by simp; omega), aS, show f9 N 65535 = some [54, 53, 53, 51, 53] from rfl, aS, iY (by simp; omega), aS, iY (by simp; omega), aS, show ∀ x : List UInt8, x.length ≤ 1000 → MF [] x = some x from fun x hx => by unfold MF; rw [if_pos (by simp; omega)]; rfl, aS]
  ·have key := UR N (by omega) true P hP (fun (l6, i5) => some (l6, (0 : Int))) P.length 0 N ([80, 54, 10] ++ sO 20 w' ++ [32] ++ sO 20 k' ++ [10] ++ [54, 53, 53, 51, 53] ++ [10]) (by omega) (by omega) (by simp; omega);rw [List.drop_zero] at key;refine Eq.trans key ?_;unfold w6 Hk;simp only [List.append_assoc, List.cons_append, List.nil_append]
   rfl
  ·simp; omega
theorem LJ (u : Nat) : toB ([IntKind.u8.wrap (IntKind.i64.wrap (48 + (Int.tmod (u : Int) 10)))] : List Int) = [UInt8.ofNat (48 + u % 10)] := by
 rw [show Int.tmod (u : Int) 10 = ((u % 10 : Nat) : Int) from rfl, wV (by omega), VB];show [UInt8.ofNat _] = _
 congr 2
 omega
theorem Gh (N : Nat) (hN : 10 ≤ N) {u : Nat} (hu : u < 100) : jC N (u : Int) = some (sO 20 u) := by
 obtain ⟨M, rfl⟩ : ∃ q, N = q + 2 := ⟨N - 2, by omega⟩
 unfold jC iG;rw [LJ]
 by_cases q : u < 10
 ·rw [cT (dT (by omega)), show sO 20 u = [UInt8.ofNat (48 + u)] by unfold sO; rw [if_pos q], show u % 10 = u by omega]
 ·rw [cF (dF (by omega)), show Int.tdiv (u : Int) 10 = ((u / 10 : Nat) : Int) from rfl, wV (by omega)];unfold iG;rw [LJ, cT (dT (by omega)), aS]
  have e : sO 20 u = [UInt8.ofNat (48 + u / 10)] ++ [UInt8.ofNat (48 + u % 10)] := by
   unfold sO;rw [if_neg q]
   congr 1
   unfold sO;rw [if_pos (by omega)]
  rw [show u / 10 % 10 = u / 10 by omega, iY (by simp), aS, e]
theorem KF (N : Nat) (hN : 10 ≤ N) {w h : Nat} (hw : w < 100) (hh : h < 100) (deep : Bool) : lR N (w : Int) (h : Int) deep = some (w6 w h deep) := by
 have d1 := tP 20 w;have d2 := tP 20 h;unfold lR w6 Hk;cases deep
 ·rw [cF rfl, Gh N hN hw, aS, iY (by simp; omega), aS, iY (by simp; omega), aS, Gh N hN hh, aS, iY (by simp; omega), aS, iY (by simp; omega), aS, iY (by simp; omega), aS, iY (by simp; omega), aS];simp only [List.append_assoc, List.cons_append, List.nil_append]
  rfl
 ·rw [cT rfl, Gh N hN hw, aS, iY (by simp; omega), aS, iY (by simp; omega), aS, Gh N hN hh, aS, iY (by simp; omega), aS, iY (by simp; omega), aS, iY (by simp; omega), aS, iY (by simp; omega), aS];simp only [List.append_assoc, List.cons_append, List.nil_append]
  rfl
theorem LK (b : List UInt8) {y : Int} (hy : 0 ≤ y ∧ y < 256) : lL b ++ [y] = lL (b ++ [UInt8.ofNat y.toNat]) := by
 rw [Sr]
 congr 1
 show [y] = [(((UInt8.ofNat y.toNat).toNat : Nat) : Int)];rw [H9 hy]
theorem UT (N : Nat) (deep : Bool) (p : Px) (hp : zN p = true) (kk) (b : List UInt8) (hb : b.length + 6 ≤ 140737488355328) (fuel : Nat) : d7 N deep p kk (fuel + 4) (lL b, 0) = kk (lL (b ++ Nm deep p), 3) := by
 have ok : (0 ≤ p.1 ∧ p.1 ≤ 65535) ∧ (0 ≤ p.2.1 ∧ p.2.1 ≤ 65535) ∧ (0 ≤ p.2.2 ∧ p.2.2 ≤ 65535) := by simpa [zN, and_assoc] using hp
 have st : ∀ (i : Int) (f : Nat) (b : List UInt8) (e : Int), 0 ≤ i ∧ i < 3 → idx [p.1, p.2.1, p.2.2] i = some e → 0 ≤ e ∧ e ≤ 65535 → b.length + 2 ≤ 140737488355328 → d7 N deep p kk (f + 1) (lL b, i) = d7 N deep p kk f (lL (b ++ Qg deep e), i + 1) := by
  intro i f b e hi he hr hb;have hin : inr i 3 = some () := by unfold inr; rw [if_pos ⟨hi.1, hi.2⟩]
  have e1 : IntKind.u8.wrap (IntKind.i64.wrap (Int.tdiv e 256)) = (e / 256) % 256 := by
   obtain ⟨m, rfl⟩ := Int.eq_ofNat_of_zero_le hr.1;rw [show Int.tdiv (m : Int) 256 = ((m / 256 : Nat) : Int) from rfl, wV (by omega), VB]; rfl
  conv => lhs; unfold d7
  rw [cT (dT hi.2), hin, aS, he, aS, e1, FI (by rw [IP]; simp; omega), aS, LK b (by omega)];cases deep
  ·rw [cF rfl, wV (x := i + 1) (by omega), aS]; rfl
  ·rw [cT rfl, aS, aS, VB, FI (by rw [IP]; simp; omega), aS, LK _ (by omega), wV (x := i + 1) (by omega), aS];unfold Qg;rw [List.append_assoc]; rfl
 have l := fun e => EK deep e
 have hz : kQ deep ≤ 2 := by unfold kQ; split <;> omega
 rw [st 0 (fuel + 3) b p.1 (by decide) rfl ok.1 (by omega), st _ (fuel + 2) _ p.2.1 (by decide) rfl ok.2.1 (by rw [List.length_append, l]; omega), st _ (fuel + 1) _ p.2.2 (by decide) rfl ok.2.2 (by rw [List.length_append, List.length_append, l, l]; omega)];unfold d7;rw [cF (by rfl)];unfold Nm;simp only [List.append_assoc]
 rfl
theorem UU (N : Nat) (hN : 10 ≤ N) (deep : Bool) (P : List Px) (hP : P.length ≤ 4096) (hok : P.all zN = true) (kk) : ∀ (j k fuel : Nat) (b : List UInt8), k + j = P.length → j < fuel → b.length + 6 * j ≤ 100000 → hG N P deep kk fuel (lL b, (k : Int)) = kk (lL (b ++ ((P.drop k).map (Nm deep)).flatten), (P.length : Int)) := by
 have hz : kQ deep ≤ 2 := by unfold kQ; split <;> omega
 intro j
 induction j with
 | zero =>
  intro k fuel b hk hf hb;obtain ⟨fuel, rfl⟩ := Hw fuel (by omega);obtain rfl : k = P.length := by omega
  unfold hG;rw [cF (dF (by omega)), List.drop_length]; simp
 | succ j ih =>
  intro k fuel b hk hf hb;obtain ⟨fuel, rfl⟩ := Hw fuel (by omega);obtain ⟨M, hM⟩ : ∃ q, N = q + 4 := ⟨N - 4, by omega⟩
  have hlt : k < P.length := by omega
  unfold hG pA;rw [cT (dT (by omega)), At, List.getElem?_eq_getElem hlt, aS, aS];have key := fun kk => UT N deep P[k] (List.all_eq_true.1 hok _ (List.getElem_mem hlt)) kk b (by omega) M
  rw [← hM] at key;refine (key _).trans ?_
  dsimp only
  rw [wV (x := (k : Int) + 1) (by omega), aS];refine Eq.trans (ih (k + 1) fuel (b ++ Nm deep P[k]) (by omega) (by omega) (by rw [List.length_append, KD]; omega)) ?_;rw [List.drop_eq_getElem_cons hlt, List.append_assoc]; rfl
theorem Np (N : Nat) (hN : 5000 ≤ N) {W H : Int} {P : List Px} (hp : CS W H P = true) (deep : Bool) : kT N W H P deep = some (Og W.toNat H.toNat deep P) := by
 have hs := EJ hp
 have hok : P.all zN = true := by
  unfold CS at hp;rw [Bool.and_eq_true] at hp;exact hp.2
 obtain ⟨w', rfl⟩ := Int.eq_ofNat_of_zero_le (show 0 ≤ W by have := hs.1; omega);obtain ⟨k', rfl⟩ := Int.eq_ofNat_of_zero_le (show 0 ≤ H by have := hs.2.2.1; omega);have hw : w' ≤ 64 := by have := hs.2.1; omega
 have hk : k' ≤ 64 := by have := hs.2.2.2.1; omega
 have hP := (Gg hs).1;have hl := Hl w' k' deep;unfold kT Og;rw [KF N (by omega) (by omega) (by omega), aS, show szB (w6 w' k' deep) = some () by unfold szB; rw [if_pos (by omega)], aS];have key := UU N (by omega) deep P hP hok (fun (UK, i4) => some (toB UK)) P.length 0 N (w6 w' k' deep) (by omega) (by omega) (by omega);rw [List.drop_zero] at key;refine Eq.trans key ?_
 dsimp only
 rw [Ss, Int.toNat_natCast, Int.toNat_natCast]
theorem LL : ∀ (t : List UInt8) (c : UInt8) (r : List UInt8), (∀ b ∈ t, b ≠ c) → Go.Lib.indexByte (t ++ c :: r) c = (t.length : Int)
 | [], c, r, _ => by
  show (if (c == c) = true then (0 : Int) else _) = _;rw [if_pos (by simp)]; rfl
 | x :: t, c, r, h => by
  have ih := LL t c r fun b hb => h b (List.mem_cons_of_mem _ hb)
  show (if (x == c) = true then (0 : Int) else if (Go.Lib.indexByte (t ++ c :: r) c == -1) = true then -1 else Go.Lib.indexByte (t ++ c :: r) c + 1) = _
  rw [if_neg (by simpa using h x (List.mem_cons_self ..)), ih, if_neg (by simp <;> omega), List.length_cons]; try omega
theorem Qh : ∀ (s : List UInt8) (c : UInt8), 0 ≤ Go.Lib.indexByte s c → ∃ t r, s = t ++ c :: r ∧ Go.Lib.indexByte s c = (t.length : Int)
 | [], c, h => absurd h (by show ¬ (0 : Int) ≤ -1; omega)
 | x :: s, c, h => by
  by_cases q : x = c
  ·subst q;exact ⟨[], s, rfl, by show (if (x == x) = true then (0 : Int) else _) = _; rw [if_pos (by simp)]; rfl⟩
  have e : Go.Lib.indexByte (x :: s) c = if (Go.Lib.indexByte s c == -1) = true then -1 else Go.Lib.indexByte s c + 1 := by
   show (if (x == c) = true then (0 : Int) else _) = _;rw [if_neg (by simpa using q)]
  rw [e] at h ⊢
  by_cases q2 : Go.Lib.indexByte s c = -1
  ·rw [if_pos (by simp [q2])] at h; omega
  rw [if_neg (by simpa using q2)] at h ⊢;have ge := Go.Lib.indexByte_ge s c;obtain ⟨t, r, e1, e2⟩ := Qh s c (by omega);exact ⟨x :: t, r, by rw [e1]; rfl, by rw [e2, List.length_cons]; omega⟩
theorem Oh (N : Nat) {t r : List UInt8} {c : UInt8} (h : Go.Lib.indexByte (t ++ c :: r) c = (t.length : Int)) (hl : (t ++ c :: r).length ≤ 1000000000000000) : pO N (t ++ c :: r) [c] = some (t, r, true) := by
 rw [List.length_append, List.length_cons] at hl;unfold pO jV;rw [show iU N (t ++ c :: r) [c] = some (t.length : Int) from congrArg some h, aS, cT (dT (by omega)), FH (by rw [List.length_append]; omega), aS];rw [show (([c] : List UInt8).length : Int) = 1 from rfl, wV (by omega), FH (by rw [List.length_append, List.length_cons]; omega), aS, aS]
 congr 2
 ·rw [Int.toNat_natCast, show ((0 : Int)).toNat = 0 from rfl, List.drop_zero, List.take_left]
 ·congr 1
  have e : ∀ n m : Nat, n = t.length + 1 → m = (t ++ c :: r).length → ((t ++ c :: r).take m).drop n = r := by
   intro n m h1 h2;rw [h2, List.take_length, h1, ← List.drop_drop];rw [List.drop_left]; rfl
  exact e _ _ (by omega) (by omega)
theorem Qi (N : Nat) {s : List UInt8} {c : UInt8} (h : ¬ 0 ≤ Go.Lib.indexByte s c) : pO N s [c] = some (s, [], false) := by
 unfold pO jV;rw [show iU N s [c] = some (Go.Lib.indexByte s c) from rfl, aS, cF (dF h), aS]
theorem Oi (N : Nat) {n : Nat} {c : UInt8} {r : List UInt8} (hn : n ≤ 100000) (hc : c.toNat < 48) (hA : Go.Lib.atoiAll (sO 20 n) = .ok (n : Int)) (hl : (sO 20 n ++ c :: r).length ≤ 140737488355328) : mZ N (sO 20 n ++ c :: r) [c] = some ((n : Int), r, true) := by
 have hd := tP 20 n;unfold mZ;rw [Oh N (LL _ c r fun b hb => fun q => by have := LI 20 n b hb; rw [q] at this; omega) (by omega), aS];unfold JT
 dsimp only
 rw [if_pos (by omega), hA]
 dsimp only
 rw [cT rfl, BE hn, aS]
 congr 3
 exact dT rfl
theorem KG (N : Nat) (s : List UInt8) (c : UInt8) (hl : s.length ≤ 140737488355328) : ∃ n r f, mZ N s [c] = some (n, r, f) ∧ (f = true → s = Hx n ++ c :: r) := by
 unfold mZ
 by_cases h : 0 ≤ Go.Lib.indexByte s c
 ·obtain ⟨t, r, e1, e2⟩ := Qh s c h;have hl2 := hl;rw [e1] at e2;rw [e1] at hl2;rw [e1, Oh N e2 (by omega), aS];rw [List.length_append] at hl2;unfold JT
  dsimp only
  rw [if_pos (by omega)]
  rcases hA : Go.Lib.atoiAll t with v | _ | _
  ·dsimp only
   have hb := Go.Lib.atoiAll_bounds hA;rw [cT rfl, show f9 N v = some (Hx v) by unfold f9; rw [if_pos (by omega)], aS];exact ⟨_, _, _, rfl, fun q => by rw [of_decide_eq_true q]⟩
  ·dsimp only
   rw [cT rfl]; exact ⟨_, _, _, rfl, fun q => by cases q⟩
  ·dsimp only
   rw [cT rfl]; exact ⟨_, _, _, rfl, fun q => by cases q⟩
 ·rw [Qi N h, aS];unfold JT
  dsimp only
  rw [if_pos (by omega)]
  rcases hA : Go.Lib.atoiAll s with v | _ | _
  ·dsimp only
   rw [cF rfl]; exact ⟨_, _, _, rfl, fun q => by cases q⟩
  ·dsimp only
   rw [cF rfl]; exact ⟨_, _, _, rfl, fun q => by cases q⟩
  ·dsimp only
   rw [cF rfl]; exact ⟨_, _, _, rfl, fun q => by cases q⟩
theorem Sv : ∀ n : Fin 65, Go.Lib.atoiAll (sO 20 n.val) = .ok ((n.val : Nat) : Int) := by decide +kernel
theorem IQ (deep : Bool) : Go.Lib.atoiAll (Hk deep) = .ok (if deep then 65535 else 255) ∧ Hk deep = sO 20 (if deep then 65535 else 255) := by cases deep <;> decide +kernel
def vR (deep : Bool) (b : List UInt8) : Int := 256 * ((b.getD 0 0).toNat : Int) + ((b.getD (kQ deep - 1) 0).toNat : Int)
def Wa (deep : Bool) (b : List UInt8) : Px := (vR deep b, vR deep (b.drop (kQ deep)), vR deep ((b.drop (kQ deep)).drop (kQ deep)))
def D1 (deep : Bool) : Nat → List UInt8 → List Px
 | 0, _ => []
 | n + 1, b => Wa deep b :: D1 deep n (((b.drop (kQ deep)).drop (kQ deep)).drop (kQ deep))
theorem Et (deep : Bool) : 1 ≤ kQ deep ∧ kQ deep ≤ 2 := by unfold kQ; cases deep <;> decide
theorem LM (deep : Bool) : ∀ (n : Nat) (b : List UInt8), (D1 deep n b).length = n
 | 0, _ => rfl
 | n + 1, b => by unfold D1; rw [List.length_cons, LM deep n]
theorem CT {b : List UInt8} {i : Nat} (h : i < b.length) : idx b (i : Int) = some (b.getD i 0) := by
 rw [At, List.getD_eq_getElem?_getD, List.getElem?_eq_getElem h]; rfl
theorem CU {b : List UInt8} {z : Nat} (h : z ≤ b.length) : DG b (z : Int) (b.length : Int) = some (b.drop z) := by
 rw [FH (by omega), Int.toNat_natCast, Int.toNat_natCast, List.take_length]
theorem Nq (a b : UInt8) : FY .i64 (oG .i64 (IntKind.i64.wrap (a.toNat : Int)) 8) (IntKind.i64.wrap (b.toNat : Int)) = 256 * (a.toNat : Int) + (b.toNat : Int) := by
 have ha := a.toNat_lt;have hb := b.toNat_lt;rw [wV (x := (a.toNat : Int)) (by omega), Su (by omega) (by omega)]
 omega
theorem Qj (deep : Bool) (b : List UInt8) : 0 ≤ vR deep b ∧ vR deep b ≤ 65535 := by
 have h1 := (b.getD 0 0).toNat_lt;have h2 := (b.getD (kQ deep - 1) 0).toNat_lt;unfold vR; omega
theorem UV (N : Nat) (deep : Bool) (W H : Int) {n : Nat} (hn : W * H = (n : Int)) (hn2 : n ≤ 4096) (kk) : ∀ (j k fuel : Nat) (acc : List Px) (b : List UInt8), k + j = n → j < fuel → b.length = 3 * kQ deep * j → acc.length = k →
  p9 N W H (kQ deep : Int) kk fuel (acc, b, (k : Int)) = kk (acc ++ D1 deep j b, [], (n : Int)) := by
 have hz := Et deep;have hw : IntKind.i64.wrap (W * H) = (n : Int) := by rw [hn, wV (by omega)]
 have hz1 : IntKind.i64.wrap ((kQ deep : Int) - 1) = ((kQ deep - 1 : Nat) : Int) := by rw [wV (by omega)]; omega
 intro j
 induction j with
 | zero =>
  intro k fuel acc b hk hf hb ha;obtain ⟨fuel, rfl⟩ := Hw fuel (by omega);obtain rfl : k = n := by omega
  obtain rfl : b = [] := List.eq_nil_of_length_eq_zero (by omega);unfold p9;rw [hw, cF (dF (by omega))];unfold D1;rw [List.append_nil]
 | succ j ih =>
  intro k fuel acc b hk hf hb ha;obtain ⟨fuel, rfl⟩ := Hw fuel (by omega);have hb3 : 3 * kQ deep ≤ b.length := by rw [hb, Nat.mul_succ]; omega
  have l1 : (b.drop (kQ deep)).length = b.length - kQ deep := List.length_drop ..;have l2 : ((b.drop (kQ deep)).drop (kQ deep)).length = b.length - kQ deep - kQ deep := by rw [List.length_drop, l1]
  unfold p9;rw [hw, cT (dT (by omega)), hz1, show (0 : Int) = ((0 : Nat) : Int) from rfl, CT (by omega), aS, CT (by omega), aS, CU (by omega), aS, CT (by omega), aS, CT (by omega), aS, CU (by omega), aS, CT (by omega), aS, CT (by omega), aS, CU (by omega), aS, FI (by rw [ha]; simp; omega), aS, Nq, Nq, Nq, wV (x := (k : Int) + 1) (by omega)];have := ih (k + 1) fuel (acc ++ [Wa deep b]) (((b.drop (kQ deep)).drop (kQ deep)).drop (kQ deep)) (by omega) (by omega) (by rw [List.length_drop, l2, hb, Nat.mul_succ]; omega) (by rw [List.length_append, ha]; rfl);refine Eq.trans this ?_;rw [List.append_assoc]; rfl
theorem Nr (N : Nat) (p t : List UInt8) : kN N (p ++ t) p = some (t, true) := by
 unfold kN gR gQ
 have e : DG (p ++ t) 0 (p.length : Int) = some p := by
  rw [FH (by rw [List.length_append]; omega), Int.toNat_natCast, show ((0 : Int)).toNat = 0 from rfl, List.drop_zero, List.take_left]
 rw [cT (dT (by rw [List.length_append]; omega)), e, aS, aS, cF (by simp), CU (by rw [List.length_append]; omega), aS, aS, List.drop_left]
theorem Ns (N : Nat) (s p : List UInt8) : ∃ t f, kN N s p = some (t, f) ∧ t.length ≤ s.length ∧ (f = true → s = p ++ t) := by
 unfold kN gR gQ
 by_cases h : (p.length : Int) ≤ (s.length : Int)
 ·rw [cT (dT h), FH (by omega), aS, aS]
  by_cases q : List.drop (0 : Int).toNat (List.take (p.length : Int).toNat s) = p
  ·rw [cF (by rw [dT q]; rfl), CU (by omega), aS, aS];refine ⟨_, _, rfl, by rw [List.length_drop]; omega, fun _ => ?_⟩;rw [Int.toNat_natCast, show ((0 : Int)).toNat = 0 from rfl, List.drop_zero] at q
   conv => lhs; rw [← List.take_append_drop p.length s, q]
  ·rw [cT (by rw [dF q]; rfl), aS];exact ⟨_, _, rfl, Nat.le_refl _, fun q => by cases q⟩
 ·rw [cF (dF h), aS, cT (b := !false) rfl, aS];exact ⟨_, _, rfl, Nat.le_refl _, fun q => by cases q⟩
def LN (deep : Bool) : Nat := if deep then 65535 else 255
theorem J8 (N : Nat) {n : Nat} (hn : n ≤ 64) {c : UInt8} (hc : c.toNat < 48) {r : List UInt8} (hl : (sO 20 n ++ c :: r).length ≤ 140737488355328) : mZ N (sO 20 n ++ c :: r) [c] = some ((n : Int), r, true) :=
 Oi N (by omega) hc (Sv ⟨n, by omega⟩) hl
theorem Sw (N : Nat) (deep : Bool) {r : List UInt8} (hl : (Hk deep ++ 10 :: r).length ≤ 140737488355328) : mZ N (Hk deep ++ 10 :: r) [10] = some ((LN deep : Int), r, true) := by
 have e := (IQ deep).2;have h := (IQ deep).1;rw [e] at hl h ⊢;have q : (if deep then 65535 else 255 : Nat) = LN deep := rfl;rw [q] at hl h ⊢;refine Oi N (by unfold LN; split <;> omega) (by decide) (h.trans ?_) hl
 cases deep <;> rfl
theorem Wb (N : Nat) {w h : Nat} (hw : 1 ≤ w ∧ w ≤ 64) (hh : 1 ≤ h ∧ h ≤ 64) (deep : Bool) (kk) : qB N (w : Int) (h : Int) (LN deep : Int) true kk = kk false := by
 unfold qB;rw [cF (b := !true) rfl, cF (dF (by omega)), cF (dF (by omega)), cF (dF (by omega)), cF (dF (by omega))]
 cases deep <;> rfl
theorem Iw (N : Nat) (hN : 5000 ≤ N) {w h : Nat} (hw : 1 ≤ w ∧ w ≤ 64) (hh : 1 ≤ h ∧ h ≤ 64) (deep : Bool) (b : List UInt8) (hb : b.length = 3 * kQ deep * (w * h)) :
  lU N (w6 w h deep ++ b) = some ((w : Int), (h : Int), D1 deep (w * h) b, deep, 0) := by
 have hz := Et deep;have Wc : w * h ≤ 64 * 64 := Nat.mul_le_mul hw.2 hh.2;have hm : kQ deep * (w * h) ≤ 2 * (w * h) := Nat.mul_le_mul_right _ hz.2;have hbl : b.length ≤ 24576 := by rw [hb, Nat.mul_assoc]; omega
 have d1 := tP 20 w;have d2 := tP 20 h
 have d3 : (Hk deep).length ≤ 5 := by unfold Hk; split <;> decide
 have es : w6 w h deep ++ b = [80, 54, 10] ++ (sO 20 w ++ (32 :: (sO 20 h ++ (10 :: (Hk deep ++ (10 :: b)))))) := by
  unfold w6;simp only [List.append_assoc, List.cons_append, List.nil_append]
 obtain ⟨F, hF⟩ : ∃ q, N = q + 4 := ⟨N - 4, by omega⟩
 unfold lU;rw [es, Nr, aS]
 conv => lhs; arg 3; rw [hF]
 unfold iH;rw [cT (by rfl), show idx [([32] : List UInt8), ([10] : List UInt8), ([10] : List UInt8)] 0 = some [32] from rfl, aS, J8 N hw.2 (by decide) (by simp; omega), aS, cT (by rfl)];unfold vY;rw [cT rfl]
 dsimp only
 rw [cF (b := !true) rfl];unfold iH;rw [show IntKind.i64.wrap (0 + 1) = (1 : Int) from rfl, cT (by rfl), show idx [([32] : List UInt8), ([10] : List UInt8), ([10] : List UInt8)] 1 = some [10] from rfl, aS, J8 N hh.2 (by decide) (by simp; omega), aS, cF (by rfl), cT (by rfl)];unfold vZ;rw [cT rfl]
 dsimp only
 rw [cF (b := !true) rfl];unfold iH;rw [show IntKind.i64.wrap (1 + 1) = (2 : Int) from rfl, cT (by rfl), show idx [([32] : List UInt8), ([10] : List UInt8), ([10] : List UInt8)] 2 = some [10] from rfl, aS, Sw N deep (by simp; omega), aS, cF (by rfl), cF (by rfl), cT (by rfl)];unfold v6;rw [cT rfl]
 dsimp only
 rw [cF (b := !true) rfl];unfold iH;rw [cF (by rfl)]
 dsimp only
 rw [Wb N hw hh deep, cF rfl]
 have e5 : ∀ kk, qA N (LN deep : Int) kk = kk (kQ deep : Int) := by intro kk; unfold qA; cases deep <;> rfl
 rw [e5];have i1 : ((w * h : Nat) : Int) = (w : Int) * (h : Int) := Int.natCast_mul w h;have zc : kQ deep = 1 ∨ kQ deep = 2 := by omega
 have i2 : (3 * (kQ deep : Int)) * (w : Int) ≤ 6 * 64 := by rcases zc with z | z <;> rw [z] <;> omega
 have i3 : 0 ≤ (3 * (kQ deep : Int)) * (w : Int) := by rcases zc with z | z <;> rw [z] <;> omega
 have i4 : (3 * (kQ deep : Int)) * (w : Int) * (h : Int) = ((3 * kQ deep * (w * h) : Nat) : Int) := by
  rw [← Nat.mul_assoc, Int.natCast_mul, Int.natCast_mul, Int.natCast_mul]; rfl
 have ew : IntKind.i64.wrap (IntKind.i64.wrap (IntKind.i64.wrap (3 * (kQ deep : Int)) * (w : Int)) * (h : Int)) = ((3 * kQ deep * (w * h) : Nat) : Int) := by
  rw [wV (x := 3 * (kQ deep : Int)) (by omega), wV (x := 3 * (kQ deep : Int) * (w : Int)) (by omega), i4, wV (by rw [← hb]; omega)]
 rw [ew, cF (by rw [dT (by rw [hb])]; rfl)];have key := UV N deep (w : Int) (h : Int) (n := w * h) i1.symm (by omega) (fun (El, x8, i20) => some ((w : Int), (h : Int), El, decide ((LN deep : Int) = 65535), (0 : Int))) (w * h) 0 N [] b (by omega) (by omega) hb rfl;refine Eq.trans key ?_
 dsimp only
 rw [List.nil_append]
 cases deep <;> rfl
theorem Oj (deep : Bool) : ∀ (n : Nat) (b : List UInt8), (D1 deep n b).all zN = true
 | 0, _ => rfl
 | n + 1, b => by
  unfold D1;rw [List.all_cons, Bool.and_eq_true];refine ⟨?_, Oj deep n _⟩;have h1 := Qj deep b;have h2 := Qj deep (b.drop (kQ deep));have h3 := Qj deep ((b.drop (kQ deep)).drop (kQ deep))
  simp [zN, Wa, h1, h2, h3, -List.drop_drop]
theorem Sx (deep : Bool) {w h : Nat} (hw : 1 ≤ w ∧ w ≤ 64) (hh : 1 ≤ h ∧ h ≤ 64) (b : List UInt8) : CS (w : Int) (h : Int) (D1 deep (w * h) b) = true := by
 unfold CS;rw [Bool.and_eq_true];refine ⟨?_, Oj deep _ b⟩;rw [decide_eq_true_eq];refine ⟨by omega, by omega, by omega, by omega, ?_⟩;rw [LM, Int.natCast_mul]
theorem IR {n : Int} (h : 0 ≤ n) : Hx n = sO 20 n.toNat := by unfold Hx; rw [if_neg (by omega)]
theorem Qk (N : Nat) (hN : 5000 ≤ N) (s : List UInt8) (hs : s.length ≤ 140737488355328) :
  lU N s = some (0, 0, [], false, 1) ∨ ∃ w h deep b, (1 ≤ w ∧ w ≤ 64) ∧ (1 ≤ h ∧ h ≤ 64) ∧ s = w6 w h deep ++ b ∧ b.length = 3 * kQ deep * (w * h) := by
 obtain ⟨F, hF⟩ : ∃ q, N = q + 4 := ⟨N - 4, by omega⟩
 obtain ⟨t, f, e0, l0, p0⟩ := Ns N s [80, 54, 10];unfold lU;rw [e0, aS];have bad : ∀ (x0 x1 x2 : Int) kk, qB N x0 x1 x2 false kk = kk true := fun _ _ _ _ => rfl
 conv => lhs; lhs; arg 3; rw [hF]
 unfold iH;obtain ⟨n0, r0, f0, e1, p1⟩ := KG N t 32 (by omega);rw [cT (by rfl), show idx [([32] : List UInt8), ([10] : List UInt8), ([10] : List UInt8)] 0 = some [32] from rfl, aS, e1, aS, cT (by rfl)];unfold vY
 rcases (Bool.eq_false_or_eq_true f).symm with hf | hf
 ·left; rw [hf, cF rfl]; dsimp only; rw [cT (b := !false) rfl, bad, cT rfl]
 rw [hf, cT rfl]
 dsimp only
 rcases (Bool.eq_false_or_eq_true f0).symm with hf0 | hf0
 ·left; rw [hf0, cT (b := !false) rfl, bad, cT rfl]
 have q0 := p0 hf;have q1 := p1 hf0;have hl1 : r0.length ≤ t.length := by rw [q1, List.length_append, List.length_cons]; omega
 rw [hf0, cF (b := !true) rfl];unfold iH;obtain ⟨n1, r1, f1, e2, p2⟩ := KG N r0 10 (by omega);rw [show IntKind.i64.wrap (0 + 1) = (1 : Int) from rfl, cT (by rfl), show idx [([32] : List UInt8), ([10] : List UInt8), ([10] : List UInt8)] 1 = some [10] from rfl, aS, e2, aS, cF (by rfl), cT (by rfl)];unfold vZ;rw [cT rfl]
 dsimp only
 rcases (Bool.eq_false_or_eq_true f1).symm with hf1 | hf1
 ·left; rw [hf1, cT (b := !false) rfl, bad, cT rfl]
 have q2 := p2 hf1;have hl2 : r1.length ≤ r0.length := by rw [q2, List.length_append, List.length_cons]; omega
 rw [hf1, cF (b := !true) rfl];unfold iH;obtain ⟨n2, r2, f2, e3, p3⟩ := KG N r1 10 (by omega);rw [show IntKind.i64.wrap (1 + 1) = (2 : Int) from rfl, cT (by rfl), show idx [([32] : List UInt8), ([10] : List UInt8), ([10] : List UInt8)] 2 = some [10] from rfl, aS, e3, aS, cF (by rfl), cF (by rfl), cT (by rfl)];unfold v6;rw [cT rfl]
 dsimp only
 rcases (Bool.eq_false_or_eq_true f2).symm with hf2 | hf2
 ·left; rw [hf2, cT (b := !false) rfl, bad, cT rfl]
 have q3 := p3 hf2;rw [hf2, cF (b := !true) rfl];unfold iH;rw [cF (by rfl)]
 dsimp only
 unfold qB;rw [cF (b := !true) rfl]
 by_cases c1 : n0 < 1
 ·left; rw [cT (dT c1)]; dsimp only; rw [cT rfl]
 rw [cF (dF c1)]
 by_cases c2 : 64 < n0
 ·left; rw [cT (dT c2)]; dsimp only; rw [cT rfl]
 rw [cF (dF c2)]
 by_cases c3 : n1 < 1
 ·left; rw [cT (dT c3)]; dsimp only; rw [cT rfl]
 rw [cF (dF c3)]
 by_cases c4 : 64 < n1
 ·left; rw [cT (dT c4)]; dsimp only; rw [cT rfl]
 rw [cF (dF c4)];obtain ⟨w, rfl⟩ := Int.eq_ofNat_of_zero_le (show 0 ≤ n0 by omega);obtain ⟨h, rfl⟩ := Int.eq_ofNat_of_zero_le (show 0 ≤ n1 by omega);have hw : 1 ≤ w ∧ w ≤ 64 := by omega
 have hh : 1 ≤ h ∧ h ≤ 64 := by omega
 have fin : ∀ deep : Bool, n2 = (LN deep : Int) → s = w6 w h deep ++ r2 := by
  intro deep e;rw [q0, q1, q2, q3, IR (by omega), IR (by omega), e, IR (by omega), Int.toNat_natCast, Int.toNat_natCast, Int.toNat_natCast];rw [show sO 20 (LN deep) = Hk deep from ((IQ deep).2).symm];unfold w6;simp only [List.append_assoc, List.cons_append, List.nil_append]
 have ln : ∀ deep : Bool, ¬ ((r2.length : Int) = IntKind.i64.wrap (IntKind.i64.wrap (IntKind.i64.wrap (3 * (kQ deep : Int)) * (w : Int)) * (h : Int))) ∨ r2.length = 3 * kQ deep * (w * h) := by
  intro deep;have zc : kQ deep = 1 ∨ kQ deep = 2 := by have := Et deep; omega
  have i2 : (3 * (kQ deep : Int)) * (w : Int) ≤ 6 * 64 := by rcases zc with z | z <;> rw [z] <;> omega
  have i3 : 0 ≤ (3 * (kQ deep : Int)) * (w : Int) := by rcases zc with z | z <;> rw [z] <;> omega
  have Wc : w * h ≤ 64 * 64 := Nat.mul_le_mul hw.2 hh.2;have i5 : 3 * kQ deep * (w * h) ≤ 6 * (64 * 64) := Nat.mul_le_mul (by omega) Wc
  have i4 : (3 * (kQ deep : Int)) * (w : Int) * (h : Int) = ((3 * kQ deep * (w * h) : Nat) : Int) := by
   rw [← Nat.mul_assoc, Int.natCast_mul, Int.natCast_mul, Int.natCast_mul]; rfl
  have ew : IntKind.i64.wrap (IntKind.i64.wrap (IntKind.i64.wrap (3 * (kQ deep : Int)) * (w : Int)) * (h : Int)) = ((3 * kQ deep * (w * h) : Nat) : Int) := by
   rw [wV (x := 3 * (kQ deep : Int)) (by omega), wV (x := 3 * (kQ deep : Int) * (w : Int)) (by omega), i4, wV (by omega)]
  rw [ew]; omega
 by_cases c5 : n2 = 65535
 ·rw [cF (by rw [dT c5]; rfl)]
  dsimp only
  rw [cF rfl];unfold qA;rw [cT (dT c5)]
  rcases ln true with hn | hn
  ·left; exact cT (b := !decide ((r2.length : Int) = IntKind.i64.wrap (IntKind.i64.wrap (IntKind.i64.wrap (3 * (kQ true : Int)) * (w : Int)) * (h : Int)))) (by rw [dF hn]; rfl) _ _
  ·right; exact ⟨w, h, true, r2, hw, hh, fin true c5, hn⟩
 ·rw [cT (by rw [dF c5]; rfl)]
  by_cases c6 : n2 = 255
  ·rw [show (!decide (n2 = 255)) = false by rw [dT c6]; rfl]
   dsimp only
   rw [cF rfl];unfold qA;rw [cF (dF c5)]
   rcases ln false with hn | hn
   ·left; exact cT (b := !decide ((r2.length : Int) = IntKind.i64.wrap (IntKind.i64.wrap (IntKind.i64.wrap (3 * (kQ false : Int)) * (w : Int)) * (h : Int)))) (by rw [dF hn]; rfl) _ _
   ·right; exact ⟨w, h, false, r2, hw, hh, fin false c6, hn⟩
  ·left
   rw [show (!decide (n2 = 255)) = true by rw [dF c6]; rfl]
   dsimp only
   rw [cT rfl]
theorem KH : g8 8589934592 = some true := by kernel_rfl
theorem IS (b : List UInt8) (q t : Nat) : (b.drop q).getD t 0 = b.getD (q + t) 0 := by
 rw [List.getD_eq_getElem?_getD, List.getD_eq_getElem?_getD, List.getElem?_drop]
theorem Ok {hd b : List UInt8} {m : Nat} (h : m < b.length) : idx (hd ++ b) ((hd.length + m : Nat) : Int) = some (b.getD m 0) := by
 rw [At, List.getElem?_append_right (by omega), show hd.length + m - hd.length = m by omega, List.getElem?_eq_getElem h, List.getD_eq_getElem?_getD, List.getElem?_eq_getElem h]; rfl
theorem val_two (a b : UInt8) : IntKind.i64.wrap (IntKind.i64.wrap (256 * IntKind.i64.wrap (a.toNat : Int)) + IntKind.i64.wrap (b.toNat : Int)) = 256 * (a.toNat : Int) + (b.toNat : Int) := by
 have ha := a.toNat_lt;have hb := b.toNat_lt;rw [wV (x := (a.toNat : Int)) (by omega), wV (x := (b.toNat : Int)) (by omega), wV (x := 256 * (a.toNat : Int)) (by omega), wV (by omega)]
theorem KI (deep : Bool) (b : List UInt8) (q : Nat) : vR deep (b.drop q) = 256 * ((b.getD q 0).toNat : Int) + ((b.getD (q + (kQ deep - 1)) 0).toNat : Int) := by
 unfold vR;rw [IS, IS, Nat.add_zero]
theorem Ol {z k i l : Nat} (hz : z = 1 ∨ z = 2) (hk : k ≤ 10000) (hi : i ≤ 3) (hl : l ≤ 10000) :
  IntKind.i64.wrap ((l : Int) + IntKind.i64.wrap (IntKind.i64.wrap (IntKind.i64.wrap (3 * (k : Int)) + (i : Int)) * (z : Int))) = ((l + (3 * k + i) * z : Nat) : Int) := by
 rcases hz with rfl | rfl
 ·rw [wV (x := 3 * (k : Int)) (by omega), wV (x := 3 * (k : Int) + (i : Int)) (by omega), wV (x := (3 * (k : Int) + (i : Int)) * ((1 : Nat) : Int)) (by omega), wV (by omega)]; omega
 ·rw [wV (x := 3 * (k : Int)) (by omega), wV (x := 3 * (k : Int) + (i : Int)) (by omega), wV (x := (3 * (k : Int) + (i : Int)) * ((2 : Nat) : Int)) (by omega), wV (by omega)]; omega
theorem Ql {z m l : Nat} (hz : z = 1 ∨ z = 2) (hm : m ≤ 100000) (hl : l ≤ 10000) : IntKind.i64.wrap (IntKind.i64.wrap (((l + m : Nat) : Int) + (z : Int)) - 1) = ((l + (m + (z - 1)) : Nat) : Int) := by
 rw [wV (x := ((l + m : Nat) : Int) + (z : Int)) (by omega), wV (by omega)]; omega
theorem UW (N : Nat) (deep : Bool) (hd b : List UInt8) (k : Nat) (hk : (3 * k + 3) * kQ deep ≤ b.length) (hb : b.length ≤ 24576) (hh : hd.length ≤ 100) (kk) (fuel : Nat) :
  dW N (hd ++ b) (kQ deep : Int) hd (k : Int) kk (fuel + 4) (0, 0, 0, 0) = kk (vR deep (b.drop ((3 * k + 0) * kQ deep)), vR deep (b.drop ((3 * k + 1) * kQ deep)), vR deep (b.drop ((3 * k + 2) * kQ deep)), 3) := by
 have zc : kQ deep = 1 ∨ kQ deep = 2 := by have := Et deep; omega
 have hk2 : k ≤ 10000 := by rcases zc with z | z <;> rw [z] at hk <;> omega
 have q : ∀ i : Nat, i < 3 → (3 * k + i) * kQ deep + (kQ deep - 1) < b.length := by intro i hi; rcases zc with z | z <;> rw [z] at hk ⊢ <;> omega
 have i1 : ∀ i : Nat, i < 3 → idx (hd ++ b) (IntKind.i64.wrap ((hd.length : Int) + IntKind.i64.wrap (IntKind.i64.wrap (IntKind.i64.wrap (3 * (k : Int)) + (i : Int)) * (kQ deep : Int)))) = some (b.getD ((3 * k + i) * kQ deep) 0) := by
  intro i hi;have := q i hi;rw [Ol zc hk2 (by omega) (by omega), Ok (by omega)]
 have i2 : ∀ i : Nat, i < 3 → idx (hd ++ b) (IntKind.i64.wrap (IntKind.i64.wrap (IntKind.i64.wrap ((hd.length : Int) + IntKind.i64.wrap (IntKind.i64.wrap (IntKind.i64.wrap (3 * (k : Int)) + (i : Int)) * (kQ deep : Int))) + (kQ deep : Int)) - 1)) = some (b.getD ((3 * k + i) * kQ deep + (kQ deep - 1)) 0) := by
  intro i hi;have := q i hi;rw [Ol zc hk2 (by omega) (by omega), Ql zc (by omega) (by omega), Ok (by omega)]
 conv => lhs; unfold dW
 have a1 := i1 0 (by omega);have a2 := i2 0 (by omega);rw [show ((0 : Nat) : Int) = 0 from rfl] at a1 a2;rw [cT (by rfl), aS, a1, aS, a2, aS, cT (by rfl), aS, val_two, show IntKind.i64.wrap (0 + 1) = (1 : Int) from rfl]
 conv => lhs; unfold dW
 have a1 := i1 1 (by omega);have a2 := i2 1 (by omega);rw [show ((1 : Nat) : Int) = 1 from rfl] at a1 a2;rw [cT (by rfl), aS, a1, aS, a2, aS, cF (by rfl), cT (by rfl), aS, val_two, show IntKind.i64.wrap (1 + 1) = (2 : Int) from rfl]
 conv => lhs; unfold dW
 have a1 := i1 2 (by omega);have a2 := i2 2 (by omega);rw [show ((2 : Nat) : Int) = 2 from rfl] at a1 a2;rw [cT (by rfl), aS, a1, aS, a2, aS, cF (by rfl), cF (by rfl), cT (by rfl), aS, val_two, show IntKind.i64.wrap (2 + 1) = (3 : Int) from rfl]
 conv => lhs; unfold dW
 rw [cF (by rfl), KI, KI, KI]
theorem UX (N : Nat) (hN : 10 ≤ N) (deep : Bool) (hd b : List UInt8) (W H : Int) {n : Nat} (hn : W * H = (n : Int)) (hn2 : n ≤ 4096) (hb : b.length = 3 * kQ deep * n) (hh : hd.length ≤ 100) (kk) :
  ∀ (j k fuel : Nat) (acc : List Px), k + j = n → j < fuel → acc.length = k →
  iI N (hd ++ b) W H (kQ deep : Int) hd kk fuel (acc, (k : Int)) = kk (acc ++ D1 deep j (b.drop ((3 * k) * kQ deep)), (n : Int)) := by
 have zc : kQ deep = 1 ∨ kQ deep = 2 := by have := Et deep; omega
 have hb2 : b.length ≤ 24576 := by rcases zc with z | z <;> rw [z] at hb <;> omega
 have hw : IntKind.i64.wrap (W * H) = (n : Int) := by rw [hn, wV (by omega)]
 intro j
 induction j with
 | zero =>
  intro k fuel acc hk hf ha;obtain ⟨fuel, rfl⟩ := Hw fuel (by omega);obtain rfl : k = n := by omega
  unfold iI;rw [hw, cF (dF (by omega))];unfold D1;rw [List.append_nil]
 | succ j ih =>
  intro k fuel acc hk hf ha;obtain ⟨fuel, rfl⟩ := Hw fuel (by omega);obtain ⟨F, hF⟩ : ∃ q, N = q + 4 := ⟨N - 4, by omega⟩
  unfold iI o9;rw [hw, cT (dT (by omega))]
  have key := fun kk => UW N deep hd b k (by rcases zc with z | z <;> rw [z] at hb ⊢ <;> omega) hb2 hh kk F
  rw [← hF] at key;refine (key _).trans ?_
  dsimp only
  rw [aS]
  dsimp only
  rw [FI (by rw [ha]; simp; omega), aS, aS, wV (x := (k : Int) + 1) (by omega)];refine Eq.trans (ih (k + 1) fuel _ (by omega) (by omega) (by rw [List.length_append, ha]; rfl)) ?_;rw [List.append_assoc]
  have e : D1 deep (j + 1) (b.drop (3 * k * kQ deep)) = (vR deep (b.drop ((3 * k + 0) * kQ deep)), vR deep (b.drop ((3 * k + 1) * kQ deep)), vR deep (b.drop ((3 * k + 2) * kQ deep))) :: D1 deep j (b.drop (3 * (k + 1) * kQ deep)) := by
   have d1 : (b.drop (3 * k * kQ deep)).drop (kQ deep) = b.drop ((3 * k + 1) * kQ deep) := by rw [List.drop_drop]; congr 1; rw [Nat.add_mul, Nat.one_mul]
   have d2 : (b.drop ((3 * k + 1) * kQ deep)).drop (kQ deep) = b.drop ((3 * k + 2) * kQ deep) := by rw [List.drop_drop]; congr 1; rw [Nat.add_mul, Nat.add_mul]; omega
   have d3 : (b.drop ((3 * k + 2) * kQ deep)).drop (kQ deep) = b.drop (3 * (k + 1) * kQ deep) := by rw [List.drop_drop]; congr 1; rw [Nat.mul_add, Nat.add_mul, Nat.add_mul]; omega
   show Wa deep (b.drop (3 * k * kQ deep)) :: D1 deep j ((((b.drop (3 * k * kQ deep)).drop (kQ deep)).drop (kQ deep)).drop (kQ deep)) = _;unfold Wa;rw [d1, d2, d3]; rfl
  rw [e]; rfl
def Qm (s : List UInt8) (w h : Nat) (deep : Bool) (b : List UInt8) : Prop := s = w6 w h deep ++ b ∧ b.length = 3 * kQ deep * (w * h)
theorem KJ {s : List UInt8} {w h w' h' : Nat} {deep J9 : Bool} {b b' : List UInt8} (hw : 1 ≤ w ∧ w ≤ 64) (hh : 1 ≤ h ∧ h ≤ 64) (hw' : 1 ≤ w' ∧ w' ≤ 64) (hh' : 1 ≤ h' ∧ h' ≤ 64) (H : Qm s w h deep b) (H' : Qm s w' h' J9 b') : w = w' ∧ h = h' ∧ deep = J9 := by
 have e := Iw 8589934592 (by omega) hw hh deep b H.2;have e' := Iw 8589934592 (by omega) hw' hh' J9 b' H'.2;rw [← H.1] at e;rw [← H'.1] at e';have q := Option.some.inj (e.symm.trans e');have q1 := congrArg (·.1) q;have q2 := congrArg (·.2.1) q;have q3 := congrArg (·.2.2.2.1) q;dsimp only at q1 q2 q3;exact ⟨by omega, by omega, q3⟩
theorem Nt (N : Nat) (p t : List UInt8) : jB N (p ++ t) p = some true := by
 unfold jB
 have e : DG (p ++ t) 0 (p.length : Int) = some p := by
  rw [FH (by rw [List.length_append]; omega), Int.toNat_natCast, show ((0 : Int)).toNat = 0 from rfl, List.drop_zero, List.take_left]
 rw [cT (dT (by rw [List.length_append]; omega)), e, aS];exact congrArg some (dT rfl)
theorem LO (N : Nat) {s p : List UInt8} (h : ¬ ∃ t, s = p ++ t) : jB N s p = some false := by
 unfold jB
 by_cases q : (p.length : Int) ≤ (s.length : Int)
 ·rw [cT (dT q), FH (by omega), aS];refine congrArg some (dF fun e => h ⟨s.drop p.length, ?_⟩);rw [Int.toNat_natCast, show ((0 : Int)).toNat = 0 from rfl, List.drop_zero] at e
  conv => lhs; rw [← List.take_append_drop p.length s, e]
 ·rw [cF (dF q)]
theorem Om {deep : Bool} {w h l : Nat} (hw : 1 ≤ w ∧ w ≤ 64) (hh : 1 ≤ h ∧ h ≤ 64) (hl : l ≤ 10000) :
  IntKind.i64.wrap ((l : Int) + IntKind.i64.wrap (IntKind.i64.wrap (IntKind.i64.wrap (3 * (kQ deep : Int)) * (w : Int)) * (h : Int))) = ((l + 3 * kQ deep * (w * h) : Nat) : Int) := by
 have zc : kQ deep = 1 ∨ kQ deep = 2 := by have := Et deep; omega
 have i2 : (3 * (kQ deep : Int)) * (w : Int) ≤ 6 * 64 := by rcases zc with z | z <;> rw [z] <;> omega
 have i3 : 0 ≤ (3 * (kQ deep : Int)) * (w : Int) := by rcases zc with z | z <;> rw [z] <;> omega
 have Wc : w * h ≤ 64 * 64 := Nat.mul_le_mul hw.2 hh.2;have i5 : 3 * kQ deep * (w * h) ≤ 6 * (64 * 64) := Nat.mul_le_mul (by omega) Wc
 have i4 : (3 * (kQ deep : Int)) * (w : Int) * (h : Int) = ((3 * kQ deep * (w * h) : Nat) : Int) := by
  rw [← Nat.mul_assoc, Int.natCast_mul, Int.natCast_mul, Int.natCast_mul]; rfl
 rw [wV (x := 3 * (kQ deep : Int)) (by omega), wV (x := 3 * (kQ deep : Int) * (w : Int)) (by omega), i4, wV (x := ((3 * kQ deep * (w * h) : Nat) : Int)) (by omega), wV (by omega)]
 omega
theorem Qn (N : Nat) (hN : 5000 ≤ N) (s : List UInt8) {w h : Nat} (hw : 1 ≤ w ∧ w ≤ 64) (hh : 1 ≤ h ∧ h ≤ 64) (deep : Bool) (hno : ∀ b, ¬ Qm s w h deep b) (kk) (fuel : Nat) :
  dB N s (w : Int) (h : Int) kk (fuel + 1) (kQ deep : Int) = dB N s (w : Int) (h : Int) kk fuel ((kQ deep : Int) + 1) := by
 have hz := Et deep
 have e2 : decide ((kQ deep : Int) = 2) = deep := by cases deep <;> rfl
 have hl := Hl w h deep
 conv => lhs; unfold dB
 rw [cT (dT (by omega)), e2, KF N (by omega) (by omega) (by omega), aS, Om hw hh (by omega), wV (x := (kQ deep : Int) + 1) (by omega), aS]
 by_cases q : (s.length : Int) = (((w6 w h deep).length + 3 * kQ deep * (w * h) : Nat) : Int)
 ·rw [cF (by rw [dT q]; rfl), LO N (fun ⟨t, e⟩ => hno t ⟨e, by rw [e, List.length_append] at q; omega⟩), aS, cT (b := !false) rfl]
 ·rw [cT (by rw [dF q]; rfl)]
theorem Qo (N : Nat) (hN : 5000 ≤ N) {s : List UInt8} {w h : Nat} (hw : 1 ≤ w ∧ w ≤ 64) (hh : 1 ≤ h ∧ h ≤ 64) {deep : Bool} {b : List UInt8} (H : Qm s w h deep b) (kk) (fuel : Nat) :
  dB N s (w : Int) (h : Int) kk (fuel + 1) (kQ deep : Int) = some ((w : Int), (h : Int), D1 deep (w * h) b, deep, true) := by
 have hz := Et deep
 have e2 : decide ((kQ deep : Int) = 2) = deep := by cases deep <;> rfl
 have hl := Hl w h deep;have Wc : w * h ≤ 64 * 64 := Nat.mul_le_mul hw.2 hh.2;unfold dB;rw [cT (dT (by omega)), e2, KF N (by omega) (by omega) (by omega), aS, Om hw hh (by omega), cF (by rw [dT (by rw [H.1, List.length_append, H.2])]; rfl), H.1, Nt, aS, cF (b := !true) rfl];have key := UX N (by omega) deep (w6 w h deep) b (w : Int) (h : Int) (n := w * h) (Int.natCast_mul w h).symm (by omega) H.2 (by omega) (fun (Of, i17) => some ((w : Int), (h : Int), Of, deep, true)) (w * h) 0 N [] (by omega) (by omega) rfl;refine Eq.trans key ?_
 dsimp only
 rw [List.nil_append, show 3 * 0 * kQ deep = 0 by omega, List.drop_zero]
theorem On (N : Nat) (hN : 5000 ≤ N) (s : List UInt8) {w h : Nat} (hw : 1 ≤ w ∧ w ≤ 64) (hh : 1 ≤ h ∧ h ≤ 64) (hno : ∀ deep b, ¬ Qm s w h deep b) (kk) : dB N s (w : Int) (h : Int) kk N 1 = kk 3 := by
 obtain ⟨F, hF⟩ : ∃ q, N = q + 3 := ⟨N - 3, by omega⟩
 have a := Qn N hN s hw hh false (hno false) kk (F + 2);have b := Qn N hN s hw hh true (hno true) kk (F + 1)
 conv => lhs; arg 6; rw [hF]
 refine a.trans (b.trans ?_);unfold dB;rw [cF (by rfl)]; rfl
theorem UY (N : Nat) (hN : 5000 ≤ N) {s : List UInt8} {w h : Nat} (hw : 1 ≤ w ∧ w ≤ 64) (hh : 1 ≤ h ∧ h ≤ 64) {deep : Bool} {b : List UInt8} (H : Qm s w h deep b) (kk) : dB N s (w : Int) (h : Int) kk N 1 = some ((w : Int), (h : Int), D1 deep (w * h) b, deep, true) := by
 obtain ⟨F, hF⟩ : ∃ q, N = q + 3 := ⟨N - 3, by omega⟩
 conv => lhs; arg 6; rw [hF]
 cases deep
 ·exact Qo N hN hw hh H kk (F + 2)
 ·have a := Qn N hN s hw hh false (fun b' H' => by have := (KJ hw hh hw hh H H').2.2; cases this) kk (F + 2);exact a.trans (Qo N hN hw hh H kk (F + 1))
theorem Oo (N : Nat) (hN : 5000 ≤ N) (s : List UInt8) {w : Nat} (hw : 1 ≤ w ∧ w ≤ 64) (hno : ∀ h deep b, 1 ≤ h ∧ h ≤ 64 → ¬ Qm s w h deep b) (kk) : ∀ (j k fuel : Nat), k + j = 65 → 1 ≤ k → j < fuel → eM N s (w : Int) kk fuel (k : Int) = kk 65 := by
 intro j
 induction j with
 | zero =>
  intro k fuel hk h1 hf;obtain ⟨fuel, rfl⟩ := Hw fuel (by omega);obtain rfl : k = 65 := by omega
  unfold eM;rw [cF (by rfl)]; rfl
 | succ j ih =>
  intro k fuel hk h1 hf;obtain ⟨fuel, rfl⟩ := Hw fuel (by omega);unfold eM;rw [cT (dT (by omega)), On N hN s hw ⟨h1, by omega⟩ (fun deep b => hno k deep b ⟨h1, by omega⟩), aS, wV (x := (k : Int) + 1) (by omega)];exact ih (k + 1) fuel (by omega) (by omega) (by omega)
theorem UZ (N : Nat) (hN : 5000 ≤ N) {s : List UInt8} {w h : Nat} (hw : 1 ≤ w ∧ w ≤ 64) (hh : 1 ≤ h ∧ h ≤ 64) {deep : Bool} {b : List UInt8} (H : Qm s w h deep b) (kk) : ∀ (j k fuel : Nat), k + j = h → 1 ≤ k → j < fuel → eM N s (w : Int) kk fuel (k : Int) = some ((w : Int), (h : Int), D1 deep (w * h) b, deep, true) := by
 intro j
 induction j with
 | zero =>
  intro k fuel hk h1 hf;obtain ⟨fuel, rfl⟩ := Hw fuel (by omega);obtain rfl : k = h := by omega
  unfold eM;rw [cT (dT (by omega)), UY N hN hw hh H]
 | succ j ih =>
  intro k fuel hk h1 hf;obtain ⟨fuel, rfl⟩ := Hw fuel (by omega);unfold eM;rw [cT (dT (by omega)), On N hN s hw ⟨h1, by omega⟩ (fun J9 b' H' => by have := (KJ hw hh hw ⟨h1, by omega⟩ H H').2.1; omega), aS, wV (x := (k : Int) + 1) (by omega)];exact ih (k + 1) fuel (by omega) (by omega) (by omega)
theorem Sy (N : Nat) (hN : 5000 ≤ N) (s : List UInt8) (hno : ∀ w h deep b, 1 ≤ w ∧ w ≤ 64 → 1 ≤ h ∧ h ≤ 64 → ¬ Qm s w h deep b) (kk) : ∀ (j k fuel : Nat), k + j = 65 → 1 ≤ k → j < fuel → eN N s kk fuel (k : Int) = kk 65 := by
 intro j
 induction j with
 | zero =>
  intro k fuel hk h1 hf;obtain ⟨fuel, rfl⟩ := Hw fuel (by omega);obtain rfl : k = 65 := by omega
  unfold eN;rw [cF (by rfl)]; rfl
 | succ j ih =>
  intro k fuel hk h1 hf;obtain ⟨fuel, rfl⟩ := Hw fuel (by omega);have key := fun kk => Oo N hN s ⟨h1, show k ≤ 64 by omega⟩ (fun h deep b hh => hno k h deep b ⟨h1, by omega⟩ hh) kk 64 1 N (by omega) (by omega) (by omega)
  unfold eN;rw [cT (dT (by omega))];refine (key _).trans ?_;rw [aS, wV (x := (k : Int) + 1) (by omega)];exact ih (k + 1) fuel (by omega) (by omega) (by omega)
theorem U0 (N : Nat) (hN : 5000 ≤ N) {s : List UInt8} {w h : Nat} (hw : 1 ≤ w ∧ w ≤ 64) (hh : 1 ≤ h ∧ h ≤ 64) {deep : Bool} {b : List UInt8} (H : Qm s w h deep b) (kk) : ∀ (j k fuel : Nat), k + j = w → 1 ≤ k → j < fuel → eN N s kk fuel (k : Int) = some ((w : Int), (h : Int), D1 deep (w * h) b, deep, true) := by
 intro j
 induction j with
 | zero =>
  intro k fuel hk h1 hf;obtain ⟨fuel, rfl⟩ := Hw fuel (by omega);obtain rfl : k = w := by omega
  unfold eN;rw [cT (dT (by omega))];exact UZ N hN hw hh H _ (h - 1) 1 N (by omega) (by omega) (by omega)
 | succ j ih =>
  intro k fuel hk h1 hf;obtain ⟨fuel, rfl⟩ := Hw fuel (by omega);have key := fun kk => Oo N hN s ⟨h1, show k ≤ 64 by omega⟩ (fun h' J9 b' hh' H' => by have := (KJ hw hh ⟨h1, show k ≤ 64 by omega⟩ hh' H H').1; omega) kk 64 1 N (by omega) (by omega) (by omega)
  unfold eN;rw [cT (dT (by omega))];refine (key _).trans ?_;rw [aS, wV (x := (k : Int) + 1) (by omega)];exact ih (k + 1) fuel (by omega) (by omega) (by omega)
theorem O3 (N : Nat) (hN : 5000 ≤ N) (s : List UInt8) (hs : s.length ≤ 140737488355328) :
  (lU N s = some (0, 0, [], false, 1) ∧ fQ N s = some (0, 0, [], false, false)) ∨
  ∃ W H P deep, CS W H P = true ∧ lU N s = some (W, H, P, deep, 0) ∧ fQ N s = some (W, H, P, deep, true) := by
 rcases Qk N hN s hs with e | ⟨w, h, deep, b, hw, hh, e1, e2⟩
 ·left
  refine ⟨e, ?_⟩;unfold fQ;refine Sy N hN s (fun w h deep b hw hh H => ?_) _ 64 1 N (by omega) (by omega) (by omega);have q := Iw N hN hw hh deep b H.2;rw [← H.1, e] at q;have q2 := congrArg (·.2.2.2.2) (Option.some.inj q);dsimp only at q2
  omega
 ·right
  have H : Qm s w h deep b := ⟨e1, e2⟩
  refine ⟨_, _, _, deep, Sx deep hw hh b, ?_, ?_⟩
  ·rw [e1]; exact Iw _ hN hw hh deep b e2
  ·unfold fQ;exact U0 N hN hw hh H _ (w - 1) 1 N (by omega) (by omega) (by omega)
theorem LP {α : Type} [DecidableEq α] (x : α) : decide (x = x) = true := decide_eq_true rfl
theorem Ie (W H : Int) (P : List Px) (deep : Bool) (s : List UInt8) (hs : s.length ≤ 140737488355328) : lV 8589934592 W H P deep s = some true := by
 have hN : 5000 ≤ 8589934592 := by omega
 unfold lV;rw [Nn 8589934592 hN, aS, IN 8589934592 W H P hN, aS, KH]
 have tail : ∀ (r2 : List UInt8 × Int) (x : List UInt8) (e : Int), r2.1 = x → r2.2 = e →
   (Option.bind (lU 8589934592 s) fun r5 => Option.bind (fQ 8589934592 s) fun r6 =>
    cond (!(r6.2.2.2.2)) (Option.bind (some true) fun r7 => cond r7 (cond (decide (r2.1 = x)) (cond (decide (r2.2 = e)) (cond (decide (r5.2.2.2.2 = 1)) (cond (decide (r5.2.2.2.1 = r6.2.2.2.1)) (Option.bind (dE 8589934592 r5.1 r5.2.1 r5.2.2.1 r6.1 r6.2.1 r6.2.2.1) fun r8 => some r8) (some false)) (some false)) (some false)) (some false)) (some false))
    (Option.bind (some true) fun r9 => cond r9 (cond (decide (r2.1 = x)) (cond (decide (r2.2 = e)) (cond (decide (r5.2.2.2.2 = 0)) (cond (decide (r5.2.2.2.1 = r6.2.2.2.1)) (Option.bind (dE 8589934592 r5.1 r5.2.1 r5.2.2.1 r6.1 r6.2.1 r6.2.2.1) fun FZ => some FZ) (some false)) (some false)) (some false)) (some false)) (some false))) = some true := by
  intro r2 x e h1 h2;rw [h1, h2]
  rcases O3 8589934592 hN s hs with ⟨e1, e2⟩ | ⟨W', H', P', J9, hp, e1, e2⟩
  ·rw [e1, e2, aS, aS]
   dsimp only
   rw [cT (b := !false) rfl, aS, cT rfl, cT (LP _), cT (LP _), cT (LP _), cT (LP _), same_eq 8589934592 0 0 [] (by simp) (by simp), aS]
  ·have hl := (Gg (EJ hp)).1;rw [e1, e2, aS, aS]
   dsimp only
   rw [cF (b := !true) rfl, aS, cT rfl, cT (LP _), cT (LP _), cT (LP _), cT (LP _), same_eq 8589934592 W' H' P' (by omega) (by omega), aS]
 by_cases hp : CS W H P = true
 ·rw [if_pos hp, cT hp, Np 8589934592 hN hp deep, aS];exact tail _ _ _ rfl rfl
 ·rw [if_neg hp, cF (by simpa using hp)];exact tail _ _ _ rfl rfl
end
section
open Go.RowKit
section
variable {P : Program} {ops : Array Oper} {Q O : Exit → Act → World → Prop} {S : World → Prop} {nW need : Nat → Bool} {R : Act → World → Prop}
def Ka (ops : Array Oper) (rem : List Nat) (i : Nat) : Bool := rem.all fun j => !waits ops i j
def tQ (P : Program) (O : Exit → Act → World → Prop) (ops : Array Oper) (S : World → Prop) (nW need : Nat → Bool) (R : Act → World → Prop) : Nat → List Nat → Act → World → Prop
 | 0, rem, a, w => rem = [] ∧ R a w
 | n + 1, rem, a, w =>
  (∃ i ∈ rem, nW i = true ∧ Ka ops rem i = true ∧ ∃ o, ops[i]? = some o ∧ ∃ v, rM P ops S o v a ∧ tQ P O ops S nW need R n (rem.erase i) (a.put o.dst v) w) ∨
  ((∀ i ∈ rem, nW i = true → Ka ops rem i = false) ∧ ∀ c ∈ rem, nW c = false → Ka ops rem c = true → wpOp P ops O c (fun a' w' => (need c = true → S w') ∧ tQ P O ops S nW need R n (rem.erase c) a' w') a w)
def FJ (ops : Array Oper) (nW : Nat → Bool) (i j : Nat) : Bool :=
 match ops[i]?, ops[j]? with
 | some oi, some oj => waits ops i j || ((!nW i || oi.apart ops oj) && (!nW j || oj.apart ops oi))
 | _, _ => false
def LQ (ops : Array Oper) (nW need : Nat → Bool) : Bool :=
 Region.noSelect ops && N8 ops && ((List.range ops.size).all fun i => (List.range i).all fun j => FJ ops nW i j) &&
 (List.range ops.size).all fun i => nW i || need i || !IB ops nW i
def O4 (O : Exit → Act → World → Prop) : Prop := (∀ e a d v w, O e (a.put d v) w → O e a w) ∧ ¬ LetsOut O
theorem Sz : O4 B1 := ⟨fun _ _ _ _ _ h => h.elim, fun ⟨_, _, h⟩ => h.elim⟩
theorem LR (hO : O4 O) {j : Nat} {oi oj : Oper} {v : Value} (hj : ops[j]? = some oj) (hap : oi.apart ops oj = true)
  (hsi : ∀ cs b, oi.op ≠ .select cs b) (hsj : ∀ cs b, oj.op ≠ .select cs b) {K : Act → World → Prop} {a : Act} {w : World}
  (hy : rM P ops S oi v a) (h : wpOp P ops O j K (a.put oi.dst v) w) :
  wpOp P ops O j (fun a' w' => rM P ops S oi v a' ∧ K (a'.put oi.dst v) w') a w := by
 obtain ⟨h1, h2, h3⟩ := Oper.apart_spec hap
 have keep : ∀ (a : Act), rM P ops S oi v a → ∀ u, rM P ops S oi v (a.put oj.dst u) := fun a hy u =>
  hy.same (execOp_put oi hsi a oj.dst u h3) (wanted_put oi a oj.dst u h3)
 have keepD : ∀ d, rM P ops S oi v { a with defers := d :: a.defers } := fun d => hy.same rfl rfl
 unfold wpOp at *;simp only [hj] at *;rw [wanted_put oj a oi.dst v h1] at h
 split
 ·rename_i hw
  simp only [hw, if_true] at h
  rcases h with h | ⟨_, hl⟩
  case inr => exact absurd hl hO.2
  refine .inl ?_;unfold Oper.wp at *;rw [execOp_put oj hsj a oi.dst v h1] at h
  generalize (execOp a.eval oj).run P w = r at *
  cases r with
  | ok n w' =>
   cases n <;> simp only [Oper.upon] at h ⊢
   case value u => exact ⟨keep a hy u, by rw [← Act.put_comm a v u h2]; exact h⟩
   case skip => exact ⟨keep a hy _, by rw [← Act.put_comm a v undef h2]; exact h⟩
   case defer d =>
    refine ⟨keep _ (keepD d) _, ?_⟩;rw [← Act.put_comm _ v undef h2, ← Act.put_defers];exact h
   case enter f args =>
    refine Calls.mono h fun e w'' he => ?_
    cases e with
    | returned u => exact ⟨keep a hy u, by rw [← Act.put_comm a v u h2]; exact he⟩
    | panicked c => exact hO.1 _ _ _ _ _ he
    | outgrown => exact absurd he hO.2
   case row row args => exact Rows.mono h fun u w'' he => ⟨keep a hy u, by rw [← Act.put_comm a v u h2]; exact he⟩
  | halt x w' => cases x <;> simp only [Oper.upon] at h ⊢; exact hO.1 _ _ _ _ _ h
 ·rename_i hw
  simp only [hw] at h;exact ⟨keep a hy _, by rw [← Act.put_comm a v undef h2]; exact h⟩
theorem O5 (hO : O4 O) (hQ : ∀ e a w, O e a w → Q e a w) {i : Nat} {K : Act → World → Prop} {a : Act} {w : World} (h : wpOp P ops O i K a w) : wpOp P ops Q i K a w := by
  unfold wpOp at *
  split
  · rename_i h0
    simp only [h0] at h
    exact h
  · rename_i o ho
    simp only [ho] at h
    split
    · rename_i hw
      rw [if_pos hw] at h
      rcases h with h | ⟨_, hl⟩
      case inr => exact absurd hl hO.2
      refine .inl ?_
      unfold Oper.wp at *
      generalize (execOp a.eval o).run P w = r at *
      cases r with
      | ok n w' =>
        cases n <;> simp only [Oper.upon] at h ⊢ <;> first
          | exact h
          | (refine Calls.mono h fun e w'' he => ?_
             cases e with
             | returned u => exact he
             | panicked c => exact hQ _ _ _ he
             | outgrown => exact absurd he hO.2)
      | halt x w' => cases x <;> simp only [Oper.upon] at h ⊢; exact hQ _ _ _ h
    · rename_i hw
      rw [if_neg hw] at h
      exact h
theorem AB {rem : List Nat} {i k : Nat} (h : Ka ops rem i = true) : Ka ops (rem.erase k) i = true := by
 unfold Ka at *;rw [List.all_eq_true] at *;exact fun j hj => h j (List.mem_of_mem_erase hj)
theorem u6 {rem : List Nat} {i j : Nat} (h : Ka ops rem i = true) (hj : j ∈ rem) : waits ops i j = false := by
 unfold Ka at h;rw [List.all_eq_true] at h
 simpa using h j hj
theorem Oq {i : Nat} {oi : Oper} (hi : ops[i]? = some oi) (hr : nW i = true) (hsel : ∀ (j : Nat) (o : Oper) cs b, ops[j]? = some o → o.op ≠ .select cs b)
  (B2 : ∀ j k oj ok, j ≠ k → ops[j]? = some oj → ops[k]? = some ok → waits ops j k = false → waits ops k j = false → (nW j = true → oj.apart ops ok = true)) :
  ∀ (n : Nat) (rem : List Nat) (a : Act) (w : World), i ∈ rem → Ka ops rem i = true → tQ P O ops S nW need R (n + 1) rem a w → ∃ v, rM P ops S oi v a ∧ tQ P O ops S nW need R n (rem.erase i) (a.put oi.dst v) w := by
 intro n
 induction n with
 | zero =>
  intro rem a w him hrd h
  rcases h with ⟨i0, hi0, hr0, hd0, o0, ho0, u, hu, h⟩ | ⟨hno, _⟩
  ·obtain ⟨hnil, hR⟩ := h
   have : i0 = i := by
    by_cases e : i0 = i
    ·exact e
    ·have : i ∈ rem.erase i0 := (List.mem_erase_of_ne (fun h => e h.symm)).2 him;rw [hnil] at this; cases this
   subst this;obtain rfl : o0 = oi := Option.some.inj (ho0.symm.trans hi);exact ⟨u, hu, hnil, hR⟩
  ·rw [hno i him hr] at hrd; cases hrd
 | succ n ih =>
  intro rem a w him hrd h
  rcases h with ⟨i0, hi0, hr0, hd0, o0, ho0, u, hu, h⟩ | ⟨hno, _⟩
  ·by_cases e : i0 = i
   ·subst e;obtain rfl : o0 = oi := Option.some.inj (ho0.symm.trans hi);exact ⟨u, hu, h⟩
   ·have YT : i ∈ rem.erase i0 := (List.mem_erase_of_ne (fun h => e h.symm)).2 him;obtain ⟨v, hv, h⟩ := ih _ _ _ YT (AB hrd) h;have w1 := u6 hrd hi0;have w2 := u6 hd0 him;have ap1 := B2 i i0 oi o0 (fun h => e h.symm) hi ho0 w1 w2 hr;have ap2 := B2 i0 i o0 oi e ho0 hi w2 w1 hr0;obtain ⟨p1, p2, p3⟩ := Oper.apart_spec ap1;obtain ⟨q1, q2, q3⟩ := Oper.apart_spec ap2;have hv' : rM P ops S oi v a := hv.same (execOp_put oi (fun cs b => hsel i oi cs b hi) a o0.dst u p3).symm (wanted_put oi a o0.dst u p3).symm;refine ⟨v, hv', .inl ⟨i0, (List.mem_erase_of_ne e).2 hi0, hr0, AB hd0, o0, ho0, u, ?_, ?_⟩⟩
    ·exact hu.same (execOp_put o0 (fun cs b => hsel i0 o0 cs b ho0) a oi.dst v q3) (wanted_put o0 a oi.dst v q3)
    ·rw [List.erase_comm, Act.put_comm a v u p2]; exact h
  ·rw [hno i him hr] at hrd; cases hrd
theorem SA (hO : O4 O) {c : Nat} {oc : Oper} (hc : ops[c]? = some oc) (hrc : nW c = false) (hsel : ∀ (j : Nat) (o : Oper) cs b, ops[j]? = some o → o.op ≠ .select cs b)
  (B2 : ∀ j k oj ok, j ≠ k → ops[j]? = some oj → ops[k]? = some ok → waits ops j k = false → waits ops k j = false → (nW j = true → oj.apart ops ok = true)) :
  ∀ (n : Nat) (rem : List Nat) (a : Act) (w : World), c ∈ rem → Ka ops rem c = true → tQ P O ops S nW need R (n + 1) rem a w → wpOp P ops O c (fun a' w' => (need c = true → S w') ∧ tQ P O ops S nW need R n (rem.erase c) a' w') a w := by
 intro n
 induction n with
 | zero =>
  intro rem a w hcm hrd h
  rcases h with ⟨i0, hi0, hr0, hd0, o0, ho0, u, hu, h⟩ | ⟨_, h⟩
  ·obtain ⟨hnil, hR⟩ := h;have e : i0 ≠ c := fun e => by subst e; rw [hrc] at hr0; cases hr0
   have : c ∈ rem.erase i0 := (List.mem_erase_of_ne (fun h => e h.symm)).2 hcm;rw [hnil] at this; cases this
  ·exact h c hcm hrc hrd
 | succ n ih =>
  intro rem a w hcm hrd h
  rcases h with ⟨i0, hi0, hr0, hd0, o0, ho0, u, hu, h⟩ | ⟨_, h⟩
  ·have e : i0 ≠ c := fun e => by subst e; rw [hrc] at hr0; cases hr0
   have hcm' : c ∈ rem.erase i0 := (List.mem_erase_of_ne (fun h => e h.symm)).2 hcm;have h2 := ih _ _ _ hcm' (AB hrd) h;have w1 := u6 hrd hi0;have w2 := u6 hd0 hcm;have ap := B2 i0 c o0 oc e ho0 hc w2 w1 hr0;have h3 := LR hO hc ap (fun cs b => hsel i0 o0 cs b ho0) (fun cs b => hsel c oc cs b hc) hu h2;refine wpOp_mono ?_ h3;rintro a' w' ⟨hy, hn, hk⟩;refine ⟨hn, .inl ⟨i0, (List.mem_erase_of_ne e).2 hi0, hr0, AB hd0, o0, ho0, u, hy, ?_⟩⟩;rw [List.erase_comm]; exact hk
  ·exact h c hcm hrc hrd
theorem DH {l : List Nat} (hl : l.Nodup) (i : Nat) : l.filter (· != i) = l.erase i := by
 rw [List.Nodup.erase_eq_filter hl]
theorem LS (hO : O4 O) (hQ : ∀ e a w, O e a w → Q e a w) (hok : LQ ops nW need = true) : ∀ (fuel : Nat) (listed : Array Bool) (a : Act) (w : World), listed.size = ops.size → Closed ops listed → (iP ops listed).length = fuel →
  (∀ r ∈ iP ops listed, nW r = true → S w) → tQ P O ops S nW need (Q .normal) fuel (iP ops listed) a w → wpAny P .any ops Q fuel listed a w := by
 simp only [LQ, Bool.and_eq_true] at hok;obtain ⟨⟨⟨Lu, hback⟩, Nu⟩, Lv⟩ := hok;have hsel := Region.noSelect_spec Lu;have hp : ∀ i < ops.size, ∀ j < i, FJ ops nW i j = true := fun i hi j hj => List.all_eq_true.1 (List.all_eq_true.1 Nu i (List.mem_range.2 hi)) j (List.mem_range.2 hj)
 have B2 : ∀ j k oj ok, j ≠ k → ops[j]? = some oj → ops[k]? = some ok → waits ops j k = false → waits ops k j = false → (nW j = true → oj.apart ops ok = true) := by
  intro j k oj ok hjk hj hk w1 w2 hr;have hjl := (Array.getElem?_eq_some_iff.1 hj).1;have hkl := (Array.getElem?_eq_some_iff.1 hk).1
  rcases Nat.lt_or_gt_of_ne hjk with hlt | hlt
  ·have h := hp k hkl j hlt;unfold FJ at h;simp only [hj, hk, w2, Bool.false_or, Bool.and_eq_true, Bool.or_eq_true, Bool.not_eq_true'] at h
   rcases h.2 with h0 | h0
   ·rw [hr] at h0; cases h0
   ·exact h0
  ·have h := hp j hjl k hlt;unfold FJ at h;simp only [hj, hk, w1, Bool.false_or, Bool.and_eq_true, Bool.or_eq_true, Bool.not_eq_true'] at h
   rcases h.1 with h0 | h0
   ·rw [hr] at h0; cases h0
   ·exact h0
 have hbk : ∀ i o, ops[i]? = some o → ∀ e ∈ o.after, Region.binds .any e = true → e.on < i := fun i o ho e he hb => by
  have hi : i < ops.size := (Array.getElem?_eq_some_iff.1 ho).1;have h := List.all_eq_true.1 hback i (List.mem_range.2 hi);simp only [ho] at h;have h2 := Array.all_eq_true_iff_forall_mem.1 h e he
  simpa [hb] using h2
 have hnd : ∀ i < ops.size, nW i = false → ∀ r < ops.size, nW r = true → waits ops i r = false → need i = true := fun i hi EZ r hr hrr hw => by
  have h := List.all_eq_true.1 Lv i (List.mem_range.2 hi);simp only [EZ, Bool.false_or, Bool.or_eq_true, Bool.not_eq_true'] at h;refine h.resolve_right fun h0 => ?_
  have : IB ops nW i = true := by
   refine List.any_eq_true.2 ⟨r, List.mem_range.2 hr, ?_⟩;have : r ≠ i := fun e => by subst e; rw [EZ] at hrr; cases hrr
   simp [hrr, hw, this]
  rw [this] at h0;cases h0
 intro fuel
 induction fuel with
 | zero =>
  intro listed a w hs hc hlen _ h;have hnil : iP ops listed = [] := List.eq_nil_of_length_eq_zero hlen;obtain ⟨_, h⟩ := h;refine ⟨?_, h⟩;refine List.eq_nil_iff_forall_not_mem.2 fun i hi => ?_
  obtain ⟨h0, o, ho, _⟩ := mem_ready.1 hi;have : i ∈ iP ops listed := k5.2 ⟨(Array.getElem?_eq_some_iff.1 ho).1, h0⟩;rw [hnil] at this;cases this
 | succ fuel ih =>
  intro listed a w hs hc hlen hS h;refine ⟨fun h0 => ?_, fun i hi => ?_⟩
  ·exfalso
   match hr : iP ops listed, hlen with
   | i0 :: rest, _ =>
    have hm0 : i0 ∈ iP ops listed := by rw [hr]; exact List.mem_cons_self ..
    obtain ⟨hlt, hun⟩ := k5.1 hm0;have B3 := sN (ops := ops) listed;rw [hr, List.pairwise_cons] at B3
    have : i0 ∈ Region.ready .any ops listed := by
     refine mem_ready.2 ⟨hun, ops[i0], Array.getElem?_eq_getElem hlt, fun e he hb => ?_⟩;have hlt2 := hbk i0 _ (Array.getElem?_eq_getElem hlt) e he hb;cases hl : listed.getD e.on false with
     | true => rfl
     | false =>
      have hm : e.on ∈ iP ops listed := k5.2 ⟨by omega, by rw [Ay (by omega)]; exact hl⟩;rw [hr] at hm
      rcases List.mem_cons.1 hm with hm | hm
      ·omega
      ·have := B3.1 _ hm; omega
    rw [h0] at this;cases this
  ·obtain ⟨hun, oi, hoi, hall⟩ := mem_ready.1 hi;have hilt : i < ops.size := (Array.getElem?_eq_some_iff.1 hoi).1;have him : i ∈ iP ops listed := k5.2 ⟨hilt, hun⟩;have Nv : (iP ops listed).Nodup := (sN (ops := ops) listed).imp fun h => Nat.ne_of_lt h
   have B4 : iP ops (listed.setIfInBounds i true) = (iP ops listed).erase i := by rw [G9 hs hilt, DH Nv]
   have hlen' : (iP ops (listed.setIfInBounds i true)).length = fuel := by
    rw [B4, List.length_erase_of_mem him]; omega
   have hs' : (listed.setIfInBounds i true).size = ops.size := by simpa using hs
   have hc' : Closed ops (listed.setIfInBounds i true) := by
    intro k hk j hj
    by_cases hik : i = k
    ·subst hik; exact getD_set_true (rQ hi hj)
    ·rw [getD_set_ne false hik] at hk; exact getD_set_true (hc k hk j hj)
   have hrd : Ka ops (iP ops listed) i = true := by
    unfold Ka;rw [List.all_eq_true];intro j hj;obtain ⟨h1, h2⟩ := k5.1 hj;cases hw : waits ops i j with
    | false => rfl
    | true =>
     have := rQ hi hw;rw [← Ay (by omega), h2] at this; cases this
   cases EZ : nW i with
   | true =>
    have hSw : S w := hS i him EZ;obtain ⟨v, hv, hrest⟩ := Oq hoi EZ hsel B2 fuel _ a w him hrd h;refine hv.run hoi hSw (ih _ _ _ hs' hc' hlen' (fun _ _ _ => hSw) (by rw [B4]; exact hrest))
   | false =>
    have h2 := SA hO hoi EZ hsel B2 fuel _ a w him hrd h;refine O5 hO hQ (wpOp_mono ?_ h2);rintro a' w' ⟨hn, hk⟩;refine ih _ _ _ hs' hc' hlen' ?_ (by rw [B4]; exact hk);intro r hr hrr;rw [B4] at hr;have hrm := List.mem_of_mem_erase hr;exact hn (hnd i hilt EZ r (k5.1 hrm).1 hrr (u6 hrd hrm))
theorem KK (hO : O4 O) (hQ : ∀ e a w, O e a w → Q e a w) {id : Nat} {a : Act} {w : World} {l : List Oper} (S : World → Prop) (f : List Nat) (n : Nat) (rem : List Nat) (hm : P.follows .mixedOrders = true) (hok : LQ l.toArray (lN f) (gZ f) = true)
  (hl : List.range l.toArray.size = rem) (hn : rem.length = n) (hS : S w.drew) (h : tQ P O l.toArray S (lN f) (gZ f) (Q .normal) n rem a w.drew) : (Code.region id l.toArray true).wp P Q a w := by
 refine wp_region_any hm ?_
 have Fq : iP l.toArray (Array.replicate l.toArray.size false) = List.range l.toArray.size := by
  unfold iP;refine List.filter_eq_self.2 fun i hi => ?_
  have := List.mem_range.1 hi
  simp at this
  simp [this]
 refine LS hO hQ hok l.toArray.size (Array.replicate l.toArray.size false) a _ (by simp) ?_ (by rw [Fq]; simp) (fun _ _ _ => hS) ?_
 ·intro i hi;rw [sM] at hi;cases hi
 ·rw [Fq, hl];have : l.toArray.size = n := by rw [← hn, ← hl]; simp
  rw [this]; exact h
theorem jE {id : Nat} {a : Act} {w : World} {l : List Oper} (S : World → Prop) (f : List Nat) (n : Nat) (rem : List Nat) (hm : P.follows .mixedOrders = true) (hok : LQ l.toArray (lN f) (gZ f) = true)
  (hl : List.range l.toArray.size = rem) (hn : rem.length = n) (hS : S w.drew) (h : tQ P B1 l.toArray S (lN f) (gZ f) (Q .normal) n rem a w.drew) : (Code.region id l.toArray true).wp P Q a w :=
 KK Sz (fun _ _ _ h => h.elim) S f n rem hm hok hl hn hS h
theorem put_defers (a : Act) (d : Option Nat) (v : Value) : (a.put d v).defers = a.defers := by cases d <;> rfl
variable {D : List Deferred} {a : Act} {w : World} {N : Nat} {l : List (Nat × Value)} {o : Oper} {v : Value} {post : Value → World → Prop} {d i c n : Nat} {rem BY : List Nat} {f : List Nat}
theorem eQ (i : Nat) (BY : List Nat) (hc : (rem.elem i && lN f i && Ka ops rem i && rem.erase i == BY) = true) (ho : ops[i]? = some o) (K : Kd D a N l) (hw : Region.wanted o (yielded ops a.tmps) = true) (hd : o.dst = some d) (hN : Nat.blt d N = true) (hr : Rd P S a o v)
  (k : ∀ a', Kd D a' N ((d, v) :: l) → tQ P O ops S (lN f) (gZ f) R n BY a' w) : tQ P O ops S (lN f) (gZ f) R (n + 1) rem a w := by
 simp only [Bool.and_eq_true, beq_iff_eq, List.elem_iff] at hc;obtain ⟨⟨⟨h1, h2⟩, h3⟩, rfl⟩ := hc;refine .inl ⟨i, h1, h2, h3, o, ho, v, .inl ⟨hw, hr⟩, ?_⟩;have := K.put (d := o.dst) (by rw [hd]; exact hN) v;rw [hd] at this ⊢;exact k _ this
theorem YU (i : Nat) (BY : List Nat) (hc : (rem.elem i && lN f i && Ka ops rem i && rem.erase i == BY) = true) (ho : ops[i]? = some o) (K : Kd D a N l) (hw : Region.wanted o (yielded ops a.tmps) = false) (hd : o.dst = some d) (hN : Nat.blt d N = true)
  (k : ∀ a', Kd D a' N ((d, undef) :: l) → tQ P O ops S (lN f) (gZ f) R n BY a' w) : tQ P O ops S (lN f) (gZ f) R (n + 1) rem a w := by
 simp only [Bool.and_eq_true, beq_iff_eq, List.elem_iff] at hc;obtain ⟨⟨⟨h1, h2⟩, h3⟩, rfl⟩ := hc;refine .inl ⟨i, h1, h2, h3, o, ho, undef, .inr ⟨hw, rfl⟩, ?_⟩;have := K.put (d := o.dst) (by rw [hd]; exact hN) undef;rw [hd] at this ⊢;exact k _ this
def U1 (p : Nat → Prop) : List Nat → Prop
 | [] => True
 | c :: cs => p c ∧ U1 p cs
theorem LT {p : Nat → Prop} : ∀ {cs : List Nat}, U1 p cs → ∀ c ∈ cs, p c
 | [], _, c, h => by cases h
 | d :: cs, h, c, hc => by
  rcases List.mem_cons.1 hc with rfl | hc
  ·exact h.1
  ·exact LT h.2 c hc
theorem d6 (cs : List Nat) (hc : ((rem.all fun i => !lN f i || !Ka ops rem i) && (rem.filter fun c => !lN f c && Ka ops rem c) == cs) = true)
  (h : U1 (fun c => wpOp P ops O c (fun a' w' => (gZ f c = true → S w') ∧ tQ P O ops S (lN f) (gZ f) R n (rem.erase c) a' w') a w) cs) : tQ P O ops S (lN f) (gZ f) R (n + 1) rem a w := by
 simp only [Bool.and_eq_true, beq_iff_eq] at hc;obtain ⟨h1, rfl⟩ := hc;refine .inr ⟨fun i hi hr => ?_, fun c hcm hr hrd => LT h c (List.mem_filter.2 ⟨hcm, by simp [hr, hrd]⟩)⟩;have := List.all_eq_true.1 h1 i hi
 simpa [hr] using this
theorem hZ (BY : List Nat) (hc : (rem.erase c == BY) = true) (ho : ops[c]? = some o) (K : Kd D a N l) (hw : Region.wanted o (yielded ops a.tmps) = true) (hd : o.dst = some d) (hN : Nat.blt d N = true) (h : Ac P o a w post)
  (k : ∀ v a' w', post v w' → Kd D a' N ((d, v) :: l) → (gZ f c = true → S w') ∧ tQ P O ops S (lN f) (gZ f) R n BY a' w') : wpOp P ops O c (fun a' w' => (gZ f c = true → S w') ∧ tQ P O ops S (lN f) (gZ f) R n (rem.erase c) a' w') a w := by
 obtain rfl : rem.erase c = BY := by simpa using hc
 unfold wpOp;simp only [ho, hw, if_true];refine .inl (h _ _ fun v w' hp => ?_);have := K.put (d := o.dst) (by rw [hd]; exact hN) v;rw [hd] at this ⊢;exact k v _ w' hp this
theorem pC (BY : List Nat) (hc : (rem.erase c == BY) = true) (ho : ops[c]? = some o) (K : Kd D a N l) (hw : Region.wanted o (yielded ops a.tmps) = true) (hd : o.dst = none) (h : Ac P o a w post)
  (k : ∀ v a' w', post v w' → Kd D a' N l → (gZ f c = true → S w') ∧ tQ P O ops S (lN f) (gZ f) R n BY a' w') : wpOp P ops O c (fun a' w' => (gZ f c = true → S w') ∧ tQ P O ops S (lN f) (gZ f) R n (rem.erase c) a' w') a w := by
 obtain rfl : rem.erase c = BY := by simpa using hc
 unfold wpOp;simp only [ho, hw, if_true];refine .inl (h _ _ fun v w' hp => ?_);rw [hd];exact k v _ w' hp K
theorem xQ {St Rt : Type} {Rel : St → Act → World → Prop} {kk : St → Option Rt} {jf : (St → Option Rt) → Option Rt} {r : Rt} {p : Code} (h : jf kk = some r) (hk : ∀ st a w, Rel st a w → kk st = some r → Q .normal a w)
  (hc : ∀ kk : St → Option Rt, (∀ st a w, Rel st a w → kk st = some r → Q .normal a w) → jf kk = some r → p.wp P Q a w) : p.wp P Q a w := hc kk hk h
def Bo (P : Program) (o : Oper) (a : Act) (w : World) (Pn : List PanicEntry → World → Prop) : Prop :=
 ∀ (K : Act → World → Prop) (Q : Exit → Act → World → Prop), (∀ ch w', Pn ch w' → Q (.panic ch) a w') → o.wp P a w K Q
theorem SB {Pn : List PanicEntry → World → Prop} {fi : FuncId} {x : Operand} {cap vs : List Value} {args : Array Operand} {ts : Array TypeId} (ho : o.op = .call { callee := .value x, args := args, argTypes := ts }) (hf : gM P fi = true) (K : Kd D a N l) (hx : gC l x = some (.func (.func fi) #[] cap.toArray)) (hargs : args.toList.map (gC l) = vs.map some)
  (h : Calls P fi (vs ++ cap).toArray w fun e w' => ∃ ch, e = .panicked ch ∧ Pn ch w') : Bo P o a w Pn := by
 have hE : args.map a.eval = vs.toArray := by
  apply Array.ext'
  simp only [Array.toList_map]
  have : ∀ (xs : List Operand) (vs : List Value), xs.map (gC l) = vs.map some → xs.map a.eval = vs := by
   intro xs
   induction xs with
   | nil => intro vs h; cases vs <;> simp_all
   | cons x xs ih =>
    intro vs h;cases vs with
    | nil => simp at h
    | cons v vs => simp only [List.map_cons, List.cons.injEq] at h ⊢; exact ⟨K.ev h.1, ih vs h.2⟩
  exact this _ _ hargs
 have hrun : (execOp a.eval o).run P w = .ok (.enter fi (vs ++ cap).toArray) w := by
  unfold gM at hf
  split at hf
  ·rename_i fn hfn
   simp only [Bool.and_eq_true, bne_iff_ne, ne_eq] at hf;obtain ⟨b, hb⟩ := Option.isSome_iff_exists.1 hf.1;unfold execOp
   simp [ho, resolve, K.ev hx, hE, Deferred.ofValue, invoke, callFunc, hfn, hb, hf.2]
  ·cases hf
 intro K' Q hK;unfold Oper.wp;rw [hrun, Oper.upon_enter];refine h.mono ?_;rintro e w' ⟨ch, rfl, hp⟩;exact hK ch w' hp
theorem qC {Pn : List PanicEntry → World → Prop} {x : Operand} {T : TypeId} {u : Value} (ho : o.op = .panic x) (K : Kd D a N l) (hx : gC l x = some (.iface T u)) (h : Pn [{ v := .iface T u, recovered := false }] w) : Bo P o a w Pn := by
 intro K2 Q2 hQ;unfold Oper.wp
 have : (execOp a.eval o).run P w = .halt (.panic (.iface T u)) w := by
  unfold execOp
  simp [ho, K.ev hx, run_panic_iface, Result.andThen]
 rw [this];exact hQ _ _ h
theorem qD {rest : List Oper} {Pn : List PanicEntry → World → Prop} (K : Kd D a N l) (hw : Region.wanted o (yielded ops a.tmps) = true) (h : Bo P o a w Pn) (k : ∀ ch w', Pn ch w' → Q (.panic ch) a w') : wpList P ops Q (o :: rest) a w := by
 refine wpList_step fun Kc hK => ?_
 rw [if_pos hw];exact h _ _ k
theorem dG {K : Act → World → Prop} {ch : List PanicEntry} (h : Q (.panic ch) a w) : Exit.then K Q (.panic ch) a w := h
theorem iM {id : Nat} {ch : List PanicEntry} (h : Q (.panic ch) a w) : Exit.inBlock id Q (.panic ch) a w := h
theorem jN {fn : Func} {Rp : Ending → World → Prop} {ch : List PanicEntry} (hd : a.defers = []) (h : Rp (.panicked ch) w) : bodyPost P fn Rp (.panic ch) a w := ⟨hd, h⟩
theorem yL (h : R a w) : tQ P O ops S (lN f) (gZ f) R 0 [] a w := ⟨rfl, h⟩
end
section
variable {P : Program} {S : World → Prop} {base : Nat} {W w : World} {L : List jM} {D : List Deferred} {a : Act} {N : Nat} {l : List (Nat × Value)} {o : Oper} {v v' : Value} {x y ix : Operand} {k : IntKind} {m n : Int} {t e t' : TypeId} {g off : Nat} {cs : List Value} {α : Type} {C : qQ α} {xs ys zs : List α} {A B : Option Addr} {c c' : Nat}
theorem Wd : (⟨g, off, none⟩ : Addr).add 0 = ⟨g, off, none⟩ := by unfold Addr.add; split <;> simp_all
theorem nX {len s : Nat} (ho : o.op = .slice t x none none none) (ht : P.underlying t = some (.array len e)) (hsz : (P.info? e).map (·.size) = some s) (K : Kd D a N l) (hx : gC l x = some (.pointer (some ⟨g, off, none⟩))) :
  Rd P S a o (.slice (some ⟨g, off, none⟩) len len) := fun w _ => by
 simp only [Option.map_eq_some_iff] at hsz;obtain ⟨i, oA, hs⟩ := hsz;unfold execOp
 simp [ho, K.ev hx, Instr.sliceAt, Instr.sliceBounds, Instr.sureAddr, run_underlying ht, sizeOf, typeInfo, oA, hs, Wd]
theorem Hm (hx : (cs.drop off).take (C.all xs).length = C.all xs) (h : gK w g t cs.toArray) : SL w C (some ⟨g, off, none⟩) xs := fun _ => ⟨g, off, rfl, fun j u hu => by
 rw [h.cell];have hj : j < (C.all xs).length := (List.getElem?_eq_some_iff.1 hu).1;rw [← hx, List.getElem?_take, if_pos hj, List.getElem?_drop] at hu
 simpa using hu⟩
theorem jW (ho : o.op = .makeInterface t x) (ht : P.concrete t = true) (K : Kd D a N l) (hx : gC l x = some v) : Rd P S a o (.iface t v) := fun w _ => by
 unfold execOp
 simp [ho, K.ev hx, run_makeInterface w t v ht]
theorem FK {b s j len : Nat} (ho : o.op = .indexAddr t x ix) (ht : Hc P t e s b = true) (K : Kd D a N l) (hx : gC l x = some (.slice (some ⟨g, 0, none⟩) len c)) (hi : gC l ix = some (.int k j)) (hj : Nat.blt j len = true) : Rd P S a o (.pointer (some ⟨g, j * s, none⟩)) := fun w _ => by
  obtain ⟨hu, i, oA, hs, _⟩ := jR ht
  have h1 : (j : Int) < len := by have : j < len := by simpa [Nat.blt_eq] using hj
                                  omega
  have hadd : (⟨g, 0, none⟩ : Addr).add (j * s) = ⟨g, j * s, none⟩ := by unfold Addr.add; split <;> simp_all
  unfold execOp
  simp [ho, K.ev hx, K.ev hi, Instr.indexAt, asIntOf, run_underlying hu, sizeOf, typeInfo, oA, hs, h1, hadd]
  intro hh; omega
theorem SL.Gi {C : qQ α} {A : Option Addr} {xs : List α} (h : SL w C A xs) (hA : A.isNone = true) : xs = [] := by
 rcases Nat.eq_zero_or_pos xs.length with h0 | h0
 ·exact List.length_eq_zero_iff.1 h0
 ·obtain ⟨b, o', rfl, _⟩ := h h0;cases hA
theorem u7 {n : Nat} (ho : o.op = .binOp .eql t x y t') (ht : ∃ e, P.underlying t = some (.slice e)) (K : Kd D a N l) (hx : gC l x = some (.slice A n c)) (hy : gC l y = some (.slice none 0 0)) : Rd P S a o (.bool A.isNone) := fun w hS => by
 obtain ⟨e, ht⟩ := ht;unfold execOp;simp only [ho, K.ev hx, K.ev hy, Sem.run_bind];have h1 := Lib.run_eql_slice_nil (P := P) w t e A n c 0 0 ht
 cases A <;> simp [eqGuard, h1]
theorem xR {f : FuncId} {vs : List Value} {u : Value} {mn : String} {args : Array Operand} {ts : Array TypeId} (ho : o.op = .call { callee := .invoke x mn, args := args, argTypes := ts }) (hf : gM P f = true)
  (hm : ∀ v w, (method (P.types.size + Made.depth) t v mn).run P w = .ok (f, v) w) (K : Kd D a N l) (hx : gC l x = some (.iface t u)) (hargs : args.toList.map (gC l) = vs.map some) {post : Value → World → Prop}
  (h : Calls P f (u :: vs).toArray w fun e w' => ∃ v, e = .returned v ∧ post v w') : Ac P o a w post := by
 have hE : args.map a.eval = vs.toArray := by
  apply Array.ext'
  simp only [Array.toList_map]
  have : ∀ (xs : List Operand) (vs : List Value), xs.map (gC l) = vs.map some → xs.map a.eval = vs := by
   intro xs
   induction xs with
   | nil => intro vs h; cases vs <;> simp_all
   | cons x xs ih =>
    intro vs h;cases vs with
    | nil => simp at h
    | cons v vs => simp only [List.map_cons, List.cons.injEq] at h ⊢; exact ⟨K.ev h.1, ih vs h.2⟩
  exact this _ _ hargs
 have hrun : (execOp a.eval o).run P w = .ok (.enter f (u :: vs).toArray) w := by
  unfold gM at hf
  split at hf
  ·rename_i fn hfn
   simp only [Bool.and_eq_true, bne_iff_ne, ne_eq] at hf;obtain ⟨b, hb⟩ := Option.isSome_iff_exists.1 hf.1;unfold execOp
   simp [ho, resolve, K.ev hx, hE, invoke, callMethod, hm, callFunc, hfn, hb, hf.2]
  ·cases hf
 intro K' Q hK;unfold Oper.wp;rw [hrun, Oper.upon_enter];refine h.mono ?_;rintro e w' ⟨v, rfl, hp⟩;exact hK v w' hp
theorem Ds {b s : Nat} (ho : o.op = .buildSlice t 0 #[]) (ht : Hc P t e s b = true) (hs : s = C.size) (K : Kd D a N l) (M : Mem base W w L) :
  Ac P o a w fun v w' => ∃ g, v = .slice (some ⟨g, 0, none⟩) ([] : List α).length 0 ∧ Mem base W w' (.row e s (some ⟨g, 0, none⟩) ([] : List α).length 0 (C.all ([] : List α)) :: L) := by
 refine rU (v := .slice (some ⟨w.heap.size, 0, none⟩) 0 0) (w' := w.alloc (.cells #[] e)) ?_ ⟨_, rfl, ?_⟩
 ·obtain ⟨hu, i, oA, hsz, _⟩ := jR ht;unfold execOp
  simp [ho, Instr.buildSlice, Sem.run_bind, run_underlying hu, Result.andThen_ok, sizeOf, typeInfo, run_program, oA, hsz, Instr.fill, newRow, run_newObj_alloc]
  congr 2
  exact Array.eq_empty_of_size_eq_zero (by simp)
 ·exact (M.new e []).iF 0 rfl C [] rfl rfl hs
theorem O6 {n : Nat} {ds cs' : List Value} (ho : o.op = .store t x y) (ht : Ce P t n = true) (K : Kd D a N l) (hx : gC l x = some (.pointer (some ⟨g, off, none⟩))) (hy : gC l y = some (.agg ds.toArray)) (h1 : ds.all (·.oneCell') = true) (i : Nat) (M : Mem base W w L) (hi : L[i]? = some (.blk g t' cs)) (hn : ds.length = n) (hl : Nat.ble (off + ds.length) cs.length = true)
  (hc : cs.take off ++ (ds ++ cs.drop (off + ds.length)) = cs') : Ac P o a w fun _ w' => Mem base W w' (L.set i (.blk g t' cs')) := by
 subst hc;obtain ⟨d, _, _, hsz⟩ := Az ht;simp only [Option.map_eq_some_iff] at hsz;obtain ⟨inf, oA, hsz⟩ := hsz;have hr := run_storeCells_at P g off t' ds 0 cs.toArray w (M.aK hi) (by simpa using Nat.le_of_ble_eq_true hl) (by simpa using h1);refine F8 (w' := w.setRow g (cs.take off ++ (ds ++ cs.drop (off + ds.length))).toArray) ?_ (M.setRow i hi _);unfold execOp;have hcell : (Value.agg ds.toArray).cells = ds.toArray := rfl;simp only [Nat.add_zero, List.append_assoc] at hr;subst hn
 simp [ho, K.ev hx, K.ev hy, Instr.storeAt, Instr.sureAddr, storeVar, sizeOf, typeInfo, oA, hsz, hcell, hr]
theorem BF {p : Code} {Q : Exit → Act → World → Prop} {w : World} (n : Nat) (h : Code.rounds P p Q n a w) : (Code.loop p).wp P Q a w := wp_loop_rounds n h
theorem gS {p : Code} {Q : Exit → Act → World → Prop} {w : World} {n : Nat} (h : p.wp P (Exit.then (Code.rounds P p Q n) Q) a w) : Code.rounds P p Q (n + 1) a w := h
end
abbrev I (n : Int) : Value := .int .i64 n
inductive Stp (P : Program) (ops : Array Oper) (S : World → Prop) (D : List Deferred) (N : Nat) (l : List (Nat × Value)) (o : Oper) (v : Value) : Prop where
 | yes (hw : ∀ a, Kd D a N l → Region.wanted o (yielded ops a.tmps) = true) (hr : ∀ a, Kd D a N l → Rd P S a o v)
 | no (hw : ∀ a, Kd D a N l → Region.wanted o (yielded ops a.tmps) = false) (hv : undef = v)
section
variable {P : Program} {base : Nat} {W w : World} {L : List jM} {S : World → Prop} {D : List Deferred} {a : Act} {N : Nat} {l : List (Nat × Value)} {o : Oper} {v : Value} {post : Value → World → Prop}
  {ops : Array Oper} {Q : Exit → Act → World → Prop} {R : Act → World → Prop} {rest : List Oper} {d : Nat} {f : List Nat}
theorem fG (K : Kd D a N l) (M : Mem base W w L) (k : ∀ a', Kd D a' N ((d, v) :: l) → wpList P ops Q rest a' w) (hd : o.dst = some d := by exact rfl) (hN : Nat.blt d N = true := by exact rfl)
    (hs : Stp P ops (fun w => Mem base W w L) D N l o v := by
      first
      | exact .no (fun a K => K.no rfl rfl rfl rfl) rfl
      | exact .no (fun a K => K.VM rfl rfl rfl) rfl
      | exact .yes (by first | exact fun a K => aA rfl | exact fun a K => K.yes rfl rfl rfl) (by
         first
         | exact fun a K => fM rfl K rfl
         | exact fun a K => u4 rfl K rfl
         | exact fun a K => iQ rfl K rfl rfl
         | exact fun a K => rR rfl K rfl rfl
         | exact fun a K => oW rfl K rfl
         | exact fun a K => AE rfl K rfl rfl
         | exact fun a K => rd_not rfl K rfl
         | exact fun a K => jJ rfl K rfl rfl
         | exact fun a K => iT rfl K rfl rfl
         | exact fun a K => D7 rfl K rfl rfl
         | exact fun a K => Db rfl K rfl rfl
         | exact fun a K => IG rfl K rfl rfl
         | exact fun a K => IH rfl K rfl rfl
         | exact fun a K => Hd rfl K rfl rfl
         | exact fun a K => IE rfl K rfl rfl
         | exact fun a K => IF rfl K rfl rfl
         | exact fun a K => Ea rfl K rfl rfl
         | exact fun a K => D9 rfl K rfl rfl
         | exact fun a K => D8 rfl K rfl rfl)) : wpList P ops Q (o :: rest) a w := by
  cases hs with
  | yes hw hr => exact Sa K (hw a K) hd hN (hr a K) M k
  | no hw hv => subst hv; exact X0 K (hw a K) hd hN k
theorem eO (M : Mem base W w L) (k : ∀ a', Kd D a' N ((d, v) :: l) → wpList P ops Q rest a' w) (hd : o.dst = some d := by exact rfl) (hN : Nat.blt d N = true := by exact rfl)
    (hs : Stp P ops (fun w => Mem base W w L) D N l o v := by
      first
      | exact .no (fun a K => K.no rfl rfl rfl rfl) rfl
      | exact .no (fun a K => K.VM rfl rfl rfl) rfl
      | exact .yes (by first | exact fun a K => aA rfl | exact fun a K => K.yes rfl rfl rfl) (by
         first
         | exact fun a K => fM rfl K rfl
         | exact fun a K => u4 rfl K rfl
         | exact fun a K => iQ rfl K rfl rfl
         | exact fun a K => rR rfl K rfl rfl
         | exact fun a K => oW rfl K rfl
         | exact fun a K => AE rfl K rfl rfl
         | exact fun a K => rd_not rfl K rfl
         | exact fun a K => jJ rfl K rfl rfl
         | exact fun a K => iT rfl K rfl rfl
         | exact fun a K => D7 rfl K rfl rfl
         | exact fun a K => Db rfl K rfl rfl
         | exact fun a K => IG rfl K rfl rfl
         | exact fun a K => IH rfl K rfl rfl
         | exact fun a K => Hd rfl K rfl rfl
         | exact fun a K => IE rfl K rfl rfl
         | exact fun a K => IF rfl K rfl rfl
         | exact fun a K => Ea rfl K rfl rfl
         | exact fun a K => D9 rfl K rfl rfl
         | exact fun a K => D8 rfl K rfl rfl)) : ∀ a, Kd D a N l → wpList P ops Q (o :: rest) a w := fun a K => fG K M k hd hN hs
theorem aP (hr : ∀ a, Kd D a N l → Rd P (fun w => Mem base W w L) a o v) (M : Mem base W w L) (k : ∀ a', Kd D a' N ((d, v) :: l) → wpList P ops Q rest a' w)
  (hw : ∀ a, Kd D a N l → Region.wanted o (yielded ops a.tmps) = true := by first | exact fun a K => aA rfl | exact fun a K => K.yes rfl rfl rfl) (hd : o.dst = some d := by exact rfl) (hN : Nat.blt d N = true := by exact rfl) :
  ∀ a, Kd D a N l → wpList P ops Q (o :: rest) a w := fun a K => Sa K (hw a K) hd hN (hr a K) M k
theorem mU (K : Kd D a N l) (hr : Rd P (fun w => Mem base W w L) a o v) (M : Mem base W w L) (k : ∀ a', Kd D a' N ((d, v) :: l) → wpList P ops Q rest a' w)
  (hw : ∀ a, Kd D a N l → Region.wanted o (yielded ops a.tmps) = true := by first | exact fun a K => aA rfl | exact fun a K => K.yes rfl rfl rfl) (hd : o.dst = some d := by exact rfl) (hN : Nat.blt d N = true := by exact rfl) :
  wpList P ops Q (o :: rest) a w := Sa K (hw a K) hd hN hr M k
theorem iB (K : Kd D a N l) (h : Ac P o a w post) (k : ∀ v a' w', post v w' → Kd D a' N ((d, v) :: l) → wpList P ops Q rest a' w')
  (hw : ∀ a, Kd D a N l → Region.wanted o (yielded ops a.tmps) = true := by first | exact fun a K => aA rfl | exact fun a K => K.yes rfl rfl rfl) (hd : o.dst = some d := by exact rfl) (hN : Nat.blt d N = true := by exact rfl) :
  wpList P ops Q (o :: rest) a w := Ut K (hw a K) hd hN h k
theorem qG (K : Kd D a N l) (h : Ac P o a w post) (k : ∀ v a' w', post v w' → Kd D a' N l → wpList P ops Q rest a' w')
  (hw : ∀ a, Kd D a N l → Region.wanted o (yielded ops a.tmps) = true := by first | exact fun a K => aA rfl | exact fun a K => K.yes rfl rfl rfl) (hd : o.dst = none := by exact rfl) :
  wpList P ops Q (o :: rest) a w := Uu K (hw a K) hd h k
theorem VC (K : Kd D a N l) (k : ∀ a', Kd D a' N ((d, v) :: l) → mW P ops S R (marked f rest) a' w) (hd : o.dst = some d := by exact rfl) (hN : Nat.blt d N = true := by exact rfl)
    (hs : Stp P ops S D N l o v := by
      first
      | exact .no (fun a K => K.no rfl rfl rfl rfl) rfl
      | exact .no (fun a K => K.VM rfl rfl rfl) rfl
      | exact .yes (by first | exact fun a K => aA rfl | exact fun a K => K.yes rfl rfl rfl) (by
         first
         | exact fun a K => fM rfl K rfl
         | exact fun a K => u4 rfl K rfl
         | exact fun a K => iQ rfl K rfl rfl
         | exact fun a K => rR rfl K rfl rfl
         | exact fun a K => oW rfl K rfl
         | exact fun a K => AE rfl K rfl rfl
         | exact fun a K => rd_not rfl K rfl
         | exact fun a K => jJ rfl K rfl rfl
         | exact fun a K => iT rfl K rfl rfl
         | exact fun a K => D7 rfl K rfl rfl
         | exact fun a K => Db rfl K rfl rfl
         | exact fun a K => IG rfl K rfl rfl
         | exact fun a K => IH rfl K rfl rfl
         | exact fun a K => Hd rfl K rfl rfl
         | exact fun a K => IE rfl K rfl rfl
         | exact fun a K => IF rfl K rfl rfl
         | exact fun a K => Ea rfl K rfl rfl
         | exact fun a K => D9 rfl K rfl rfl
         | exact fun a K => D8 rfl K rfl rfl)) : mW P ops S R (marked (0 :: f) (o :: rest)) a w := by
  cases hs with
  | yes hw hr => exact Uv K (hw a K) hd hN (hr a K) k
  | no hw hv => subst hv; exact X1 K (hw a K) hd hN k
theorem Kb (k : ∀ a', Kd D a' N ((d, v) :: l) → mW P ops S R (marked f rest) a' w) (hd : o.dst = some d := by exact rfl) (hN : Nat.blt d N = true := by exact rfl)
    (hs : Stp P ops S D N l o v := by
      first
      | exact .no (fun a K => K.no rfl rfl rfl rfl) rfl
      | exact .no (fun a K => K.VM rfl rfl rfl) rfl
      | exact .yes (by first | exact fun a K => aA rfl | exact fun a K => K.yes rfl rfl rfl) (by
         first
         | exact fun a K => fM rfl K rfl
         | exact fun a K => u4 rfl K rfl
         | exact fun a K => iQ rfl K rfl rfl
         | exact fun a K => rR rfl K rfl rfl
         | exact fun a K => oW rfl K rfl
         | exact fun a K => AE rfl K rfl rfl
         | exact fun a K => rd_not rfl K rfl
         | exact fun a K => jJ rfl K rfl rfl
         | exact fun a K => iT rfl K rfl rfl
         | exact fun a K => D7 rfl K rfl rfl
         | exact fun a K => Db rfl K rfl rfl
         | exact fun a K => IG rfl K rfl rfl
         | exact fun a K => IH rfl K rfl rfl
         | exact fun a K => Hd rfl K rfl rfl
         | exact fun a K => IE rfl K rfl rfl
         | exact fun a K => IF rfl K rfl rfl
         | exact fun a K => Ea rfl K rfl rfl
         | exact fun a K => D9 rfl K rfl rfl
         | exact fun a K => D8 rfl K rfl rfl)) : ∀ a, Kd D a N l → mW P ops S R (marked (0 :: f) (o :: rest)) a w := fun a K => VC K k hd hN hs
theorem fU (hr : ∀ a, Kd D a N l → Rd P S a o v) (k : ∀ a', Kd D a' N ((d, v) :: l) → mW P ops S R (marked f rest) a' w)
  (hw : ∀ a, Kd D a N l → Region.wanted o (yielded ops a.tmps) = true := by first | exact fun a K => aA rfl | exact fun a K => K.yes rfl rfl rfl) (hd : o.dst = some d := by exact rfl) (hN : Nat.blt d N = true := by exact rfl) :
  ∀ a, Kd D a N l → mW P ops S R (marked (0 :: f) (o :: rest)) a w := fun a K => Uv K (hw a K) hd hN (hr a K) k
theorem YV (K : Kd D a N l) (hr : Rd P S a o v) (k : ∀ a', Kd D a' N ((d, v) :: l) → mW P ops S R (marked f rest) a' w)
  (hw : ∀ a, Kd D a N l → Region.wanted o (yielded ops a.tmps) = true := by first | exact fun a K => aA rfl | exact fun a K => K.yes rfl rfl rfl) (hd : o.dst = some d := by exact rfl) (hN : Nat.blt d N = true := by exact rfl) :
  mW P ops S R (marked (0 :: f) (o :: rest)) a w := Uv K (hw a K) hd hN hr k
theorem qV (K : Kd D a N l) (h : Ac P o a w post) (k : ∀ v a' w', post v w' → Kd D a' N ((d, v) :: l) → S w' ∧ mW P ops S R (marked f rest) a' w')
  (hw : ∀ a, Kd D a N l → Region.wanted o (yielded ops a.tmps) = true := by first | exact fun a K => aA rfl | exact fun a K => K.yes rfl rfl rfl) (hd : o.dst = some d := by exact rfl) (hN : Nat.blt d N = true := by exact rfl) :
  mW P ops S R (marked (1 :: f) (o :: rest)) a w := Uw K (hw a K) hd hN h k
theorem CC (K : Kd D a N l) (h : Ac P o a w post) (k : ∀ v a' w', post v w' → Kd D a' N l → mW P ops S R (marked f rest) a' w')
  (hw : ∀ a, Kd D a N l → Region.wanted o (yielded ops a.tmps) = true := by first | exact fun a K => aA rfl | exact fun a K => K.yes rfl rfl rfl) (hd : o.dst = none := by exact rfl) :
  mW P ops S R (marked (2 :: f) (o :: rest)) a w := VP K (hw a K) hd h k
end
theorem pU (l : List UInt8) : (bs l).size = l.length := by simp [bs, ByteArray.size]
theorem Ke (l : List UInt8) : (bs l).toList = l := ByteArray.toList_mk l
theorem O7 (l m : List UInt8) : bs l ++ bs m = bs (l ++ m) := by
 apply ByteArray.ext
 simp [bs, ByteArray.data_append]
section
variable {P : Program} {base : Nat} {W w : World} {L : List jM} {S : World → Prop} {D : List Deferred} {a : Act} {N : Nat} {l : List (Nat × Value)} {o : Oper} {x y ix : Operand} {t t' e : TypeId} {m n p q : Int} {k k' : IntKind}
  {xs ys zs : List UInt8} {A : Option Addr} {c : Nat} {ns : List Int}
theorem gT (ho : o.op = .call { callee := .builtin .len, args := #[x], argTypes := #[t] }) (h : P.underlying t = some .string) (K : Kd D a N l) (hx : gC l x = some (.string (bs xs))) : Rd P S a o (.int .i64 xs.length) := by
 have := R6 (P := P) (S := S) ho h K hx;rw [pU] at this;exact this
theorem oX (ho : o.op = .index t x ix) (ht : P.underlying t = some .string) (K : Kd D a N l) (hx : gC l x = some (.string (bs xs))) (hi : gC l ix = some (.int k n)) {b : UInt8} (he : idx xs n = some b) : Rd P S a o (.int .u8 (b.toNat : Int)) :=
 Ur ho ht K hx hi he
theorem jQ (ho : o.op = .binOp .add t x y t') (K : Kd D a N l) (hx : gC l x = some (.string (bs xs))) (hy : gC l y = some (.string (bs ys))) (hz : sV xs ys = some zs) : Rd P S a o (.string (bs zs)) := by
 obtain ⟨rfl, h⟩ := OW hz;refine oH ho K hx hy fun w => ?_
 have h1 := pU xs;have h2 := pU ys
 simp [eqGuard, binOp_string_add, Op.stringOp, O7]
 omega
theorem t8 (ho : o.op = .binOp .eql t x y t') (K : Kd D a N l) (hx : gC l x = some (.string (bs xs))) (hy : gC l y = some (.string (bs ys))) : Rd P S a o (.bool (decide (xs = ys))) :=
 oH ho K hx hy fun w => by
  have e : (xs == ys) = decide (xs = ys) := by rw [Bool.eq_iff_iff]; simp
  rw [Sem.run_bind]; simp [eqGuard, binOp_string_eql, Ke, e]
theorem EL (ho : o.op = .binOp .neq t x y t') (K : Kd D a N l) (hx : gC l x = some (.string (bs xs))) (hy : gC l y = some (.string (bs ys))) : Rd P S a o (.bool (!decide (xs = ys))) :=
 oH ho K hx hy fun w => by
  have e : (xs == ys) = decide (xs = ys) := by rw [Bool.eq_iff_iff]; simp
  rw [Sem.run_bind]; simp [eqGuard, binOp_string_neq, Ke, e]
theorem xS {b : Nat} (ho : o.op = .convert t t' x) (ht : Hc P t e 1 b = true) (he : P.underlying e = some (.int .u8)) (hd : P.underlying t' = some .string) (K : Kd D a N l) (hx : gC l x = some (.slice A ns.length c)) (hb : ∀ w, S w → SL w (cI .u8) A ns) : Rd P S a o (.string (bs (toB ns))) := fun w hS => by
 obtain ⟨hu, _⟩ := jR ht;unfold execOp;simp only [ho, K.ev hx]
 have key : (convert t t' (.slice A ns.length c)).run P w = .ok (.string (bs (toB ns))) w := by
  by_cases h0 : 0 < ns.length
  ·obtain ⟨b, off, rfl, hc⟩ := hb w hS h0;refine run_convert_bytes_arg w t e hu he b off ns.length c ns rfl (fun i hi => ?_) t' hd;refine hc i _ ?_;have := qQ.vL (cI .u8) ns i 0 ns[i] (.int .u8 ns[i]) (List.getElem?_eq_getElem hi) rfl;rw [List.getD_eq_getElem?_getD, List.getElem?_eq_getElem hi];have h1 : (cI .u8).size = 1 := rfl;rw [h1, Nat.mul_one, Nat.add_zero] at this;exact this
  ·have hn : ns = [] := List.eq_nil_of_length_eq_zero (by omega);subst hn;cases A with
   | none => exact run_convert_bytes_nil w t e hu he _ _ t' hd
   | some ad =>
    rw [run_convert_bytes_string w t t' e (some ad) _ c hu he hd];exact run_bytesToString w ad 0 c [] (run_loadCells_list (P := P) w ad [] (fun j v hj => by simp at hj))
 simp [key]
theorem O8 {b : Nat} (ho : o.op = .convert t t' x) (ht : Hc P t e 1 b = true) (he : P.underlying e = some (.int .u8)) (hd : P.underlying t' = some .string) (K : Kd D a N l) (hx : gC l x = some (.slice A ns.length c)) (M : Mem base W w L) (R : SL w (cI .u8) A ns) :
  Ac P o a w fun v w' => v = .string (bs (toB ns)) ∧ Mem base W w' L :=
 rU (xS (S := fun w' => w' = w) ho ht he hd K hx (fun w' hw => hw ▸ R) w rfl) ⟨rfl, M⟩
theorem hT {lo hi : Option Operand} (ho : o.op = .slice t x lo hi none) (ht : P.underlying t = some .string) (K : Kd D a N l) (hx : gC l x = some (.string (bs xs)))
  (hlo : (match lo with | some z => gC l z = some (.int k p) | none => p = 0)) (hhi : (match hi with | some z => gC l z = some (.int k' q) | none => q = xs.length)) (hy : DG xs p q = some ys) : Rd P S a o (.string (bs ys)) := fun w _ => by
 obtain ⟨h0, h1, h2, rfl⟩ := F5 hy;have hs : ((bs xs).size : Int) = xs.length := by rw [pU]
 have hex : (bs xs).extract p.toNat q.toNat = bs ((xs.take q.toNat).drop p.toNat) := by
  rw [show bs xs = ByteArray.mk xs.toArray from rfl, ByteArray.extract_mk, List.drop_take]; rfl
 have hS : ∀ a b c, (Instr.sliceAt t (.string (bs xs)) a b c).run P w = (Instr.slice t (.string (bs xs)) a b c).run P w := fun a b c => by rw [run_sliceAt_string w t _ a b c ht]
 unfold execOp;cases lo with
 | none =>
  simp only at hlo; subst hlo;cases hi with
  | none =>
   simp only at hhi; subst hhi;have := run_slice_string_all (P := P) w t (bs xs) ht;rw [pU] at this;rw [Int.toNat_zero, Int.toNat_natCast] at hex;rw [hex] at this;simp only [ho, K.ev hx, Sem.run_bind, Option.map, hS, this]
   simp
  | some z =>
   simp only at hhi;have := run_slice_string_to_if (P := P) w t (bs xs) k' q ht;rw [if_pos ⟨by omega, by omega⟩] at this;rw [Int.toNat_zero] at hex;rw [hex] at this;simp only [ho, K.ev hx, K.ev hhi, Sem.run_bind, Option.map, hS, this]
   simp
 | some z =>
  simp only at hlo;cases hi with
  | none =>
   simp only at hhi; subst hhi;have := run_slice_string_from_if (P := P) w t (bs xs) k p ht;rw [if_pos ⟨by omega, by omega⟩, pU] at this;rw [Int.toNat_natCast] at hex;rw [hex] at this;simp only [ho, K.ev hx, K.ev hlo, Sem.run_bind, Option.map, hS, this]
   simp
  | some z2 =>
   simp only at hhi;have := run_slice_string (P := P) w t (bs xs) k k' p q ht h0 h1 (by omega);rw [hex] at this;simp only [ho, K.ev hx, K.ev hlo, K.ev hhi, Sem.run_bind, Option.map, hS, this]
   simp
theorem EM (s : List UInt8) : Lib.strCells (bs s) = (cI .u8).all (lL s) := by
 show s.map (fun b => Value.int .u8 b.toNat) = _
 induction s with
 | nil => rfl
 | cons x s ih =>
  show _ = (cI .u8).enc (x.toNat : Int) ++ (cI .u8).all (lL s);rw [List.map_cons, ih]; rfl
theorem sR (s : List UInt8) : (lL s).length = s.length := by simp [lL]
theorem O9 {i : TypeInfo} {v v' : Value} {n : Nat} {vs : List Value} {w' : World} (s : ByteArray) (ht : P.underlying t = some (.slice e)) (hu : P.underlying t' = some .string) (hi : P.info? e = some i) (hz : i.zero = some (.int .u8 0)) (hsize : i.size = 1) (hby : i.bytes = 1)
  (hown : w.ownsRow 0 e 1 v n vs) (hb : n + s.size ≤ 140737488355328) (ty : TypeId) (hr : (Builtin.append_ #[t, t'] ty #[v, .string s]).run P w = .ok v' w') (h0 : v ≠ .slice none 0 0 ∨ 0 < s.size) : v'.ownBlock = v.ownBlock ∨ v'.ownBlock = some w.heap.size := by
 have hxl : vs.length = n := by simpa using hown.1
 rcases hown.2 with ⟨rfl, rfl⟩ | ⟨g, cap, cur, rfl, hbg, hg, hnc, hcm, hcs, htake⟩
 ·have hm : 0 < s.size := by
   rcases h0 with h0 | h0
   ·exact absurd rfl h0
   ·exact h0
  have := run_append_nil_string (P := P) w t t' ty e i (.int .u8 0) ht hu hi hz s (by omega) (by omega) (by rw [hby]; omega);rw [hr] at this
  injection this with h1 _
  right; rw [h1]; rfl
 ·by_cases hroom : n + s.size ≤ cap
  ·have := Lib.run_append_room_string (P := P) w t t' ty e i ht hu hi hsize g n cap cur hg s hroom (by omega);rw [hr] at this
   injection this with h1 _
   left; rw [h1]; rfl
  ·have holds : ∀ j u, vs[j]? = some u → w.cell? ((⟨g, 0, none⟩ : Addr).add j) = some u := hown.cells (g := g) rfl;have := Lib.run_append_grow_string (P := P) w t t' ty e i (.int .u8 0) ht hu hi hz ⟨g, 0, none⟩ n cap vs (by rw [hsize]; simpa using hxl) holds s (by omega) (by omega) (by rw [hby]; exact growslice_fits (by omega) (by omega));rw [hr] at this
   injection this with h1 _
   right; rw [h1]; rfl
theorem Ot {zs : List Int} (ho : o.op = .call { callee := .builtin .append, args := #[x, y], argTypes := #[t, t'] }) (ht : Hc P t e 1 1 = true) (hu : P.underlying t' = some .string) (hz : (P.info? e).bind (·.zero) = some (.int .u8 0)) (K : Kd D a N l)
  (hx : gC l x = some (.slice A ns.length c)) (hy : gC l y = some (.string (bs ys))) (i : Nat) (M : Mem base W w L) (hi : L[i]? = some (.row e 1 A ns.length c ((cI .u8).all ns))) (hlen : app 1 ns (lL ys) = some zs) :
  Ac P o a w fun v w' => ∃ A' c'', v = .slice A' zs.length c'' ∧ Mem base W w' (L.set i (.row e 1 A' zs.length c'' ((cI .u8).all zs))) := by
 obtain ⟨rfl, hbytes⟩ := IC hlen;rw [sR] at hbytes;obtain ⟨hsl, inf, oA, hsz, hby⟩ := jR ht;have hzz : inf.zero = some (.int .u8 0) := by rw [oA] at hz; exact hz
 have hown := M.has i _ hi;have hsize : (bs ys).size = ys.length := pU ys;have hb2 : ns.length + (bs ys).size ≤ 140737488355328 := by rw [hsize]; omega
 obtain ⟨v', w', hr, h2, h3, h4⟩ := Lib.run_append_own_string (P := P) w 0 t t' o.type e inf hsl hu oA hzz hsz hby (.slice A ns.length c) ns.length ((cI .u8).all ns) hown (bs ys) (by simp only [maxLen]; omega) hb2 (Nat.zero_le _);rw [EM, hsize, ← qQ.all_append] at h2
 by_cases h0 : (Value.slice A ns.length c) = .slice none 0 0 ∧ ys = []
 ·obtain ⟨h00, rfl⟩ := h0
  injection h00 with e1 e2 e3
  subst e1 e3;have hns : ns = [] := List.eq_nil_of_length_eq_zero e2;subst hns
  have hr2 : (Builtin.append_ #[t, t'] o.type #[.slice none ([] : List Int).length 0, .string (bs [])]).run P w = .ok (.slice none 0 0) w := by
   have hf := Lib.run_firstCells_string (P := P) w 1 (bs []);have hm : (bs []).size = 0 := rfl;rw [hm] at hf
   simp [Builtin.append_, run_underlying hsl, run_underlying hu, sizeOf, typeInfo, oA, hsz, Builtin.lenOf, hm, hf]
  refine rU (v := .slice none 0 0) (w' := w) ?_ ⟨none, 0, rfl, ?_⟩
  ·unfold execOp;simp only [ho, resolve, invoke, builtin, Sem.run_bind, Sem.run_pure, Result.andThen_ok, List.map_toArray, List.map_cons, List.map_nil, K.ev hx, K.ev hy];rw [hr2]; rfl
  ·have : L.set i (.row e 1 none (([] : List Int) ++ lL []).length 0 ((cI .u8).all ([] ++ lL []))) = L := by
    obtain ⟨hlt, he⟩ := List.getElem?_eq_some_iff.1 hi;exact he ▸ List.set_getElem_self hlt
   rw [this]; exact M
 have hne : (Value.slice A ns.length c) ≠ .slice none 0 0 ∨ 0 < (bs ys).size := by
  by_cases hy0 : ys = []
  ·left; exact fun e => h0 ⟨e, hy0⟩
  ·right; rw [hsize]; exact List.length_pos_iff.2 hy0
 have hpl := O9 (bs ys) hsl hu oA hzz hsz hby hown hb2 o.type hr hne
 have hv' : v' ≠ .slice none 0 0 := fun e => by
  obtain ⟨q1, q2⟩ := h4.1 e;rw [hsize] at q2;exact h0 ⟨q1, List.eq_nil_of_length_eq_zero q2⟩
 rcases h2.2 with ⟨e1, _⟩ | ⟨g, cap, cur, rfl, _⟩
 ·exact absurd e1 hv'
 refine rU (v := .slice (some ⟨g, 0, none⟩) (ns.length + ys.length) cap) (w' := w') ?_ ⟨some ⟨g, 0, none⟩, cap, by rw [List.length_append, sR], ?_⟩
 ·unfold execOp;simp only [ho, resolve, invoke, builtin, Sem.run_bind, Sem.run_pure, Result.andThen_ok, List.map_toArray, List.map_cons, List.map_nil, K.ev hx, K.ev hy];rw [hr]; rfl
 ·have h3' : w.grownBy w' (A.map (·.block)) := by
   cases A with
   | none => exact h3
   | some ad => exact h3
  rw [List.length_append, sR];refine M.grown i hi h3' h2 ?_
  rcases hpl with hpl | hpl
  ·left
   cases A with
   | none => simp [Value.ownBlock] at hpl
   | some ad => simpa [Value.ownBlock] using hpl.symm
  ·right
   simp [Value.ownBlock] at hpl
   omega
end
end
section
open Go.RowKit Go.WideMaps
section
variable {P : Program} {base : Nat} {W w : World} {L : List jM} {S : World → Prop} {D : List Deferred} {a : Act} {N : Nat} {l : List (Nat × Value)} {o : Oper} {x y z : Operand} {t k e T : TypeId} {g n c : Nat} {A : Option Addr}
  {m m' : List (List UInt8 × Int)} {s : List UInt8} {r : Int × Bool} {v : Int}
theorem Mem.swap {e e' : jM} (M : Mem base W w L) (i : Nat) (hi : L[i]? = some e) (h : jM.holds w e') (hf : e'.foot = e.foot) : Mem base W w (L.set i e') :=
 M.PT i hi (Below.refl _ _) h (fun _ _ _ => rfl) (fun g hg => .inl (hf ▸ hg)) M.MC
theorem Mem.Qp (e : TypeId) (M : Mem base W w (.blk g T [.pointer none, .slice none 0 0] :: L)) : Mem base W w (.row e 1 none ([] : List UInt8).length 0 ((cI .u8).all (lL ([] : List UInt8))) :: .Cd g T none ([] : List UInt8).length 0 :: L) :=
 Mem.aE e 1 (cI .u8) (M.swap 0 rfl (show jM.holds w (.Cd g T none 0 0) from ⟨none, .inl rfl, M.has 0 _ rfl⟩) rfl)
theorem Mem.Tb (M : Mem base W w L) (i : Nat) (hi : L[i]? = some (.blk g T [.pointer (some ⟨g, 0, none⟩), .slice A n c])) : Mem base W w (L.set i (.Cd g T A n c)) :=
 M.swap i hi (show jM.holds w (.Cd g T A n c) from ⟨_, .inr rfl, M.has i _ hi⟩) rfl
theorem Mem.builder {b : List UInt8} (M : Mem base W w (.Cd g T A b.length c :: .row e 1 A b.length c ((cI .u8).all (lL b)) :: L)) : Lib.IsBuilder T e base g (Lib.byteCells b) w := by
 obtain ⟨p, hp, hb⟩ := M.has 0 _ rfl;have hrow : w.ownsRow 0 e 1 (.slice A b.length c) b.length ((cI .u8).all (lL b)) := M.has 1 _ rfl;rw [← EM] at hrow;have hup := M.up 0 _ g rfl rfl
 have hat : Lib.BuilderAt T e base g (.pointer p) (Lib.byteCells b) w := by
  refine ⟨hup, .slice A b.length c, hb, ?_, ?_⟩
  ·rw [Lib.byteCells_length];obtain ⟨h1, h2⟩ := hrow;refine ⟨h1, ?_⟩
   rcases h2 with h2 | ⟨g', cap, cur, q1, q2, q3⟩
   ·exact .inl h2
   ·refine .inr ⟨g', cap, cur, q1, ?_, q3⟩
    injection q1 with q1 _ _
    exact M.up 1 _ g' rfl (by simp [jM.foot, q1])
  ·intro h;cases A with
   | none => simp [Value.ownBlock] at h
   | some ad =>
    have h' : ad.block = g := by simpa [Value.ownBlock] using h
    have := M.one 0 1 _ _ g rfl rfl rfl (by simp [jM.foot, h'])
    omega
 rcases hp with rfl | rfl
 ·exact .inl hat
 ·exact .inr hat
theorem fA {α : Type} {C : qQ α} {xs : List α} {el : α} {b s' : Nat} {i : Int} {kk : IntKind} {w' : World} (ho : o.op = .indexAddr t x y) (ht : Hc P t e s' b = true) (K : Kd D a N l) (hx : gC l x = some (.slice A xs.length c)) (hi : gC l y = some (.int kk i)) (hb : SL w' C A xs) (he : idx xs i = some el) : Rd P S a o (.pointer (some ((Pp A).add (i.toNat * s')))) := fun w hS => by
 obtain ⟨hu, inf, oA, hs, _⟩ := jR ht;obtain ⟨h0, hlt, hel⟩ := tI he;obtain ⟨b', o', hA, hc⟩ := hb (by omega);have h1 : i < xs.length := by omega
 unfold execOp;subst hA
 simp [ho, K.ev hx, K.ev hi, Instr.indexAt, asIntOf, run_underlying hu, sizeOf, typeInfo, oA, hs, h0, h1, Pp]
theorem DI {O : Exit → Act → World → Prop} {ops : Array Oper} {f : List Nat} {d cc n' : Nat} {u : Value} {R : Act → World → Prop} {rem : List Nat} (BY : List Nat) (hc : (rem.erase cc == BY) = true) (ho : ops[cc]? = some o) (K : Kd D a N l) (hw : Region.wanted o (yielded ops a.tmps) = true) (hd : o.dst = some d) (hN : Nat.blt d N = true)
  (hr : Rd P (fun w => Mem base W w L) a o u) (M : Mem base W w L) (k : ∀ a', Kd D a' N ((d, u) :: l) → (gZ f cc = true → S w) ∧ tQ P O ops S (lN f) (gZ f) R n' BY a' w) :
  wpOp P ops O cc (fun a' w' => (gZ f cc = true → S w') ∧ tQ P O ops S (lN f) (gZ f) R n' (rem.erase cc) a' w') a w :=
 hZ BY hc ho K hw hd hN (post := fun v' w' => v' = u ∧ w' = w) (rU (hr w M) ⟨rfl, rfl⟩) fun v' a' w' hp K' => by obtain ⟨rfl, rfl⟩ := hp; exact k a' K'
theorem We {Q : Exit → Act → World → Prop} {St Rt : Type} {Rel : St → Act → World → Prop} {kk : St → Option Rt} {lf : (St → Option Rt) → Nat → St → Option Rt} {r : Rt} {p : Code} {n : Nat} {st : St}
  (h : lf kk n st = some r) (hz : ∀ kk st, lf kk 0 st = none) (h0 : Rel st a w) (hk : ∀ st a w, Rel st a w → kk st = some r → Q .ret a w)
  (round : ∀ (kk : St → Option Rt) n st a w, (∀ st a w, Rel st a w → kk st = some r → Q .ret a w) → Rel st a w → lf kk (n + 1) st = some r → p.wp P (Exit.then (fun a w => ∃ st, Rel st a w ∧ lf kk n st = some r) Q) a w) : (Code.loop p).wp P Q a w := by
 refine PX (I := fun n a w => ∃ st, Rel st a w ∧ lf kk n st = some r) n ⟨st, h0, h⟩ (fun a w ⟨st, _, h⟩ => by rw [hz] at h; cases h) ?_;rintro n a w ⟨st, hr, h⟩;exact round kk n st a w hk hr h
theorem ZM (i : Nat) (h : L[i]? = some (.Lz P k e g m)) : ∀ w, Mem base W w L → SMap P k e w g m := fun _ M => M.has i _ h
theorem SMap.new (w : World) : SMap P k e (w.alloc (.map #[] 0)) w.heap.size [] := ⟨.map [], World.ownsMap_made w P k _, fun s => ⟨rfl, fun z => rfl⟩⟩
theorem Nw (ho : o.op = .makeMap t none) (k e : TypeId) (M : Mem base W w L) : Ac P o a w fun v w' => ∃ g, v = .map (some g) ∧ Mem base W w' (.Lz P k e g [] :: L) := by
 refine rU (v := .map (some w.heap.size)) (w' := w.alloc (.map #[] 0)) ?_ ⟨_, rfl, ?_⟩
 ·unfold execOp
  simp [ho, run_makeMap_plain]
 ·refine (M.below ((Below.refl _ _).alloc (Nat.le_refl _) _)).cons (show jM.holds _ (.Lz P k e w.heap.size []) from SMap.new w) fun g hg => ?_
  simp [jM.foot] at hg
  subst hg;exact ⟨M.sz, fun i e' h he => by have := M.Fw i e' _ h he; omega⟩
theorem Ou (ho : o.op = .lookup t x y true) (ht : P.underlying t = some (.map k e)) (hk : P.underlying k = some .string) (he : P.underlying e = some (.int .i64)) (hz : (P.info? e).bind (·.zero) = some (.int .i64 0)) (K : Kd D a N l)
  (hx : gC l x = some (.map (some g))) (hy : gC l y = some (.string (bs s))) (hM : ∀ w, S w → SMap P k e w g m) (hl : Ly m s = some r) : Rd P S a o (.tuple #[.int .i64 r.1, .bool r.2]) := fun w hS => by
 obtain ⟨rfl, hs⟩ := MR hl;obtain ⟨D, hown, hD⟩ := hM w hS
 have hz : ∀ w, (zeroValue e).run P w = .ok (.int .i64 0) w := fun w => by
  simp only [Option.bind_eq_some_iff] at hz;obtain ⟨inf, oA, hz0⟩ := hz
  simp [zeroValue, typeInfo, oA, hz0]
 have hkey : keyOf P k (.string (bs s)) = some (.string s) := keyOf_string_mk hk (by rw [pU]; unfold maxLen; omega);obtain ⟨v, ps, hrun, hv⟩ := hown.look_ok (Maps.string_keyed hk) ht (hz w) (plainElem_int he (by decide)) hkey;obtain ⟨c, rfl, hc, _⟩ := plainElem_int_inv he hv;obtain ⟨h1, h2⟩ := hD s;simp only [Prod.mk.injEq] at hc
 have hcc : c = (yR m s).getD 0 := by
  have h3 := h2 (.lit (.int .i64 0));rw [hc.1] at h3;cases hm : yR m s with
  | none => rw [hm] at h3; simp at h3; simp [h3]
  | some q => rw [hm] at h3; simp at h3; simp [h3]
 subst hcc;rw [h1] at hrun;unfold execOp
 simp [ho, K.ev hx, K.ev hy, hrun]
theorem Kf (ho : o.op = .mapUpdate t x y z) (ht : P.underlying t = some (.map k e)) (hk : P.underlying k = some .string) (he : P.underlying e = some (.int .i64)) (K : Kd D a N l)
  (hx : gC l x = some (.map (some g))) (hy : gC l y = some (.string (bs s))) (hv : gC l z = some (.int .i64 v)) (i : Nat) (M : Mem W.heap.size W w L) (hi : L[i]? = some (.Lz P k e g m)) (hp : PQ m s v = some m') :
  Ac P o a w fun _ w' => Mem W.heap.size W w' (L.set i (.Lz P k e g m')) := by
 obtain ⟨rfl, h1, h2, h3, h4⟩ := OS hp;obtain ⟨D, hown, hD⟩ := M.has i _ hi;have hkey : keyOf P k (.string (bs s)) = some (.string s) := keyOf_string_mk hk (by rw [pU]; unfold maxLen; omega);obtain ⟨w', hrun, hown', hg⟩ := hown.update (Maps.string_keyed hk) ht (by unfold maxLen; omega) hkey (plainElem_int he (WalkArith.wf_i64 ⟨h3, h4⟩));refine F8 (w' := w') ?_ (M.VN rfl i hi ((Below.refl _ w).grown hg M.sz fun k hk => M.up i _ k hi (by cases hk; rfl)) (show jM.holds w' (.Lz P k e g ((s, v) :: m)) from ⟨_, hown', fun s' => ?_⟩) (fun j hj hne => hg.block j hj fun h => hne (by cases h; rfl)) (fun g' hg' => .inl hg'))
 ·unfold execOp
  simp [ho, K.ev hx, K.ev hy, K.ev hv, hrun]
 ·have hkl : WideAt.IsKeyLit (.string s) := trivial
  by_cases hs : s = s'
  ·subst hs;refine ⟨?_, fun z => ?_⟩
   ·rw [Maps.has_put_same hown.isMap hkl]; simp [yR]
   ·rw [Maps.atKey_put_same hown.isMap hkl]; simp [yR]
  ·have hne : (Lit.string s' : Lit) ≠ .string s := fun h => hs (by injection h with h; exact h.symm)
   obtain ⟨q1, q2⟩ := hD s';refine ⟨?_, fun z => ?_⟩
   ·rw [Maps.has_put_other hne, q1]; simp [yR, hs]
   ·rw [Maps.atKey_put_other hne, q2]; simp [yR, hs]
end
end
section
open Go.RowKit
section
variable {P : Program} {base : Nat} {W w : World} {L H T : List jM} {e : jM}
theorem Mem.tl (M : Mem base W w (e :: L)) : Mem base W w L :=
 ⟨M.low, M.MC, M.bs, fun i e' h => M.has (i + 1) e' h, fun i e' g h hf => M.up (i + 1) e' g h hf, fun i j e1 e2 g h1 h2 f1 f2 => by
  have := M.one (i + 1) (j + 1) e1 e2 g h1 h2 f1 f2
  omega⟩
theorem Mem.oV (n : Nat) (hn : H.length = n) (M : Mem base W w (H ++ T)) (is : List Nat) (h : is.Nodup) (hl : ∀ i ∈ is, i < n) : Mem base W w (ID H is ++ T) := by
 have h2 : (is ++ (List.range T.length).map (n + ·)).Nodup := by
  rw [List.nodup_append];refine ⟨h, ?_, ?_⟩
  ·exact List.Pairwise.map _ (fun a b (hab : a ≠ b) => show n + a ≠ n + b by omega) List.nodup_range
  ·intro a ha b hb;obtain ⟨j, _, rfl⟩ := List.mem_map.1 hb;have := hl a ha
   omega
 have := M.pick _ h2
 have e : ID (H ++ T) (is ++ (List.range T.length).map (n + ·)) = ID H is ++ T := by
  unfold ID;rw [List.map_append]
  congr 1
  ·refine List.map_congr_left fun i hi => ?_
   have := hl i hi;rw [List.getD_eq_getElem?_getD, List.getD_eq_getElem?_getD, List.getElem?_append_left (by omega)]
  ·rw [List.map_map];refine List.ext_getElem? fun i => ?_
   rw [List.getElem?_map]
   by_cases hi : i < T.length
   ·rw [List.getElem?_range hi]
    simp [← hn, List.getElem?_append_right, List.getElem?_eq_getElem hi]
   ·rw [List.getElem?_eq_none (by simp; omega), List.getElem?_eq_none (by omega)]; rfl
 rwa [e] at this
theorem XN {α : Type} {C : qQ α} {xs : List α} {g : Nat} (i : Nat) (h : L[i]? = some (.MB g (C.all xs))) : ∀ w, Mem base W w L → SL w C (some ⟨g, 0, none⟩) xs := fun w M _ => by
 obtain ⟨arr, t, q, hh, hp⟩ := M.has i _ h;refine ⟨g, 0, rfl, fun j u hu => ?_⟩;rw [Nat.zero_add, cell_of_row w g j arr t q hh];exact hp j u hu
variable {S : World → Prop} {D : List Deferred} {a : Act} {N : Nat} {l : List (Nat × Value)} {o : Oper} {x y z : Operand} {t t' et : TypeId} {s : List UInt8}
theorem Kg {b : Nat} (ho : o.op = .convert t t' x) (hs : P.underlying t = some .string) (ht : Hc P t' et 1 b = true) (he : P.underlying et = some (.int .u8)) (K : Kd D a N l) (hx : gC l x = some (.string (bs s))) (M : Mem base W w L) :
  Ac P o a w fun v w' => ∃ g c, v = .slice (some ⟨g, 0, none⟩) (lL s).length c ∧ (lL s).length ≤ c ∧ Mem base W w' (.MB g ((cI .u8).all (lL s)) :: L) := by
 obtain ⟨hu, _⟩ := jR ht;have hr := run_bytes_of_string (P := P) w t t' et (bs s) hs hu he;have hsz : (bs s).size = (lL s).length := by rw [sR]; exact pU s
 have hcap : (lL s).length ≤ grownCap w (bs s).size 0 et := by
  rw [← hsz]; exact grownCap_ge _ _ _ _
 have hrun : (execOp a.eval o).run P w = .ok (.value (.slice (some ⟨w.heap.size, 0, none⟩) (lL s).length (grownCap w (bs s).size 0 et))) (w.drew.alloc (.cells (bytesRow (bs s) (grownCap w (bs s).size 0 et)) et ((bytesRow (bs s) (grownCap w (bs s).size 0 et)).size, (bytesRow (bs s) (grownCap w (bs s).size 0 et)).size + 1))) := by
  unfold execOp;simp only [ho, K.ev hx, Sem.run_bind, hr, ← hsz]; rfl
 refine rU hrun ⟨w.heap.size, grownCap w (bs s).size 0 et, rfl, hcap, ?_⟩
 ·refine ((M.drew).below ((Below.refl _ _).alloc (Nat.le_refl _) _)).cons ?_ fun g hg => ?_
  ·refine ⟨_, _, _, heap_alloc_new w.drew _, fun j u hu => ?_⟩;rw [← EM] at hu;have hl : (Lib.strCells (bs s)).length = (bs s).size := by unfold Lib.strCells; simp [bs, ByteArray.size]
   unfold bytesRow;have hj := (List.getElem?_eq_some_iff.1 hu).1;rw [hl] at hj;rw [Array.getElem?_append_left (by rw [Array.size_map]; exact hj)]
   have : Lib.strCells (bs s) = ((bs s).data.map (fun b => Value.int .u8 b.toNat)).toList := by
    show s.map _ = _
    simp [bs]
   rw [this] at hu
   simpa using hu
  ·simp [jM.foot] at hg
   subst hg;exact ⟨M.sz, fun i e' h he => by have := M.Fw i e' _ h he; omega⟩
end
section
variable {P : Program} {ops : Array Oper} {Q O : Exit → Act → World → Prop} {S : World → Prop} {nW need : Nat → Bool} {R : Act → World → Prop}
theorem LU (hL : ¬ LetsOut O) {j : Nat} {oi oj : Oper} {v : Value} (hj : ops[j]? = some oj) (hap : oi.apart ops oj = true) (hO : ∀ e a v w, O e (a.put oi.dst v) w → O e a w)
  (hsi : ∀ cs b, oi.op ≠ .select cs b) (hsj : ∀ cs b, oj.op ≠ .select cs b) {K : Act → World → Prop} {a : Act} {w : World}
  (hy : rM P ops S oi v a) (h : wpOp P ops O j K (a.put oi.dst v) w) :
  wpOp P ops O j (fun a' w' => rM P ops S oi v a' ∧ K (a'.put oi.dst v) w') a w := by
 obtain ⟨h1, h2, h3⟩ := Oper.apart_spec hap
 have keep : ∀ (a : Act), rM P ops S oi v a → ∀ u, rM P ops S oi v (a.put oj.dst u) := fun a hy u =>
  hy.same (execOp_put oi hsi a oj.dst u h3) (wanted_put oi a oj.dst u h3)
 have keepD : ∀ d, rM P ops S oi v { a with defers := d :: a.defers } := fun d => hy.same rfl rfl
 unfold wpOp at *;simp only [hj] at *;rw [wanted_put oj a oi.dst v h1] at h
 split
 ·rename_i hw
  simp only [hw, if_true] at h
  rcases h with h | ⟨_, hl⟩
  case inr => exact absurd hl hL
  refine .inl ?_;unfold Oper.wp at *;rw [execOp_put oj hsj a oi.dst v h1] at h
  generalize (execOp a.eval oj).run P w = r at *
  cases r with
  | ok n w' =>
   cases n <;> simp only [Oper.upon] at h ⊢
   case value u => exact ⟨keep a hy u, by rw [← Act.put_comm a v u h2]; exact h⟩
   case skip => exact ⟨keep a hy _, by rw [← Act.put_comm a v undef h2]; exact h⟩
   case defer d =>
    refine ⟨keep _ (keepD d) _, ?_⟩;rw [← Act.put_comm _ v undef h2, ← Act.put_defers];exact h
   case enter f args =>
    refine Calls.mono h fun e w'' he => ?_
    cases e with
    | returned u => exact ⟨keep a hy u, by rw [← Act.put_comm a v u h2]; exact he⟩
    | panicked c => exact hO _ _ _ _ he
    | outgrown => exact absurd he hL
   case row row args => exact Rows.mono h fun u w'' he => ⟨keep a hy u, by rw [← Act.put_comm a v u h2]; exact he⟩
  | halt x w' => cases x <;> simp only [Oper.upon] at h ⊢; exact hO _ _ _ _ h
 ·rename_i hw
  simp only [hw] at h;exact ⟨keep a hy _, by rw [← Act.put_comm a v undef h2]; exact h⟩
theorem Pa (hL : ¬ LetsOut O) (hQ : ∀ e a w, O e a w → Q e a w) {i : Nat} {K : Act → World → Prop} {a : Act} {w : World} (h : wpOp P ops O i K a w) : wpOp P ops Q i K a w := by
  unfold wpOp at *
  split
  · rename_i h0
    simp only [h0] at h
    exact h
  · rename_i o ho
    simp only [ho] at h
    split
    · rename_i hw
      rw [if_pos hw] at h
      rcases h with h | ⟨_, hl⟩
      case inr => exact absurd hl hL
      refine .inl ?_
      unfold Oper.wp at *
      generalize (execOp a.eval o).run P w = r at *
      cases r with
      | ok n w' =>
        cases n <;> simp only [Oper.upon] at h ⊢ <;> first
          | exact h
          | (refine Calls.mono h fun e w'' he => ?_
             cases e with
             | returned u => exact he
             | panicked c => exact hQ _ _ _ he
             | outgrown => exact absurd he hL)
      | halt x w' => cases x <;> simp only [Oper.upon] at h ⊢; exact hQ _ _ _ h
    · rename_i hw
      rw [if_neg hw] at h
      exact h
theorem Qq (hL : ¬ LetsOut O) (hO : ∀ (i : Nat) (o : Oper), ops[i]? = some o → ∀ e a v w, O e (a.put o.dst v) w → O e a w) {c : Nat} {oc : Oper} (hc : ops[c]? = some oc) (hrc : nW c = false) (hsel : ∀ (j : Nat) (o : Oper) cs b, ops[j]? = some o → o.op ≠ .select cs b)
  (B2 : ∀ j k oj ok, j ≠ k → ops[j]? = some oj → ops[k]? = some ok → waits ops j k = false → waits ops k j = false → (nW j = true → oj.apart ops ok = true)) :
  ∀ (n : Nat) (rem : List Nat) (a : Act) (w : World), c ∈ rem → Ka ops rem c = true → tQ P O ops S nW need R (n + 1) rem a w → wpOp P ops O c (fun a' w' => (need c = true → S w') ∧ tQ P O ops S nW need R n (rem.erase c) a' w') a w := by
 intro n
 induction n with
 | zero =>
  intro rem a w hcm hrd h
  rcases h with ⟨i0, hi0, hr0, hd0, o0, ho0, u, hu, h⟩ | ⟨_, h⟩
  ·obtain ⟨hnil, hR⟩ := h;have e : i0 ≠ c := fun e => by subst e; rw [hrc] at hr0; cases hr0
   have : c ∈ rem.erase i0 := (List.mem_erase_of_ne (fun h => e h.symm)).2 hcm;rw [hnil] at this; cases this
  ·exact h c hcm hrc hrd
 | succ n ih =>
  intro rem a w hcm hrd h
  rcases h with ⟨i0, hi0, hr0, hd0, o0, ho0, u, hu, h⟩ | ⟨_, h⟩
  ·have e : i0 ≠ c := fun e => by subst e; rw [hrc] at hr0; cases hr0
   have hcm' : c ∈ rem.erase i0 := (List.mem_erase_of_ne (fun h => e h.symm)).2 hcm;have h2 := ih _ _ _ hcm' (AB hrd) h;have w1 := u6 hrd hi0;have w2 := u6 hd0 hcm;have ap := B2 i0 c o0 oc e ho0 hc w2 w1 hr0;have h3 := LU hL hc ap (hO i0 o0 ho0) (fun cs b => hsel i0 o0 cs b ho0) (fun cs b => hsel c oc cs b hc) hu h2;refine wpOp_mono ?_ h3;rintro a' w' ⟨hy, hn, hk⟩;refine ⟨hn, .inl ⟨i0, (List.mem_erase_of_ne e).2 hi0, hr0, AB hd0, o0, ho0, u, hy, ?_⟩⟩;rw [List.erase_comm]; exact hk
  ·exact h c hcm hrc hrd
theorem KL (hL : ¬ LetsOut O) (hO : ∀ (i : Nat) (o : Oper), ops[i]? = some o → ∀ e a v w, O e (a.put o.dst v) w → O e a w) (hQ : ∀ e a w, O e a w → Q e a w) (hok : LQ ops nW need = true) : ∀ (fuel : Nat) (listed : Array Bool) (a : Act) (w : World), listed.size = ops.size → Closed ops listed → (iP ops listed).length = fuel →
  (∀ r ∈ iP ops listed, nW r = true → S w) → tQ P O ops S nW need (Q .normal) fuel (iP ops listed) a w → wpAny P .any ops Q fuel listed a w := by
 simp only [LQ, Bool.and_eq_true] at hok;obtain ⟨⟨⟨Lu, hback⟩, Nu⟩, Lv⟩ := hok;have hsel := Region.noSelect_spec Lu;have hp : ∀ i < ops.size, ∀ j < i, FJ ops nW i j = true := fun i hi j hj => List.all_eq_true.1 (List.all_eq_true.1 Nu i (List.mem_range.2 hi)) j (List.mem_range.2 hj)
 have B2 : ∀ j k oj ok, j ≠ k → ops[j]? = some oj → ops[k]? = some ok → waits ops j k = false → waits ops k j = false → (nW j = true → oj.apart ops ok = true) := by
  intro j k oj ok hjk hj hk w1 w2 hr;have hjl := (Array.getElem?_eq_some_iff.1 hj).1;have hkl := (Array.getElem?_eq_some_iff.1 hk).1
  rcases Nat.lt_or_gt_of_ne hjk with hlt | hlt
  ·have h := hp k hkl j hlt;unfold FJ at h;simp only [hj, hk, w2, Bool.false_or, Bool.and_eq_true, Bool.or_eq_true, Bool.not_eq_true'] at h
   rcases h.2 with h0 | h0
   ·rw [hr] at h0; cases h0
   ·exact h0
  ·have h := hp j hjl k hlt;unfold FJ at h;simp only [hj, hk, w1, Bool.false_or, Bool.and_eq_true, Bool.or_eq_true, Bool.not_eq_true'] at h
   rcases h.1 with h0 | h0
   ·rw [hr] at h0; cases h0
   ·exact h0
 have hbk : ∀ i o, ops[i]? = some o → ∀ e ∈ o.after, Region.binds .any e = true → e.on < i := fun i o ho e he hb => by
  have hi : i < ops.size := (Array.getElem?_eq_some_iff.1 ho).1;have h := List.all_eq_true.1 hback i (List.mem_range.2 hi);simp only [ho] at h;have h2 := Array.all_eq_true_iff_forall_mem.1 h e he
  simpa [hb] using h2
 have hnd : ∀ i < ops.size, nW i = false → ∀ r < ops.size, nW r = true → waits ops i r = false → need i = true := fun i hi EZ r hr hrr hw => by
  have h := List.all_eq_true.1 Lv i (List.mem_range.2 hi);simp only [EZ, Bool.false_or, Bool.or_eq_true, Bool.not_eq_true'] at h;refine h.resolve_right fun h0 => ?_
  have : IB ops nW i = true := by
   refine List.any_eq_true.2 ⟨r, List.mem_range.2 hr, ?_⟩;have : r ≠ i := fun e => by subst e; rw [EZ] at hrr; cases hrr
   simp [hrr, hw, this]
  rw [this] at h0;cases h0
 intro fuel
 induction fuel with
 | zero =>
  intro listed a w hs hc hlen _ h;have hnil : iP ops listed = [] := List.eq_nil_of_length_eq_zero hlen;obtain ⟨_, h⟩ := h;refine ⟨?_, h⟩;refine List.eq_nil_iff_forall_not_mem.2 fun i hi => ?_
  obtain ⟨h0, o, ho, _⟩ := mem_ready.1 hi;have : i ∈ iP ops listed := k5.2 ⟨(Array.getElem?_eq_some_iff.1 ho).1, h0⟩;rw [hnil] at this;cases this
 | succ fuel ih =>
  intro listed a w hs hc hlen hS h;refine ⟨fun h0 => ?_, fun i hi => ?_⟩
  ·exfalso
   match hr : iP ops listed, hlen with
   | i0 :: rest, _ =>
    have hm0 : i0 ∈ iP ops listed := by rw [hr]; exact List.mem_cons_self ..
    obtain ⟨hlt, hun⟩ := k5.1 hm0;have B3 := sN (ops := ops) listed;rw [hr, List.pairwise_cons] at B3
    have : i0 ∈ Region.ready .any ops listed := by
     refine mem_ready.2 ⟨hun, ops[i0], Array.getElem?_eq_getElem hlt, fun e he hb => ?_⟩;have hlt2 := hbk i0 _ (Array.getElem?_eq_getElem hlt) e he hb;cases hl : listed.getD e.on false with
     | true => rfl
     | false =>
      have hm : e.on ∈ iP ops listed := k5.2 ⟨by omega, by rw [Ay (by omega)]; exact hl⟩;rw [hr] at hm
      rcases List.mem_cons.1 hm with hm | hm
      ·omega
      ·have := B3.1 _ hm; omega
    rw [h0] at this;cases this
  ·obtain ⟨hun, oi, hoi, hall⟩ := mem_ready.1 hi;have hilt : i < ops.size := (Array.getElem?_eq_some_iff.1 hoi).1;have him : i ∈ iP ops listed := k5.2 ⟨hilt, hun⟩;have Nv : (iP ops listed).Nodup := (sN (ops := ops) listed).imp fun h => Nat.ne_of_lt h
   have B4 : iP ops (listed.setIfInBounds i true) = (iP ops listed).erase i := by rw [G9 hs hilt, DH Nv]
   have hlen' : (iP ops (listed.setIfInBounds i true)).length = fuel := by
    rw [B4, List.length_erase_of_mem him]; omega
   have hs' : (listed.setIfInBounds i true).size = ops.size := by simpa using hs
   have hc' : Closed ops (listed.setIfInBounds i true) := by
    intro k hk j hj
    by_cases hik : i = k
    ·subst hik; exact getD_set_true (rQ hi hj)
    ·rw [getD_set_ne false hik] at hk; exact getD_set_true (hc k hk j hj)
   have hrd : Ka ops (iP ops listed) i = true := by
    unfold Ka;rw [List.all_eq_true];intro j hj;obtain ⟨h1, h2⟩ := k5.1 hj;cases hw : waits ops i j with
    | false => rfl
    | true =>
     have := rQ hi hw;rw [← Ay (by omega), h2] at this; cases this
   cases EZ : nW i with
   | true =>
    have hSw : S w := hS i him EZ;obtain ⟨v, hv, hrest⟩ := Oq hoi EZ hsel B2 fuel _ a w him hrd h;refine hv.run hoi hSw (ih _ _ _ hs' hc' hlen' (fun _ _ _ => hSw) (by rw [B4]; exact hrest))
   | false =>
    have h2 := Qq hL hO hoi EZ hsel B2 fuel _ a w him hrd h;refine Pa hL hQ (wpOp_mono ?_ h2);rintro a' w' ⟨hn, hk⟩;refine ih _ _ _ hs' hc' hlen' ?_ (by rw [B4]; exact hk);intro r hr hrr;rw [B4] at hr;have hrm := List.mem_of_mem_erase hr;exact hn (hnd i hilt EZ r (k5.1 hrm).1 hrr (u6 hrd hrm))
theorem KN (hL : ¬ LetsOut O) (hQ : ∀ e a w, O e a w → Q e a w) {id : Nat} {a : Act} {w : World} {l : List Oper} (hO : ∀ (i : Nat) (o : Oper), l.toArray[i]? = some o → ∀ e a v w, O e (a.put o.dst v) w → O e a w) (S : World → Prop) (f : List Nat) (n : Nat) (rem : List Nat) (hm : P.follows .mixedOrders = true) (hok : LQ l.toArray (lN f) (gZ f) = true)
  (hl : List.range l.toArray.size = rem) (hn : rem.length = n) (hS : S w.drew) (h : tQ P O l.toArray S (lN f) (gZ f) (Q .normal) n rem a w.drew) : (Code.region id l.toArray true).wp P Q a w := by
 refine wp_region_any hm ?_
 have Fq : iP l.toArray (Array.replicate l.toArray.size false) = List.range l.toArray.size := by
  unfold iP;refine List.filter_eq_self.2 fun i hi => ?_
  have := List.mem_range.1 hi
  simp at this
  simp [this]
 refine KL hL hO hQ hok l.toArray.size (Array.replicate l.toArray.size false) a _ (by simp) ?_ (by rw [Fq]; simp) (fun _ _ _ => hS) ?_
 ·intro i hi;rw [sM] at hi;cases hi
 ·rw [Fq, hl];have : l.toArray.size = n := by rw [← hn, ← hl]; simp
  rw [this]; exact h
def Bk (D : List Deferred) (N : Nat) (l0 : List (Nat × Value)) (Pn : List PanicEntry → World → Prop) : Exit → Act → World → Prop := fun e a w => ∃ ch, e = .panic ch ∧ Pn ch w ∧ Kd D a N l0
def Ov (ops : List Oper) (l0 : List (Nat × Value)) : Bool := ops.all fun o => match o.dst with
 | some d => (vC l0 d).isNone
 | none => true
theorem Kd.Wf {D : List Deferred} {a : Act} {N : Nat} {l0 : List (Nat × Value)} {d : Option Nat} {v : Value} (h : ∀ s, d = some s → vC l0 s = none) (K : Kd D (a.put d v) N l0) : Kd D a N l0 := by
 cases d with
 | none => exact K
 | some d =>
  refine ⟨K.defs, by have := K.size; simpa [Act.put] using this, fun s u hs => ?_⟩;have h2 := K.get s u hs;have hne : d ≠ s := fun e => by subst e; rw [h d rfl] at hs; cases hs
  simp only [Act.put] at h2;rw [← h2]
  simp [Array.getD_eq_getD_getElem?, Array.getElem?_setIfInBounds, hne]
theorem kX {id : Nat} {a : Act} {w : World} {l : List Oper} {D : List Deferred} {N : Nat} (l0 : List (Nat × Value)) (Pn : List PanicEntry → World → Prop) (hcl : Ov l l0 = true) (hQ : ∀ ch a w, Pn ch w → Kd D a N l0 → Q (.panic ch) a w) (S : World → Prop) (f : List Nat) (n : Nat) (rem : List Nat) (hm : P.follows .mixedOrders = true) (hok : LQ l.toArray (lN f) (gZ f) = true)
  (hl : List.range l.toArray.size = rem) (hn : rem.length = n) (hS : S w.drew) (h : tQ P (Bk D N l0 Pn) l.toArray S (lN f) (gZ f) (Q .normal) n rem a w.drew) : (Code.region id l.toArray true).wp P Q a w :=
 KN (O := Bk D N l0 Pn) (fun ⟨_, _, _, h, _⟩ => by cases h) (fun e a w ⟨ch, h1, h2, h3⟩ => by subst h1; exact hQ ch a w h2 h3)
  (fun i o ho e a v w ⟨ch, h1, h2, h3⟩ => ⟨ch, h1, h2, Kd.Wf (fun s hs => by
   unfold Ov at hcl;rw [List.all_eq_true] at hcl;have hm := hcl o (by simpa using Array.mem_of_getElem? ho);rw [hs] at hm
   simpa using hm) h3⟩) S f n rem hm hok hl hn hS h
variable {D : List Deferred} {a : Act} {w : World} {N : Nat} {l l0 : List (Nat × Value)} {o : Oper} {v : Value} {d c n : Nat} {rem : List Nat} {f : List Nat} {Pn : List PanicEntry → World → Prop} {x : Operand}
theorem If {kk : Act → World → Prop} (ho : ops[c]? = some o) (K0 : Kd D a N l0) (hw : Region.wanted o (yielded ops a.tmps) = true) (h : Bo P o a w Pn) : wpOp P ops (Bk D N l0 Pn) c kk a w := by
 unfold wpOp;simp only [ho, hw, if_true];exact .inl (h _ _ fun ch w' hp => ⟨ch, rfl, hp, K0⟩)
theorem Qr {fid : FuncId} {cap vs : List Value} {args : Array Operand} {ts : Array TypeId} (K : Kd D a N l) (ho : o.op = .call { callee := .value x, args := args, argTypes := ts }) (hf : gM P fid = true) (hx : gC l x = some (.func (.func fid) #[] cap.toArray)) (hargs : args.toList.map (gC l) = vs.map some)
  {K2 : Act → World → Prop} {Q2 : Exit → Act → World → Prop} (h : Calls P fid (vs ++ cap).toArray w fun e w' => (∃ v, e = .returned v ∧ K2 (a.put o.dst v) w') ∨ ∃ ch, e = .panicked ch ∧ Q2 (.panic ch) a w') : o.wp P a w K2 Q2 := by
 have hE : args.map a.eval = vs.toArray := by
  apply Array.ext'
  simp only [Array.toList_map]
  have : ∀ (xs : List Operand) (vs : List Value), xs.map (gC l) = vs.map some → xs.map a.eval = vs := by
   intro xs
   induction xs with
   | nil => intro vs h; cases vs <;> simp_all
   | cons x xs ih =>
    intro vs h;cases vs with
    | nil => simp at h
    | cons v vs => simp only [List.map_cons, List.cons.injEq] at h ⊢; exact ⟨K.ev h.1, ih vs h.2⟩
  exact this _ _ hargs
 have hrun : (execOp a.eval o).run P w = .ok (.enter fid (vs ++ cap).toArray) w := by
  unfold gM at hf
  split at hf
  ·rename_i fn hfn
   simp only [Bool.and_eq_true, bne_iff_ne, ne_eq] at hf;obtain ⟨b, hb⟩ := Option.isSome_iff_exists.1 hf.1;unfold execOp
   simp [ho, resolve, K.ev hx, hE, Deferred.ofValue, invoke, callFunc, hfn, hb, hf.2]
  ·cases hf
 unfold Oper.wp;rw [hrun, Oper.upon_enter];refine h.mono ?_;rintro e w' (⟨v, rfl, hp⟩ | ⟨ch, rfl, hp⟩)
 ·exact hp
 ·exact hp
theorem Eu {rest : List Oper} {fid : FuncId} {cap vs : List Value} {args : Array Operand} {ts : Array TypeId} (K : Kd D a N l) (hw : Region.wanted o (yielded ops a.tmps) = true) (hd : o.dst = some d) (hN : Nat.blt d N = true)
  (ho : o.op = .call { callee := .value x, args := args, argTypes := ts }) (hf : gM P fid = true) (hx : gC l x = some (.func (.func fid) #[] cap.toArray)) (hargs : args.toList.map (gC l) = vs.map some)
  (h : Calls P fid (vs ++ cap).toArray w fun e w' => (∃ v, e = .returned v ∧ ∀ a', Kd D a' N ((d, v) :: l) → wpList P ops Q rest a' w') ∨ ∃ ch, e = .panicked ch ∧ Q (.panic ch) a w') : wpList P ops Q (o :: rest) a w := by
 refine wpList_step fun Kc hK => ?_
 rw [if_pos hw];refine Qr K ho hf hx hargs (h.mono ?_);rintro e w' (⟨v, he, hp⟩ | hp)
 ·refine .inl ⟨v, he, hK _ _ ?_⟩;have := K.put (d := o.dst) (by rw [hd]; exact hN) v;rw [hd] at this ⊢;exact hp _ this
 ·exact .inr hp
theorem KO {fid : FuncId} {cap vs : List Value} {args : Array Operand} {ts : Array TypeId} (BY : List Nat) (hc : (rem.erase c == BY) = true) (hop : ops[c]? = some o) (K : Kd D a N l) (hw : Region.wanted o (yielded ops a.tmps) = true) (hd : o.dst = some d) (hN : Nat.blt d N = true) (K0 : Kd D a N l0)
  (ho : o.op = .call { callee := .value x, args := args, argTypes := ts }) (hf : gM P fid = true) (hx : gC l x = some (.func (.func fid) #[] cap.toArray)) (hargs : args.toList.map (gC l) = vs.map some)
  (h : Calls P fid (vs ++ cap).toArray w fun e w' => (∃ v, e = .returned v ∧ ∀ a', Kd D a' N ((d, v) :: l) → (gZ f c = true → S w') ∧ tQ P (Bk D N l0 Pn) ops S (lN f) (gZ f) R n BY a' w') ∨ ∃ ch, e = .panicked ch ∧ Pn ch w') : wpOp P ops (Bk D N l0 Pn) c (fun a' w' => (gZ f c = true → S w') ∧ tQ P (Bk D N l0 Pn) ops S (lN f) (gZ f) R n (rem.erase c) a' w') a w := by
 obtain rfl : rem.erase c = BY := by simpa using hc
 unfold wpOp;simp only [hop, hw, if_true];refine .inl (Qr K ho hf hx hargs (h.mono ?_));rintro e w' (⟨v, he, hp⟩ | ⟨ch, he, hp⟩)
 ·refine .inl ⟨v, he, ?_⟩;have := K.put (d := o.dst) (by rw [hd]; exact hN) v;rw [hd] at this ⊢;exact hp _ this
 ·exact .inr ⟨ch, he, ch, rfl, hp, K0⟩
theorem Qs {fn : Func} {code : Code} {fid : FuncId} {args : Array Value} {Rp : Ending → World → Prop} (hf : P.funcs[fid]? = some fn) (hb : fn.body = some code) (hN : fn.ntmps = N) (hs : Nat.ble args.size N = true)
  (h : ∀ a, Kn a N (F6 0 args.toList) → code.wp P (bodyPostD P fn Rp) a w) : Calls P fid args w Rp := by
 refine calls_of_wp_defers hf hb ?_;rw [hN];exact h _ (Kd.start args N hs)
theorem YW {rest : List Oper} {fid : FuncId} {cap : List Value} (K : Kd D a N l) (hw : Region.wanted o (yielded ops a.tmps) = true) (hd : o.dst = none) (ho : o.op = .defer { callee := .value x, args := #[], argTypes := #[] }) (hx : gC l x = some (.func (.func fid) #[] cap.toArray))
  (k : ∀ a', Kd ({ target := .fn (.func fid) cap.toArray, args := #[] } :: D) a' N l → wpList P ops Q rest a' w) : wpList P ops Q (o :: rest) a w := by
 refine wpList_step fun Kc hK => ?_
 rw [if_pos hw];unfold Oper.wp
 have hrun : (execOp a.eval o).run P w = .ok (.defer { target := .fn (.func fid) cap.toArray, args := #[] }) w := by
  unfold execOp
  simp [ho, resolve, K.ev hx, Deferred.ofValue]
 rw [hrun, Oper.upon_defer];refine hK _ _ ?_;rw [hd];exact k _ ⟨by show _ :: a.defers = _; rw [K.defs], K.size, K.get⟩
theorem Wg {fn : Func} {Rp : Ending → World → Prop} {r1 r2 : ResultVar} {v1 v2 : Value} {fid : FuncId} {cap : Array Value} (K : Kd [{ target := .fn (.func fid) cap, args := #[] }] a N l) (hr : fn.results = #[r1, r2]) (h1 : u5 P a w r1 v1) (h2 : u5 P a w r2 v2)
  (hi : (invoke (.fn (.func fid) cap) #[]).run P w = .ok (.enter fid cap) w) (hc : CallsD P fid cap .returning w fun e u' w' => e = .returned (.tuple #[]) ∧ u' = .returning ∧ w' = w) (h : Rp (.returned (.tuple #[v1, v2])) w) : bodyPostD P fn Rp .ret a w := by
 show Leaves P fn a.tmps Rp a.defers .returning w;rw [K.defs];refine leaves_cons (by intro h; cases h) hi (hc.mono ?_);rintro e u' w' ⟨rfl, rfl, rfl⟩;refine ⟨.tuple #[v1, v2], ?_, h⟩;unfold u5 at h1 h2;rw [rV, hr]; simp [h1, h2]
theorem lP {fn : Func} {Rp : Ending → World → Prop} {r1 r2 : ResultVar} {v1 v2 : Value} {fid : FuncId} {cap : Array Value} {pe : PanicEntry} {post : World → Prop} (K : Kd [{ target := .fn (.func fid) cap, args := #[] }] a N l) (hr : fn.results = #[r1, r2])
  (hi : (invoke (.fn (.func fid) cap) #[]).run P w = .ok (.enter fid cap) w) (hc : CallsD P fid cap (.panicking [pe]) w fun e u' w' => e = .returned (.tuple #[]) ∧ u' = .panicking [{ pe with recovered := true }] ∧ post w') (hres : ∀ w', post w' → u5 P a w' r1 v1 ∧ u5 P a w' r2 v2 ∧ Rp (.returned (.tuple #[v1, v2])) w') : bodyPostD P fn Rp (.panic [pe]) a w := by
 show Leaves P fn a.tmps Rp a.defers (.panicking [pe]) w;rw [K.defs];refine leaves_cons (by intro h; cases h) hi (hc.mono ?_);rintro e u' w' ⟨rfl, rfl, hp⟩;obtain ⟨h1, h2, h⟩ := hres w' hp;refine ⟨.tuple #[v1, v2], ?_, h⟩;unfold u5 at h1 h2;rw [rV, hr]; simp [h1, h2]
end
end
end Go.Proofs.YtpmnfhifmmfglacGreatDoor
