/- Texts of the claim ShotBack, joined and made small by a program. -/
import Derived.ChangeKeysEq
import Derived.KernelRfl
import Derived.Laws.BytesArg
import Derived.Laws.CopyRow
import Derived.Laws.IdiomCopy
import Derived.Laws.IdiomStrings
import Derived.Laws.Strings2
import Derived.Laws.Strings3
import Derived.Lib.AppendStr
import Derived.Lib.AtoiAllCases
import Derived.Lib.SliceRun
import Derived.LoopN
import Derived.Maps.OwnSet
import Derived.Recover
import Derived.Scope
import Derived.Stop.IfaceNil
import Derived.WalkSpells
import Derived.WideMake
import Derived.Test.YtpmnfhifmmfglaaGreatDoorShotBackK4
import Derived.Test.YtpmnfhifmmfglaaGreatDoorShotBackK5
set_option linter.unusedVariables false
set_option linter.unusedSimpArgs false
set_option linter.unusedSectionVars false
set_option maxRecDepth 100000
set_option maxHeartbeats 8000000
namespace Go.Proofs.YtpmnfhifmmfglaaGreatDoor
section
open Go
def Hz (deep : Bool) : List UInt8 := if deep then [54, 53, 53, 51, 53] else [50, 53, 53]
def Fj (w h : Nat) (deep : Bool) : List UInt8 := [80, 54, 10] ++ (wF 20 w ++ (32 :: (wF 20 h ++ (10 :: (Hz deep ++ [10])))))
def Mg (deep : Bool) (n : Int) : List UInt8 := UInt8.ofNat ((n / 256) % 256).toNat :: (if deep then [UInt8.ofNat (n % 256).toNat] else [])
def Iw (deep : Bool) (p : Px) : List UInt8 := Mg deep p.1 ++ (Mg deep p.2.1 ++ Mg deep p.2.2)
def Jb (w h : Nat) (deep : Bool) (P : List Px) : List UInt8 := Fj w h deep ++ (P.map (Iw deep)).flatten
def pN (deep : Bool) : Nat := if deep then 2 else 1
theorem DX (deep : Bool) (n : Int) : (Mg deep n).length = pN deep := by unfold Mg pN; cases deep <;> rfl
theorem JC (deep : Bool) (p : Px) : (Iw deep p).length = 3 * pN deep := by unfold Iw; rw [List.length_append, List.length_append, DX, DX, DX]; omega
theorem Cb : ∀ (k u : Nat), (wF k u).length ≤ k
 | 0, _ => Nat.le_refl _
 | k + 1, u => by
  unfold wF
  split
  ·simp
  ·have := Cb k (u / 10);rw [List.length_append]; simp; omega
theorem KU : ∀ (k u : Nat), ∀ b ∈ wF k u, 48 ≤ b.toNat ∧ b.toNat ≤ 57
 | 0, _, b, h => by cases h
 | k + 1, u, b, h => by
  unfold wF at h
  split at h
  ·rename_i q
   obtain rfl := List.mem_singleton.1 h;rw [UInt8.toNat_ofNat']; omega
  ·rcases List.mem_append.1 h with h | h
   ·exact KU k _ b h
   ·obtain rfl := List.mem_singleton.1 h;rw [UInt8.toNat_ofNat']; omega
theorem AY {n : Nat} (h : n ≤ 100000) (N : Nat) : g7 N (n : Int) = some (wF 20 n) := by
 unfold g7;rw [if_pos (by omega)];unfold GC;rw [if_neg (by omega), Int.toNat_natCast]
theorem JD {b : List UInt8} {y : Int} (hb : b.length + 1 ≤ 140737488355328) (hy : 0 ≤ y ∧ y < 256) : QG b y = some (b ++ [UInt8.ofNat y.toNat]) := by
 unfold QG;rw [if_pos ⟨hb, hy.1, hy.2⟩]
theorem qO {a b : List UInt8} (h : a.length + b.length ≤ 140737488355328) : B7 a b = some (a ++ b) := by
 unfold B7;rw [if_pos (by omega)]
theorem TI (N : Nat) (deep : Bool) (p : Px) (kk) (b : List UInt8) (hb : b.length + 6 ≤ 140737488355328) (fuel : Nat) : k8 N deep p kk (fuel + 4) (b, 0) = kk (b ++ Iw deep p, 3) := by
 have st : ∀ (i : Int) (f : Nat) (b : List UInt8) (e : Int), 0 ≤ i ∧ i < 3 → idx [p.1, p.2.1, p.2.2] i = some e → b.length + 2 ≤ 140737488355328 → k8 N deep p kk (f + 1) (b, i) = k8 N deep p kk f (b ++ Mg deep e, i + 1) := by
  intro i f b e hi he hb
  conv => lhs; unfold k8
  rw [cT (dT hi.2), he, eI, Vm, JD (by omega) (by omega), eI, Ha (x := i + 1) (by omega)];cases deep
  ·rw [cF rfl]; rfl
  ·rw [cT rfl, Yy, JD (by simp; omega) (by omega), eI];unfold Mg;rw [List.append_assoc]; rfl
 have l := fun e => DX deep e
 have hz : pN deep ≤ 2 := by unfold pN; split <;> omega
 rw [st 0 (fuel + 3) b p.1 (by decide) rfl (by omega), st _ (fuel + 2) _ p.2.1 (by decide) rfl (by rw [List.length_append, l]; omega), st _ (fuel + 1) _ p.2.2 (by decide) rfl (by rw [List.length_append, List.length_append, l, l]; omega)];unfold k8;rw [cF (by rfl)];unfold Iw;simp only [List.append_assoc]
 rfl
theorem TJ (N : Nat) (deep : Bool) (p : Px) (kk) (b : List UInt8) (hb : b.length + 6 ≤ 140737488355328) (fuel : Nat) : k9 N deep p kk (fuel + 4) (b, 0) = kk (b ++ Iw deep p, 3) := by
 have st : ∀ (i : Int) (f : Nat) (b : List UInt8) (e : Int), 0 ≤ i ∧ i < 3 → idx [p.1, p.2.1, p.2.2] i = some e → b.length + 2 ≤ 140737488355328 → k9 N deep p kk (f + 1) (b, i) = k9 N deep p kk f (b ++ Mg deep e, i + 1) := by
  intro i f b e hi he hb
  conv => lhs; unfold k9
  rw [cT (dT hi.2), he, eI, Vm, JD (by omega) (by omega), eI, Ha (x := i + 1) (by omega)];cases deep
  ·rw [cF rfl]; rfl
  ·rw [cT rfl, Yy, JD (by simp; omega) (by omega), eI];unfold Mg;rw [List.append_assoc]; rfl
 have l := fun e => DX deep e
 have hz : pN deep ≤ 2 := by unfold pN; split <;> omega
 rw [st 0 (fuel + 3) b p.1 (by decide) rfl (by omega), st _ (fuel + 2) _ p.2.1 (by decide) rfl (by rw [List.length_append, l]; omega), st _ (fuel + 1) _ p.2.2 (by decide) rfl (by rw [List.length_append, List.length_append, l, l]; omega)];unfold k9;rw [cF (by rfl)];unfold Iw;simp only [List.append_assoc]
 rfl
theorem TK (N : Nat) (hN : 10 ≤ N) (deep : Bool) (P : List Px) (hP : P.length ≤ 4096) (kk) : ∀ (j k fuel : Nat) (b : List UInt8), k + j = P.length → j < fuel → b.length + 6 * j ≤ 100000 → oT N P deep kk fuel (b, (k : Int)) = kk (b ++ ((P.drop k).map (Iw deep)).flatten, (P.length : Int)) := by
 have hz : pN deep ≤ 2 := by unfold pN; split <;> omega
 intro j
 induction j with
 | zero =>
  intro k fuel b hk hf hb;obtain ⟨fuel, rfl⟩ := Oc fuel (by omega);obtain rfl : k = P.length := by omega
  unfold oT;rw [cF (dF (by omega)), List.drop_length]; simp
 | succ j ih =>
  intro k fuel b hk hf hb;obtain ⟨fuel, rfl⟩ := Oc fuel (by omega);obtain ⟨M, hM⟩ : ∃ q, N = q + 4 := ⟨N - 4, by omega⟩
  have hlt : k < P.length := by omega
  unfold oT;rw [cT (dT (by omega)), DV, List.getElem?_eq_getElem hlt, eI];have key := fun kk => TI N deep P[k] kk b (by omega) M
  rw [← hM] at key;rw [key]
  dsimp only
  rw [Ha (x := (k : Int) + 1) (by omega)];refine Eq.trans (ih (k + 1) fuel (b ++ Iw deep P[k]) (by omega) (by omega) (by rw [List.length_append, JC]; omega)) ?_;rw [List.drop_eq_getElem_cons hlt, List.append_assoc]; rfl
theorem TM (N : Nat) (hN : 10 ≤ N) (deep : Bool) (P : List Px) (hP : P.length ≤ 4096) (kk) : ∀ (j k fuel : Nat) (b : List UInt8), k + j = P.length → j < fuel → b.length + 6 * j ≤ 100000 → oU N P deep kk fuel (b, (k : Int)) = kk (b ++ ((P.drop k).map (Iw deep)).flatten, (P.length : Int)) := by
 have hz : pN deep ≤ 2 := by unfold pN; split <;> omega
 intro j
 induction j with
 | zero =>
  intro k fuel b hk hf hb;obtain ⟨fuel, rfl⟩ := Oc fuel (by omega);obtain rfl : k = P.length := by omega
  unfold oU;rw [cF (dF (by omega)), List.drop_length]; simp
 | succ j ih =>
  intro k fuel b hk hf hb;obtain ⟨fuel, rfl⟩ := Oc fuel (by omega);obtain ⟨M, hM⟩ : ∃ q, N = q + 4 := ⟨N - 4, by omega⟩
  have hlt : k < P.length := by omega
  unfold oU;rw [cT (dT (by omega)), DV, List.getElem?_eq_getElem hlt, eI];have key := fun kk => TJ N deep P[k] kk b (by omega) M
  rw [← hM] at key;rw [key]
  dsimp only
  rw [Ha (x := (k : Int) + 1) (by omega)];refine Eq.trans (ih (k + 1) fuel (b ++ Iw deep P[k]) (by omega) (by omega) (by rw [List.length_append, JC]; omega)) ?_;rw [List.drop_eq_getElem_cons hlt, List.append_assoc]; rfl
theorem HD (N : Nat) (hN : 5000 ≤ N) (W H : Int) (P : List Px) (deep : Bool) : iT N W H P deep = some (if D3 W H P = true then (Jb W.toNat H.toNat deep P, 0) else ([], 1)) := by
 obtain ⟨a, b, l, ht⟩ := NR N W H P hN;unfold iT;rw [ht, eI];cases hp : D3 W H P
 ·rw [cT (by rfl)]; rfl
 have hs := DW hp;obtain ⟨w', rfl⟩ := Int.eq_ofNat_of_zero_le (show 0 ≤ W by have := hs.1; omega);obtain ⟨k', rfl⟩ := Int.eq_ofNat_of_zero_le (show 0 ≤ H by have := hs.2.2.1; omega);have hw : w' ≤ 64 := by have := hs.2.1; omega
 have hk : k' ≤ 64 := by have := hs.2.2.2.1; omega
 have hP := (Hy hs).1;rw [cF (by rfl), if_pos rfl, Int.toNat_natCast, Int.toNat_natCast];have d1 := Cb 20 w';have d2 := Cb 20 k';unfold Jb;cases deep
 ·rw [cF rfl, AY (by omega), eI, qO (by simp; omega), eI, qO (by simp; omega), eI, AY (by omega), eI, qO (by simp; omega), eI, qO (by simp; omega), eI, show g7 N 255 = some [50, 53, 53] from rfl, eI, qO (by simp; omega), eI, qO (by simp; omega), eI, show ∀ x : List UInt8, x.length ≤ 1000 → LV [] x = some x from fun x hx => by unfold LV; rw [if_pos (by simp; omega)]; rfl, eI]
  ·have key := TM N (by omega) false P hP (fun (L9, Ec) => some (L9, (0 : Int))) P.length 0 N ([80, 54, 10] ++ wF 20 w' ++ [32] ++ wF 20 k' ++ [10] ++ [50, 53, 53] ++ [10]) (by omega) (by omega) (by simp; omega);rw [List.drop_zero] at key;refine Eq.trans key ?_;unfold Fj Hz;simp only [List.append_assoc, List.cons_append, List.nil_append]
   rfl
  ·simp; omega
 ·rw [cT rfl, AY (by omega), eI, qO (by simp; omega), eI, qO (by simp; omega), eI, AY (by omega), eI, qO (by simp; omega), eI, qO (by simp; omega), eI, show g7 N 65535 = some [54, 53, 53, 51, 53] from rfl, eI, qO (by simp; omega), eI, qO (by simp; omega), eI, show ∀ x : List UInt8, x.length ≤ 1000 → LV [] x = some x from fun x hx => by unfold LV; rw [if_pos (by simp; omega)]; rfl, eI]
  ·have key := TK N (by omega) true P hP (fun (l6, i5) => some (l6, (0 : Int))) P.length 0 N ([80, 54, 10] ++ wF 20 w' ++ [32] ++ wF 20 k' ++ [10] ++ [54, 53, 53, 51, 53] ++ [10]) (by omega) (by omega) (by simp; omega);rw [List.drop_zero] at key;refine Eq.trans key ?_;unfold Fj Hz;simp only [List.append_assoc, List.cons_append, List.nil_append]
   rfl
  ·simp; omega
theorem KV : ∀ (t : List UInt8) (c : UInt8) (r : List UInt8), (∀ b ∈ t, b ≠ c) → Go.Lib.indexByte (t ++ c :: r) c = (t.length : Int)
 | [], c, r, _ => by
  show (if (c == c) = true then (0 : Int) else _) = _;rw [if_pos (by simp)]; rfl
 | x :: t, c, r, h => by
  have ih := KV t c r fun b hb => h b (List.mem_cons_of_mem _ hb)
  show (if (x == c) = true then (0 : Int) else if (Go.Lib.indexByte (t ++ c :: r) c == -1) = true then -1 else Go.Lib.indexByte (t ++ c :: r) c + 1) = _
  rw [if_neg (by simpa using h x (List.mem_cons_self ..)), ih, if_neg (by simp <;> omega), List.length_cons]; try omega
theorem OX : ∀ (s : List UInt8) (c : UInt8), 0 ≤ Go.Lib.indexByte s c → ∃ t r, s = t ++ c :: r ∧ Go.Lib.indexByte s c = (t.length : Int)
 | [], c, h => absurd h (by show ¬ (0 : Int) ≤ -1; omega)
 | x :: s, c, h => by
  by_cases q : x = c
  ·subst q;exact ⟨[], s, rfl, by show (if (x == x) = true then (0 : Int) else _) = _; rw [if_pos (by simp)]; rfl⟩
  have e : Go.Lib.indexByte (x :: s) c = if (Go.Lib.indexByte s c == -1) = true then -1 else Go.Lib.indexByte s c + 1 := by
   show (if (x == c) = true then (0 : Int) else _) = _;rw [if_neg (by simpa using q)]
  rw [e] at h ⊢
  by_cases q2 : Go.Lib.indexByte s c = -1
  ·rw [if_pos (by simp [q2])] at h; omega
  rw [if_neg (by simpa using q2)] at h ⊢;have ge := Go.Lib.indexByte_ge s c;obtain ⟨t, r, e1, e2⟩ := OX s c (by omega);exact ⟨x :: t, r, by rw [e1]; rfl, by rw [e2, List.length_cons]; omega⟩
theorem Na (N : Nat) {t r : List UInt8} {c : UInt8} (h : Go.Lib.indexByte (t ++ c :: r) c = (t.length : Int)) (hl : (t ++ c :: r).length ≤ 1000000000000000) : pC N (t ++ c :: r) [c] = some (t, r, true) := by
 rw [List.length_append, List.length_cons] at hl;unfold pC j5;rw [show jN N (t ++ c :: r) [c] = some (t.length : Int) from congrArg some h, eI, cT (dT (by omega)), Hx (by rw [List.length_append]; omega), eI];rw [show (([c] : List UInt8).length : Int) = 1 from rfl, Ha (by omega), Hx (by rw [List.length_append, List.length_cons]; omega), eI, eI]
 congr 2
 ·rw [Int.toNat_natCast, show ((0 : Int)).toNat = 0 from rfl, List.drop_zero, List.take_left]
 ·congr 1
  have e : ∀ n m : Nat, n = t.length + 1 → m = (t ++ c :: r).length → ((t ++ c :: r).take m).drop n = r := by
   intro n m h1 h2;rw [h2, List.take_length, h1, ← List.drop_drop];rw [List.drop_left]; rfl
  exact e _ _ (by omega) (by omega)
theorem OY (N : Nat) {s : List UInt8} {c : UInt8} (h : ¬ 0 ≤ Go.Lib.indexByte s c) : pC N s [c] = some (s, [], false) := by
 unfold pC j5;rw [show jN N s [c] = some (Go.Lib.indexByte s c) from rfl, eI, cF (dF h), eI]
theorem Nb (N : Nat) {n : Nat} {c : UInt8} {r : List UInt8} (hn : n ≤ 100000) (hc : c.toNat < 48) (hA : Go.Lib.atoiAll (wF 20 n) = .ok (n : Int)) (hl : (wF 20 n ++ c :: r).length ≤ 140737488355328) : mX N (wF 20 n ++ c :: r) [c] = some ((n : Int), r, true) := by
 have hd := Cb 20 n;unfold mX;rw [Na N (KV _ c r fun b hb => fun q => by have := KU 20 n b hb; rw [q] at this; omega) (by omega), eI];unfold IZ
 dsimp only
 rw [if_pos (by omega), hA]
 dsimp only
 rw [cT rfl, AY hn, eI]
 congr 3
 exact dT rfl
theorem JE (N : Nat) (s : List UInt8) (c : UInt8) (hl : s.length ≤ 140737488355328) : ∃ n r f, mX N s [c] = some (n, r, f) ∧ (f = true → s = GC n ++ c :: r) := by
 unfold mX
 by_cases h : 0 ≤ Go.Lib.indexByte s c
 ·obtain ⟨t, r, e1, e2⟩ := OX s c h;have hl2 := hl;rw [e1] at e2;rw [e1] at hl2;rw [e1, Na N e2 (by omega), eI];rw [List.length_append] at hl2;unfold IZ
  dsimp only
  rw [if_pos (by omega)]
  rcases hA : Go.Lib.atoiAll t with v | _ | _
  ·dsimp only
   have hb := Go.Lib.atoiAll_bounds hA;rw [cT rfl, show g7 N v = some (GC v) by unfold g7; rw [if_pos (by omega)], eI];exact ⟨_, _, _, rfl, fun q => by rw [of_decide_eq_true q]⟩
  ·dsimp only
   rw [cT rfl]; exact ⟨_, _, _, rfl, fun q => by cases q⟩
  ·dsimp only
   rw [cT rfl]; exact ⟨_, _, _, rfl, fun q => by cases q⟩
 ·rw [OY N h, eI];unfold IZ
  dsimp only
  rw [if_pos (by omega)]
  rcases hA : Go.Lib.atoiAll s with v | _ | _
  ·dsimp only
   rw [cF rfl]; exact ⟨_, _, _, rfl, fun q => by cases q⟩
  ·dsimp only
   rw [cF rfl]; exact ⟨_, _, _, rfl, fun q => by cases q⟩
  ·dsimp only
   rw [cF rfl]; exact ⟨_, _, _, rfl, fun q => by cases q⟩
theorem QS : ∀ n : Fin 65, Go.Lib.atoiAll (wF 20 n.val) = .ok ((n.val : Nat) : Int) := by decide +kernel
theorem HH (deep : Bool) : Go.Lib.atoiAll (Hz deep) = .ok (if deep then 65535 else 255) ∧ Hz deep = wF 20 (if deep then 65535 else 255) := by cases deep <;> decide +kernel
def vR (deep : Bool) (b : List UInt8) : Int := 256 * ((b.getD 0 0).toNat : Int) + ((b.getD (pN deep - 1) 0).toNat : Int)
def UV (deep : Bool) (b : List UInt8) : Px := (vR deep b, vR deep (b.drop (pN deep)), vR deep ((b.drop (pN deep)).drop (pN deep)))
def Gn (deep : Bool) : Nat → List UInt8 → List Px
 | 0, _ => []
 | n + 1, b => UV deep b :: Gn deep n (((b.drop (pN deep)).drop (pN deep)).drop (pN deep))
theorem JF (deep : Bool) : 1 ≤ pN deep ∧ pN deep ≤ 2 := by unfold pN; cases deep <;> decide
theorem KW (deep : Bool) : ∀ (n : Nat) (b : List UInt8), (Gn deep n b).length = n
 | 0, _ => rfl
 | n + 1, b => by unfold Gn; rw [List.length_cons, KW deep n]
theorem Cc {b : List UInt8} {i : Nat} (h : i < b.length) : idx b (i : Int) = some (b.getD i 0) := by
 rw [DV, List.getD_eq_getElem?_getD, List.getElem?_eq_getElem h]; rfl
theorem Cd {b : List UInt8} {z : Nat} (h : z ≤ b.length) : Di b (z : Int) (b.length : Int) = some (b.drop z) := by
 rw [Hx (by omega), Int.toNat_natCast, Int.toNat_natCast, List.take_length]
theorem Mh (a b : UInt8) : EF .i64 (nY .i64 (IntKind.i64.wrap (a.toNat : Int)) 8) (IntKind.i64.wrap (b.toNat : Int)) = 256 * (a.toNat : Int) + (b.toNat : Int) := by
 have ha := a.toNat_lt;have hb := b.toNat_lt;rw [Ha (x := (a.toNat : Int)) (by omega), QR (by omega) (by omega)]
 omega
theorem OZ (deep : Bool) (b : List UInt8) : 0 ≤ vR deep b ∧ vR deep b ≤ 65535 := by
 have h1 := (b.getD 0 0).toNat_lt;have h2 := (b.getD (pN deep - 1) 0).toNat_lt;unfold vR; omega
theorem TN (N : Nat) (deep : Bool) (W H : Int) {n : Nat} (hn : W * H = (n : Int)) (hn2 : n ≤ 4096) (kk) : ∀ (j k fuel : Nat) (acc : List Px) (b : List UInt8), k + j = n → j < fuel → b.length = 3 * pN deep * j → acc.length = k →
  pS N W H (pN deep : Int) kk fuel (acc, b, (k : Int)) = kk (acc ++ Gn deep j b, [], (n : Int)) := by
 have hz := JF deep;have hw : IntKind.i64.wrap (W * H) = (n : Int) := by rw [hn, Ha (by omega)]
 have hz1 : IntKind.i64.wrap ((pN deep : Int) - 1) = ((pN deep - 1 : Nat) : Int) := by rw [Ha (by omega)]; omega
 intro j
 induction j with
 | zero =>
  intro k fuel acc b hk hf hb ha;obtain ⟨fuel, rfl⟩ := Oc fuel (by omega);obtain rfl : k = n := by omega
  obtain rfl : b = [] := List.eq_nil_of_length_eq_zero (by omega);unfold pS;rw [hw, cF (dF (by omega))];unfold Gn;rw [List.append_nil]
 | succ j ih =>
  intro k fuel acc b hk hf hb ha;obtain ⟨fuel, rfl⟩ := Oc fuel (by omega);have hb3 : 3 * pN deep ≤ b.length := by rw [hb, Nat.mul_succ]; omega
  have l1 : (b.drop (pN deep)).length = b.length - pN deep := List.length_drop ..;have l2 : ((b.drop (pN deep)).drop (pN deep)).length = b.length - pN deep - pN deep := by rw [List.length_drop, l1]
  unfold pS;rw [hw, cT (dT (by omega)), hz1, show (0 : Int) = ((0 : Nat) : Int) from rfl, Cc (by omega), eI, Cc (by omega), eI, Cd (by omega), eI, Cc (by omega), eI, Cc (by omega), eI, Cd (by omega), eI, Cc (by omega), eI, Cc (by omega), eI, Cd (by omega), eI, JB (by rw [ha]; simp; omega), eI, Mh, Mh, Mh, Ha (x := (k : Int) + 1) (by omega)];have := ih (k + 1) fuel (acc ++ [UV deep b]) (((b.drop (pN deep)).drop (pN deep)).drop (pN deep)) (by omega) (by omega) (by rw [List.length_drop, l2, hb, Nat.mul_succ]; omega) (by rw [List.length_append, ha]; rfl);refine Eq.trans this ?_;rw [List.append_assoc]; rfl
theorem Mi (N : Nat) (p t : List UInt8) : kX N (p ++ t) p = some (t, true) := by
 unfold kX iH iG
 have e : Di (p ++ t) 0 (p.length : Int) = some p := by
  rw [Hx (by rw [List.length_append]; omega), Int.toNat_natCast, show ((0 : Int)).toNat = 0 from rfl, List.drop_zero, List.take_left]
 rw [cT (dT (by rw [List.length_append]; omega)), e, eI, eI, cF (by simp), Cd (by rw [List.length_append]; omega), eI, eI, List.drop_left]
theorem Mj (N : Nat) (s p : List UInt8) : ∃ t f, kX N s p = some (t, f) ∧ t.length ≤ s.length ∧ (f = true → s = p ++ t) := by
 unfold kX iH iG
 by_cases h : (p.length : Int) ≤ (s.length : Int)
 ·rw [cT (dT h), Hx (by omega), eI, eI]
  by_cases q : List.drop (0 : Int).toNat (List.take (p.length : Int).toNat s) = p
  ·rw [cF (by rw [dT q]; rfl), Cd (by omega), eI, eI];refine ⟨_, _, rfl, by rw [List.length_drop]; omega, fun _ => ?_⟩;rw [Int.toNat_natCast, show ((0 : Int)).toNat = 0 from rfl, List.drop_zero] at q
   conv => lhs; rw [← List.take_append_drop p.length s, q]
  ·rw [cT (by rw [dF q]; rfl), eI];exact ⟨_, _, rfl, Nat.le_refl _, fun q => by cases q⟩
 ·rw [cF (dF h), eI, cT (b := !false) rfl, eI];exact ⟨_, _, rfl, Nat.le_refl _, fun q => by cases q⟩
def KY (deep : Bool) : Nat := if deep then 65535 else 255
theorem Jc (N : Nat) {n : Nat} (hn : n ≤ 64) {c : UInt8} (hc : c.toNat < 48) {r : List UInt8} (hl : (wF 20 n ++ c :: r).length ≤ 140737488355328) : mX N (wF 20 n ++ c :: r) [c] = some ((n : Int), r, true) :=
 Nb N (by omega) hc (QS ⟨n, by omega⟩) hl
theorem QT (N : Nat) (deep : Bool) {r : List UInt8} (hl : (Hz deep ++ 10 :: r).length ≤ 140737488355328) : mX N (Hz deep ++ 10 :: r) [10] = some ((KY deep : Int), r, true) := by
 have e := (HH deep).2;have h := (HH deep).1;rw [e] at hl h ⊢;have q : (if deep then 65535 else 255 : Nat) = KY deep := rfl;rw [q] at hl h ⊢;refine Nb N (by unfold KY; split <;> omega) (by decide) (h.trans ?_) hl
 cases deep <;> rfl
theorem Vn (N : Nat) {w h : Nat} (hw : 1 ≤ w ∧ w ≤ 64) (hh : 1 ≤ h ∧ h ≤ 64) (deep : Bool) (kk) : pU N (w : Int) (h : Int) (KY deep : Int) true kk = kk false := by
 unfold pU;rw [cF (b := !true) rfl, cF (dF (by omega)), cF (dF (by omega)), cF (dF (by omega)), cF (dF (by omega))]
 cases deep <;> rfl
theorem Nc (N : Nat) (hN : 5000 ≤ N) {w h : Nat} (hw : 1 ≤ w ∧ w ≤ 64) (hh : 1 ≤ h ∧ h ≤ 64) (deep : Bool) (b : List UInt8) (hb : b.length = 3 * pN deep * (w * h)) :
  kY N (Fj w h deep ++ b) = some ((w : Int), (h : Int), Gn deep (w * h) b, deep, 0) := by
 have hz := JF deep;have ZA : w * h ≤ 64 * 64 := Nat.mul_le_mul hw.2 hh.2;have hm : pN deep * (w * h) ≤ 2 * (w * h) := Nat.mul_le_mul_right _ hz.2;have hbl : b.length ≤ 24576 := by rw [hb, Nat.mul_assoc]; omega
 have d1 := Cb 20 w;have d2 := Cb 20 h
 have d3 : (Hz deep).length ≤ 5 := by unfold Hz; split <;> decide
 have es : Fj w h deep ++ b = [80, 54, 10] ++ (wF 20 w ++ (32 :: (wF 20 h ++ (10 :: (Hz deep ++ (10 :: b)))))) := by
  unfold Fj;simp only [List.append_assoc, List.cons_append, List.nil_append]
 obtain ⟨F, hF⟩ : ∃ q, N = q + 4 := ⟨N - 4, by omega⟩
 unfold kY;rw [es, Mi, eI]
 conv => lhs; arg 3; rw [hF]
 unfold iX;rw [cT (by rfl), show idx [([32] : List UInt8), ([10] : List UInt8), ([10] : List UInt8)] 0 = some [32] from rfl, eI, Jc N hw.2 (by decide) (by simp; omega), eI, cT (by rfl)];unfold vI;rw [cT rfl]
 dsimp only
 rw [cF (b := !true) rfl];unfold iX;rw [show IntKind.i64.wrap (0 + 1) = (1 : Int) from rfl, cT (by rfl), show idx [([32] : List UInt8), ([10] : List UInt8), ([10] : List UInt8)] 1 = some [10] from rfl, eI, Jc N hh.2 (by decide) (by simp; omega), eI, cF (by rfl), cT (by rfl)];unfold vJ;rw [cT rfl]
 dsimp only
 rw [cF (b := !true) rfl];unfold iX;rw [show IntKind.i64.wrap (1 + 1) = (2 : Int) from rfl, cT (by rfl), show idx [([32] : List UInt8), ([10] : List UInt8), ([10] : List UInt8)] 2 = some [10] from rfl, eI, QT N deep (by simp; omega), eI, cF (by rfl), cF (by rfl), cT (by rfl)];unfold vK;rw [cT rfl]
 dsimp only
 rw [cF (b := !true) rfl];unfold iX;rw [cF (by rfl)]
 dsimp only
 rw [Vn N hw hh deep, cF rfl]
 have e5 : ∀ kk, pT N (KY deep : Int) kk = kk (pN deep : Int) := by intro kk; unfold pT; cases deep <;> rfl
 rw [e5];have i1 : ((w * h : Nat) : Int) = (w : Int) * (h : Int) := Int.natCast_mul w h;have zc : pN deep = 1 ∨ pN deep = 2 := by omega
 have i2 : (3 * (pN deep : Int)) * (w : Int) ≤ 6 * 64 := by rcases zc with z | z <;> rw [z] <;> omega
 have i3 : 0 ≤ (3 * (pN deep : Int)) * (w : Int) := by rcases zc with z | z <;> rw [z] <;> omega
 have i4 : (3 * (pN deep : Int)) * (w : Int) * (h : Int) = ((3 * pN deep * (w * h) : Nat) : Int) := by
  rw [← Nat.mul_assoc, Int.natCast_mul, Int.natCast_mul, Int.natCast_mul]; rfl
 have ew : IntKind.i64.wrap (IntKind.i64.wrap (IntKind.i64.wrap (3 * (pN deep : Int)) * (w : Int)) * (h : Int)) = ((3 * pN deep * (w * h) : Nat) : Int) := by
  rw [Ha (x := 3 * (pN deep : Int)) (by omega), Ha (x := 3 * (pN deep : Int) * (w : Int)) (by omega), i4, Ha (by rw [← hb]; omega)]
 rw [ew, cF (by rw [dT (by rw [hb])]; rfl)];have key := TN N deep (w : Int) (h : Int) (n := w * h) i1.symm (by omega) (fun (Bz, x8, i20) => some ((w : Int), (h : Int), Bz, decide ((KY deep : Int) = 65535), (0 : Int))) (w * h) 0 N [] b (by omega) (by omega) hb rfl;refine Eq.trans key ?_
 dsimp only
 rw [List.nil_append]
 cases deep <;> rfl
theorem TO {b : List UInt8} (h : 2 ≤ b.length) : ∃ x y t, b = x :: y :: t := by
 match b, h with
 | x :: y :: t, _ => exact ⟨x, y, t, rfl⟩
theorem TP {b : List UInt8} (h : 1 ≤ b.length) : ∃ x t, b = x :: t := by
 match b, h with
 | x :: t, _ => exact ⟨x, t, rfl⟩
theorem Mk {a b : UInt8} (h : a.toNat = b.toNat) : a = b := UInt8.toNat_inj.1 h
theorem Ml (deep : Bool) {b : List UInt8} (h : pN deep ≤ b.length) : Mg deep (vR deep b) = b.take (pN deep) := by
 cases deep
 ·obtain ⟨x, t, rfl⟩ := TP h;have hx := x.toNat_lt;show [UInt8.ofNat _] = [x]
  congr 1
  apply Mk
  rw [UInt8.toNat_ofNat'];show ((256 * (x.toNat : Int) + (x.toNat : Int)) / 256 % 256).toNat % 2 ^ 8 = x.toNat;rw [show (256 * (x.toNat : Int) + (x.toNat : Int)) / 256 = (x.toNat : Int) by omega]
  omega
 ·obtain ⟨x, y, t, rfl⟩ := TO h;have hx := x.toNat_lt;have hy := y.toNat_lt;show [UInt8.ofNat _, UInt8.ofNat _] = [x, y]
  congr 1
  ·apply Mk
   rw [UInt8.toNat_ofNat'];show ((256 * (x.toNat : Int) + (y.toNat : Int)) / 256 % 256).toNat % 2 ^ 8 = x.toNat;rw [show (256 * (x.toNat : Int) + (y.toNat : Int)) / 256 = (x.toNat : Int) by omega]
   omega
  ·congr 1
   apply Mk
   rw [UInt8.toNat_ofNat'];show ((256 * (x.toNat : Int) + (y.toNat : Int)) % 256).toNat % 2 ^ 8 = y.toNat
   omega
theorem RN (deep : Bool) : ∀ (n : Nat) (b : List UInt8), b.length = 3 * pN deep * n → ((Gn deep n b).map (Iw deep)).flatten = b
 | 0, b, h => by
  obtain rfl : b = [] := List.eq_nil_of_length_eq_zero (by omega)
  rfl
 | n + 1, b, h => by
  have hz := JF deep;have hb3 : 3 * pN deep ≤ b.length := by rw [h, Nat.mul_succ]; omega
  have l1 : (b.drop (pN deep)).length = b.length - pN deep := List.length_drop ..;have l2 : ((b.drop (pN deep)).drop (pN deep)).length = b.length - pN deep - pN deep := by rw [List.length_drop, l1]
  have ih := RN deep n (((b.drop (pN deep)).drop (pN deep)).drop (pN deep)) (by rw [List.length_drop, l2, h, Nat.mul_succ]; omega);unfold Gn;rw [List.map_cons, List.flatten_cons, ih];unfold Iw UV
  dsimp only
  rw [Ml deep (by omega), Ml deep (by omega), Ml deep (by omega), List.append_assoc, List.append_assoc, List.take_append_drop, List.take_append_drop, List.take_append_drop]
theorem O0 {e : Int} (h : 0 ≤ e ∧ e ≤ 65535) (r : List UInt8) : vR true (Mg true e ++ r) = e := by
 show 256 * (((UInt8.ofNat ((e / 256) % 256).toNat).toNat : Nat) : Int) + (((UInt8.ofNat (e % 256).toNat).toNat : Nat) : Int) = e;rw [UInt8.toNat_ofNat', UInt8.toNat_ofNat']
 omega
theorem JG (deep : Bool) (e : Int) (r : List UInt8) : (Mg deep e ++ r).drop (pN deep) = r := by
 rw [← DX deep e, List.drop_left]
theorem RO : ∀ (P : List Px), P.all Fi = true → Gn true P.length (P.map (Iw true)).flatten = P
 | [], _ => rfl
 | p :: P, h => by
  rw [List.all_cons, Bool.and_eq_true] at h;have ok : (0 ≤ p.1 ∧ p.1 ≤ 65535) ∧ (0 ≤ p.2.1 ∧ p.2.1 ≤ 65535) ∧ (0 ≤ p.2.2 ∧ p.2.2 ≤ 65535) := by simpa [Fi, and_assoc] using h.1
  have ih := RO P h.2;show UV true ((Iw true p) ++ (P.map (Iw true)).flatten) :: Gn true P.length (((((Iw true p) ++ (P.map (Iw true)).flatten).drop (pN true)).drop (pN true)).drop (pN true)) = p :: P;rw [show Iw true p = Mg true p.1 ++ (Mg true p.2.1 ++ Mg true p.2.2) from rfl];unfold UV;rw [List.append_assoc, List.append_assoc, JG, JG, JG, O0 ok.1, O0 ok.2.1, O0 ok.2.2];rw [ih]
theorem Nd (deep : Bool) : ∀ (n : Nat) (b : List UInt8), (Gn deep n b).all Fi = true
 | 0, _ => rfl
 | n + 1, b => by
  unfold Gn;rw [List.all_cons, Bool.and_eq_true];refine ⟨?_, Nd deep n _⟩;have h1 := OZ deep b;have h2 := OZ deep (b.drop (pN deep));have h3 := OZ deep ((b.drop (pN deep)).drop (pN deep))
  simp [Fi, UV, h1, h2, h3, -List.drop_drop]
theorem QU (deep : Bool) {w h : Nat} (hw : 1 ≤ w ∧ w ≤ 64) (hh : 1 ≤ h ∧ h ≤ 64) (b : List UInt8) : D3 (w : Int) (h : Int) (Gn deep (w * h) b) = true := by
 unfold D3;rw [Bool.and_eq_true];refine ⟨?_, Nd deep _ b⟩;rw [decide_eq_true_eq];refine ⟨by omega, by omega, by omega, by omega, ?_⟩;rw [KW, Int.natCast_mul]
theorem HI {n : Int} (h : 0 ≤ n) : GC n = wF 20 n.toNat := by unfold GC; rw [if_neg (by omega)]
theorem O1 (N : Nat) (hN : 5000 ≤ N) (s : List UInt8) (hs : s.length ≤ 140737488355328) :
  kY N s = some (0, 0, [], false, 1) ∨ ∃ w h deep b, (1 ≤ w ∧ w ≤ 64) ∧ (1 ≤ h ∧ h ≤ 64) ∧ s = Fj w h deep ++ b ∧ b.length = 3 * pN deep * (w * h) := by
 obtain ⟨F, hF⟩ : ∃ q, N = q + 4 := ⟨N - 4, by omega⟩
 obtain ⟨t, f, e0, l0, p0⟩ := Mj N s [80, 54, 10];unfold kY;rw [e0, eI];have bad : ∀ (x0 x1 x2 : Int) kk, pU N x0 x1 x2 false kk = kk true := fun _ _ _ _ => rfl
 conv => lhs; lhs; arg 3; rw [hF]
 unfold iX;obtain ⟨n0, r0, f0, e1, p1⟩ := JE N t 32 (by omega);rw [cT (by rfl), show idx [([32] : List UInt8), ([10] : List UInt8), ([10] : List UInt8)] 0 = some [32] from rfl, eI, e1, eI, cT (by rfl)];unfold vI
 rcases (Bool.eq_false_or_eq_true f).symm with hf | hf
 ·left; rw [hf, cF rfl]; dsimp only; rw [cT (b := !false) rfl, bad, cT rfl]
 rw [hf, cT rfl]
 dsimp only
 rcases (Bool.eq_false_or_eq_true f0).symm with hf0 | hf0
 ·left; rw [hf0, cT (b := !false) rfl, bad, cT rfl]
 have q0 := p0 hf;have q1 := p1 hf0;have hl1 : r0.length ≤ t.length := by rw [q1, List.length_append, List.length_cons]; omega
 rw [hf0, cF (b := !true) rfl];unfold iX;obtain ⟨n1, r1, f1, e2, p2⟩ := JE N r0 10 (by omega);rw [show IntKind.i64.wrap (0 + 1) = (1 : Int) from rfl, cT (by rfl), show idx [([32] : List UInt8), ([10] : List UInt8), ([10] : List UInt8)] 1 = some [10] from rfl, eI, e2, eI, cF (by rfl), cT (by rfl)];unfold vJ;rw [cT rfl]
 dsimp only
 rcases (Bool.eq_false_or_eq_true f1).symm with hf1 | hf1
 ·left; rw [hf1, cT (b := !false) rfl, bad, cT rfl]
 have q2 := p2 hf1;have hl2 : r1.length ≤ r0.length := by rw [q2, List.length_append, List.length_cons]; omega
 rw [hf1, cF (b := !true) rfl];unfold iX;obtain ⟨n2, r2, f2, e3, p3⟩ := JE N r1 10 (by omega);rw [show IntKind.i64.wrap (1 + 1) = (2 : Int) from rfl, cT (by rfl), show idx [([32] : List UInt8), ([10] : List UInt8), ([10] : List UInt8)] 2 = some [10] from rfl, eI, e3, eI, cF (by rfl), cF (by rfl), cT (by rfl)];unfold vK;rw [cT rfl]
 dsimp only
 rcases (Bool.eq_false_or_eq_true f2).symm with hf2 | hf2
 ·left; rw [hf2, cT (b := !false) rfl, bad, cT rfl]
 have q3 := p3 hf2;rw [hf2, cF (b := !true) rfl];unfold iX;rw [cF (by rfl)]
 dsimp only
 unfold pU;rw [cF (b := !true) rfl]
 by_cases c1 : n0 < 1
 ·left; rw [cT (dT c1)]; dsimp only; rw [cT rfl]
 rw [cF (dF c1)]
 by_cases c2 : 64 < n0
 ·left; rw [cT (dT c2)]; dsimp only; rw [cT rfl]
 rw [cF (dF c2)]
 by_cases c3 : n1 < 1
 ·left; rw [cT (dT c3)]; dsimp only; rw [cT rfl]
 rw [cF (dF c3)]
 by_cases c4 : 64 < n1
 ·left; rw [cT (dT c4)]; dsimp only; rw [cT rfl]
 rw [cF (dF c4)];obtain ⟨w, rfl⟩ := Int.eq_ofNat_of_zero_le (show 0 ≤ n0 by omega);obtain ⟨h, rfl⟩ := Int.eq_ofNat_of_zero_le (show 0 ≤ n1 by omega);have hw : 1 ≤ w ∧ w ≤ 64 := by omega
 have hh : 1 ≤ h ∧ h ≤ 64 := by omega
 have fin : ∀ deep : Bool, n2 = (KY deep : Int) → s = Fj w h deep ++ r2 := by
  intro deep e;rw [q0, q1, q2, q3, HI (by omega), HI (by omega), e, HI (by omega), Int.toNat_natCast, Int.toNat_natCast, Int.toNat_natCast];rw [show wF 20 (KY deep) = Hz deep from ((HH deep).2).symm];unfold Fj;simp only [List.append_assoc, List.cons_append, List.nil_append]
 have ln : ∀ deep : Bool, ¬ ((r2.length : Int) = IntKind.i64.wrap (IntKind.i64.wrap (IntKind.i64.wrap (3 * (pN deep : Int)) * (w : Int)) * (h : Int))) ∨ r2.length = 3 * pN deep * (w * h) := by
  intro deep;have zc : pN deep = 1 ∨ pN deep = 2 := by have := JF deep; omega
  have i2 : (3 * (pN deep : Int)) * (w : Int) ≤ 6 * 64 := by rcases zc with z | z <;> rw [z] <;> omega
  have i3 : 0 ≤ (3 * (pN deep : Int)) * (w : Int) := by rcases zc with z | z <;> rw [z] <;> omega
  have ZA : w * h ≤ 64 * 64 := Nat.mul_le_mul hw.2 hh.2;have i5 : 3 * pN deep * (w * h) ≤ 6 * (64 * 64) := Nat.mul_le_mul (by omega) ZA
  have i4 : (3 * (pN deep : Int)) * (w : Int) * (h : Int) = ((3 * pN deep * (w * h) : Nat) : Int) := by
   rw [← Nat.mul_assoc, Int.natCast_mul, Int.natCast_mul, Int.natCast_mul]; rfl
  have ew : IntKind.i64.wrap (IntKind.i64.wrap (IntKind.i64.wrap (3 * (pN deep : Int)) * (w : Int)) * (h : Int)) = ((3 * pN deep * (w * h) : Nat) : Int) := by
   rw [Ha (x := 3 * (pN deep : Int)) (by omega), Ha (x := 3 * (pN deep : Int) * (w : Int)) (by omega), i4, Ha (by omega)]
  rw [ew]; omega
 by_cases c5 : n2 = 65535
 ·rw [cF (by rw [dT c5]; rfl)]
  dsimp only
  rw [cF rfl];unfold pT;rw [cT (dT c5)]
  rcases ln true with hn | hn
  ·left; exact cT (b := !decide ((r2.length : Int) = IntKind.i64.wrap (IntKind.i64.wrap (IntKind.i64.wrap (3 * (pN true : Int)) * (w : Int)) * (h : Int)))) (by rw [dF hn]; rfl) _ _
  ·right; exact ⟨w, h, true, r2, hw, hh, fin true c5, hn⟩
 ·rw [cT (by rw [dF c5]; rfl)]
  by_cases c6 : n2 = 255
  ·rw [show (!decide (n2 = 255)) = false by rw [dT c6]; rfl]
   dsimp only
   rw [cF rfl];unfold pT;rw [cF (dF c5)]
   rcases ln false with hn | hn
   ·left; exact cT (b := !decide ((r2.length : Int) = IntKind.i64.wrap (IntKind.i64.wrap (IntKind.i64.wrap (3 * (pN false : Int)) * (w : Int)) * (h : Int)))) (by rw [dF hn]; rfl) _ _
   ·right; exact ⟨w, h, false, r2, hw, hh, fin false c6, hn⟩
  ·left
   rw [show (!decide (n2 = 255)) = true by rw [dF c6]; rfl]
   dsimp only
   rw [cT rfl]
theorem JH : gH 8589934592 = some true := by kernel_rfl
theorem HJ {W : Int} (h : 1 ≤ W) : ((W.toNat : Nat) : Int) = W := by omega
theorem KZ (N : Nat) (hN : 5000 ≤ N) {W H : Int} {P : List Px} (hp : D3 W H P = true) : kY N (Jb W.toNat H.toNat true P) = some (W, H, P, true, 0) := by
 have hs := DW hp
 have hok : P.all Fi = true := by
  unfold D3 at hp;rw [Bool.and_eq_true] at hp;exact hp.2
 have hl : P.length = W.toNat * H.toNat := by
  have e : (P.length : Int) = W * H := hs.2.2.2.2;obtain ⟨w', rfl⟩ := Int.eq_ofNat_of_zero_le (show 0 ≤ W by have := hs.1; omega);obtain ⟨k', rfl⟩ := Int.eq_ofNat_of_zero_le (show 0 ≤ H by have := hs.2.2.1; omega);rw [Int.toNat_natCast, Int.toNat_natCast];have := Int.natCast_mul w' k'
  omega
 have hb : ((P.map (Iw true)).flatten).length = 3 * pN true * P.length := by
  clear hp hs hl hok
  induction P with
  | nil => rfl
  | cons p P ih =>
   rw [List.map_cons, List.flatten_cons, List.length_append, JC, ih, List.length_cons, Nat.mul_succ]; omega
 have h1 := hs.1;have h2 := hs.2.1;have h3 := hs.2.2.1;have h4 := hs.2.2.2.1;have := Nc N hN (w := W.toNat) (h := H.toNat) ⟨by omega, by omega⟩ ⟨by omega, by omega⟩ true ((P.map (Iw true)).flatten) (by rw [hb, hl]);unfold Jb;rw [this, ← hl, RO P hok, HJ h1, HJ h3]
theorem K3 (s : List UInt8) (hs : s.length ≤ 140737488355328) :
  kY 8589934592 s = some (0, 0, [], false, 1) ∨ ∃ W H P deep, D3 W H P = true ∧ kY 8589934592 s = some (W, H, P, deep, 0) ∧ Jb W.toNat H.toNat deep P = s := by
 rcases O1 8589934592 (by omega) s hs with e | ⟨w, h, deep, b, hw, hh, e1, e2⟩
 ·exact Or.inl e
 ·right
  refine ⟨_, _, _, deep, QU deep hw hh b, ?_, ?_⟩
  ·rw [e1]; exact Nc _ (by omega) hw hh deep b e2
  ·unfold Jb;rw [RN deep _ b e2, Int.toNat_natCast, Int.toNat_natCast, e1]
theorem El (s : List UInt8) (hs : s.length ≤ 140737488355328) :
  (Option.bind (kY 8589934592 s) fun r5 => cond (!decide (r5.2.2.2.2 = 0)) (Option.bind (gH 8589934592) fun r6 => some r6) (
   Option.bind (iT 8589934592 r5.1 r5.2.1 r5.2.2.1 r5.2.2.2.1) fun r7 => Option.bind (gH 8589934592) fun r8 =>
   cond r8 (cond (decide (r7.2 = 0)) (some (decide (r7.1 = s))) (some false)) (some false))) = some true := by
 rw [JH]
 rcases K3 s hs with e | ⟨W, H, P, deep, hp, e, e2⟩
 ·rw [e]; rfl
 ·rw [e, eI]
  dsimp only
  rw [cF (b := !decide ((0 : Int) = 0)) rfl, HD 8589934592 (by omega), if_pos hp, eI, eI, cT rfl]
  dsimp only
  rw [cT (b := decide ((0 : Int) = 0)) rfl, e2];exact congrArg some (dT rfl)
theorem Ix (W H : Int) (P : List Px) (s : List UInt8) (hs : s.length ≤ 140737488355328) : nF 8589934592 W H P s = some true := by
 unfold nF;rw [HD 8589934592 (by omega), eI]
 by_cases hp : D3 W H P = true
 ·rw [if_pos hp]
  dsimp only
  rw [cT (b := decide ((0 : Int) = 0)) rfl, KZ 8589934592 (by omega) hp, eI]
  dsimp only
  have hl := (Hy (DW hp)).1;rw [cF (b := !decide ((0 : Int) = 0)) rfl, cF (b := !true) rfl, same_eq 8589934592 W H P (by omega) (by omega), eI, cF (b := !true) rfl];exact El s hs
 ·rw [if_neg hp]
  dsimp only
  rw [cF (b := decide ((1 : Int) = 0)) rfl];exact El s hs
end
section
open Go.RowKit
section
variable {P : Program} {ops : Array Oper} {Q O : Exit → Act → World → Prop} {S : World → Prop} {nV need : Nat → Bool} {R : Act → World → Prop}
def Kh (ops : Array Oper) (rem : List Nat) (i : Nat) : Bool := rem.all fun j => !waits ops i j
def w9 (P : Program) (O : Exit → Act → World → Prop) (ops : Array Oper) (S : World → Prop) (nV need : Nat → Bool) (R : Act → World → Prop) : Nat → List Nat → Act → World → Prop
 | 0, rem, a, w => rem = [] ∧ R a w
 | n + 1, rem, a, w =>
  (∃ i ∈ rem, nV i = true ∧ Kh ops rem i = true ∧ ∃ o, ops[i]? = some o ∧ ∃ v, rK P ops S o v a ∧ w9 P O ops S nV need R n (rem.erase i) (a.put o.dst v) w) ∨
  ((∀ i ∈ rem, nV i = true → Kh ops rem i = false) ∧ ∀ c ∈ rem, nV c = false → Kh ops rem c = true → wpOp P ops O c (fun a' w' => (need c = true → S w') ∧ w9 P O ops S nV need R n (rem.erase c) a' w') a w)
def ER (ops : Array Oper) (nV : Nat → Bool) (i j : Nat) : Bool :=
 match ops[i]?, ops[j]? with
 | some oi, some oj => waits ops i j || ((!nV i || oi.apart ops oj) && (!nV j || oj.apart ops oi))
 | _, _ => false
def K4 (ops : Array Oper) (nV need : Nat → Bool) : Bool :=
 Region.noSelect ops && MX ops && ((List.range ops.size).all fun i => (List.range i).all fun j => ER ops nV i j) &&
 (List.range ops.size).all fun i => nV i || need i || !Hh ops nV i
def NS (O : Exit → Act → World → Prop) : Prop := (∀ e a d v w, O e (a.put d v) w → O e a w) ∧ ¬ LetsOut O
theorem QV : NS Bh := ⟨fun _ _ _ _ _ h => h.elim, fun ⟨_, _, h⟩ => h.elim⟩
theorem K5 (hO : NS O) {j : Nat} {oi oj : Oper} {v : Value} (hj : ops[j]? = some oj) (hap : oi.apart ops oj = true)
  (hsi : ∀ cs b, oi.op ≠ .select cs b) (hsj : ∀ cs b, oj.op ≠ .select cs b) {K : Act → World → Prop} {a : Act} {w : World}
  (hy : rK P ops S oi v a) (h : wpOp P ops O j K (a.put oi.dst v) w) :
  wpOp P ops O j (fun a' w' => rK P ops S oi v a' ∧ K (a'.put oi.dst v) w') a w := by
 obtain ⟨h1, h2, h3⟩ := Oper.apart_spec hap
 have keep : ∀ (a : Act), rK P ops S oi v a → ∀ u, rK P ops S oi v (a.put oj.dst u) := fun a hy u =>
  hy.same (execOp_put oi hsi a oj.dst u h3) (wanted_put oi a oj.dst u h3)
 have keepD : ∀ d, rK P ops S oi v { a with defers := d :: a.defers } := fun d => hy.same rfl rfl
 unfold wpOp at *;simp only [hj] at *;rw [wanted_put oj a oi.dst v h1] at h
 split
 ·rename_i hw
  simp only [hw, if_true] at h
  rcases h with h | ⟨_, hl⟩
  case inr => exact absurd hl hO.2
  refine .inl ?_;unfold Oper.wp at *;rw [execOp_put oj hsj a oi.dst v h1] at h
  generalize (execOp a.eval oj).run P w = r at *
  cases r with
  | ok n w' =>
   cases n <;> simp only [Oper.upon] at h ⊢
   case value u => exact ⟨keep a hy u, by rw [← Act.put_comm a v u h2]; exact h⟩
   case skip => exact ⟨keep a hy _, by rw [← Act.put_comm a v undef h2]; exact h⟩
   case defer d =>
    refine ⟨keep _ (keepD d) _, ?_⟩;rw [← Act.put_comm _ v undef h2, ← Act.put_defers];exact h
   case enter f args =>
    refine Calls.mono h fun e w'' he => ?_
    cases e with
    | returned u => exact ⟨keep a hy u, by rw [← Act.put_comm a v u h2]; exact he⟩
    | panicked c => exact hO.1 _ _ _ _ _ he
    | outgrown => exact absurd he hO.2
   case row row args => exact Rows.mono h fun u w'' he => ⟨keep a hy u, by rw [← Act.put_comm a v u h2]; exact he⟩
  | halt x w' => cases x <;> simp only [Oper.upon] at h ⊢; exact hO.1 _ _ _ _ _ h
 ·rename_i hw
  simp only [hw] at h;exact ⟨keep a hy _, by rw [← Act.put_comm a v undef h2]; exact h⟩
theorem NT (hO : NS O) (hQ : ∀ e a w, O e a w → Q e a w) {i : Nat} {K : Act → World → Prop} {a : Act} {w : World} (h : wpOp P ops O i K a w) : wpOp P ops Q i K a w := by
  unfold wpOp at *
  split
  · rename_i h0
    simp only [h0] at h
    exact h
  · rename_i o ho
    simp only [ho] at h
    split
    · rename_i hw
      rw [if_pos hw] at h
      rcases h with h | ⟨_, hl⟩
      case inr => exact absurd hl hO.2
      refine .inl ?_
      unfold Oper.wp at *
      generalize (execOp a.eval o).run P w = r at *
      cases r with
      | ok n w' =>
        cases n <;> simp only [Oper.upon] at h ⊢ <;> first
          | exact h
          | (refine Calls.mono h fun e w'' he => ?_
             cases e with
             | returned u => exact he
             | panicked c => exact hQ _ _ _ he
             | outgrown => exact absurd he hO.2)
      | halt x w' => cases x <;> simp only [Oper.upon] at h ⊢; exact hQ _ _ _ h
    · rename_i hw
      rw [if_neg hw] at h
      exact h
theorem Ab {rem : List Nat} {i k : Nat} (h : Kh ops rem i = true) : Kh ops (rem.erase k) i = true := by
 unfold Kh at *;rw [List.all_eq_true] at *;exact fun j hj => h j (List.mem_of_mem_erase hj)
theorem u5 {rem : List Nat} {i j : Nat} (h : Kh ops rem i = true) (hj : j ∈ rem) : waits ops i j = false := by
 unfold Kh at h;rw [List.all_eq_true] at h
 simpa using h j hj
theorem Nf {i : Nat} {oi : Oper} (hi : ops[i]? = some oi) (hr : nV i = true) (hsel : ∀ (j : Nat) (o : Oper) cs b, ops[j]? = some o → o.op ≠ .select cs b)
  (Bi : ∀ j k oj ok, j ≠ k → ops[j]? = some oj → ops[k]? = some ok → waits ops j k = false → waits ops k j = false → (nV j = true → oj.apart ops ok = true)) :
  ∀ (n : Nat) (rem : List Nat) (a : Act) (w : World), i ∈ rem → Kh ops rem i = true → w9 P O ops S nV need R (n + 1) rem a w → ∃ v, rK P ops S oi v a ∧ w9 P O ops S nV need R n (rem.erase i) (a.put oi.dst v) w := by
 intro n
 induction n with
 | zero =>
  intro rem a w him hrd h
  rcases h with ⟨i0, hi0, hr0, hd0, o0, ho0, u, hu, h⟩ | ⟨hno, _⟩
  ·obtain ⟨hnil, hR⟩ := h
   have : i0 = i := by
    by_cases e : i0 = i
    ·exact e
    ·have : i ∈ rem.erase i0 := (List.mem_erase_of_ne (fun h => e h.symm)).2 him;rw [hnil] at this; cases this
   subst this;obtain rfl : o0 = oi := Option.some.inj (ho0.symm.trans hi);exact ⟨u, hu, hnil, hR⟩
  ·rw [hno i him hr] at hrd; cases hrd
 | succ n ih =>
  intro rem a w him hrd h
  rcases h with ⟨i0, hi0, hr0, hd0, o0, ho0, u, hu, h⟩ | ⟨hno, _⟩
  ·by_cases e : i0 = i
   ·subst e;obtain rfl : o0 = oi := Option.some.inj (ho0.symm.trans hi);exact ⟨u, hu, h⟩
   ·have Yz : i ∈ rem.erase i0 := (List.mem_erase_of_ne (fun h => e h.symm)).2 him;obtain ⟨v, hv, h⟩ := ih _ _ _ Yz (Ab hrd) h;have w1 := u5 hrd hi0;have w2 := u5 hd0 him;have Z9 := Bi i i0 oi o0 (fun h => e h.symm) hi ho0 w1 w2 hr;have ap2 := Bi i0 i o0 oi e ho0 hi w2 w1 hr0;obtain ⟨p1, p2, p3⟩ := Oper.apart_spec Z9;obtain ⟨q1, q2, q3⟩ := Oper.apart_spec ap2;have hv' : rK P ops S oi v a := hv.same (execOp_put oi (fun cs b => hsel i oi cs b hi) a o0.dst u p3).symm (wanted_put oi a o0.dst u p3).symm;refine ⟨v, hv', .inl ⟨i0, (List.mem_erase_of_ne e).2 hi0, hr0, Ab hd0, o0, ho0, u, ?_, ?_⟩⟩
    ·exact hu.same (execOp_put o0 (fun cs b => hsel i0 o0 cs b ho0) a oi.dst v q3) (wanted_put o0 a oi.dst v q3)
    ·rw [List.erase_comm, Act.put_comm a v u p2]; exact h
  ·rw [hno i him hr] at hrd; cases hrd
theorem QW (hO : NS O) {c : Nat} {oc : Oper} (hc : ops[c]? = some oc) (hrc : nV c = false) (hsel : ∀ (j : Nat) (o : Oper) cs b, ops[j]? = some o → o.op ≠ .select cs b)
  (Bi : ∀ j k oj ok, j ≠ k → ops[j]? = some oj → ops[k]? = some ok → waits ops j k = false → waits ops k j = false → (nV j = true → oj.apart ops ok = true)) :
  ∀ (n : Nat) (rem : List Nat) (a : Act) (w : World), c ∈ rem → Kh ops rem c = true → w9 P O ops S nV need R (n + 1) rem a w → wpOp P ops O c (fun a' w' => (need c = true → S w') ∧ w9 P O ops S nV need R n (rem.erase c) a' w') a w := by
 intro n
 induction n with
 | zero =>
  intro rem a w hcm hrd h
  rcases h with ⟨i0, hi0, hr0, hd0, o0, ho0, u, hu, h⟩ | ⟨_, h⟩
  ·obtain ⟨hnil, hR⟩ := h;have e : i0 ≠ c := fun e => by subst e; rw [hrc] at hr0; cases hr0
   have : c ∈ rem.erase i0 := (List.mem_erase_of_ne (fun h => e h.symm)).2 hcm;rw [hnil] at this; cases this
  ·exact h c hcm hrc hrd
 | succ n ih =>
  intro rem a w hcm hrd h
  rcases h with ⟨i0, hi0, hr0, hd0, o0, ho0, u, hu, h⟩ | ⟨_, h⟩
  ·have e : i0 ≠ c := fun e => by subst e; rw [hrc] at hr0; cases hr0
   have hcm' : c ∈ rem.erase i0 := (List.mem_erase_of_ne (fun h => e h.symm)).2 hcm;have h2 := ih _ _ _ hcm' (Ab hrd) h;have w1 := u5 hrd hi0;have w2 := u5 hd0 hcm;have ap := Bi i0 c o0 oc e ho0 hc w2 w1 hr0;have h3 := K5 hO hc ap (fun cs b => hsel i0 o0 cs b ho0) (fun cs b => hsel c oc cs b hc) hu h2;refine wpOp_mono ?_ h3;rintro a' w' ⟨hy, hn, hk⟩;refine ⟨hn, .inl ⟨i0, (List.mem_erase_of_ne e).2 hi0, hr0, Ab hd0, o0, ho0, u, hy, ?_⟩⟩;rw [List.erase_comm]; exact hk
  ·exact h c hcm hrc hrd
theorem CT {l : List Nat} (hl : l.Nodup) (i : Nat) : l.filter (· != i) = l.erase i := by
 rw [List.Nodup.erase_eq_filter hl]
theorem K6 (hO : NS O) (hQ : ∀ e a w, O e a w → Q e a w) (hok : K4 ops nV need = true) : ∀ (fuel : Nat) (listed : Array Bool) (a : Act) (w : World), listed.size = ops.size → Closed ops listed → (jG ops listed).length = fuel →
  (∀ r ∈ jG ops listed, nV r = true → S w) → w9 P O ops S nV need (Q .normal) fuel (jG ops listed) a w → wpAny P .any ops Q fuel listed a w := by
 simp only [K4, Bool.and_eq_true] at hok;obtain ⟨⟨⟨Kl, hback⟩, Mm⟩, Km⟩ := hok;have hsel := Region.noSelect_spec Kl;have hp : ∀ i < ops.size, ∀ j < i, ER ops nV i j = true := fun i hi j hj => List.all_eq_true.1 (List.all_eq_true.1 Mm i (List.mem_range.2 hi)) j (List.mem_range.2 hj)
 have Bi : ∀ j k oj ok, j ≠ k → ops[j]? = some oj → ops[k]? = some ok → waits ops j k = false → waits ops k j = false → (nV j = true → oj.apart ops ok = true) := by
  intro j k oj ok hjk hj hk w1 w2 hr;have hjl := (Array.getElem?_eq_some_iff.1 hj).1;have hkl := (Array.getElem?_eq_some_iff.1 hk).1
  rcases Nat.lt_or_gt_of_ne hjk with hlt | hlt
  ·have h := hp k hkl j hlt;unfold ER at h;simp only [hj, hk, w2, Bool.false_or, Bool.and_eq_true, Bool.or_eq_true, Bool.not_eq_true'] at h
   rcases h.2 with h0 | h0
   ·rw [hr] at h0; cases h0
   ·exact h0
  ·have h := hp j hjl k hlt;unfold ER at h;simp only [hj, hk, w1, Bool.false_or, Bool.and_eq_true, Bool.or_eq_true, Bool.not_eq_true'] at h
   rcases h.1 with h0 | h0
   ·rw [hr] at h0; cases h0
   ·exact h0
 have hbk : ∀ i o, ops[i]? = some o → ∀ e ∈ o.after, Region.binds .any e = true → e.on < i := fun i o ho e he hb => by
  have hi : i < ops.size := (Array.getElem?_eq_some_iff.1 ho).1;have h := List.all_eq_true.1 hback i (List.mem_range.2 hi);simp only [ho] at h;have h2 := Array.all_eq_true_iff_forall_mem.1 h e he
  simpa [hb] using h2
 have hnd : ∀ i < ops.size, nV i = false → ∀ r < ops.size, nV r = true → waits ops i r = false → need i = true := fun i hi Ea r hr hrr hw => by
  have h := List.all_eq_true.1 Km i (List.mem_range.2 hi);simp only [Ea, Bool.false_or, Bool.or_eq_true, Bool.not_eq_true'] at h;refine h.resolve_right fun h0 => ?_
  have : Hh ops nV i = true := by
   refine List.any_eq_true.2 ⟨r, List.mem_range.2 hr, ?_⟩;have : r ≠ i := fun e => by subst e; rw [Ea] at hrr; cases hrr
   simp [hrr, hw, this]
  rw [this] at h0;cases h0
 intro fuel
 induction fuel with
 | zero =>
  intro listed a w hs hc hlen _ h;have hnil : jG ops listed = [] := List.eq_nil_of_length_eq_zero hlen;obtain ⟨_, h⟩ := h;refine ⟨?_, h⟩;refine List.eq_nil_iff_forall_not_mem.2 fun i hi => ?_
  obtain ⟨h0, o, ho, _⟩ := mem_ready.1 hi;have : i ∈ jG ops listed := lF.2 ⟨(Array.getElem?_eq_some_iff.1 ho).1, h0⟩;rw [hnil] at this;cases this
 | succ fuel ih =>
  intro listed a w hs hc hlen hS h;refine ⟨fun h0 => ?_, fun i hi => ?_⟩
  ·exfalso
   match hr : jG ops listed, hlen with
   | i0 :: rest, _ =>
    have hm0 : i0 ∈ jG ops listed := by rw [hr]; exact List.mem_cons_self ..
    obtain ⟨hlt, hun⟩ := lF.1 hm0;have Bj := s0 (ops := ops) listed;rw [hr, List.pairwise_cons] at Bj
    have : i0 ∈ Region.ready .any ops listed := by
     refine mem_ready.2 ⟨hun, ops[i0], Array.getElem?_eq_getElem hlt, fun e he hb => ?_⟩;have hlt2 := hbk i0 _ (Array.getElem?_eq_getElem hlt) e he hb;cases hl : listed.getD e.on false with
     | true => rfl
     | false =>
      have hm : e.on ∈ jG ops listed := lF.2 ⟨by omega, by rw [z7 (by omega)]; exact hl⟩;rw [hr] at hm
      rcases List.mem_cons.1 hm with hm | hm
      ·omega
      ·have := Bj.1 _ hm; omega
    rw [h0] at this;cases this
  ·obtain ⟨hun, oi, hoi, hall⟩ := mem_ready.1 hi;have hilt : i < ops.size := (Array.getElem?_eq_some_iff.1 hoi).1;have him : i ∈ jG ops listed := lF.2 ⟨hilt, hun⟩;have Mn : (jG ops listed).Nodup := (s0 (ops := ops) listed).imp fun h => Nat.ne_of_lt h
   have Bl : jG ops (listed.setIfInBounds i true) = (jG ops listed).erase i := by rw [Gd hs hilt, CT Mn]
   have hlen' : (jG ops (listed.setIfInBounds i true)).length = fuel := by
    rw [Bl, List.length_erase_of_mem him]; omega
   have hs' : (listed.setIfInBounds i true).size = ops.size := by simpa using hs
   have hc' : Closed ops (listed.setIfInBounds i true) := by
    intro k hk j hj
    by_cases hik : i = k
    ·subst hik; exact getD_set_true (rQ hi hj)
    ·rw [getD_set_ne false hik] at hk; exact getD_set_true (hc k hk j hj)
   have hrd : Kh ops (jG ops listed) i = true := by
    unfold Kh;rw [List.all_eq_true];intro j hj;obtain ⟨h1, h2⟩ := lF.1 hj;cases hw : waits ops i j with
    | false => rfl
    | true =>
     have := rQ hi hw;rw [← z7 (by omega), h2] at this; cases this
   cases Ea : nV i with
   | true =>
    have hSw : S w := hS i him Ea;obtain ⟨v, hv, hrest⟩ := Nf hoi Ea hsel Bi fuel _ a w him hrd h;refine hv.run hoi hSw (ih _ _ _ hs' hc' hlen' (fun _ _ _ => hSw) (by rw [Bl]; exact hrest))
   | false =>
    have h2 := QW hO hoi Ea hsel Bi fuel _ a w him hrd h;refine NT hO hQ (wpOp_mono ?_ h2);rintro a' w' ⟨hn, hk⟩;refine ih _ _ _ hs' hc' hlen' ?_ (by rw [Bl]; exact hk);intro r hr hrr;rw [Bl] at hr;have hrm := List.mem_of_mem_erase hr;exact hn (hnd i hilt Ea r (lF.1 hrm).1 hrr (u5 hrd hrm))
theorem JI (hO : NS O) (hQ : ∀ e a w, O e a w → Q e a w) {id : Nat} {a : Act} {w : World} {l : List Oper} (S : World → Prop) (f : List Nat) (n : Nat) (rem : List Nat) (hm : P.follows .mixedOrders = true) (hok : K4 l.toArray (nW f) (jK f) = true)
  (hl : List.range l.toArray.size = rem) (hn : rem.length = n) (hS : S w.drew) (h : w9 P O l.toArray S (nW f) (jK f) (Q .normal) n rem a w.drew) : (Code.region id l.toArray true).wp P Q a w := by
 refine wp_region_any hm ?_
 have EA : jG l.toArray (Array.replicate l.toArray.size false) = List.range l.toArray.size := by
  unfold jG;refine List.filter_eq_self.2 fun i hi => ?_
  have := List.mem_range.1 hi
  simp at this
  simp [this]
 refine K6 hO hQ hok l.toArray.size (Array.replicate l.toArray.size false) a _ (by simp) ?_ (by rw [EA]; simp) (fun _ _ _ => hS) ?_
 ·intro i hi;rw [sZ] at hi;cases hi
 ·rw [EA, hl];have : l.toArray.size = n := by rw [← hn, ← hl]; simp
  rw [this]; exact h
theorem jV {id : Nat} {a : Act} {w : World} {l : List Oper} (S : World → Prop) (f : List Nat) (n : Nat) (rem : List Nat) (hm : P.follows .mixedOrders = true) (hok : K4 l.toArray (nW f) (jK f) = true)
  (hl : List.range l.toArray.size = rem) (hn : rem.length = n) (hS : S w.drew) (h : w9 P Bh l.toArray S (nW f) (jK f) (Q .normal) n rem a w.drew) : (Code.region id l.toArray true).wp P Q a w :=
 JI QV (fun _ _ _ h => h.elim) S f n rem hm hok hl hn hS h
theorem put_defers (a : Act) (d : Option Nat) (v : Value) : (a.put d v).defers = a.defers := by cases d <;> rfl
variable {D : List Deferred} {a : Act} {w : World} {N : Nat} {l : List (Nat × Value)} {o : Oper} {v : Value} {post : Value → World → Prop} {d i c n : Nat} {rem CI : List Nat} {f : List Nat}
theorem bG (i : Nat) (CI : List Nat) (hc : (rem.elem i && nW f i && Kh ops rem i && rem.erase i == CI) = true) (ho : ops[i]? = some o) (K : Kd D a N l) (hw : Region.wanted o (yielded ops a.tmps) = true) (hd : o.dst = some d) (hN : Nat.blt d N = true) (hr : Rd P S a o v)
  (k : ∀ a', Kd D a' N ((d, v) :: l) → w9 P O ops S (nW f) (jK f) R n CI a' w) : w9 P O ops S (nW f) (jK f) R (n + 1) rem a w := by
 simp only [Bool.and_eq_true, beq_iff_eq, List.elem_iff] at hc;obtain ⟨⟨⟨h1, h2⟩, h3⟩, rfl⟩ := hc;refine .inl ⟨i, h1, h2, h3, o, ho, v, .inl ⟨hw, hr⟩, ?_⟩;have := K.put (d := o.dst) (by rw [hd]; exact hN) v;rw [hd] at this ⊢;exact k _ this
def TQ (p : Nat → Prop) : List Nat → Prop
 | [] => True
 | c :: cs => p c ∧ TQ p cs
theorem K7 {p : Nat → Prop} : ∀ {cs : List Nat}, TQ p cs → ∀ c ∈ cs, p c
 | [], _, c, h => by cases h
 | d :: cs, h, c, hc => by
  rcases List.mem_cons.1 hc with rfl | hc
  ·exact h.1
  ·exact K7 h.2 c hc
theorem fB (cs : List Nat) (hc : ((rem.all fun i => !nW f i || !Kh ops rem i) && (rem.filter fun c => !nW f c && Kh ops rem c) == cs) = true)
  (h : TQ (fun c => wpOp P ops O c (fun a' w' => (jK f c = true → S w') ∧ w9 P O ops S (nW f) (jK f) R n (rem.erase c) a' w') a w) cs) : w9 P O ops S (nW f) (jK f) R (n + 1) rem a w := by
 simp only [Bool.and_eq_true, beq_iff_eq] at hc;obtain ⟨h1, rfl⟩ := hc;refine .inr ⟨fun i hi hr => ?_, fun c hcm hr hrd => K7 h c (List.mem_filter.2 ⟨hcm, by simp [hr, hrd]⟩)⟩;have := List.all_eq_true.1 h1 i hi
 simpa [hr] using this
theorem iR (CI : List Nat) (hc : (rem.erase c == CI) = true) (ho : ops[c]? = some o) (K : Kd D a N l) (hw : Region.wanted o (yielded ops a.tmps) = true) (hd : o.dst = some d) (hN : Nat.blt d N = true) (h : Ac P o a w post)
  (k : ∀ v a' w', post v w' → Kd D a' N ((d, v) :: l) → (jK f c = true → S w') ∧ w9 P O ops S (nW f) (jK f) R n CI a' w') : wpOp P ops O c (fun a' w' => (jK f c = true → S w') ∧ w9 P O ops S (nW f) (jK f) R n (rem.erase c) a' w') a w := by
 obtain rfl : rem.erase c = CI := by simpa using hc
 unfold wpOp;simp only [ho, hw, if_true];refine .inl (h _ _ fun v w' hp => ?_);have := K.put (d := o.dst) (by rw [hd]; exact hN) v;rw [hd] at this ⊢;exact k v _ w' hp this
theorem oZ (CI : List Nat) (hc : (rem.erase c == CI) = true) (ho : ops[c]? = some o) (K : Kd D a N l) (hw : Region.wanted o (yielded ops a.tmps) = true) (hd : o.dst = none) (h : Ac P o a w post)
  (k : ∀ v a' w', post v w' → Kd D a' N l → (jK f c = true → S w') ∧ w9 P O ops S (nW f) (jK f) R n CI a' w') : wpOp P ops O c (fun a' w' => (jK f c = true → S w') ∧ w9 P O ops S (nW f) (jK f) R n (rem.erase c) a' w') a w := by
 obtain rfl : rem.erase c = CI := by simpa using hc
 unfold wpOp;simp only [ho, hw, if_true];refine .inl (h _ _ fun v w' hp => ?_);rw [hd];exact k v _ w' hp K
theorem xA {St Rt : Type} {Rel : St → Act → World → Prop} {kk : St → Option Rt} {jf : (St → Option Rt) → Option Rt} {r : Rt} {p : Code} (h : jf kk = some r) (hk : ∀ st a w, Rel st a w → kk st = some r → Q .normal a w)
  (hc : ∀ kk : St → Option Rt, (∀ st a w, Rel st a w → kk st = some r → Q .normal a w) → jf kk = some r → p.wp P Q a w) : p.wp P Q a w := hc kk hk h
def Bo (P : Program) (o : Oper) (a : Act) (w : World) (Pn : List PanicEntry → World → Prop) : Prop :=
 ∀ (K : Act → World → Prop) (Q : Exit → Act → World → Prop), (∀ ch w', Pn ch w' → Q (.panic ch) a w') → o.wp P a w K Q
theorem QX {Pn : List PanicEntry → World → Prop} {fi : FuncId} {x : Operand} {cap vs : List Value} {args : Array Operand} {ts : Array TypeId} (ho : o.op = .call { callee := .value x, args := args, argTypes := ts }) (hf : dY P fi = true) (K : Kd D a N l) (hx : iP l x = some (.func (.func fi) #[] cap.toArray)) (hargs : args.toList.map (iP l) = vs.map some)
  (h : Calls P fi (vs ++ cap).toArray w fun e w' => ∃ ch, e = .panicked ch ∧ Pn ch w') : Bo P o a w Pn := by
 have hE : args.map a.eval = vs.toArray := by
  apply Array.ext'
  simp only [Array.toList_map]
  have : ∀ (xs : List Operand) (vs : List Value), xs.map (iP l) = vs.map some → xs.map a.eval = vs := by
   intro xs
   induction xs with
   | nil => intro vs h; cases vs <;> simp_all
   | cons x xs ih =>
    intro vs h;cases vs with
    | nil => simp at h
    | cons v vs => simp only [List.map_cons, List.cons.injEq] at h ⊢; exact ⟨K.ev h.1, ih vs h.2⟩
  exact this _ _ hargs
 have hrun : (execOp a.eval o).run P w = .ok (.enter fi (vs ++ cap).toArray) w := by
  unfold dY at hf
  split at hf
  ·rename_i fn hfn
   simp only [Bool.and_eq_true, bne_iff_ne, ne_eq] at hf;obtain ⟨b, hb⟩ := Option.isSome_iff_exists.1 hf.1;unfold execOp
   simp [ho, resolve, K.ev hx, hE, Deferred.ofValue, invoke, callFunc, hfn, hb, hf.2]
  ·cases hf
 intro K' Q hK;unfold Oper.wp;rw [hrun, Oper.upon_enter];refine h.mono ?_;rintro e w' ⟨ch, rfl, hp⟩;exact hK ch w' hp
theorem pZ {Pn : List PanicEntry → World → Prop} {x : Operand} {T : TypeId} {u : Value} (ho : o.op = .panic x) (K : Kd D a N l) (hx : iP l x = some (.iface T u)) (h : Pn [{ v := .iface T u, recovered := false }] w) : Bo P o a w Pn := by
 intro K2 Q2 hQ;unfold Oper.wp
 have : (execOp a.eval o).run P w = .halt (.panic (.iface T u)) w := by
  unfold execOp
  simp [ho, K.ev hx, run_panic_iface, Result.andThen]
 rw [this];exact hQ _ _ h
theorem p6 {rest : List Oper} {Pn : List PanicEntry → World → Prop} (K : Kd D a N l) (hw : Region.wanted o (yielded ops a.tmps) = true) (h : Bo P o a w Pn) (k : ∀ ch w', Pn ch w' → Q (.panic ch) a w') : wpList P ops Q (o :: rest) a w := by
 refine wpList_step fun Kc hK => ?_
 rw [if_pos hw];exact h _ _ k
theorem eD {K : Act → World → Prop} {ch : List PanicEntry} (h : Q (.panic ch) a w) : Exit.then K Q (.panic ch) a w := h
theorem jC {id : Nat} {ch : List PanicEntry} (h : Q (.panic ch) a w) : Exit.inBlock id Q (.panic ch) a w := h
theorem j0 {fn : Func} {Rp : Ending → World → Prop} {ch : List PanicEntry} (hd : a.defers = []) (h : Rp (.panicked ch) w) : bodyPost P fn Rp (.panic ch) a w := ⟨hd, h⟩
theorem kV (h : R a w) : w9 P O ops S (nW f) (jK f) R 0 [] a w := ⟨rfl, h⟩
end
section
variable {P : Program} {S : World → Prop} {base : Nat} {W w : World} {L : List kU} {D : List Deferred} {a : Act} {N : Nat} {l : List (Nat × Value)} {o : Oper} {v v' : Value} {x y ix : Operand} {k : IntKind} {m n : Int} {t e t' : TypeId} {g off : Nat} {cs : List Value} {α : Type} {C : rL α} {xs ys zs : List α} {A B : Option Addr} {c c' : Nat}
theorem Vo : (⟨g, off, none⟩ : Addr).add 0 = ⟨g, off, none⟩ := by unfold Addr.add; split <;> simp_all
theorem nX {len s : Nat} (ho : o.op = .slice t x none none none) (ht : P.underlying t = some (.array len e)) (hsz : (P.info? e).map (·.size) = some s) (K : Kd D a N l) (hx : iP l x = some (.pointer (some ⟨g, off, none⟩))) :
  Rd P S a o (.slice (some ⟨g, off, none⟩) len len) := fun w _ => by
 simp only [Option.map_eq_some_iff] at hsz;obtain ⟨i, oY, hs⟩ := hsz;unfold execOp
 simp [ho, K.ev hx, Instr.sliceAt, Instr.sliceBounds, Instr.sureAddr, run_underlying ht, sizeOf, typeInfo, oY, hs, Vo]
theorem Gp (hx : (cs.drop off).take (C.all xs).length = C.all xs) (h : hZ w g t cs.toArray) : SL w C (some ⟨g, off, none⟩) xs := fun _ => ⟨g, off, rfl, fun j u hu => by
 rw [h.cell];have hj : j < (C.all xs).length := (List.getElem?_eq_some_iff.1 hu).1;rw [← hx, List.getElem?_take, if_pos hj, List.getElem?_drop] at hu
 simpa using hu⟩
theorem kC (ho : o.op = .makeInterface t x) (ht : P.concrete t = true) (K : Kd D a N l) (hx : iP l x = some v) : Rd P S a o (.iface t v) := fun w _ => by
 unfold execOp
 simp [ho, K.ev hx, run_makeInterface w t v ht]
theorem ES {b s j len : Nat} (ho : o.op = .indexAddr t x ix) (ht : Hj P t e s b = true) (K : Kd D a N l) (hx : iP l x = some (.slice (some ⟨g, 0, none⟩) len c)) (hi : iP l ix = some (.int k j)) (hj : Nat.blt j len = true) : Rd P S a o (.pointer (some ⟨g, j * s, none⟩)) := fun w _ => by
  obtain ⟨hu, i, oY, hs, _⟩ := k4 ht
  have h1 : (j : Int) < len := by have : j < len := by simpa [Nat.blt_eq] using hj
                                  omega
  have hadd : (⟨g, 0, none⟩ : Addr).add (j * s) = ⟨g, j * s, none⟩ := by unfold Addr.add; split <;> simp_all
  unfold execOp
  simp [ho, K.ev hx, K.ev hi, Instr.indexAt, asIntOf, run_underlying hu, sizeOf, typeInfo, oY, hs, h1, hadd]
  intro hh; omega
theorem SL.Fk {C : rL α} {A : Option Addr} {xs : List α} (h : SL w C A xs) (hA : A.isNone = true) : xs = [] := by
 rcases Nat.eq_zero_or_pos xs.length with h0 | h0
 ·exact List.length_eq_zero_iff.1 h0
 ·obtain ⟨b, o', rfl, _⟩ := h h0;cases hA
theorem u6 {n : Nat} (ho : o.op = .binOp .eql t x y t') (ht : ∃ e, P.underlying t = some (.slice e)) (K : Kd D a N l) (hx : iP l x = some (.slice A n c)) (hy : iP l y = some (.slice none 0 0)) : Rd P S a o (.bool A.isNone) := fun w hS => by
 obtain ⟨e, ht⟩ := ht;unfold execOp;simp only [ho, K.ev hx, K.ev hy, Sem.run_bind];have h1 := Lib.run_eql_slice_nil (P := P) w t e A n c 0 0 ht
 cases A <;> simp [eqGuard, h1]
theorem xB {f : FuncId} {vs : List Value} {u : Value} {mn : String} {args : Array Operand} {ts : Array TypeId} (ho : o.op = .call { callee := .invoke x mn, args := args, argTypes := ts }) (hf : dY P f = true)
  (hm : ∀ v w, (method (P.types.size + Made.depth) t v mn).run P w = .ok (f, v) w) (K : Kd D a N l) (hx : iP l x = some (.iface t u)) (hargs : args.toList.map (iP l) = vs.map some) {post : Value → World → Prop}
  (h : Calls P f (u :: vs).toArray w fun e w' => ∃ v, e = .returned v ∧ post v w') : Ac P o a w post := by
 have hE : args.map a.eval = vs.toArray := by
  apply Array.ext'
  simp only [Array.toList_map]
  have : ∀ (xs : List Operand) (vs : List Value), xs.map (iP l) = vs.map some → xs.map a.eval = vs := by
   intro xs
   induction xs with
   | nil => intro vs h; cases vs <;> simp_all
   | cons x xs ih =>
    intro vs h;cases vs with
    | nil => simp at h
    | cons v vs => simp only [List.map_cons, List.cons.injEq] at h ⊢; exact ⟨K.ev h.1, ih vs h.2⟩
  exact this _ _ hargs
 have hrun : (execOp a.eval o).run P w = .ok (.enter f (u :: vs).toArray) w := by
  unfold dY at hf
  split at hf
  ·rename_i fn hfn
   simp only [Bool.and_eq_true, bne_iff_ne, ne_eq] at hf;obtain ⟨b, hb⟩ := Option.isSome_iff_exists.1 hf.1;unfold execOp
   simp [ho, resolve, K.ev hx, hE, invoke, callMethod, hm, callFunc, hfn, hb, hf.2]
  ·cases hf
 intro K' Q hK;unfold Oper.wp;rw [hrun, Oper.upon_enter];refine h.mono ?_;rintro e w' ⟨v, rfl, hp⟩;exact hK v w' hp
theorem CJ {b s : Nat} (ho : o.op = .buildSlice t 0 #[]) (ht : Hj P t e s b = true) (hs : s = C.size) (K : Kd D a N l) (M : Mem base W w L) :
  Ac P o a w fun v w' => ∃ g, v = .slice (some ⟨g, 0, none⟩) ([] : List α).length 0 ∧ Mem base W w' (.row e s (some ⟨g, 0, none⟩) ([] : List α).length 0 (C.all ([] : List α)) :: L) := by
 refine wM (v := .slice (some ⟨w.heap.size, 0, none⟩) 0 0) (w' := w.alloc (.cells #[] e)) ?_ ⟨_, rfl, ?_⟩
 ·obtain ⟨hu, i, oY, hsz, _⟩ := k4 ht;unfold execOp
  simp [ho, Instr.buildSlice, Sem.run_bind, run_underlying hu, Result.andThen_ok, sizeOf, typeInfo, run_program, oY, hsz, Instr.fill, newRow, run_newObj_alloc]
  congr 2
  exact Array.eq_empty_of_size_eq_zero (by simp)
 ·exact (M.new e []).jM 0 rfl C [] rfl rfl hs
theorem NU {n : Nat} {ds cs' : List Value} (ho : o.op = .store t x y) (ht : zL P t n = true) (K : Kd D a N l) (hx : iP l x = some (.pointer (some ⟨g, off, none⟩))) (hy : iP l y = some (.agg ds.toArray)) (h1 : ds.all (·.oneCell') = true) (i : Nat) (M : Mem base W w L) (hi : L[i]? = some (.blk g t' cs)) (hn : ds.length = n) (hl : Nat.ble (off + ds.length) cs.length = true)
  (hc : cs.take off ++ (ds ++ cs.drop (off + ds.length)) = cs') : Ac P o a w fun _ w' => Mem base W w' (L.set i (.blk g t' cs')) := by
 subst hc;obtain ⟨d, _, _, hsz⟩ := z8 ht;simp only [Option.map_eq_some_iff] at hsz;obtain ⟨inf, oY, hsz⟩ := hsz;have hr := run_storeCells_at P g off t' ds 0 cs.toArray w (M.aP hi) (by simpa using Nat.le_of_ble_eq_true hl) (by simpa using h1);refine Ff (w' := w.setRow g (cs.take off ++ (ds ++ cs.drop (off + ds.length))).toArray) ?_ (M.setRow i hi _);unfold execOp;have hcell : (Value.agg ds.toArray).cells = ds.toArray := rfl;simp only [Nat.add_zero, List.append_assoc] at hr;subst hn
 simp [ho, K.ev hx, K.ev hy, Instr.storeAt, Instr.sureAddr, storeVar, sizeOf, typeInfo, oY, hsz, hcell, hr]
theorem AZ {p : Code} {Q : Exit → Act → World → Prop} {w : World} (n : Nat) (h : Code.rounds P p Q n a w) : (Code.loop p).wp P Q a w := wp_loop_rounds n h
theorem iI {p : Code} {Q : Exit → Act → World → Prop} {w : World} {n : Nat} (h : p.wp P (Exit.then (Code.rounds P p Q n) Q) a w) : Code.rounds P p Q (n + 1) a w := h
end
abbrev I (n : Int) : Value := .int .i64 n
inductive Stp (P : Program) (ops : Array Oper) (S : World → Prop) (D : List Deferred) (N : Nat) (l : List (Nat × Value)) (o : Oper) (v : Value) : Prop where
 | yes (hw : ∀ a, Kd D a N l → Region.wanted o (yielded ops a.tmps) = true) (hr : ∀ a, Kd D a N l → Rd P S a o v)
 | no (hw : ∀ a, Kd D a N l → Region.wanted o (yielded ops a.tmps) = false) (hv : undef = v)
section
variable {P : Program} {base : Nat} {W w : World} {L : List kU} {S : World → Prop} {D : List Deferred} {a : Act} {N : Nat} {l : List (Nat × Value)} {o : Oper} {v : Value} {post : Value → World → Prop}
  {ops : Array Oper} {Q : Exit → Act → World → Prop} {R : Act → World → Prop} {rest : List Oper} {d : Nat} {f : List Nat}
theorem Oi (K : Kd D a N l) (M : Mem base W w L) (k : ∀ a', Kd D a' N ((d, v) :: l) → wpList P ops Q rest a' w) (hd : o.dst = some d := by exact rfl) (hN : Nat.blt d N = true := by exact rfl)
    (hs : Stp P ops (fun w => Mem base W w L) D N l o v := by
      first
      | exact .no (fun a K => K.no rfl rfl rfl rfl) rfl
      | exact .no (fun a K => K.U5 rfl rfl rfl) rfl
      | exact .yes (by first | exact fun a K => aC rfl | exact fun a K => K.yes rfl rfl rfl) (by
         first
         | exact fun a K => dZ rfl K rfl
         | exact fun a K => bC rfl K rfl
         | exact fun a K => jH rfl K rfl rfl
         | exact fun a K => rR rfl K rfl rfl
         | exact fun a K => nH rfl K rfl
         | exact fun a K => lD rfl K rfl rfl
         | exact fun a K => rd_not rfl K rfl
         | exact fun a K => jX rfl K rfl rfl
         | exact fun a K => jL rfl K rfl rfl
         | exact fun a K => Cu rfl K rfl rfl
         | exact fun a K => Dm rfl K rfl rfl
         | exact fun a K => Hm rfl K rfl rfl
         | exact fun a K => Hn rfl K rfl rfl
         | exact fun a K => Gg rfl K rfl rfl
         | exact fun a K => Hk rfl K rfl rfl
         | exact fun a K => Hl rfl K rfl rfl
         | exact fun a K => Hq rfl K rfl rfl
         | exact fun a K => Hp rfl K rfl rfl
         | exact fun a K => Ho rfl K rfl rfl)) : wpList P ops Q (o :: rest) a w := by
  cases hs with
  | yes hw hr => exact QB K (hw a K) hd hN (hr a K) M k
  | no hw hv => subst hv; exact XK K (hw a K) hd hN k
theorem Qj (M : Mem base W w L) (k : ∀ a', Kd D a' N ((d, v) :: l) → wpList P ops Q rest a' w) (hd : o.dst = some d := by exact rfl) (hN : Nat.blt d N = true := by exact rfl)
    (hs : Stp P ops (fun w => Mem base W w L) D N l o v := by
      first
      | exact .no (fun a K => K.no rfl rfl rfl rfl) rfl
      | exact .no (fun a K => K.U5 rfl rfl rfl) rfl
      | exact .yes (by first | exact fun a K => aC rfl | exact fun a K => K.yes rfl rfl rfl) (by
         first
         | exact fun a K => dZ rfl K rfl
         | exact fun a K => bC rfl K rfl
         | exact fun a K => jH rfl K rfl rfl
         | exact fun a K => rR rfl K rfl rfl
         | exact fun a K => nH rfl K rfl
         | exact fun a K => lD rfl K rfl rfl
         | exact fun a K => rd_not rfl K rfl
         | exact fun a K => jX rfl K rfl rfl
         | exact fun a K => jL rfl K rfl rfl
         | exact fun a K => Cu rfl K rfl rfl
         | exact fun a K => Dm rfl K rfl rfl
         | exact fun a K => Hm rfl K rfl rfl
         | exact fun a K => Hn rfl K rfl rfl
         | exact fun a K => Gg rfl K rfl rfl
         | exact fun a K => Hk rfl K rfl rfl
         | exact fun a K => Hl rfl K rfl rfl
         | exact fun a K => Hq rfl K rfl rfl
         | exact fun a K => Hp rfl K rfl rfl
         | exact fun a K => Ho rfl K rfl rfl)) : ∀ a, Kd D a N l → wpList P ops Q (o :: rest) a w := fun a K => Oi K M k hd hN hs
theorem bJ (hr : ∀ a, Kd D a N l → Rd P (fun w => Mem base W w L) a o v) (M : Mem base W w L) (k : ∀ a', Kd D a' N ((d, v) :: l) → wpList P ops Q rest a' w)
  (hw : ∀ a, Kd D a N l → Region.wanted o (yielded ops a.tmps) = true := by first | exact fun a K => aC rfl | exact fun a K => K.yes rfl rfl rfl) (hd : o.dst = some d := by exact rfl) (hN : Nat.blt d N = true := by exact rfl) :
  ∀ a, Kd D a N l → wpList P ops Q (o :: rest) a w := fun a K => QB K (hw a K) hd hN (hr a K) M k
theorem eP (K : Kd D a N l) (hr : Rd P (fun w => Mem base W w L) a o v) (M : Mem base W w L) (k : ∀ a', Kd D a' N ((d, v) :: l) → wpList P ops Q rest a' w)
  (hw : ∀ a, Kd D a N l → Region.wanted o (yielded ops a.tmps) = true := by first | exact fun a K => aC rfl | exact fun a K => K.yes rfl rfl rfl) (hd : o.dst = some d := by exact rfl) (hN : Nat.blt d N = true := by exact rfl) :
  wpList P ops Q (o :: rest) a w := QB K (hw a K) hd hN hr M k
theorem a8 (K : Kd D a N l) (h : Ac P o a w post) (k : ∀ v a' w', post v w' → Kd D a' N ((d, v) :: l) → wpList P ops Q rest a' w')
  (hw : ∀ a, Kd D a N l → Region.wanted o (yielded ops a.tmps) = true := by first | exact fun a K => aC rfl | exact fun a K => K.yes rfl rfl rfl) (hd : o.dst = some d := by exact rfl) (hN : Nat.blt d N = true := by exact rfl) :
  wpList P ops Q (o :: rest) a w := U9 K (hw a K) hd hN h k
theorem dW (K : Kd D a N l) (h : Ac P o a w post) (k : ∀ v a' w', post v w' → Kd D a' N l → wpList P ops Q rest a' w')
  (hw : ∀ a, Kd D a N l → Region.wanted o (yielded ops a.tmps) = true := by first | exact fun a K => aC rfl | exact fun a K => K.yes rfl rfl rfl) (hd : o.dst = none := by exact rfl) :
  wpList P ops Q (o :: rest) a w := Tl K (hw a K) hd h k
theorem uB (K : Kd D a N l) (k : ∀ a', Kd D a' N ((d, v) :: l) → oQ P ops S R (marked f rest) a' w) (hd : o.dst = some d := by exact rfl) (hN : Nat.blt d N = true := by exact rfl)
    (hs : Stp P ops S D N l o v := by
      first
      | exact .no (fun a K => K.no rfl rfl rfl rfl) rfl
      | exact .no (fun a K => K.U5 rfl rfl rfl) rfl
      | exact .yes (by first | exact fun a K => aC rfl | exact fun a K => K.yes rfl rfl rfl) (by
         first
         | exact fun a K => dZ rfl K rfl
         | exact fun a K => bC rfl K rfl
         | exact fun a K => jH rfl K rfl rfl
         | exact fun a K => rR rfl K rfl rfl
         | exact fun a K => nH rfl K rfl
         | exact fun a K => lD rfl K rfl rfl
         | exact fun a K => rd_not rfl K rfl
         | exact fun a K => jX rfl K rfl rfl
         | exact fun a K => jL rfl K rfl rfl
         | exact fun a K => Cu rfl K rfl rfl
         | exact fun a K => Dm rfl K rfl rfl
         | exact fun a K => Hm rfl K rfl rfl
         | exact fun a K => Hn rfl K rfl rfl
         | exact fun a K => Gg rfl K rfl rfl
         | exact fun a K => Hk rfl K rfl rfl
         | exact fun a K => Hl rfl K rfl rfl
         | exact fun a K => Hq rfl K rfl rfl
         | exact fun a K => Hp rfl K rfl rfl
         | exact fun a K => Ho rfl K rfl rfl)) : oQ P ops S R (marked (0 :: f) (o :: rest)) a w := by
  cases hs with
  | yes hw hr => exact Tm K (hw a K) hd hN (hr a K) k
  | no hw hv => subst hv; exact XL K (hw a K) hd hN k
theorem g9 (k : ∀ a', Kd D a' N ((d, v) :: l) → oQ P ops S R (marked f rest) a' w) (hd : o.dst = some d := by exact rfl) (hN : Nat.blt d N = true := by exact rfl)
    (hs : Stp P ops S D N l o v := by
      first
      | exact .no (fun a K => K.no rfl rfl rfl rfl) rfl
      | exact .no (fun a K => K.U5 rfl rfl rfl) rfl
      | exact .yes (by first | exact fun a K => aC rfl | exact fun a K => K.yes rfl rfl rfl) (by
         first
         | exact fun a K => dZ rfl K rfl
         | exact fun a K => bC rfl K rfl
         | exact fun a K => jH rfl K rfl rfl
         | exact fun a K => rR rfl K rfl rfl
         | exact fun a K => nH rfl K rfl
         | exact fun a K => lD rfl K rfl rfl
         | exact fun a K => rd_not rfl K rfl
         | exact fun a K => jX rfl K rfl rfl
         | exact fun a K => jL rfl K rfl rfl
         | exact fun a K => Cu rfl K rfl rfl
         | exact fun a K => Dm rfl K rfl rfl
         | exact fun a K => Hm rfl K rfl rfl
         | exact fun a K => Hn rfl K rfl rfl
         | exact fun a K => Gg rfl K rfl rfl
         | exact fun a K => Hk rfl K rfl rfl
         | exact fun a K => Hl rfl K rfl rfl
         | exact fun a K => Hq rfl K rfl rfl
         | exact fun a K => Hp rfl K rfl rfl
         | exact fun a K => Ho rfl K rfl rfl)) : ∀ a, Kd D a N l → oQ P ops S R (marked (0 :: f) (o :: rest)) a w := fun a K => uB K k hd hN hs
theorem cO (hr : ∀ a, Kd D a N l → Rd P S a o v) (k : ∀ a', Kd D a' N ((d, v) :: l) → oQ P ops S R (marked f rest) a' w)
  (hw : ∀ a, Kd D a N l → Region.wanted o (yielded ops a.tmps) = true := by first | exact fun a K => aC rfl | exact fun a K => K.yes rfl rfl rfl) (hd : o.dst = some d := by exact rfl) (hN : Nat.blt d N = true := by exact rfl) :
  ∀ a, Kd D a N l → oQ P ops S R (marked (0 :: f) (o :: rest)) a w := fun a K => Tm K (hw a K) hd hN (hr a K) k
theorem jJ (K : Kd D a N l) (hr : Rd P S a o v) (k : ∀ a', Kd D a' N ((d, v) :: l) → oQ P ops S R (marked f rest) a' w)
  (hw : ∀ a, Kd D a N l → Region.wanted o (yielded ops a.tmps) = true := by first | exact fun a K => aC rfl | exact fun a K => K.yes rfl rfl rfl) (hd : o.dst = some d := by exact rfl) (hN : Nat.blt d N = true := by exact rfl) :
  oQ P ops S R (marked (0 :: f) (o :: rest)) a w := Tm K (hw a K) hd hN hr k
theorem rM (K : Kd D a N l) (h : Ac P o a w post) (k : ∀ v a' w', post v w' → Kd D a' N ((d, v) :: l) → S w' ∧ oQ P ops S R (marked f rest) a' w')
  (hw : ∀ a, Kd D a N l → Region.wanted o (yielded ops a.tmps) = true := by first | exact fun a K => aC rfl | exact fun a K => K.yes rfl rfl rfl) (hd : o.dst = some d := by exact rfl) (hN : Nat.blt d N = true := by exact rfl) :
  oQ P ops S R (marked (1 :: f) (o :: rest)) a w := Tn K (hw a K) hd hN h k
theorem CK (K : Kd D a N l) (h : Ac P o a w post) (k : ∀ v a' w', post v w' → Kd D a' N l → oQ P ops S R (marked f rest) a' w')
  (hw : ∀ a, Kd D a N l → Region.wanted o (yielded ops a.tmps) = true := by first | exact fun a K => aC rfl | exact fun a K => K.yes rfl rfl rfl) (hd : o.dst = none := by exact rfl) :
  oQ P ops S R (marked (2 :: f) (o :: rest)) a w := Va K (hw a K) hd h k
end
theorem qJ (l : List UInt8) : (bs l).size = l.length := by simp [bs, ByteArray.size]
theorem Jd (l : List UInt8) : (bs l).toList = l := ByteArray.toList_mk l
theorem NV (l m : List UInt8) : bs l ++ bs m = bs (l ++ m) := by
 apply ByteArray.ext
 simp [bs, ByteArray.data_append]
section
variable {P : Program} {base : Nat} {W w : World} {L : List kU} {S : World → Prop} {D : List Deferred} {a : Act} {N : Nat} {l : List (Nat × Value)} {o : Oper} {x y ix : Operand} {t t' e : TypeId} {m n p q : Int} {k k' : IntKind}
  {xs ys zs : List UInt8} {A : Option Addr} {c : Nat} {ns : List Int}
theorem jW (ho : o.op = .call { callee := .builtin .len, args := #[x], argTypes := #[t] }) (h : P.underlying t = some .string) (K : Kd D a N l) (hx : iP l x = some (.string (bs xs))) : Rd P S a o (.int .i64 xs.length) := by
 have := Qw (P := P) (S := S) ho h K hx;rw [qJ] at this;exact this
theorem p7 (ho : o.op = .index t x ix) (ht : P.underlying t = some .string) (K : Kd D a N l) (hx : iP l x = some (.string (bs xs))) (hi : iP l ix = some (.int k n)) {b : UInt8} (he : idx xs n = some b) : Rd P S a o (.int .u8 (b.toNat : Int)) :=
 Tj ho ht K hx hi he
theorem qK (ho : o.op = .binOp .add t x y t') (K : Kd D a N l) (hx : iP l x = some (.string (bs xs))) (hy : iP l y = some (.string (bs ys))) (hz : B7 xs ys = some zs) : Rd P S a o (.string (bs zs)) := by
 obtain ⟨rfl, h⟩ := NJ hz;refine oR ho K hx hy fun w => ?_
 have h1 := qJ xs;have h2 := qJ ys
 simp [eqGuard, binOp_string_add, Op.stringOp, NV]
 omega
theorem zU (ho : o.op = .binOp .eql t x y t') (K : Kd D a N l) (hx : iP l x = some (.string (bs xs))) (hy : iP l y = some (.string (bs ys))) : Rd P S a o (.bool (decide (xs = ys))) :=
 oR ho K hx hy fun w => by
  have e : (xs == ys) = decide (xs = ys) := by rw [Bool.eq_iff_iff]; simp
  rw [Sem.run_bind]; simp [eqGuard, binOp_string_eql, Jd, e]
theorem DY (ho : o.op = .binOp .neq t x y t') (K : Kd D a N l) (hx : iP l x = some (.string (bs xs))) (hy : iP l y = some (.string (bs ys))) : Rd P S a o (.bool (!decide (xs = ys))) :=
 oR ho K hx hy fun w => by
  have e : (xs == ys) = decide (xs = ys) := by rw [Bool.eq_iff_iff]; simp
  rw [Sem.run_bind]; simp [eqGuard, binOp_string_neq, Jd, e]
theorem Ce {b : Nat} (ho : o.op = .convert t t' x) (ht : Hj P t e 1 b = true) (he : P.underlying e = some (.int .u8)) (hd : P.underlying t' = some .string) (K : Kd D a N l) (hx : iP l x = some (.slice A ns.length c)) (hb : ∀ w, S w → SL w (cI .u8) A ns) : Rd P S a o (.string (bs (toB ns))) := fun w hS => by
 obtain ⟨hu, _⟩ := k4 ht;unfold execOp;simp only [ho, K.ev hx]
 have key : (convert t t' (.slice A ns.length c)).run P w = .ok (.string (bs (toB ns))) w := by
  by_cases h0 : 0 < ns.length
  ·obtain ⟨b, off, rfl, hc⟩ := hb w hS h0;refine run_convert_bytes_arg w t e hu he b off ns.length c ns rfl (fun i hi => ?_) t' hd;refine hc i _ ?_;have := rL.vG (cI .u8) ns i 0 ns[i] (.int .u8 ns[i]) (List.getElem?_eq_getElem hi) rfl;rw [List.getD_eq_getElem?_getD, List.getElem?_eq_getElem hi];have h1 : (cI .u8).size = 1 := rfl;rw [h1, Nat.mul_one, Nat.add_zero] at this;exact this
  ·have hn : ns = [] := List.eq_nil_of_length_eq_zero (by omega);subst hn;cases A with
   | none => exact run_convert_bytes_nil w t e hu he _ _ t' hd
   | some ad =>
    rw [run_convert_bytes_string w t t' e (some ad) _ c hu he hd];exact run_bytesToString w ad 0 c [] (run_loadCells_list (P := P) w ad [] (fun j v hj => by simp at hj))
 simp [key]
theorem iY {lo hi : Option Operand} (ho : o.op = .slice t x lo hi none) (ht : P.underlying t = some .string) (K : Kd D a N l) (hx : iP l x = some (.string (bs xs)))
  (hlo : (match lo with | some z => iP l z = some (.int k p) | none => p = 0)) (hhi : (match hi with | some z => iP l z = some (.int k' q) | none => q = xs.length)) (hy : Di xs p q = some ys) : Rd P S a o (.string (bs ys)) := fun w _ => by
 obtain ⟨h0, h1, h2, rfl⟩ := Fc hy;have hs : ((bs xs).size : Int) = xs.length := by rw [qJ]
 have hex : (bs xs).extract p.toNat q.toNat = bs ((xs.take q.toNat).drop p.toNat) := by
  rw [show bs xs = ByteArray.mk xs.toArray from rfl, ByteArray.extract_mk, List.drop_take]; rfl
 have hS : ∀ a b c, (Instr.sliceAt t (.string (bs xs)) a b c).run P w = (Instr.slice t (.string (bs xs)) a b c).run P w := fun a b c => by rw [run_sliceAt_string w t _ a b c ht]
 unfold execOp;cases lo with
 | none =>
  simp only at hlo; subst hlo;cases hi with
  | none =>
   simp only at hhi; subst hhi;have := run_slice_string_all (P := P) w t (bs xs) ht;rw [qJ] at this;rw [Int.toNat_zero, Int.toNat_natCast] at hex;rw [hex] at this;simp only [ho, K.ev hx, Sem.run_bind, Option.map, hS, this]
   simp
  | some z =>
   simp only at hhi;have := run_slice_string_to_if (P := P) w t (bs xs) k' q ht;rw [if_pos ⟨by omega, by omega⟩] at this;rw [Int.toNat_zero] at hex;rw [hex] at this;simp only [ho, K.ev hx, K.ev hhi, Sem.run_bind, Option.map, hS, this]
   simp
 | some z =>
  simp only at hlo;cases hi with
  | none =>
   simp only at hhi; subst hhi;have := run_slice_string_from_if (P := P) w t (bs xs) k p ht;rw [if_pos ⟨by omega, by omega⟩, qJ] at this;rw [Int.toNat_natCast] at hex;rw [hex] at this;simp only [ho, K.ev hx, K.ev hlo, Sem.run_bind, Option.map, hS, this]
   simp
  | some z2 =>
   simp only at hhi;have := run_slice_string (P := P) w t (bs xs) k k' p q ht h0 h1 (by omega);rw [hex] at this;simp only [ho, K.ev hx, K.ev hlo, K.ev hhi, Sem.run_bind, Option.map, hS, this]
   simp
theorem Gq (s : List UInt8) : Lib.strCells (bs s) = (cI .u8).all (nZ s) := by
 show s.map (fun b => Value.int .u8 b.toNat) = _
 induction s with
 | nil => rfl
 | cons x s ih =>
  show _ = (cI .u8).enc (x.toNat : Int) ++ (cI .u8).all (nZ s);rw [List.map_cons, ih]; rfl
theorem vX (s : List UInt8) : (nZ s).length = s.length := by simp [nZ]
theorem NW {i : TypeInfo} {v v' : Value} {n : Nat} {vs : List Value} {w' : World} (s : ByteArray) (ht : P.underlying t = some (.slice e)) (hu : P.underlying t' = some .string) (hi : P.info? e = some i) (hz : i.zero = some (.int .u8 0)) (hsize : i.size = 1) (hby : i.bytes = 1)
  (hown : w.ownsRow 0 e 1 v n vs) (hb : n + s.size ≤ 140737488355328) (ty : TypeId) (hr : (Builtin.append_ #[t, t'] ty #[v, .string s]).run P w = .ok v' w') (h0 : v ≠ .slice none 0 0 ∨ 0 < s.size) : v'.ownBlock = v.ownBlock ∨ v'.ownBlock = some w.heap.size := by
 have hxl : vs.length = n := by simpa using hown.1
 rcases hown.2 with ⟨rfl, rfl⟩ | ⟨g, cap, cur, rfl, hbg, hg, hnc, hcm, hcs, htake⟩
 ·have hm : 0 < s.size := by
   rcases h0 with h0 | h0
   ·exact absurd rfl h0
   ·exact h0
  have := run_append_nil_string (P := P) w t t' ty e i (.int .u8 0) ht hu hi hz s (by omega) (by omega) (by rw [hby]; omega);rw [hr] at this
  injection this with h1 _
  right; rw [h1]; rfl
 ·by_cases hroom : n + s.size ≤ cap
  ·have := Lib.run_append_room_string (P := P) w t t' ty e i ht hu hi hsize g n cap cur hg s hroom (by omega);rw [hr] at this
   injection this with h1 _
   left; rw [h1]; rfl
  ·have holds : ∀ j u, vs[j]? = some u → w.cell? ((⟨g, 0, none⟩ : Addr).add j) = some u := hown.cells (g := g) rfl;have := Lib.run_append_grow_string (P := P) w t t' ty e i (.int .u8 0) ht hu hi hz ⟨g, 0, none⟩ n cap vs (by rw [hsize]; simpa using hxl) holds s (by omega) (by omega) (by rw [hby]; exact growslice_fits (by omega) (by omega));rw [hr] at this
   injection this with h1 _
   right; rw [h1]; rfl
theorem Ng {zs : List Int} (ho : o.op = .call { callee := .builtin .append, args := #[x, y], argTypes := #[t, t'] }) (ht : Hj P t e 1 1 = true) (hu : P.underlying t' = some .string) (hz : (P.info? e).bind (·.zero) = some (.int .u8 0)) (K : Kd D a N l)
  (hx : iP l x = some (.slice A ns.length c)) (hy : iP l y = some (.string (bs ys))) (i : Nat) (M : Mem base W w L) (hi : L[i]? = some (.row e 1 A ns.length c ((cI .u8).all ns))) (hlen : app 1 ns (nZ ys) = some zs) :
  Ac P o a w fun v w' => ∃ A' c'', v = .slice A' zs.length c'' ∧ Mem base W w' (L.set i (.row e 1 A' zs.length c'' ((cI .u8).all zs))) := by
 obtain ⟨rfl, hbytes⟩ := Ko hlen;rw [vX] at hbytes;obtain ⟨hsl, inf, oY, hsz, hby⟩ := k4 ht;have hzz : inf.zero = some (.int .u8 0) := by rw [oY] at hz; exact hz
 have hown := M.has i _ hi;have hsize : (bs ys).size = ys.length := qJ ys;have hb2 : ns.length + (bs ys).size ≤ 140737488355328 := by rw [hsize]; omega
 obtain ⟨v', w', hr, h2, h3, h4⟩ := Lib.run_append_own_string (P := P) w 0 t t' o.type e inf hsl hu oY hzz hsz hby (.slice A ns.length c) ns.length ((cI .u8).all ns) hown (bs ys) (by simp only [maxLen]; omega) hb2 (Nat.zero_le _);rw [Gq, hsize, ← rL.all_append] at h2
 by_cases h0 : (Value.slice A ns.length c) = .slice none 0 0 ∧ ys = []
 ·obtain ⟨h00, rfl⟩ := h0
  injection h00 with e1 e2 e3
  subst e1 e3;have hns : ns = [] := List.eq_nil_of_length_eq_zero e2;subst hns
  have hr2 : (Builtin.append_ #[t, t'] o.type #[.slice none ([] : List Int).length 0, .string (bs [])]).run P w = .ok (.slice none 0 0) w := by
   have hf := Lib.run_firstCells_string (P := P) w 1 (bs []);have hm : (bs []).size = 0 := rfl;rw [hm] at hf
   simp [Builtin.append_, run_underlying hsl, run_underlying hu, sizeOf, typeInfo, oY, hsz, Builtin.lenOf, hm, hf]
  refine wM (v := .slice none 0 0) (w' := w) ?_ ⟨none, 0, rfl, ?_⟩
  ·unfold execOp;simp only [ho, resolve, invoke, builtin, Sem.run_bind, Sem.run_pure, Result.andThen_ok, List.map_toArray, List.map_cons, List.map_nil, K.ev hx, K.ev hy];rw [hr2]; rfl
  ·have : L.set i (.row e 1 none (([] : List Int) ++ nZ []).length 0 ((cI .u8).all ([] ++ nZ []))) = L := by
    obtain ⟨hlt, he⟩ := List.getElem?_eq_some_iff.1 hi;exact he ▸ List.set_getElem_self hlt
   rw [this]; exact M
 have hne : (Value.slice A ns.length c) ≠ .slice none 0 0 ∨ 0 < (bs ys).size := by
  by_cases hy0 : ys = []
  ·left; exact fun e => h0 ⟨e, hy0⟩
  ·right; rw [hsize]; exact List.length_pos_iff.2 hy0
 have hpl := NW (bs ys) hsl hu oY hzz hsz hby hown hb2 o.type hr hne
 have hv' : v' ≠ .slice none 0 0 := fun e => by
  obtain ⟨q1, q2⟩ := h4.1 e;rw [hsize] at q2;exact h0 ⟨q1, List.eq_nil_of_length_eq_zero q2⟩
 rcases h2.2 with ⟨e1, _⟩ | ⟨g, cap, cur, rfl, _⟩
 ·exact absurd e1 hv'
 refine wM (v := .slice (some ⟨g, 0, none⟩) (ns.length + ys.length) cap) (w' := w') ?_ ⟨some ⟨g, 0, none⟩, cap, by rw [List.length_append, vX], ?_⟩
 ·unfold execOp;simp only [ho, resolve, invoke, builtin, Sem.run_bind, Sem.run_pure, Result.andThen_ok, List.map_toArray, List.map_cons, List.map_nil, K.ev hx, K.ev hy];rw [hr]; rfl
 ·have h3' : w.grownBy w' (A.map (·.block)) := by
   cases A with
   | none => exact h3
   | some ad => exact h3
  rw [List.length_append, vX];refine M.grown i hi h3' h2 ?_
  rcases hpl with hpl | hpl
  ·left
   cases A with
   | none => simp [Value.ownBlock] at hpl
   | some ad => simpa [Value.ownBlock] using hpl.symm
  ·right
   simp [Value.ownBlock] at hpl
   omega
end
end
section
open Go.RowKit Go.WideMaps
section
variable {P : Program} {base : Nat} {W w : World} {L : List kU} {S : World → Prop} {D : List Deferred} {a : Act} {N : Nat} {l : List (Nat × Value)} {o : Oper} {x y z : Operand} {t k e T : TypeId} {g n c : Nat} {A : Option Addr}
  {m m' : List (List UInt8 × Int)} {s : List UInt8} {r : Int × Bool} {v : Int}
theorem Mem.swap {e e' : kU} (M : Mem base W w L) (i : Nat) (hi : L[i]? = some e) (h : kU.holds w e') (hf : e'.foot = e.foot) : Mem base W w (L.set i e') :=
 M.OB i hi (Below.refl _ _) h (fun _ _ _ => rfl) (fun g hg => .inl (hf ▸ hg)) M.LT
theorem Mem.O2 (e : TypeId) (M : Mem base W w (.blk g T [.pointer none, .slice none 0 0] :: L)) : Mem base W w (.row e 1 none ([] : List UInt8).length 0 ((cI .u8).all (nZ ([] : List UInt8))) :: .Bv g T none ([] : List UInt8).length 0 :: L) :=
 Mem.aN e 1 (cI .u8) (M.swap 0 rfl (show kU.holds w (.Bv g T none 0 0) from ⟨none, .inl rfl, M.has 0 _ rfl⟩) rfl)
theorem Mem.RP (M : Mem base W w L) (i : Nat) (hi : L[i]? = some (.blk g T [.pointer (some ⟨g, 0, none⟩), .slice A n c])) : Mem base W w (L.set i (.Bv g T A n c)) :=
 M.swap i hi (show kU.holds w (.Bv g T A n c) from ⟨_, .inr rfl, M.has i _ hi⟩) rfl
theorem Mem.builder {b : List UInt8} (M : Mem base W w (.Bv g T A b.length c :: .row e 1 A b.length c ((cI .u8).all (nZ b)) :: L)) : Lib.IsBuilder T e base g (Lib.byteCells b) w := by
 obtain ⟨p, hp, hb⟩ := M.has 0 _ rfl;have hrow : w.ownsRow 0 e 1 (.slice A b.length c) b.length ((cI .u8).all (nZ b)) := M.has 1 _ rfl;rw [← Gq] at hrow;have hup := M.up 0 _ g rfl rfl
 have hat : Lib.BuilderAt T e base g (.pointer p) (Lib.byteCells b) w := by
  refine ⟨hup, .slice A b.length c, hb, ?_, ?_⟩
  ·rw [Lib.byteCells_length];obtain ⟨h1, h2⟩ := hrow;refine ⟨h1, ?_⟩
   rcases h2 with h2 | ⟨g', cap, cur, q1, q2, q3⟩
   ·exact .inl h2
   ·refine .inr ⟨g', cap, cur, q1, ?_, q3⟩
    injection q1 with q1 _ _
    exact M.up 1 _ g' rfl (by simp [kU.foot, q1])
  ·intro h;cases A with
   | none => simp [Value.ownBlock] at h
   | some ad =>
    have h' : ad.block = g := by simpa [Value.ownBlock] using h
    have := M.one 0 1 _ _ g rfl rfl rfl (by simp [kU.foot, h'])
    omega
 rcases hp with rfl | rfl
 ·exact .inl hat
 ·exact .inr hat
theorem f9 {α : Type} {C : rL α} {xs : List α} {el : α} {b s' : Nat} {i : Int} {kk : IntKind} {w' : World} (ho : o.op = .indexAddr t x y) (ht : Hj P t e s' b = true) (K : Kd D a N l) (hx : iP l x = some (.slice A xs.length c)) (hi : iP l y = some (.int kk i)) (hb : SL w' C A xs) (he : idx xs i = some el) : Rd P S a o (.pointer (some ((NG A).add (i.toNat * s')))) := fun w hS => by
 obtain ⟨hu, inf, oY, hs, _⟩ := k4 ht;obtain ⟨h0, hlt, hel⟩ := tN he;obtain ⟨b', o', hA, hc⟩ := hb (by omega);have h1 : i < xs.length := by omega
 unfold execOp;subst hA
 simp [ho, K.ev hx, K.ev hi, Instr.indexAt, asIntOf, run_underlying hu, sizeOf, typeInfo, oY, hs, h0, h1, NG]
theorem CU {O : Exit → Act → World → Prop} {ops : Array Oper} {f : List Nat} {d cc n' : Nat} {u : Value} {R : Act → World → Prop} {rem : List Nat} (CI : List Nat) (hc : (rem.erase cc == CI) = true) (ho : ops[cc]? = some o) (K : Kd D a N l) (hw : Region.wanted o (yielded ops a.tmps) = true) (hd : o.dst = some d) (hN : Nat.blt d N = true)
  (hr : Rd P (fun w => Mem base W w L) a o u) (M : Mem base W w L) (k : ∀ a', Kd D a' N ((d, u) :: l) → (jK f cc = true → S w) ∧ w9 P O ops S (nW f) (jK f) R n' CI a' w) :
  wpOp P ops O cc (fun a' w' => (jK f cc = true → S w') ∧ w9 P O ops S (nW f) (jK f) R n' (rem.erase cc) a' w') a w :=
 iR CI hc ho K hw hd hN (post := fun v' w' => v' = u ∧ w' = w) (wM (hr w M) ⟨rfl, rfl⟩) fun v' a' w' hp K' => by obtain ⟨rfl, rfl⟩ := hp; exact k a' K'
theorem Vp {Q : Exit → Act → World → Prop} {St Rt : Type} {Rel : St → Act → World → Prop} {kk : St → Option Rt} {lf : (St → Option Rt) → Nat → St → Option Rt} {r : Rt} {p : Code} {n : Nat} {st : St}
  (h : lf kk n st = some r) (hz : ∀ kk st, lf kk 0 st = none) (h0 : Rel st a w) (hk : ∀ st a w, Rel st a w → kk st = some r → Q .ret a w)
  (round : ∀ (kk : St → Option Rt) n st a w, (∀ st a w, Rel st a w → kk st = some r → Q .ret a w) → Rel st a w → lf kk (n + 1) st = some r → p.wp P (Exit.then (fun a w => ∃ st, Rel st a w ∧ lf kk n st = some r) Q) a w) : (Code.loop p).wp P Q a w := by
 refine OF (I := fun n a w => ∃ st, Rel st a w ∧ lf kk n st = some r) n ⟨st, h0, h⟩ (fun a w ⟨st, _, h⟩ => by rw [hz] at h; cases h) ?_;rintro n a w ⟨st, hr, h⟩;exact round kk n st a w hk hr h
theorem ZB (i : Nat) (h : L[i]? = some (.Ks P k e g m)) : ∀ w, Mem base W w L → SMap P k e w g m := fun _ M => M.has i _ h
theorem SMap.new (w : World) : SMap P k e (w.alloc (.map #[] 0)) w.heap.size [] := ⟨.map [], World.ownsMap_made w P k _, fun s => ⟨rfl, fun z => rfl⟩⟩
theorem Mo (ho : o.op = .makeMap t none) (k e : TypeId) (M : Mem base W w L) : Ac P o a w fun v w' => ∃ g, v = .map (some g) ∧ Mem base W w' (.Ks P k e g [] :: L) := by
 refine wM (v := .map (some w.heap.size)) (w' := w.alloc (.map #[] 0)) ?_ ⟨_, rfl, ?_⟩
 ·unfold execOp
  simp [ho, run_makeMap_plain]
 ·refine (M.below ((Below.refl _ _).alloc (Nat.le_refl _) _)).cons (show kU.holds _ (.Ks P k e w.heap.size []) from SMap.new w) fun g hg => ?_
  simp [kU.foot] at hg
  subst hg;exact ⟨M.sz, fun i e' h he => by have := M.Fd i e' _ h he; omega⟩
theorem Nh (ho : o.op = .lookup t x y true) (ht : P.underlying t = some (.map k e)) (hk : P.underlying k = some .string) (he : P.underlying e = some (.int .i64)) (hz : (P.info? e).bind (·.zero) = some (.int .i64 0)) (K : Kd D a N l)
  (hx : iP l x = some (.map (some g))) (hy : iP l y = some (.string (bs s))) (hM : ∀ w, S w → SMap P k e w g m) (hl : Kr m s = some r) : Rd P S a o (.tuple #[.int .i64 r.1, .bool r.2]) := fun w hS => by
 obtain ⟨rfl, hs⟩ := L6 hl;obtain ⟨D, hown, hD⟩ := hM w hS
 have hz : ∀ w, (zeroValue e).run P w = .ok (.int .i64 0) w := fun w => by
  simp only [Option.bind_eq_some_iff] at hz;obtain ⟨inf, oY, hz0⟩ := hz
  simp [zeroValue, typeInfo, oY, hz0]
 have hkey : keyOf P k (.string (bs s)) = some (.string s) := keyOf_string_mk hk (by rw [qJ]; unfold maxLen; omega);obtain ⟨v, ps, hrun, hv⟩ := hown.look_ok (Maps.string_keyed hk) ht (hz w) (plainElem_int he (by decide)) hkey;obtain ⟨c, rfl, hc, _⟩ := plainElem_int_inv he hv;obtain ⟨h1, h2⟩ := hD s;simp only [Prod.mk.injEq] at hc
 have hcc : c = (xY m s).getD 0 := by
  have h3 := h2 (.lit (.int .i64 0));rw [hc.1] at h3;cases hm : xY m s with
  | none => rw [hm] at h3; simp at h3; simp [h3]
  | some q => rw [hm] at h3; simp at h3; simp [h3]
 subst hcc;rw [h1] at hrun;unfold execOp
 simp [ho, K.ev hx, K.ev hy, hrun]
theorem Je (ho : o.op = .mapUpdate t x y z) (ht : P.underlying t = some (.map k e)) (hk : P.underlying k = some .string) (he : P.underlying e = some (.int .i64)) (K : Kd D a N l)
  (hx : iP l x = some (.map (some g))) (hy : iP l y = some (.string (bs s))) (hv : iP l z = some (.int .i64 v)) (i : Nat) (M : Mem W.heap.size W w L) (hi : L[i]? = some (.Ks P k e g m)) (hp : OA m s v = some m') :
  Ac P o a w fun _ w' => Mem W.heap.size W w' (L.set i (.Ks P k e g m')) := by
 obtain ⟨rfl, h1, h2, h3, h4⟩ := NF hp;obtain ⟨D, hown, hD⟩ := M.has i _ hi;have hkey : keyOf P k (.string (bs s)) = some (.string s) := keyOf_string_mk hk (by rw [qJ]; unfold maxLen; omega);obtain ⟨w', hrun, hown', hg⟩ := hown.update (Maps.string_keyed hk) ht (by unfold maxLen; omega) hkey (plainElem_int he (WalkArith.wf_i64 ⟨h3, h4⟩));refine Ff (w' := w') ?_ (M.U7 rfl i hi ((Below.refl _ w).grown hg M.sz fun k hk => M.up i _ k hi (by cases hk; rfl)) (show kU.holds w' (.Ks P k e g ((s, v) :: m)) from ⟨_, hown', fun s' => ?_⟩) (fun j hj hne => hg.block j hj fun h => hne (by cases h; rfl)) (fun g' hg' => .inl hg'))
 ·unfold execOp
  simp [ho, K.ev hx, K.ev hy, K.ev hv, hrun]
 ·have hkl : WideAt.IsKeyLit (.string s) := trivial
  by_cases hs : s = s'
  ·subst hs;refine ⟨?_, fun z => ?_⟩
   ·rw [Maps.has_put_same hown.isMap hkl]; simp [xY]
   ·rw [Maps.atKey_put_same hown.isMap hkl]; simp [xY]
  ·have hne : (Lit.string s' : Lit) ≠ .string s := fun h => hs (by injection h with h; exact h.symm)
   obtain ⟨q1, q2⟩ := hD s';refine ⟨?_, fun z => ?_⟩
   ·rw [Maps.has_put_other hne, q1]; simp [xY, hs]
   ·rw [Maps.atKey_put_other hne, q2]; simp [xY, hs]
end
end
section
open Go.RowKit
section
variable {P : Program} {base : Nat} {W w : World} {L H T : List kU} {e : kU}
theorem Mem.tl (M : Mem base W w (e :: L)) : Mem base W w L :=
 ⟨M.low, M.LT, M.bs, fun i e' h => M.has (i + 1) e' h, fun i e' g h hf => M.up (i + 1) e' g h hf, fun i j e1 e2 g h1 h2 f1 f2 => by
  have := M.one (i + 1) (j + 1) e1 e2 g h1 h2 f1 f2
  omega⟩
theorem Mem.oO (n : Nat) (hn : H.length = n) (M : Mem base W w (H ++ T)) (is : List Nat) (h : is.Nodup) (hl : ∀ i ∈ is, i < n) : Mem base W w (Hi H is ++ T) := by
 have h2 : (is ++ (List.range T.length).map (n + ·)).Nodup := by
  rw [List.nodup_append];refine ⟨h, ?_, ?_⟩
  ·exact List.Pairwise.map _ (fun a b (hab : a ≠ b) => show n + a ≠ n + b by omega) List.nodup_range
  ·intro a ha b hb;obtain ⟨j, _, rfl⟩ := List.mem_map.1 hb;have := hl a ha
   omega
 have := M.pick _ h2
 have e : Hi (H ++ T) (is ++ (List.range T.length).map (n + ·)) = Hi H is ++ T := by
  unfold Hi;rw [List.map_append]
  congr 1
  ·refine List.map_congr_left fun i hi => ?_
   have := hl i hi;rw [List.getD_eq_getElem?_getD, List.getD_eq_getElem?_getD, List.getElem?_append_left (by omega)]
  ·rw [List.map_map];refine List.ext_getElem? fun i => ?_
   rw [List.getElem?_map]
   by_cases hi : i < T.length
   ·rw [List.getElem?_range hi]
    simp [← hn, List.getElem?_append_right, List.getElem?_eq_getElem hi]
   ·rw [List.getElem?_eq_none (by simp; omega), List.getElem?_eq_none (by omega)]; rfl
 rwa [e] at this
theorem XA {α : Type} {C : rL α} {xs : List α} {g : Nat} (i : Nat) (h : L[i]? = some (.LS g (C.all xs))) : ∀ w, Mem base W w L → SL w C (some ⟨g, 0, none⟩) xs := fun w M _ => by
 obtain ⟨arr, t, q, hh, hp⟩ := M.has i _ h;refine ⟨g, 0, rfl, fun j u hu => ?_⟩;rw [Nat.zero_add, cell_of_row w g j arr t q hh];exact hp j u hu
variable {S : World → Prop} {D : List Deferred} {a : Act} {N : Nat} {l : List (Nat × Value)} {o : Oper} {x y z : Operand} {t t' et : TypeId} {s : List UInt8}
theorem Jf {b : Nat} (ho : o.op = .convert t t' x) (hs : P.underlying t = some .string) (ht : Hj P t' et 1 b = true) (he : P.underlying et = some (.int .u8)) (K : Kd D a N l) (hx : iP l x = some (.string (bs s))) (M : Mem base W w L) :
  Ac P o a w fun v w' => ∃ g c, v = .slice (some ⟨g, 0, none⟩) (nZ s).length c ∧ (nZ s).length ≤ c ∧ Mem base W w' (.LS g ((cI .u8).all (nZ s)) :: L) := by
 obtain ⟨hu, _⟩ := k4 ht;have hr := run_bytes_of_string (P := P) w t t' et (bs s) hs hu he;have hsz : (bs s).size = (nZ s).length := by rw [vX]; exact qJ s
 have hcap : (nZ s).length ≤ grownCap w (bs s).size 0 et := by
  rw [← hsz]; exact grownCap_ge _ _ _ _
 have hrun : (execOp a.eval o).run P w = .ok (.value (.slice (some ⟨w.heap.size, 0, none⟩) (nZ s).length (grownCap w (bs s).size 0 et))) (w.drew.alloc (.cells (bytesRow (bs s) (grownCap w (bs s).size 0 et)) et ((bytesRow (bs s) (grownCap w (bs s).size 0 et)).size, (bytesRow (bs s) (grownCap w (bs s).size 0 et)).size + 1))) := by
  unfold execOp;simp only [ho, K.ev hx, Sem.run_bind, hr, ← hsz]; rfl
 refine wM hrun ⟨w.heap.size, grownCap w (bs s).size 0 et, rfl, hcap, ?_⟩
 ·refine ((M.drew).below ((Below.refl _ _).alloc (Nat.le_refl _) _)).cons ?_ fun g hg => ?_
  ·refine ⟨_, _, _, heap_alloc_new w.drew _, fun j u hu => ?_⟩;rw [← Gq] at hu;have hl : (Lib.strCells (bs s)).length = (bs s).size := by unfold Lib.strCells; simp [bs, ByteArray.size]
   unfold bytesRow;have hj := (List.getElem?_eq_some_iff.1 hu).1;rw [hl] at hj;rw [Array.getElem?_append_left (by rw [Array.size_map]; exact hj)]
   have : Lib.strCells (bs s) = ((bs s).data.map (fun b => Value.int .u8 b.toNat)).toList := by
    show s.map _ = _
    simp [bs]
   rw [this] at hu
   simpa using hu
  ·simp [kU.foot] at hg
   subst hg;exact ⟨M.sz, fun i e' h he => by have := M.Fd i e' _ h he; omega⟩
end
section
variable {P : Program} {ops : Array Oper} {Q O : Exit → Act → World → Prop} {S : World → Prop} {nV need : Nat → Bool} {R : Act → World → Prop}
theorem K8 (hL : ¬ LetsOut O) {j : Nat} {oi oj : Oper} {v : Value} (hj : ops[j]? = some oj) (hap : oi.apart ops oj = true) (hO : ∀ e a v w, O e (a.put oi.dst v) w → O e a w)
  (hsi : ∀ cs b, oi.op ≠ .select cs b) (hsj : ∀ cs b, oj.op ≠ .select cs b) {K : Act → World → Prop} {a : Act} {w : World}
  (hy : rK P ops S oi v a) (h : wpOp P ops O j K (a.put oi.dst v) w) :
  wpOp P ops O j (fun a' w' => rK P ops S oi v a' ∧ K (a'.put oi.dst v) w') a w := by
 obtain ⟨h1, h2, h3⟩ := Oper.apart_spec hap
 have keep : ∀ (a : Act), rK P ops S oi v a → ∀ u, rK P ops S oi v (a.put oj.dst u) := fun a hy u =>
  hy.same (execOp_put oi hsi a oj.dst u h3) (wanted_put oi a oj.dst u h3)
 have keepD : ∀ d, rK P ops S oi v { a with defers := d :: a.defers } := fun d => hy.same rfl rfl
 unfold wpOp at *;simp only [hj] at *;rw [wanted_put oj a oi.dst v h1] at h
 split
 ·rename_i hw
  simp only [hw, if_true] at h
  rcases h with h | ⟨_, hl⟩
  case inr => exact absurd hl hL
  refine .inl ?_;unfold Oper.wp at *;rw [execOp_put oj hsj a oi.dst v h1] at h
  generalize (execOp a.eval oj).run P w = r at *
  cases r with
  | ok n w' =>
   cases n <;> simp only [Oper.upon] at h ⊢
   case value u => exact ⟨keep a hy u, by rw [← Act.put_comm a v u h2]; exact h⟩
   case skip => exact ⟨keep a hy _, by rw [← Act.put_comm a v undef h2]; exact h⟩
   case defer d =>
    refine ⟨keep _ (keepD d) _, ?_⟩;rw [← Act.put_comm _ v undef h2, ← Act.put_defers];exact h
   case enter f args =>
    refine Calls.mono h fun e w'' he => ?_
    cases e with
    | returned u => exact ⟨keep a hy u, by rw [← Act.put_comm a v u h2]; exact he⟩
    | panicked c => exact hO _ _ _ _ he
    | outgrown => exact absurd he hL
   case row row args => exact Rows.mono h fun u w'' he => ⟨keep a hy u, by rw [← Act.put_comm a v u h2]; exact he⟩
  | halt x w' => cases x <;> simp only [Oper.upon] at h ⊢; exact hO _ _ _ _ h
 ·rename_i hw
  simp only [hw] at h;exact ⟨keep a hy _, by rw [← Act.put_comm a v undef h2]; exact h⟩
theorem NX (hL : ¬ LetsOut O) (hQ : ∀ e a w, O e a w → Q e a w) {i : Nat} {K : Act → World → Prop} {a : Act} {w : World} (h : wpOp P ops O i K a w) : wpOp P ops Q i K a w := by
  unfold wpOp at *
  split
  · rename_i h0
    simp only [h0] at h
    exact h
  · rename_i o ho
    simp only [ho] at h
    split
    · rename_i hw
      rw [if_pos hw] at h
      rcases h with h | ⟨_, hl⟩
      case inr => exact absurd hl hL
      refine .inl ?_
      unfold Oper.wp at *
      generalize (execOp a.eval o).run P w = r at *
      cases r with
      | ok n w' =>
        cases n <;> simp only [Oper.upon] at h ⊢ <;> first
          | exact h
          | (refine Calls.mono h fun e w'' he => ?_
             cases e with
             | returned u => exact he
             | panicked c => exact hQ _ _ _ he
             | outgrown => exact absurd he hL)
      | halt x w' => cases x <;> simp only [Oper.upon] at h ⊢; exact hQ _ _ _ h
    · rename_i hw
      rw [if_neg hw] at h
      exact h
theorem O3 (hL : ¬ LetsOut O) (hO : ∀ (i : Nat) (o : Oper), ops[i]? = some o → ∀ e a v w, O e (a.put o.dst v) w → O e a w) {c : Nat} {oc : Oper} (hc : ops[c]? = some oc) (hrc : nV c = false) (hsel : ∀ (j : Nat) (o : Oper) cs b, ops[j]? = some o → o.op ≠ .select cs b)
  (Bi : ∀ j k oj ok, j ≠ k → ops[j]? = some oj → ops[k]? = some ok → waits ops j k = false → waits ops k j = false → (nV j = true → oj.apart ops ok = true)) :
  ∀ (n : Nat) (rem : List Nat) (a : Act) (w : World), c ∈ rem → Kh ops rem c = true → w9 P O ops S nV need R (n + 1) rem a w → wpOp P ops O c (fun a' w' => (need c = true → S w') ∧ w9 P O ops S nV need R n (rem.erase c) a' w') a w := by
 intro n
 induction n with
 | zero =>
  intro rem a w hcm hrd h
  rcases h with ⟨i0, hi0, hr0, hd0, o0, ho0, u, hu, h⟩ | ⟨_, h⟩
  ·obtain ⟨hnil, hR⟩ := h;have e : i0 ≠ c := fun e => by subst e; rw [hrc] at hr0; cases hr0
   have : c ∈ rem.erase i0 := (List.mem_erase_of_ne (fun h => e h.symm)).2 hcm;rw [hnil] at this; cases this
  ·exact h c hcm hrc hrd
 | succ n ih =>
  intro rem a w hcm hrd h
  rcases h with ⟨i0, hi0, hr0, hd0, o0, ho0, u, hu, h⟩ | ⟨_, h⟩
  ·have e : i0 ≠ c := fun e => by subst e; rw [hrc] at hr0; cases hr0
   have hcm' : c ∈ rem.erase i0 := (List.mem_erase_of_ne (fun h => e h.symm)).2 hcm;have h2 := ih _ _ _ hcm' (Ab hrd) h;have w1 := u5 hrd hi0;have w2 := u5 hd0 hcm;have ap := Bi i0 c o0 oc e ho0 hc w2 w1 hr0;have h3 := K8 hL hc ap (hO i0 o0 ho0) (fun cs b => hsel i0 o0 cs b ho0) (fun cs b => hsel c oc cs b hc) hu h2;refine wpOp_mono ?_ h3;rintro a' w' ⟨hy, hn, hk⟩;refine ⟨hn, .inl ⟨i0, (List.mem_erase_of_ne e).2 hi0, hr0, Ab hd0, o0, ho0, u, hy, ?_⟩⟩;rw [List.erase_comm]; exact hk
  ·exact h c hcm hrc hrd
theorem JJ (hL : ¬ LetsOut O) (hO : ∀ (i : Nat) (o : Oper), ops[i]? = some o → ∀ e a v w, O e (a.put o.dst v) w → O e a w) (hQ : ∀ e a w, O e a w → Q e a w) (hok : K4 ops nV need = true) : ∀ (fuel : Nat) (listed : Array Bool) (a : Act) (w : World), listed.size = ops.size → Closed ops listed → (jG ops listed).length = fuel →
  (∀ r ∈ jG ops listed, nV r = true → S w) → w9 P O ops S nV need (Q .normal) fuel (jG ops listed) a w → wpAny P .any ops Q fuel listed a w := by
 simp only [K4, Bool.and_eq_true] at hok;obtain ⟨⟨⟨Kl, hback⟩, Mm⟩, Km⟩ := hok;have hsel := Region.noSelect_spec Kl;have hp : ∀ i < ops.size, ∀ j < i, ER ops nV i j = true := fun i hi j hj => List.all_eq_true.1 (List.all_eq_true.1 Mm i (List.mem_range.2 hi)) j (List.mem_range.2 hj)
 have Bi : ∀ j k oj ok, j ≠ k → ops[j]? = some oj → ops[k]? = some ok → waits ops j k = false → waits ops k j = false → (nV j = true → oj.apart ops ok = true) := by
  intro j k oj ok hjk hj hk w1 w2 hr;have hjl := (Array.getElem?_eq_some_iff.1 hj).1;have hkl := (Array.getElem?_eq_some_iff.1 hk).1
  rcases Nat.lt_or_gt_of_ne hjk with hlt | hlt
  ·have h := hp k hkl j hlt;unfold ER at h;simp only [hj, hk, w2, Bool.false_or, Bool.and_eq_true, Bool.or_eq_true, Bool.not_eq_true'] at h
   rcases h.2 with h0 | h0
   ·rw [hr] at h0; cases h0
   ·exact h0
  ·have h := hp j hjl k hlt;unfold ER at h;simp only [hj, hk, w1, Bool.false_or, Bool.and_eq_true, Bool.or_eq_true, Bool.not_eq_true'] at h
   rcases h.1 with h0 | h0
   ·rw [hr] at h0; cases h0
   ·exact h0
 have hbk : ∀ i o, ops[i]? = some o → ∀ e ∈ o.after, Region.binds .any e = true → e.on < i := fun i o ho e he hb => by
  have hi : i < ops.size := (Array.getElem?_eq_some_iff.1 ho).1;have h := List.all_eq_true.1 hback i (List.mem_range.2 hi);simp only [ho] at h;have h2 := Array.all_eq_true_iff_forall_mem.1 h e he
  simpa [hb] using h2
 have hnd : ∀ i < ops.size, nV i = false → ∀ r < ops.size, nV r = true → waits ops i r = false → need i = true := fun i hi Ea r hr hrr hw => by
  have h := List.all_eq_true.1 Km i (List.mem_range.2 hi);simp only [Ea, Bool.false_or, Bool.or_eq_true, Bool.not_eq_true'] at h;refine h.resolve_right fun h0 => ?_
  have : Hh ops nV i = true := by
   refine List.any_eq_true.2 ⟨r, List.mem_range.2 hr, ?_⟩;have : r ≠ i := fun e => by subst e; rw [Ea] at hrr; cases hrr
   simp [hrr, hw, this]
  rw [this] at h0;cases h0
 intro fuel
 induction fuel with
 | zero =>
  intro listed a w hs hc hlen _ h;have hnil : jG ops listed = [] := List.eq_nil_of_length_eq_zero hlen;obtain ⟨_, h⟩ := h;refine ⟨?_, h⟩;refine List.eq_nil_iff_forall_not_mem.2 fun i hi => ?_
  obtain ⟨h0, o, ho, _⟩ := mem_ready.1 hi;have : i ∈ jG ops listed := lF.2 ⟨(Array.getElem?_eq_some_iff.1 ho).1, h0⟩;rw [hnil] at this;cases this
 | succ fuel ih =>
  intro listed a w hs hc hlen hS h;refine ⟨fun h0 => ?_, fun i hi => ?_⟩
  ·exfalso
   match hr : jG ops listed, hlen with
   | i0 :: rest, _ =>
    have hm0 : i0 ∈ jG ops listed := by rw [hr]; exact List.mem_cons_self ..
    obtain ⟨hlt, hun⟩ := lF.1 hm0;have Bj := s0 (ops := ops) listed;rw [hr, List.pairwise_cons] at Bj
    have : i0 ∈ Region.ready .any ops listed := by
     refine mem_ready.2 ⟨hun, ops[i0], Array.getElem?_eq_getElem hlt, fun e he hb => ?_⟩;have hlt2 := hbk i0 _ (Array.getElem?_eq_getElem hlt) e he hb;cases hl : listed.getD e.on false with
     | true => rfl
     | false =>
      have hm : e.on ∈ jG ops listed := lF.2 ⟨by omega, by rw [z7 (by omega)]; exact hl⟩;rw [hr] at hm
      rcases List.mem_cons.1 hm with hm | hm
      ·omega
      ·have := Bj.1 _ hm; omega
    rw [h0] at this;cases this
  ·obtain ⟨hun, oi, hoi, hall⟩ := mem_ready.1 hi;have hilt : i < ops.size := (Array.getElem?_eq_some_iff.1 hoi).1;have him : i ∈ jG ops listed := lF.2 ⟨hilt, hun⟩;have Mn : (jG ops listed).Nodup := (s0 (ops := ops) listed).imp fun h => Nat.ne_of_lt h
   have Bl : jG ops (listed.setIfInBounds i true) = (jG ops listed).erase i := by rw [Gd hs hilt, CT Mn]
   have hlen' : (jG ops (listed.setIfInBounds i true)).length = fuel := by
    rw [Bl, List.length_erase_of_mem him]; omega
   have hs' : (listed.setIfInBounds i true).size = ops.size := by simpa using hs
   have hc' : Closed ops (listed.setIfInBounds i true) := by
    intro k hk j hj
    by_cases hik : i = k
    ·subst hik; exact getD_set_true (rQ hi hj)
    ·rw [getD_set_ne false hik] at hk; exact getD_set_true (hc k hk j hj)
   have hrd : Kh ops (jG ops listed) i = true := by
    unfold Kh;rw [List.all_eq_true];intro j hj;obtain ⟨h1, h2⟩ := lF.1 hj;cases hw : waits ops i j with
    | false => rfl
    | true =>
     have := rQ hi hw;rw [← z7 (by omega), h2] at this; cases this
   cases Ea : nV i with
   | true =>
    have hSw : S w := hS i him Ea;obtain ⟨v, hv, hrest⟩ := Nf hoi Ea hsel Bi fuel _ a w him hrd h;refine hv.run hoi hSw (ih _ _ _ hs' hc' hlen' (fun _ _ _ => hSw) (by rw [Bl]; exact hrest))
   | false =>
    have h2 := O3 hL hO hoi Ea hsel Bi fuel _ a w him hrd h;refine NX hL hQ (wpOp_mono ?_ h2);rintro a' w' ⟨hn, hk⟩;refine ih _ _ _ hs' hc' hlen' ?_ (by rw [Bl]; exact hk);intro r hr hrr;rw [Bl] at hr;have hrm := List.mem_of_mem_erase hr;exact hn (hnd i hilt Ea r (lF.1 hrm).1 hrr (u5 hrd hrm))
theorem JK (hL : ¬ LetsOut O) (hQ : ∀ e a w, O e a w → Q e a w) {id : Nat} {a : Act} {w : World} {l : List Oper} (hO : ∀ (i : Nat) (o : Oper), l.toArray[i]? = some o → ∀ e a v w, O e (a.put o.dst v) w → O e a w) (S : World → Prop) (f : List Nat) (n : Nat) (rem : List Nat) (hm : P.follows .mixedOrders = true) (hok : K4 l.toArray (nW f) (jK f) = true)
  (hl : List.range l.toArray.size = rem) (hn : rem.length = n) (hS : S w.drew) (h : w9 P O l.toArray S (nW f) (jK f) (Q .normal) n rem a w.drew) : (Code.region id l.toArray true).wp P Q a w := by
 refine wp_region_any hm ?_
 have EA : jG l.toArray (Array.replicate l.toArray.size false) = List.range l.toArray.size := by
  unfold jG;refine List.filter_eq_self.2 fun i hi => ?_
  have := List.mem_range.1 hi
  simp at this
  simp [this]
 refine JJ hL hO hQ hok l.toArray.size (Array.replicate l.toArray.size false) a _ (by simp) ?_ (by rw [EA]; simp) (fun _ _ _ => hS) ?_
 ·intro i hi;rw [sZ] at hi;cases hi
 ·rw [EA, hl];have : l.toArray.size = n := by rw [← hn, ← hl]; simp
  rw [this]; exact h
def Bk (D : List Deferred) (N : Nat) (l0 : List (Nat × Value)) (Pn : List PanicEntry → World → Prop) : Exit → Act → World → Prop := fun e a w => ∃ ch, e = .panic ch ∧ Pn ch w ∧ Kd D a N l0
def Ni (ops : List Oper) (l0 : List (Nat × Value)) : Bool := ops.all fun o => match o.dst with
 | some d => (zK l0 d).isNone
 | none => true
theorem Kd.Vq {D : List Deferred} {a : Act} {N : Nat} {l0 : List (Nat × Value)} {d : Option Nat} {v : Value} (h : ∀ s, d = some s → zK l0 s = none) (K : Kd D (a.put d v) N l0) : Kd D a N l0 := by
 cases d with
 | none => exact K
 | some d =>
  refine ⟨K.defs, by have := K.size; simpa [Act.put] using this, fun s u hs => ?_⟩;have h2 := K.get s u hs;have hne : d ≠ s := fun e => by subst e; rw [h d rfl] at hs; cases hs
  simp only [Act.put] at h2;rw [← h2]
  simp [Array.getD_eq_getD_getElem?, Array.getElem?_setIfInBounds, hne]
theorem lA {id : Nat} {a : Act} {w : World} {l : List Oper} {D : List Deferred} {N : Nat} (l0 : List (Nat × Value)) (Pn : List PanicEntry → World → Prop) (hcl : Ni l l0 = true) (hQ : ∀ ch a w, Pn ch w → Kd D a N l0 → Q (.panic ch) a w) (S : World → Prop) (f : List Nat) (n : Nat) (rem : List Nat) (hm : P.follows .mixedOrders = true) (hok : K4 l.toArray (nW f) (jK f) = true)
  (hl : List.range l.toArray.size = rem) (hn : rem.length = n) (hS : S w.drew) (h : w9 P (Bk D N l0 Pn) l.toArray S (nW f) (jK f) (Q .normal) n rem a w.drew) : (Code.region id l.toArray true).wp P Q a w :=
 JK (O := Bk D N l0 Pn) (fun ⟨_, _, _, h, _⟩ => by cases h) (fun e a w ⟨ch, h1, h2, h3⟩ => by subst h1; exact hQ ch a w h2 h3)
  (fun i o ho e a v w ⟨ch, h1, h2, h3⟩ => ⟨ch, h1, h2, Kd.Vq (fun s hs => by
   unfold Ni at hcl;rw [List.all_eq_true] at hcl;have hm := hcl o (by simpa using Array.mem_of_getElem? ho);rw [hs] at hm
   simpa using hm) h3⟩) S f n rem hm hok hl hn hS h
variable {D : List Deferred} {a : Act} {w : World} {N : Nat} {l l0 : List (Nat × Value)} {o : Oper} {v : Value} {d c n : Nat} {rem : List Nat} {f : List Nat} {Pn : List PanicEntry → World → Prop} {x : Operand}
theorem GW {kk : Act → World → Prop} (ho : ops[c]? = some o) (K0 : Kd D a N l0) (hw : Region.wanted o (yielded ops a.tmps) = true) (h : Bo P o a w Pn) : wpOp P ops (Bk D N l0 Pn) c kk a w := by
 unfold wpOp;simp only [ho, hw, if_true];exact .inl (h _ _ fun ch w' hp => ⟨ch, rfl, hp, K0⟩)
theorem O4 {fid : FuncId} {cap vs : List Value} {args : Array Operand} {ts : Array TypeId} (K : Kd D a N l) (ho : o.op = .call { callee := .value x, args := args, argTypes := ts }) (hf : dY P fid = true) (hx : iP l x = some (.func (.func fid) #[] cap.toArray)) (hargs : args.toList.map (iP l) = vs.map some)
  {K2 : Act → World → Prop} {Q2 : Exit → Act → World → Prop} (h : Calls P fid (vs ++ cap).toArray w fun e w' => (∃ v, e = .returned v ∧ K2 (a.put o.dst v) w') ∨ ∃ ch, e = .panicked ch ∧ Q2 (.panic ch) a w') : o.wp P a w K2 Q2 := by
 have hE : args.map a.eval = vs.toArray := by
  apply Array.ext'
  simp only [Array.toList_map]
  have : ∀ (xs : List Operand) (vs : List Value), xs.map (iP l) = vs.map some → xs.map a.eval = vs := by
   intro xs
   induction xs with
   | nil => intro vs h; cases vs <;> simp_all
   | cons x xs ih =>
    intro vs h;cases vs with
    | nil => simp at h
    | cons v vs => simp only [List.map_cons, List.cons.injEq] at h ⊢; exact ⟨K.ev h.1, ih vs h.2⟩
  exact this _ _ hargs
 have hrun : (execOp a.eval o).run P w = .ok (.enter fid (vs ++ cap).toArray) w := by
  unfold dY at hf
  split at hf
  ·rename_i fn hfn
   simp only [Bool.and_eq_true, bne_iff_ne, ne_eq] at hf;obtain ⟨b, hb⟩ := Option.isSome_iff_exists.1 hf.1;unfold execOp
   simp [ho, resolve, K.ev hx, hE, Deferred.ofValue, invoke, callFunc, hfn, hb, hf.2]
  ·cases hf
 unfold Oper.wp;rw [hrun, Oper.upon_enter];refine h.mono ?_;rintro e w' (⟨v, rfl, hp⟩ | ⟨ch, rfl, hp⟩)
 ·exact hp
 ·exact hp
theorem DD {rest : List Oper} {fid : FuncId} {cap vs : List Value} {args : Array Operand} {ts : Array TypeId} (K : Kd D a N l) (hw : Region.wanted o (yielded ops a.tmps) = true) (hd : o.dst = some d) (hN : Nat.blt d N = true)
  (ho : o.op = .call { callee := .value x, args := args, argTypes := ts }) (hf : dY P fid = true) (hx : iP l x = some (.func (.func fid) #[] cap.toArray)) (hargs : args.toList.map (iP l) = vs.map some)
  (h : Calls P fid (vs ++ cap).toArray w fun e w' => (∃ v, e = .returned v ∧ ∀ a', Kd D a' N ((d, v) :: l) → wpList P ops Q rest a' w') ∨ ∃ ch, e = .panicked ch ∧ Q (.panic ch) a w') : wpList P ops Q (o :: rest) a w := by
 refine wpList_step fun Kc hK => ?_
 rw [if_pos hw];refine O4 K ho hf hx hargs (h.mono ?_);rintro e w' (⟨v, he, hp⟩ | hp)
 ·refine .inl ⟨v, he, hK _ _ ?_⟩;have := K.put (d := o.dst) (by rw [hd]; exact hN) v;rw [hd] at this ⊢;exact hp _ this
 ·exact .inr hp
theorem JL {fid : FuncId} {cap vs : List Value} {args : Array Operand} {ts : Array TypeId} (CI : List Nat) (hc : (rem.erase c == CI) = true) (hop : ops[c]? = some o) (K : Kd D a N l) (hw : Region.wanted o (yielded ops a.tmps) = true) (hd : o.dst = some d) (hN : Nat.blt d N = true) (K0 : Kd D a N l0)
  (ho : o.op = .call { callee := .value x, args := args, argTypes := ts }) (hf : dY P fid = true) (hx : iP l x = some (.func (.func fid) #[] cap.toArray)) (hargs : args.toList.map (iP l) = vs.map some)
  (h : Calls P fid (vs ++ cap).toArray w fun e w' => (∃ v, e = .returned v ∧ ∀ a', Kd D a' N ((d, v) :: l) → (jK f c = true → S w') ∧ w9 P (Bk D N l0 Pn) ops S (nW f) (jK f) R n CI a' w') ∨ ∃ ch, e = .panicked ch ∧ Pn ch w') : wpOp P ops (Bk D N l0 Pn) c (fun a' w' => (jK f c = true → S w') ∧ w9 P (Bk D N l0 Pn) ops S (nW f) (jK f) R n (rem.erase c) a' w') a w := by
 obtain rfl : rem.erase c = CI := by simpa using hc
 unfold wpOp;simp only [hop, hw, if_true];refine .inl (O4 K ho hf hx hargs (h.mono ?_));rintro e w' (⟨v, he, hp⟩ | ⟨ch, he, hp⟩)
 ·refine .inl ⟨v, he, ?_⟩;have := K.put (d := o.dst) (by rw [hd]; exact hN) v;rw [hd] at this ⊢;exact hp _ this
 ·exact .inr ⟨ch, he, ch, rfl, hp, K0⟩
theorem O5 {fn : Func} {code : Code} {fid : FuncId} {args : Array Value} {Rp : Ending → World → Prop} (hf : P.funcs[fid]? = some fn) (hb : fn.body = some code) (hN : fn.ntmps = N) (hs : Nat.ble args.size N = true)
  (h : ∀ a, Kn a N (GB 0 args.toList) → code.wp P (bodyPostD P fn Rp) a w) : Calls P fid args w Rp := by
 refine calls_of_wp_defers hf hb ?_;rw [hN];exact h _ (Kd.start args N hs)
theorem YA {rest : List Oper} {fid : FuncId} {cap : List Value} (K : Kd D a N l) (hw : Region.wanted o (yielded ops a.tmps) = true) (hd : o.dst = none) (ho : o.op = .defer { callee := .value x, args := #[], argTypes := #[] }) (hx : iP l x = some (.func (.func fid) #[] cap.toArray))
  (k : ∀ a', Kd ({ target := .fn (.func fid) cap.toArray, args := #[] } :: D) a' N l → wpList P ops Q rest a' w) : wpList P ops Q (o :: rest) a w := by
 refine wpList_step fun Kc hK => ?_
 rw [if_pos hw];unfold Oper.wp
 have hrun : (execOp a.eval o).run P w = .ok (.defer { target := .fn (.func fid) cap.toArray, args := #[] }) w := by
  unfold execOp
  simp [ho, resolve, K.ev hx, Deferred.ofValue]
 rw [hrun, Oper.upon_defer];refine hK _ _ ?_;rw [hd];exact k _ ⟨by show _ :: a.defers = _; rw [K.defs], K.size, K.get⟩
theorem Vr {fn : Func} {Rp : Ending → World → Prop} {r1 r2 : ResultVar} {v1 v2 : Value} {fid : FuncId} {cap : Array Value} (K : Kd [{ target := .fn (.func fid) cap, args := #[] }] a N l) (hr : fn.results = #[r1, r2]) (h1 : u4 P a w r1 v1) (h2 : u4 P a w r2 v2)
  (hi : (invoke (.fn (.func fid) cap) #[]).run P w = .ok (.enter fid cap) w) (hc : CallsD P fid cap .returning w fun e u' w' => e = .returned (.tuple #[]) ∧ u' = .returning ∧ w' = w) (h : Rp (.returned (.tuple #[v1, v2])) w) : bodyPostD P fn Rp .ret a w := by
 show Leaves P fn a.tmps Rp a.defers .returning w;rw [K.defs];refine leaves_cons (by intro h; cases h) hi (hc.mono ?_);rintro e u' w' ⟨rfl, rfl, rfl⟩;refine ⟨.tuple #[v1, v2], ?_, h⟩;unfold u4 at h1 h2;rw [rT, hr]; simp [h1, h2]
theorem lS {fn : Func} {Rp : Ending → World → Prop} {r1 r2 : ResultVar} {v1 v2 : Value} {fid : FuncId} {cap : Array Value} {pe : PanicEntry} {post : World → Prop} (K : Kd [{ target := .fn (.func fid) cap, args := #[] }] a N l) (hr : fn.results = #[r1, r2])
  (hi : (invoke (.fn (.func fid) cap) #[]).run P w = .ok (.enter fid cap) w) (hc : CallsD P fid cap (.panicking [pe]) w fun e u' w' => e = .returned (.tuple #[]) ∧ u' = .panicking [{ pe with recovered := true }] ∧ post w') (hres : ∀ w', post w' → u4 P a w' r1 v1 ∧ u4 P a w' r2 v2 ∧ Rp (.returned (.tuple #[v1, v2])) w') : bodyPostD P fn Rp (.panic [pe]) a w := by
 show Leaves P fn a.tmps Rp a.defers (.panicking [pe]) w;rw [K.defs];refine leaves_cons (by intro h; cases h) hi (hc.mono ?_);rintro e u' w' ⟨rfl, rfl, hp⟩;obtain ⟨h1, h2, h⟩ := hres w' hp;refine ⟨.tuple #[v1, v2], ?_, h⟩;unfold u4 at h1 h2;rw [rT, hr]; simp [h1, h2]
end
section
variable {Q : Exit → Act → World → Prop} {a : Act} {w : World}
theorem TR (h : Q .ret a w) : Exit.noGoto Q .ret a w := h
end
theorem gK {P : Program} {f : FuncId} {cap : Array Value} {w : World} (hf : dY P f = true) : (invoke (.fn (.func f) cap) #[]).run P w = .ok (.enter f cap) w := by
 unfold dY at hf
 split at hf
 ·rename_i fn hfn
  simp only [Bool.and_eq_true, bne_iff_ne, ne_eq] at hf;obtain ⟨b, hb⟩ := Option.isSome_iff_exists.1 hf.1
  simp [invoke, callFunc, hfn, hb, hf.2]
 ·cases hf
theorem NY {P : Program} {S : World → Prop} {D : List Deferred} {a : Act} {N : Nat} {l : List (Nat × Value)} {o : Oper} {x : Operand} {t t' u : TypeId} {v : Value} (hi : P.isIface t = true) (ho : o.op = .binOp .eql t x (.const .nilIface) t') (K : Kd D a N l) (hx : iP l x = some (.iface u v)) : Rd P S a o (.bool false) :=
 oR ho K hx (show iP l (.const .nilIface) = some .nilIface from rfl) fun w => by rw [Sem.run_bind]; simp [eqGuard, run_eql_iface_nil w t hi u v]
theorem NZ {P : Program} {S : World → Prop} {D : List Deferred} {a : Act} {N : Nat} {l : List (Nat × Value)} {o : Oper} {x : Operand} {t t' : TypeId} (hi : P.isIface t = true) (ho : o.op = .binOp .eql t x (.const .nilIface) t') (K : Kd D a N l) (hx : iP l x = some .nilIface) : Rd P S a o (.bool true) :=
 oR ho K hx (show iP l (.const .nilIface) = some .nilIface from rfl) fun w => by rw [Sem.run_bind]; simp [eqGuard, run_eql_nil_nil_at w t hi]
theorem pK {P : Program} {S : World → Prop} {D : List Deferred} {a : Act} {N : Nat} {l : List (Nat × Value)} {o : Oper} {x ix : Operand} {t e : TypeId} {g off c : Nat} {k : IntKind} {b s j len : Nat} (ho : o.op = .indexAddr t x ix) (ht : Hj P t e s b = true) (K : Kd D a N l) (hx : iP l x = some (.slice (some ⟨g, off, none⟩) len c)) (hi : iP l ix = some (.int k j)) (hj : Nat.blt j len = true) : Rd P S a o (.pointer (some ⟨g, off + j * s, none⟩)) := fun w _ => by
  obtain ⟨hu, i, oY, hs, _⟩ := k4 ht
  have h1 : (j : Int) < len := by have : j < len := by simpa [Nat.blt_eq] using hj
                                  omega
  have hadd : (⟨g, off, none⟩ : Addr).add (j * s) = ⟨g, off + j * s, none⟩ := by unfold Addr.add; split <;> simp_all
  unfold execOp
  simp [ho, K.ev hx, K.ev hi, Instr.indexAt, asIntOf, run_underlying hu, sizeOf, typeInfo, oY, hs, h1, hadd]
  intro hh; omega
end
end Go.Proofs.YtpmnfhifmmfglaaGreatDoor
