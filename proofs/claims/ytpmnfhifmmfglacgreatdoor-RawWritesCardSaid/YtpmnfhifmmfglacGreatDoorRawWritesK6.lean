/- Texts of the claim RawWrites, joined and made small by a program. -/
import Derived.Test.YtpmnfhifmmfglacGreatDoorRawWritesK5
set_option linter.unusedVariables false
set_option linter.unusedSimpArgs false
set_option linter.unusedSectionVars false
set_option maxRecDepth 100000
set_option maxHeartbeats 8000000
namespace Go.Proofs.YtpmnfhifmmfglacGreatDoor
section
open Go
def BG (lo hi n : Int) : Bool := decide (lo ≤ n ∧ n ≤ hi)
theorem aAW (N : Nat) (s : List Int) (lo hi : Int) (hl : s.length ≤ 4096) : ∀ (d k fuel : Nat), k + d = s.length → d < fuel →
  ∃ r, eR N s lo hi (fun _ => some (-1)) fuel (k : Int) = some r ∧ decide (0 ≤ r) = !((s.drop k).all (BG lo hi)) := by
 intro d
 induction d with
 | zero =>
  intro k fuel hk hf;obtain ⟨fuel, rfl⟩ := mN fuel (by omega);obtain rfl : k = s.length := by omega
  unfold eR;rw [cF (dF (by omega))];exact ⟨_, rfl, by simp⟩
 | succ d ih =>
  intro k fuel hk hf;obtain ⟨fuel, rfl⟩ := mN fuel (by omega);have hlt : k < s.length := by omega
  unfold eR CF;rw [cT (dT (by omega)), gB, List.getElem?_eq_getElem hlt, aC, List.drop_eq_getElem_cons hlt, List.all_cons]
  by_cases h1 : s[k] < lo
  ·rw [cT (dT h1), aC, cT (by rfl)];refine ⟨_, rfl, ?_⟩;have : BG lo hi s[k] = false := dF (by omega);rw [this, dT (by omega)]; rfl
  rw [cF (dF h1), aC]
  by_cases h2 : hi < s[k]
  ·rw [cT (dT h2)];refine ⟨_, rfl, ?_⟩;have : BG lo hi s[k] = false := dF (by omega);rw [this, dT (by omega)]; rfl
  rw [cF (dF h2), iE (by omega)];have : BG lo hi s[k] = true := dT (by omega);rw [this, Bool.true_and];exact ih (k + 1) fuel (by omega) (by omega)
theorem EC (lo hi : Int) (s : List Int) (hl : s.length ≤ 4096) : rV 8589934592 lo hi s = some (s.all (BG lo hi)) := by
 obtain ⟨r, hr, hd⟩ := aAW 8589934592 s lo hi hl s.length 0 8589934592 (by omega) (by omega);unfold rV iL jC;rw [show (0 : Int) = ((0 : Nat) : Int) from rfl] ;rw [hr, aC, aC];rw [List.drop_zero] at hd;have hd' : decide (((0 : Nat) : Int) ≤ r) = !(s.all (BG lo hi)) := hd;rw [hd', Bool.not_not]
theorem Tp {W H : Int} (hW : -1000 ≤ W ∧ W ≤ 1000) (hH : -1000 ≤ H ∧ H ≤ 1000) (x y : Int) : vE 8589934592 x y W H = some (!(lL W H (x, y))) := by
 unfold vE;rw [iE (by omega), iE (by omega), EC _ _ _ (by simp), aC, EC _ _ _ (by simp)];simp only [List.all_cons, List.all_nil, Bool.and_true]
 by_cases h1 : 0 ≤ x ∧ x ≤ W - 1
 ·have e1 : BG 0 (W - 1) x = true := dT h1;rw [e1, cF (by rfl), aC]
  congr 2
  unfold lL BG;rw [dT (show (0 : Int) ≤ x by omega), dT (show x < W by omega), Bool.true_and, Bool.true_and]
  by_cases h2 : 0 ≤ y ∧ y ≤ H - 1
  ·rw [dT h2, dT (show (0 : Int) ≤ y by omega), dT (show y < H by omega)]; rfl
  ·rw [dF h2]
   by_cases h3 : 0 ≤ y
   ·rw [dF (show ¬ y < H by omega)]; simp
   ·rw [dF h3]; rfl
 ·have e1 : BG 0 (W - 1) x = false := dF h1;rw [e1, cT (by rfl)]
  congr 1
  unfold lL
  by_cases h3 : 0 ≤ x
  ·rw [dF (show ¬ x < W by omega)]; simp
  ·rw [dF h3]; rfl
theorem Tq (s : List (Int × Int)) {W H : Int} (hW : -1000 ≤ W ∧ W ≤ 1000) (hH : -1000 ≤ H ∧ H ≤ 1000) (hl : s.length ≤ 4096) : ∀ (d k fuel : Nat), k + d = s.length → d < fuel →
  ∃ r, dE 8589934592 s W H (fun _ => some (-1)) fuel (k : Int) = some r ∧ decide (0 ≤ r) = !((s.drop k).all (lL W H)) := by
 intro d
 induction d with
 | zero =>
  intro k fuel hk hf;obtain ⟨fuel, rfl⟩ := mN fuel (by omega);obtain rfl : k = s.length := by omega
  unfold dE;rw [cF (dF (by omega))];exact ⟨_, rfl, by simp⟩
 | succ d ih =>
  intro k fuel hk hf;obtain ⟨fuel, rfl⟩ := mN fuel (by omega);have hlt : k < s.length := by omega
  unfold dE;rw [cT (dT (by omega)), gB, List.getElem?_eq_getElem hlt, aC, List.drop_eq_getElem_cons hlt, List.all_cons, Tp hW hH, aC];cases h : lL W H s[k]
  ·rw [cT (by rfl)];refine ⟨_, rfl, ?_⟩;rw [dT (by omega)]; rfl
  ·rw [cF (by rfl), iE (by omega), Bool.true_and];exact ih (k + 1) fuel (by omega) (by omega)
theorem Rb (s : List (Int × Int)) {W H : Int} (hW : -1000 ≤ W ∧ W ≤ 1000) (hH : -1000 ≤ H ∧ H ≤ 1000) (hl : s.length ≤ 4096) : zA 8589934592 s W H = some (s.all (lL W H)) := by
 obtain ⟨r, hr, hd⟩ := Tq s hW hH hl s.length 0 8589934592 (by omega) (by omega);have hr' : dE 8589934592 s W H (fun _ => some (-1)) 8589934592 0 = some r := hr;unfold zA fL gA;rw [hr', aC, aC, hd, List.drop_zero, Bool.not_not]
theorem O6 (s : List (Int × Int)) {W H : Int} (hW : -1000 ≤ W ∧ W ≤ 1000) (hH : -1000 ≤ H ∧ H ≤ 1000) (hl : s.length ≤ 4096) : ∀ (d k fuel : Nat), k + d = s.length → d < fuel →
  kS 8589934592 s W H (fun _ => some true) fuel (k : Int) = some ((s.drop k).all (lL W H)) := by
 intro d
 induction d with
 | zero =>
  intro k fuel hk hf;obtain ⟨fuel, rfl⟩ := mN fuel (by omega);obtain rfl : k = s.length := by omega
  unfold kS;rw [cF (dF (by omega))]
  simp
 | succ d ih =>
  intro k fuel hk hf;obtain ⟨fuel, rfl⟩ := mN fuel (by omega);have hlt : k < s.length := by omega
  unfold kS;rw [cT (dT (by omega)), gB, List.getElem?_eq_getElem hlt, aC, aC, aC, List.drop_eq_getElem_cons hlt, List.all_cons, iE (x := W - 1) (by omega), iE (x := H - 1) (by omega), uP, aC, uP, aC]
  by_cases h1 : 0 ≤ s[k].1 ∧ s[k].1 ≤ W - 1
  ·rw [cF (by rw [dT h1]; rfl)]
   by_cases h2 : 0 ≤ s[k].2 ∧ s[k].2 ≤ H - 1
   ·rw [cF (by rw [dT h2]; rfl), iE (by omega)]
    have : lL W H s[k] = true := by
     unfold lL;simp only [Bool.and_eq_true, decide_eq_true_eq]; omega
    rw [this, Bool.true_and];exact ih (k + 1) fuel (by omega) (by omega)
   ·rw [cT (by rw [dF h2]; rfl)]
    have : lL W H s[k] = false := by
     unfold lL;simp only [Bool.and_eq_false_iff, decide_eq_false_iff_not]; omega
    rw [this]; rfl
  ·rw [cT (by rw [dF h1]; rfl)]
   have : lL W H s[k] = false := by
    unfold lL;simp only [Bool.and_eq_false_iff, decide_eq_false_iff_not]; omega
   rw [this]; rfl
theorem Jm (s : List (Int × Int)) {W H : Int} (hW : -1000 ≤ W ∧ W ≤ 1000) (hH : -1000 ≤ H ∧ H ≤ 1000) (hl : s.length ≤ 4096) : oE 8589934592 s W H = some (s.all (lL W H)) := by
 have := O6 s hW hH hl s.length 0 8589934592 (by omega) (by omega);rw [List.drop_zero] at this;exact this
section
variable (ph b0 b1 b2 b3 w : Int) (sp : List (Int × Int)) (g0 g1 g2 m0 m1 m2 m3 m4 m5 m6 m7 m8 : Int) (cv : List (Int × Int)) (am : Int)
def DZ : Bool := BG 0 3 ph && (BG 1 65535 w && ([b0, b1, b2, b3].all (BG 0 (w - 1)) && (decide (sp.length ≤ 64) && (sp.all (lL 64 64) && ([g0, g1, g2].all (BG 0 65535) && (EB m0 m1 m2 m3 m4 m5 m6 m7 m8 && BG 0 1024 am))))))
theorem Tr {b : Bool} (hb : mJ 8589934592 cv = some b) (hc : b = true ↔ tZ cv) : zC 8589934592 ph b0 b1 b2 b3 w sp g0 g1 g2 m0 m1 m2 m3 m4 m5 m6 m7 m8 cv am = some (if DZ ph b0 b1 b2 b3 w sp g0 g1 g2 m0 m1 m2 m3 m4 m5 m6 m7 m8 am = false then 3 else if b = false then 1 else 0) := by
 unfold zC DZ;rw [EC _ _ _ (by simp), aC];simp only [List.all_cons, List.all_nil, Bool.and_true];cases h1 : BG 0 3 ph
 ·rfl
 rw [cF (by rfl), EC _ _ _ (by simp), aC];simp only [List.all_cons, List.all_nil, Bool.and_true, Bool.true_and];cases h2 : BG 1 65535 w
 ·rfl
 have h2' : 1 ≤ w ∧ w ≤ 65535 := of_decide_eq_true h2;rw [cF (by rfl), iE (by omega), EC _ _ _ (by simp), aC];simp only [List.all_cons, List.all_nil, Bool.and_true, Bool.true_and];cases h3 : (BG 0 (w - 1) b0 && (BG 0 (w - 1) b1 && (BG 0 (w - 1) b2 && BG 0 (w - 1) b3)))
 ·rfl
 rw [cF (by rfl)]
 by_cases h4 : sp.length ≤ 64
 rotate_left
 ·rw [cT (dT (by omega)), dF h4]; rfl
 rw [cF (dF (by omega)), dT h4, Rb sp (by omega) (by omega) (by omega), aC];simp only [Bool.true_and];cases h5 : sp.all (lL 64 64)
 ·rfl
 rw [cF (by rfl), EC _ _ _ (by simp), aC];simp only [List.all_cons, List.all_nil, Bool.and_true, Bool.true_and];cases h6 : (BG 0 65535 g0 && (BG 0 65535 g1 && BG 0 65535 g2))
 ·rfl
 rw [cF (by rfl), EC _ _ _ (by simp), aC, show [m0, m1, m2, m3, m4, m5, m6, m7, m8].all (BG (-32768) 32768) = EB m0 m1 m2 m3 m4 m5 m6 m7 m8 from rfl];simp only [Bool.true_and];cases h7 : EB m0 m1 m2 m3 m4 m5 m6 m7 m8
 ·rfl
 rw [cF (by rfl), EC _ _ _ (by simp), aC];simp only [List.all_cons, List.all_nil, Bool.and_true, Bool.true_and];cases h8 : BG 0 1024 am
 ·rfl
 rw [cF (by rfl), To hb hc 0, aC]
 cases b <;> rfl
theorem Rc (hw : 1 ≤ w ∧ w ≤ 65535) (kk : Int → Option Int) : eQ 8589934592 b0 b1 b2 b3 w kk 8589934592 0 = if [b0, b1, b2, b3].all (BG 0 (w - 1)) then kk 4 else some 3 := by
 have one : ∀ (fuel : Nat) (i : Nat) (b : Int), i < 4 → idx [b0, b1, b2, b3] (i : Int) = some b → eQ 8589934592 b0 b1 b2 b3 w kk (fuel + 1) (i : Int) = if BG 0 (w - 1) b then eQ 8589934592 b0 b1 b2 b3 w kk fuel ((i + 1 : Nat) : Int) else some 3 := fun fuel i b hi hx => by
  conv => lhs; unfold eQ
  rw [cT (dT (by omega)), Tk (by omega), aC, hx, aC, iE (x := w - 1) (by omega), uP, aC, iE (by omega), aC, show decide (0 ≤ b ∧ b ≤ w - 1) = BG 0 (w - 1) b from rfl]
  cases BG 0 (w - 1) b <;> rfl
 have h0 := one 8589934591 0 b0 (by decide) rfl;have h1 := one 8589934590 1 b1 (by decide) rfl;have h2 := one 8589934589 2 b2 (by decide) rfl;have h3 := one 8589934588 3 b3 (by decide) rfl
 have h4 : eQ 8589934592 b0 b1 b2 b3 w kk 8589934588 ((3 + 1 : Nat) : Int) = kk 4 := by
  show eQ 8589934592 b0 b1 b2 b3 w kk (8589934587 + 1) 4 = kk 4;unfold eQ;rw [cF (by decide)]
 refine h0.trans ?_;simp only [List.all_cons, List.all_nil, Bool.and_true];cases BG 0 (w - 1) b0
 ·rfl
 refine h1.trans ?_;cases BG 0 (w - 1) b1
 ·rfl
 refine h2.trans ?_;cases BG 0 (w - 1) b2
 ·rfl
 refine h3.trans ?_;cases BG 0 (w - 1) b3
 ·rfl
 exact h4
theorem Ts (kk : Int → Option Int) : eP 8589934592 g0 g1 g2 kk 8589934592 0 = if [g0, g1, g2].all (BG 0 65535) then kk 3 else some 3 := by
 have one : ∀ (fuel : Nat) (i : Nat) (b : Int), i < 3 → idx [g0, g1, g2] (i : Int) = some b → eP 8589934592 g0 g1 g2 kk (fuel + 1) (i : Int) = if BG 0 65535 b then eP 8589934592 g0 g1 g2 kk fuel ((i + 1 : Nat) : Int) else some 3 := fun fuel i b hi hx => by
  conv => lhs; unfold eP
  rw [cT (dT (by omega)), Tk (by omega), aC, hx, aC, uP, aC, iE (by omega), aC, show decide (0 ≤ b ∧ b ≤ 65535) = BG 0 65535 b from rfl]
  cases BG 0 65535 b <;> rfl
 have h0 := one 8589934591 0 g0 (by decide) rfl;have h1 := one 8589934590 1 g1 (by decide) rfl;have h2 := one 8589934589 2 g2 (by decide) rfl
 have h3 : eP 8589934592 g0 g1 g2 kk 8589934589 ((2 + 1 : Nat) : Int) = kk 3 := by
  show eP 8589934592 g0 g1 g2 kk (8589934588 + 1) 3 = kk 3;unfold eP;rw [cF (by decide)]
 refine h0.trans ?_;simp only [List.all_cons, List.all_nil, Bool.and_true];cases BG 0 65535 g0
 ·rfl
 refine h1.trans ?_;cases BG 0 65535 g1
 ·rfl
 refine h2.trans ?_;cases BG 0 65535 g2
 ·rfl
 exact h3
theorem LV {b : Bool} (hb : g9 8589934592 cv = some b) : nA 8589934592 ph b0 b1 b2 b3 w sp g0 g1 g2 m0 m1 m2 m3 m4 m5 m6 m7 m8 cv am = some (if DZ ph b0 b1 b2 b3 w sp g0 g1 g2 m0 m1 m2 m3 m4 m5 m6 m7 m8 am = false then 3 else if b = false then 1 else 0) := by
 unfold nA DZ;rw [uP, aC, show decide (0 ≤ ph ∧ ph ≤ 3) = BG 0 3 ph from rfl];cases h1 : BG 0 3 ph
 ·rfl
 rw [cF (by rfl), uP, aC, show decide (1 ≤ w ∧ w ≤ 65535) = BG 1 65535 w from rfl];simp only [Bool.true_and];cases h2 : BG 1 65535 w
 ·rfl
 have h2' : 1 ≤ w ∧ w ≤ 65535 := of_decide_eq_true h2;rw [cF (by rfl)]
 by_cases h4 : sp.length ≤ 64
 rotate_left
 ·rw [cT (dT (by omega)), dF h4]; simp
 rw [cF (dF (by omega)), dT h4, Jm sp (by omega) (by omega) (by omega), aC];cases h5 : sp.all (lL 64 64)
 ·simp
 rw [cF (by rfl), O2 8589934592 m0 m1 m2 m3 m4 m5 m6 m7 m8 (by omega), aC];cases h7 : EB m0 m1 m2 m3 m4 m5 m6 m7 m8
 ·simp
 rw [cF (by rfl), uP, aC, show decide (0 ≤ am ∧ am ≤ 1024) = BG 0 1024 am from rfl];cases h8 : BG 0 1024 am
 ·simp
 rw [cF (by rfl), Rc b0 b1 b2 b3 w h2'];cases h3 : [b0, b1, b2, b3].all (BG 0 (w - 1))
 ·rfl
 rw [if_pos rfl, Ts g0 g1 g2];cases h6 : [g0, g1, g2].all (BG 0 65535)
 ·rfl
 rw [if_pos rfl, hb, aC]
 cases b <;> rfl
end
theorem ways {o : Int} (h : 1 ≤ o ∧ o ≤ 8) : o = 1 ∨ o = 2 ∨ o = 3 ∨ o = 4 ∨ o = 5 ∨ o = 6 ∨ o = 7 ∨ o = 8 := by omega
def pV (B : Nat) : Nat → Nat → List Nat
 | 0, _ => []
 | n + 1, x => pV B n (x / B) ++ [x % B]
def num (B : Nat) (l : List Nat) : Nat := l.foldl (fun a x => a * B + x) 0
theorem kJ (B : Nat) : ∀ n x, (pV B n x).length = n
 | 0, _ => rfl
 | n + 1, x => by simp [pV, kJ B n]
theorem AW {B : Nat} (hB : 0 < B) : ∀ n x, ∀ y ∈ pV B n x, y < B
 | 0, _, y, h => by simp [pV] at h
 | n + 1, x, y, h => by
  rcases List.mem_append.1 h with h | h
  ·exact AW hB n _ y h
  ·rw [List.mem_singleton.1 h]; exact Nat.mod_lt _ hB
theorem wE (B m : Nat) : ∀ q x, pV B (m + q) x = pV B m (x / B ^ q) ++ pV B q x
 | 0, x => by simp [pV]
 | q + 1, x => by
  show pV B (m + q) (x / B) ++ [x % B] = _ ++ (pV B q (x / B) ++ [x % B]);rw [wE B m q, List.append_assoc, Nat.div_div_eq_div_mul, Nat.pow_succ, Nat.mul_comm B]
theorem Gk (B : Nat) : ∀ n x, pV B n (x % B ^ n) = pV B n x
 | 0, _ => rfl
 | n + 1, x => by
  show pV B n (x % B ^ (n + 1) / B) ++ [x % B ^ (n + 1) % B] = pV B n (x / B) ++ [x % B];rw [Nat.pow_succ, Nat.mul_comm, Nat.mod_mul_right_div_self, Gk B n, Nat.mod_mul_right_mod]
theorem Jn {B n x y : Nat} (h : x % B ^ n = y % B ^ n) : pV B n x = pV B n y := by rw [← Gk B n x, h, Gk]
theorem AA (B : Nat) (l : List Nat) (x : Nat) : num B (l ++ [x]) = num B l * B + x := by simp [num]
theorem BH (B : Nat) : ∀ n x, num B (pV B n x) = x % B ^ n
 | 0, x => by simp [pV, num, Nat.mod_one]
 | n + 1, x => by
  show num B (pV B n (x / B) ++ [x % B]) = _;rw [AA, BH B n, Nat.pow_succ, Nat.mul_comm (B ^ n), Nat.mod_mul, Nat.mul_comm, Nat.add_comm]
theorem fold_eq (B : Nat) : ∀ (l : List Nat) (a : Nat), l.foldl (fun a x => a * B + x) a = a * B ^ l.length + num B l
 | [], a => by simp [num]
 | x :: l, a => by
  have h1 := fold_eq B l (a * B + x);have h2 := fold_eq B l (0 * B + x);unfold num;rw [List.foldl_cons, List.foldl_cons, h1, h2, List.length_cons, Nat.pow_succ, Nat.zero_mul, Nat.zero_add, Nat.add_mul, Nat.mul_assoc, Nat.mul_comm B, Nat.add_assoc]
theorem Gl (B x : Nat) (l : List Nat) : num B (x :: l) = x * B ^ l.length + num B l := by
 have := fold_eq B l (0 * B + x);unfold num at this ⊢;rw [List.foldl_cons, this, Nat.zero_mul, Nat.zero_add]
theorem wJ {B : Nat} : ∀ (l : List Nat), (∀ y ∈ l, y < B) → num B l < B ^ l.length
 | [], _ => by simp [num]
 | x :: l, h => by
  have h1 := wJ l fun y hy => h y (by simp [hy])
  have h2 := h x (by simp);rw [Gl, List.length_cons, Nat.pow_succ];have : (x + 1) * B ^ l.length ≤ B * B ^ l.length := Nat.mul_le_mul_right _ h2;rw [Nat.add_mul, Nat.one_mul, Nat.mul_comm B] at this
  omega
theorem Fh {B : Nat} : ∀ (l : List Nat), (∀ y ∈ l, y < B) → pV B l.length (num B l) = l
 | [], _ => rfl
 | x :: l, h => by
  have hl := fun y hy => h y (List.mem_cons_of_mem x hy)
  have h1 := wJ l hl;have h2 := h x (by simp);rw [Gl, List.length_cons, Nat.add_comm l.length 1, wE];have hpos : 0 < B ^ l.length := by omega
  have e1 : (x * B ^ l.length + num B l) / B ^ l.length = x := by
   rw [Nat.mul_comm, Nat.mul_add_div hpos, Nat.div_eq_of_lt h1, Nat.add_zero]
  have e2 : (x * B ^ l.length + num B l) % B ^ l.length = num B l % B ^ l.length := by
   rw [Nat.mul_comm, Nat.mul_add_mod]
  rw [e1, Jn e2, Fh l hl];show [] ++ [x % B] ++ l = x :: l;rw [Nat.mod_eq_of_lt h2]; rfl
theorem LW (q : Nat) : 256 ^ q = 2 ^ (8 * q) := by rw [show 256 = 2 ^ 8 by decide, ← Nat.pow_mul]
theorem Re (d q : Nat) : (2 ^ d) ^ q = 2 ^ (d * q) := by rw [← Nat.pow_mul]
theorem II {h k : Nat} (hk : k ≤ 64) : dP .i64 (h : Int) (k : Int) = ((h / 2 ^ k : Nat) : Int) := by
 unfold dP
 have : min ((k : Int)).toNat IntKind.i64.bits = k := by
  rw [Int.toNat_natCast];exact Nat.min_eq_left hk
 rw [this, show (2 : Int) ^ k = ((2 ^ k : Nat) : Int) by simp, ← Int.ofNat_fdiv]
theorem BI {h k : Nat} (hk : k ≤ 64) (hb : h * 2 ^ k < 9223372036854775808) : rE .i64 (h : Int) (k : Int) = ((h * 2 ^ k : Nat) : Int) := by
 unfold rE
 have : min ((k : Int)).toNat IntKind.i64.bits = k := by
  rw [Int.toNat_natCast];exact Nat.min_eq_left hk
 rw [this, show (2 : Int) ^ k = ((2 ^ k : Nat) : Int) by simp, ← Int.natCast_mul, iE (by omega)]
theorem Nn {h k : Nat} (hh : h < 9223372036854775808) (hk : k < 63) : Es .i64 (h : Int) ((2 ^ k - 1 : Nat) : Int) = ((h % 2 ^ k : Nat) : Int) := by
 have hk2 : 2 ^ k ≤ 2 ^ 62 := Nat.pow_le_pow_right (by decide) (by omega);unfold Es
 have e : (BitVec.ofInt IntKind.i64.bits (h : Int) &&& BitVec.ofInt IntKind.i64.bits ((2 ^ k - 1 : Nat) : Int)).toNat = h % 2 ^ k := by
  rw [BitVec.toNat_and, BitVec.ofInt_natCast, BitVec.ofInt_natCast, BitVec.toNat_ofNat, BitVec.toNat_ofNat];have hb : IntKind.i64.bits = 64 := rfl;rw [hb, Nat.mod_eq_of_lt (show h < 2 ^ 64 by omega), Nat.mod_eq_of_lt (show 2 ^ k - 1 < 2 ^ 64 by omega), Nat.and_two_pow_sub_one_eq_mod]
 rw [e];have := Nat.mod_le h (2 ^ k);exact iE (by omega)
theorem Jo {h d e : Nat} (he : e < 2 ^ d) (hb : h * 2 ^ d + e < 9223372036854775808) : KT .i64 ((h * 2 ^ d : Nat) : Int) (e : Int) = ((h * 2 ^ d + e : Nat) : Int) := by
 unfold KT;have hb' : IntKind.i64.bits = 64 := rfl
 have e1 : (BitVec.ofInt IntKind.i64.bits ((h * 2 ^ d : Nat) : Int) ||| BitVec.ofInt IntKind.i64.bits (e : Int)).toNat = h * 2 ^ d + e := by
  rw [BitVec.toNat_or, BitVec.ofInt_natCast, BitVec.ofInt_natCast, BitVec.toNat_ofNat, BitVec.toNat_ofNat, hb', Nat.mod_eq_of_lt (show h * 2 ^ d < 2 ^ 64 by omega), Nat.mod_eq_of_lt (show e < 2 ^ 64 by omega)];rw [Nat.mul_comm h, Nat.two_pow_add_eq_or_of_lt he]
 rw [e1];exact iE (by omega)
theorem ED (n : Nat) : IntKind.u8.wrap (n : Int) = ((n % 256 : Nat) : Int) := by
 simp [IntKind.wrap, IntKind.bits, IntKind.signed]
def pW (l : List Nat) : List Int := l.map fun n : Nat => (n : Int)
theorem iN (l : List Nat) : (pW l).length = l.length := by simp [pW]
theorem DM (l m : List Nat) : pW (l ++ m) = pW l ++ pW m := by simp [pW]
theorem zJ (n : Nat) : nn (n : Int) = some () := by unfold nn; rw [if_pos (by omega)]
theorem Jp {X d e L : Nat} (he : e < 2 ^ d) : X % 2 ^ L * 2 ^ d + e = (X * 2 ^ d + e) % 2 ^ (L + d) := by
 have h1 : X * 2 ^ d + e = 2 ^ (L + d) * (X / 2 ^ L) + (X % 2 ^ L * 2 ^ d + e) := by
  have h3 := Nat.div_add_mod X (2 ^ L);have h2 : X * 2 ^ d = 2 ^ L * (X / 2 ^ L) * 2 ^ d + X % 2 ^ L * 2 ^ d := by rw [← Nat.add_mul, h3]
  rw [h2, Nat.pow_add, Nat.mul_assoc, Nat.mul_comm (X / 2 ^ L), ← Nat.mul_assoc, Nat.add_assoc]
 have h2 : X % 2 ^ L * 2 ^ d + e < 2 ^ (L + d) := by
  have : X % 2 ^ L < 2 ^ L := Nat.mod_lt _ (Nat.two_pow_pos L);have h3 : (X % 2 ^ L + 1) * 2 ^ d ≤ 2 ^ L * 2 ^ d := Nat.mul_le_mul_right _ this;rw [← Nat.pow_add, Nat.add_mul, Nat.one_mul] at h3
  omega
 rw [h1, Nat.mul_add_mod, Nat.mod_eq_of_lt h2]
theorem P3 {X d e : Nat} (he : e < 2 ^ d) : (X * 2 ^ d + e) / 2 ^ d = X := by
 rw [Nat.mul_comm, Nat.mul_add_div (Nat.two_pow_pos d), Nat.div_eq_of_lt he, Nat.add_zero]
def Gb (d : Nat) (l : List Int) (k : Nat) : Nat := num (2 ^ d) ((l.take k).map Int.toNat)
def ZR (d : Nat) (e : Int) : Bool := decide (0 ≤ e ∧ e < ((2 ^ d : Nat) : Int))
theorem Tt {d : Nat} {l : List Int} {k : Nat} (hk : k < l.length) : Gb d l (k + 1) = Gb d l k * 2 ^ d + l[k].toNat := by
 unfold Gb;rw [List.take_succ_eq_append_getElem hk, List.map_append, List.map_cons, List.map_nil, AA]
abbrev PSt := List Int × Int × Int × Int
theorem AB {d : Nat} (h : d ≤ 16) : 2 ^ d ≤ 65536 := by
 have := Nat.pow_le_pow_right (show 0 < 2 by decide) h;exact this
def D0 (d : Nat) (l : List Int) : List Nat := pV 256 ((l.length * d + 7) / 8) (Gb d l l.length * 2 ^ ((l.length * d + 7) / 8 * 8 - l.length * d))
theorem IJ (l : List Nat) : toB (pW l) = l.map UInt8.ofNat := by
 unfold toB pW;rw [List.map_map]
 rfl
def P4 (l : List Int) (o : Int) : Int := if ¬ (1 ≤ o ∧ o ≤ 16) then 3 else if 4096 < l.length then 2 else if l.all (ZR o.toNat) = true then 0 else 3
theorem Rf (N : Nat) (o : Int) : uO N o = some (decide (1 ≤ o ∧ o ≤ 16)) := by
 unfold uO
 by_cases h : 1 ≤ o
 ·rw [cT (dT h)]; simp [h]
 ·rw [cF (dF h)]; simp [h]
theorem Rg {w X d e L q r : Nat} (m : Nat) (he : e < 2 ^ d) (hq : L + d = w * q + r) : pV (2 ^ w) m (X / 2 ^ L) ++ pV (2 ^ w) q ((X % 2 ^ L * 2 ^ d + e) / 2 ^ r) = pV (2 ^ w) (m + q) ((X * 2 ^ d + e) / 2 ^ r) := by
 rw [wE]
 congr 1
 ·rw [Re, Nat.div_div_eq_div_mul, ← Nat.pow_add, show r + w * q = d + L by omega, Nat.pow_add, ← Nat.div_div_eq_div_mul, P3 he]
 ·rw [Jp he, show L + d = r + w * q by omega, Nat.pow_add, Nat.mod_mul_right_div_self, ← Re, Gk]
theorem Rh {w X d e L q r : Nat} (he : e < 2 ^ d) (hq : L + d = w * q + r) : (X % 2 ^ L * 2 ^ d + e) % 2 ^ r = (X * 2 ^ d + e) % 2 ^ r := by
 rw [Jp he, show L + d = r + w * q by omega, Nat.pow_add, Nat.mod_mul_right_mod]
theorem Ri (N : Nat) {d n : Nat} (hd : 1 ≤ d ∧ d ≤ 16) (hn : n ≤ 4096) (kk) : ∀ (a t h fuel : Nat) (out : List Int), a = min (t / d) (n - out.length) → out.length ≤ n → t ≤ 32 → h < 2 ^ t → a < fuel →
  q9 N (d : Int) (n : Int) kk fuel (out, (h : Int), (t : Int)) = kk (out ++ pW (pV (2 ^ d) a (h / 2 ^ (t - d * a))), ((h % 2 ^ (t - d * a) : Nat) : Int), ((t - d * a : Nat) : Int)) := by
 intro a
 induction a with
 | zero =>
  intro t h fuel out ha hon ht hh hf;obtain ⟨fuel, rfl⟩ := mN fuel (by omega)
  have hex : t < d ∨ n = out.length := by
   by_cases q : t < d
   ·exact .inl q
   ·right
    have : 1 ≤ t / d := (Nat.le_div_iff_mul_le (by omega)).2 (by omega)
    omega
  have hfin : kk (out ++ pW (pV (2 ^ d) 0 (h / 2 ^ (t - d * 0))), ((h % 2 ^ (t - d * 0) : Nat) : Int), ((t - d * 0 : Nat) : Int)) = kk (out, (h : Int), (t : Int)) := by
   rw [Nat.mul_zero, Nat.sub_zero, Nat.mod_eq_of_lt hh]
   simp [pV, pW]
  rw [hfin];unfold q9
  by_cases q : (d : Int) ≤ t
  ·rw [cT (dT q), cF (dF (by omega))]
  ·rw [cF (dF q)]
 | succ a ih =>
  intro t h fuel out ha hon ht hh hf;obtain ⟨fuel, rfl⟩ := mN fuel (by omega)
  have h1 : d ≤ t := by
   rcases Nat.lt_or_ge t d with q | q
   ·rw [Nat.div_eq_of_lt q] at ha; omega
   ·exact q
  have h2 : out.length < n := by omega
  have htd : (t - d) / d = t / d - 1 := by
   have := Nat.sub_mul_div t d 1;rw [Nat.mul_one] at this;exact this
  have hx : IntKind.i64.wrap ((t : Int) - (d : Int)) = ((t - d : Nat) : Int) := by rw [iE (by omega)]; omega
  have hpt : 2 ^ t ≤ 2 ^ 32 := Nat.pow_le_pow_right (by decide) ht;have aE3 : 2 ^ (t - d) ≤ 2 ^ 32 := Nat.pow_le_pow_right (by decide) (by omega);have hp0 := Nat.two_pow_pos (t - d)
  have em : IntKind.i64.wrap (rE .i64 1 ((t - d : Nat) : Int) - 1) = ((2 ^ (t - d) - 1 : Nat) : Int) := by
   have := BI (h := 1) (k := t - d) (by omega) (by omega);rw [Nat.one_mul] at this;rw [show (1 : Int) = ((1 : Nat) : Int) from rfl, this, iE (by omega)]
   omega
  have hmul : d * (a + 1) = d + d * a := by rw [Nat.mul_add, Nat.mul_one, Nat.add_comm]
  have hle : d * (a + 1) ≤ t := by
   have := Nat.div_mul_le_self t d;have q : a + 1 ≤ t / d := by omega
   have := Nat.mul_le_mul_left d q;rw [Nat.mul_comm d (t / d)] at this
   omega
  unfold q9;rw [cT (dT (by omega)), cT (dT (by omega)), hx, aC, zJ, aC, II (by omega), kY (by simp; omega), aC, aC, em, Nn (by omega) (by omega), aC];rw [ih (t - d) (h % 2 ^ (t - d)) fuel (out ++ [((h / 2 ^ (t - d) : Nat) : Int)]) (by rw [htd, List.length_append, List.length_singleton]; omega) (by rw [List.length_append, List.length_singleton]; omega) (by omega) (Nat.mod_lt _ hp0) (by omega)];have er : t - d - d * a = t - d * (a + 1) := by omega
  rw [er]
  have e1 : h % 2 ^ (t - d) % 2 ^ (t - d * (a + 1)) = h % 2 ^ (t - d * (a + 1)) := by
   rw [show t - d = (t - d * (a + 1)) + d * a by omega, Nat.pow_add, Nat.mod_mul_right_mod]
  have e2 : pV (2 ^ d) (a + 1) (h / 2 ^ (t - d * (a + 1))) = [h / 2 ^ (t - d)] ++ pV (2 ^ d) a (h % 2 ^ (t - d) / 2 ^ (t - d * (a + 1))) := by
   rw [Nat.add_comm a 1, wE, Nat.add_comm 1 a]
   congr 1
   ·show [h / 2 ^ (t - d * (a + 1)) / (2 ^ d) ^ a % 2 ^ d] = _;rw [Re, Nat.div_div_eq_div_mul, ← Nat.pow_add, show t - d * (a + 1) + d * a = t - d by omega, Nat.mod_eq_of_lt];rw [Nat.div_lt_iff_lt_mul hp0, ← Nat.pow_add, show d + (t - d) = t by omega];exact hh
   ·have : h % 2 ^ (t - d) / 2 ^ (t - d * (a + 1)) = h / 2 ^ (t - d * (a + 1)) % (2 ^ d) ^ a := by
     rw [Re, show t - d = (t - d * (a + 1)) + d * a by omega, Nat.pow_add, Nat.mod_mul_right_div_self]
    rw [this, Gk]
  rw [e1, e2, DM, List.append_assoc]
  rfl
def D1 (s : List UInt8) (k : Nat) : Nat := num 256 ((s.take k).map UInt8.toNat)
theorem Jq {s : List UInt8} {k : Nat} (hk : k < s.length) : D1 s (k + 1) = D1 s k * 2 ^ 8 + s[k].toNat := by
 unfold D1;rw [List.take_succ_eq_append_getElem hk, List.map_append, List.map_cons, List.map_nil, AA]
def cN (d n k : Nat) : Nat := min (8 * k / d) n
def Yx (d n : Nat) (s : List UInt8) (k : Nat) : PSt := (pW (pV (2 ^ d) (cN d n k) (D1 s k / 2 ^ (8 * k - d * cN d n k))), ((D1 s k % 2 ^ (8 * k - d * cN d n k) : Nat) : Int), ((8 * k - d * cN d n k : Nat) : Int), (k : Int))
theorem Rj (N : Nat) (hN : 100000 ≤ N) {d n : Nat} (hd : 1 ≤ d ∧ d ≤ 16) (hn : n ≤ 4096) (s : List UInt8) (hl : s.length = (n * d + 7) / 8) (kk) : ∀ (j k fuel : Nat), k + j = s.length → j < fuel →
  rA N s (d : Int) (n : Int) kk fuel (Yx d n s k) = kk (Yx d n s s.length) := by
 have hnd : n * d ≤ 4096 * 16 := Nat.mul_le_mul hn hd.2;intro j
 induction j with
 | zero =>
  intro k fuel hk hf;obtain ⟨fuel, rfl⟩ := mN fuel (by omega);obtain rfl : k = s.length := by omega
  unfold Yx rA;rw [cF (dF (by omega))]
 | succ j ih =>
  intro k fuel hk hf;obtain ⟨fuel, rfl⟩ := mN fuel (by omega);have hlt : k < s.length := by omega
  have hih := ih (k + 1) fuel (by omega) (by omega);have hbs := Jq hlt;have hb : s[k].toNat < 2 ^ 8 := s[k].toNat_lt
  have hc : cN d n k = 8 * k / d := by
   unfold cN;have : 8 * k / d < n := (Nat.div_lt_iff_lt_mul (by omega)).2 (by omega)
   omega
  have hL : 8 * k - d * cN d n k = 8 * k % d := by
   have := Nat.div_add_mod (8 * k) d;rw [hc]; omega
  have hLd : 8 * k % d < d := Nat.mod_lt _ (by omega);have hcn : cN d n k ≤ n := Nat.min_le_right _ _
  have ha : cN d n (k + 1) = cN d n k + min ((8 * k % d + 8) / d) (n - cN d n k) := by
   have h1 : (8 * k + 8) / d = 8 * k / d + (8 * k % d + 8) / d := by
    have := Nat.div_add_mod (8 * k) d;have e : 8 * k + 8 = d * (8 * k / d) + (8 * k % d + 8) := by omega
    rw [e, Nat.mul_add_div (by omega)]
   have h2 : cN d n (k + 1) = min ((8 * k + 8) / d) n := by unfold cN; rw [show 8 * (k + 1) = 8 * k + 8 by omega]
   rw [h2, h1, ← hc]
   omega
  have hL2 : 8 * (k + 1) - d * cN d n (k + 1) = 8 * k % d + 8 - d * min ((8 * k % d + 8) / d) (n - cN d n k) := by
   rw [ha, Nat.mul_add d];have h3 := Nat.div_mul_le_self (8 * k) d;rw [← hc, Nat.mul_comm] at h3
   omega
  have aE4 : d * min ((8 * k % d + 8) / d) (n - cN d n k) ≤ 8 * k % d + 8 := by
   have h4 := Nat.div_mul_le_self (8 * k % d + 8) d;have h5 := Nat.mul_le_mul_left d (Nat.min_le_left ((8 * k % d + 8) / d) (n - cN d n k));rw [Nat.mul_comm d ((8 * k % d + 8) / d)] at h5
   omega
  unfold Yx at hih ⊢;rw [hL];rw [hL2, ha, hbs] at hih;have hol := iN (pV (2 ^ d) (cN d n k) (D1 s k / 2 ^ (8 * k % d)));rw [kJ] at hol;have aAX : min ((8 * k % d + 8) / d) (n - cN d n k) = min ((8 * k % d + 8) / d) (n - (pW (pV (2 ^ d) (cN d n k) (D1 s k / 2 ^ (8 * k % d)))).length) := by rw [hol]
  generalize min ((8 * k % d + 8) / d) (n - cN d n k) = a at *
  generalize D1 s k = X at *
  generalize hbb : s[k].toNat = b at *
  have hlow := Jp (X := X) (L := 8 * k % d) hb;have aE5 : 8 * k % d ≤ 15 := by omega
  generalize 8 * k % d = L at *
  generalize cN d n k = c at *
  have Yy : X % 2 ^ L * 2 ^ 8 + b < 2 ^ (L + 8) := by rw [hlow]; exact Nat.mod_lt _ (Nat.two_pow_pos _)
  have aAY : 2 ^ (L + 8) ≤ 8388608 := Nat.pow_le_pow_right (show 0 < 2 by decide) (show L + 8 ≤ 23 by omega)
  have hb8 : X % 2 ^ L * 2 ^ 8 < 8388608 := by
   have := Nat.lt_of_lt_of_le Yy aAY;exact Nat.lt_of_le_of_lt (Nat.le_add_right _ b) this
  have hb9 : X % 2 ^ L * 2 ^ 8 + b < 8388608 := Nat.lt_of_lt_of_le Yy aAY
  have ex : KT .i64 (rE .i64 ((X % 2 ^ L : Nat) : Int) 8) (IntKind.i64.wrap (b : Int)) = ((X % 2 ^ L * 2 ^ 8 + b : Nat) : Int) := by
   have q1 := BI (h := X % 2 ^ L) (k := 8) (by decide) (Nat.lt_trans hb8 (by decide));have q2 := Jo (h := X % 2 ^ L) (d := 8) (e := b) hb (Nat.lt_trans hb9 (by decide));rw [iE (x := (b : Int)) (by omega), ← q2, ← q1]
   rfl
  have ew : IntKind.i64.wrap ((L : Int) + 8) = ((L + 8 : Nat) : Int) := by rw [iE (by omega)]; omega
  have hq : L + 8 = d * a + (L + 8 - d * a) := by omega
  have s1 := Rg (X := X) c hb hq;have s2 := Rh (X := X) hb hq;unfold rA;rw [cT (dT (by omega)), gB, List.getElem?_eq_getElem hlt, aC, hbb, ex, aC, ew, aC];refine (Ri N hd hn _ a (L + 8) (X % 2 ^ L * 2 ^ 8 + b) N (pW (pV (2 ^ d) c (X / 2 ^ L))) aAX (by rw [hol]; exact hcn) (by omega) Yy (by omega)).trans ?_
  dsimp only
  rw [← DM, s1, s2, iE (x := (k : Int) + 1) (by omega)];exact hih
def gC (s : List UInt8) (o p : Int) : Int := if ¬ (1 ≤ o ∧ o ≤ 16) then 3 else if p < 0 then 3 else if 4096 < p then 2 else if s.length ≠ (p.toNat * o.toNat + 7) / 8 then 1 else if D1 s s.length % 2 ^ (8 * s.length - o.toNat * p.toNat) ≠ 0 then 1 else 0
def qA (s : List UInt8) (d n : Nat) : List Nat := pV (2 ^ d) n (D1 s s.length / 2 ^ (8 * s.length - d * n))
theorem Rk (N : Nat) (hN : 100000 ≤ N) (s : List UInt8) (hs : s.length ≤ 9223372036854775807) (o p : Int) : xA N s o p = some (if gC s o p = 0 then (pW (qA s o.toNat p.toNat), 0) else ([], gC s o p)) := by
 unfold xA;rw [Rf, aC]
 by_cases h1 : 1 ≤ o ∧ o ≤ 16
 rotate_left
 ·have hpe : gC s o p = 3 := by unfold gC; rw [if_pos h1]
  rw [cT (by rw [dF h1]; rfl), hpe]; rfl
 have h1' : ¬ ¬ (1 ≤ o ∧ o ≤ 16) := fun h => h h1
 rw [cF (by rw [dT h1]; rfl)]
 by_cases h2 : p < 0
 ·have hpe : gC s o p = 3 := by unfold gC; rw [if_neg h1', if_pos h2]
  rw [cT (dT h2), hpe]; rfl
 rw [cF (dF h2)]
 by_cases h3 : 4096 < p
 ·have hpe : gC s o p = 2 := by unfold gC; rw [if_neg h1', if_neg h2, if_pos h3]
  rw [cT (dT h3), hpe]; rfl
 rw [cF (dF h3)];obtain ⟨d, rfl⟩ := Int.eq_ofNat_of_zero_le (show 0 ≤ o by omega);obtain ⟨n, rfl⟩ := Int.eq_ofNat_of_zero_le (show 0 ≤ p by omega);have hb : n * d ≤ 4096 * 16 := Nat.mul_le_mul (by omega) (by omega)
 have e1 : IntKind.i64.wrap (Int.tdiv (IntKind.i64.wrap (IntKind.i64.wrap ((n : Int) * (d : Int)) + 7)) 8) = (((n * d + 7) / 8 : Nat) : Int) := by
  rw [← Int.natCast_mul, iE (x := ((n * d : Nat) : Int)) (by omega), iE (x := ((n * d : Nat) : Int) + 7) (by omega), show ((n * d : Nat) : Int) + 7 = ((n * d + 7 : Nat) : Int) by omega,
   show Int.tdiv ((n * d + 7 : Nat) : Int) 8 = (((n * d + 7) / 8 : Nat) : Int) from rfl, iE (by omega)]
 rw [e1]
 by_cases h4 : s.length = (n * d + 7) / 8
 rotate_left
 ·have hpe : gC s d n = 1 := by unfold gC; rw [if_neg h1', if_neg h2, if_neg h3, Int.toNat_natCast, Int.toNat_natCast, if_pos h4]
  rw [cT (by rw [dF (by omega)]; rfl), hpe]; rfl
 rw [cF (by rw [dT (by omega)]; rfl)]
 have h0 : Yx d n s 0 = (([] : List Int), (0 : Int), (0 : Int), (0 : Int)) := by
  unfold Yx cN
  simp [D1, num, pV, pW, Nat.mod_one]
 have key := Rj N hN (d := d) (n := n) (by omega) (by omega) s h4 (fun x : PSt => cond (!decide (x.2.1 = 0)) (some (([] : List Int), 1)) (some (x.1, 0))) s.length 0 N (by omega) (by omega);rw [h0] at key;refine Eq.trans key ?_
 have hc : cN d n s.length = n := by
  unfold cN;have : n ≤ 8 * s.length / d := (Nat.le_div_iff_mul_le (by omega)).2 (by rw [h4]; omega)
  omega
 unfold Yx;rw [hc]
 dsimp only
 by_cases h5 : D1 s s.length % 2 ^ (8 * s.length - d * n) = 0
 ·have hpe : gC s d n = 0 := by
   unfold gC;rw [if_neg h1', if_neg h2, if_neg h3, Int.toNat_natCast, Int.toNat_natCast, if_neg (by omega), if_neg (by omega)]
  rw [cF (by rw [dT (by omega)]; rfl), hpe, if_pos rfl, Int.toNat_natCast, Int.toNat_natCast]
  rfl
 ·have hpe : gC s d n = 1 := by
   unfold gC;rw [if_neg h1', if_neg h2, if_neg h3, Int.toNat_natCast, Int.toNat_natCast, if_neg (by omega), if_pos h5]
  rw [cT (by rw [dF (by omega)]; rfl), hpe]; rfl
theorem Tu (N : Nat) (l : List Int) (kk) (hl : l.length ≤ 4611686018427387904) : ∀ (j k fuel : Nat), k + j = l.length → j < fuel → jY N l l kk fuel (k : Int) = kk (l.length : Int) := by
 intro j
 induction j with
 | zero =>
  intro k fuel hk hf;obtain ⟨fuel, rfl⟩ := mN fuel (by omega);obtain rfl : k = l.length := by omega
  unfold jY;rw [cF (dF (by omega))]
 | succ j ih =>
  intro k fuel hk hf;obtain ⟨fuel, rfl⟩ := mN fuel (by omega);have hlt : k < l.length := by omega
  unfold jY;rw [cT (dT (by omega)), gB, List.getElem?_eq_getElem hlt, aC, aC, cF (by simp), aC, iE (by omega)];exact ih (k + 1) fuel (by omega) (by omega)
theorem ofNat_toNat {l : List Nat} (h : ∀ y ∈ l, y < 256) : (l.map UInt8.ofNat).map UInt8.toNat = l := by
 rw [List.map_map]
 conv => rhs; rw [← List.map_id l]
 refine List.map_congr_left fun y hy => ?_
 have := h y hy
 simp [UInt8.toNat_ofNat', Nat.mod_eq_of_lt this]
theorem toNat_ofNat (s : List UInt8) : (s.map UInt8.toNat).map UInt8.ofNat = s := by
 rw [List.map_map]
 conv => rhs; rw [← List.map_id s]
 refine List.map_congr_left fun y _ => ?_
 simp
theorem C9 (l : List Nat) : (pW l).map Int.toNat = l := by
 unfold pW;rw [List.map_map]
 conv => rhs; rw [← List.map_id l]
 exact List.map_congr_left fun y _ => rfl
theorem Rl {l : List Int} (h : ∀ y ∈ l, 0 ≤ y) : pW (l.map Int.toNat) = l := by
 unfold pW;rw [List.map_map]
 conv => rhs; rw [← List.map_id l]
 refine List.map_congr_left fun y hy => ?_
 have := h y hy;show ((y.toNat : Nat) : Int) = y
 omega
section
variable {d n : Nat} (hd : 1 ≤ d ∧ d ≤ 16)
include hd
theorem Yz {l : List Int} (h : l.all (ZR d) = true) : Gb d l l.length < 2 ^ (d * l.length) := by
 unfold Gb;rw [List.take_length, ← Re]
 have := wJ (B := 2 ^ d) (l.map Int.toNat) fun y hy => by
  obtain ⟨e, he, rfl⟩ := List.mem_map.1 hy;have := of_decide_eq_true (List.all_eq_true.1 h e he)
  omega
 rwa [List.length_map] at this
theorem Tv {l : List Int} (h : l.all (ZR d) = true) : ((D0 d l).map UInt8.ofNat).length = (l.length * d + 7) / 8 ∧ D1 ((D0 d l).map UInt8.ofNat) ((l.length * d + 7) / 8) = Gb d l l.length * 2 ^ (8 * ((l.length * d + 7) / 8) - d * l.length) := by
 have hlen : ((D0 d l).map UInt8.ofNat).length = (l.length * d + 7) / 8 := by rw [List.length_map]; exact kJ _ _ _
 refine ⟨hlen, ?_⟩;unfold D1;have ht : ((D0 d l).map UInt8.ofNat).take ((l.length * d + 7) / 8) = (D0 d l).map UInt8.ofNat := List.take_of_length_le (by omega);have aEa : ∀ y ∈ D0 d l, y < 256 := fun y hy => AW (by decide) _ _ y hy
 rw [ht, ofNat_toNat aEa];unfold D0;rw [BH, Nat.mul_comm l.length d, Nat.mul_comm ((d * l.length + 7) / 8) 8, Nat.mod_eq_of_lt];have h1 := Yz hd h;rw [LW];have h2 : Gb d l l.length * 2 ^ (8 * ((d * l.length + 7) / 8) - d * l.length) < 2 ^ (d * l.length) * 2 ^ (8 * ((d * l.length + 7) / 8) - d * l.length) := Nat.mul_lt_mul_of_pos_right h1 (Nat.two_pow_pos _);rw [← Nat.pow_add, show d * l.length + (8 * ((d * l.length + 7) / 8) - d * l.length) = 8 * ((d * l.length + 7) / 8) by omega] at h2;exact h2
theorem Tw (s : List UInt8) : D1 s s.length < 2 ^ (8 * s.length) := by
 unfold D1;rw [List.take_length, ← LW]
 have := wJ (B := 256) (s.map UInt8.toNat) fun y hy => by
  obtain ⟨e, _, rfl⟩ := List.mem_map.1 hy;exact e.toNat_lt
 rwa [List.length_map] at this
theorem Np {s : List UInt8} (hl : s.length = (n * d + 7) / 8) (hn : n ≤ 4096) (hz : D1 s s.length % 2 ^ (8 * s.length - d * n) = 0) :
  P4 (pW (qA s d n)) d = 0 ∧ (D0 d (pW (qA s d n))).map UInt8.ofNat = s ∧ (pW (qA s d n)).length = n := by
 have hlen : (pW (qA s d n)).length = n := by rw [iN]; exact kJ _ _ _
 have hdn : d * n ≤ 8 * s.length := by rw [hl, Nat.mul_comm d]; omega
 refine ⟨?_, ?_, hlen⟩
 ·unfold P4;rw [if_neg (fun q => q (by omega)), if_neg (by omega), Int.toNat_natCast, if_pos];refine List.all_eq_true.2 fun y hy => ?_
  obtain ⟨e, he, rfl⟩ := List.mem_map.1 hy;have := AW (Nat.two_pow_pos d) _ _ e he;exact decide_eq_true (by omega)
 ·unfold D0
  have hS : Gb d (pW (qA s d n)) n = D1 s s.length / 2 ^ (8 * s.length - d * n) := by
   unfold Gb;rw [List.take_of_length_le (by omega), C9];unfold qA;rw [BH, Re, Nat.mod_eq_of_lt];have := Tw hd s;rw [show 8 * s.length = d * n + (8 * s.length - d * n) by omega, Nat.pow_add] at this;exact (Nat.div_lt_iff_lt_mul (Nat.two_pow_pos _)).2 (by rw [show 8 * s.length = d * n + (8 * s.length - d * n) by omega]; simpa using this)
  rw [hlen, hS, ← hl, Nat.mul_comm n d, Nat.mul_comm s.length 8, Nat.div_mul_cancel (Nat.dvd_of_mod_eq_zero hz)];unfold D1;rw [List.take_length]
  have := Fh (B := 256) (s.map UInt8.toNat) fun y hy => by
   obtain ⟨e, _, rfl⟩ := List.mem_map.1 hy;exact e.toNat_lt
  rw [List.length_map] at this;rw [this, toNat_ofNat]
end
def yV (l : List Nat) : List UInt8 := l.map fun b => UInt8.ofNat (48 + b)
theorem oR (l : List Nat) : (yV l).length = l.length := by simp [yV]
theorem Gm (l m : List Nat) : yV (l ++ m) = yV l ++ yV m := by simp [yV]
theorem aAZ (N : Nat) : ∀ (k fu n : Nat), k < fu → k ≤ 16 → n < 9223372036854775808 → iO N fu (n : Int) (k : Int) = some (yV (pV 2 k n)) := by
 intro k
 induction k with
 | zero =>
  intro fu n hf _ _;obtain ⟨fu, rfl⟩ := mN fu (by omega);unfold iO;rw [cT (by rfl)]; rfl
 | succ k ih =>
  intro fu n hf hk hn;obtain ⟨fu, rfl⟩ := mN fu (by omega);have e1 : IntKind.i64.wrap (Int.tdiv (n : Int) 2) = ((n / 2 : Nat) : Int) := by rw [show Int.tdiv (n : Int) 2 = ((n / 2 : Nat) : Int) from rfl, iE (by omega)]
  have e2 : IntKind.i64.wrap (((k + 1 : Nat) : Int) - 1) = (k : Int) := by rw [iE (by omega)]; omega
  have e3 : IntKind.u8.wrap (48 + IntKind.u8.wrap (Int.tmod (n : Int) 2)) = ((48 + n % 2 : Nat) : Int) := by
   rw [show Int.tmod (n : Int) 2 = ((n % 2 : Nat) : Int) from rfl, ED, show (48 : Int) + ((n % 2 % 256 : Nat) : Int) = ((48 + n % 2 % 256 : Nat) : Int) by omega, ED]
   omega
  unfold iO;rw [cF (dF (by omega)), e1, e2, ih fu (n / 2) (by omega) (by omega) (by omega), aC, e3];have hl : (yV (pV 2 k (n / 2))).length = k := by rw [oR, kJ]
  have ha : Je (yV (pV 2 k (n / 2))) (toB [((48 + n % 2 : Nat) : Int)]) = some (yV (pV 2 (k + 1) n)) := by
   unfold Je;rw [if_pos (by rw [hl]; simp [toB]; omega)];show some (_ ++ _) = some (yV (pV 2 k (n / 2) ++ [n % 2]));rw [Gm]
   rfl
  rw [ha, aC]
theorem number_eq {N : Nat} (hN : 100 ≤ N) {n k : Nat} (hk : k ≤ 16) (hn : n < 9223372036854775808) : lM N (n : Int) (k : Int) = some (yV (pV 2 k n)) := aAZ N k N n (by omega) hk hn
theorem LX (l m : List UInt8) : sN (l ++ m) = sN l ++ sN m := by simp [sN]
theorem LY (l : List UInt8) : toB (sN l) = l := by
 unfold toB sN;rw [List.map_map]
 conv => rhs; rw [← List.map_id l]
 refine List.map_congr_left fun y _ => ?_
 show UInt8.ofNat (Int.toNat ((y.toNat : Nat) : Int)) = y
 simp
theorem rL (l : List UInt8) : (sN l).length = l.length := by simp [sN]
theorem Gn {d e X m : Nat} (he : e < 2 ^ d) : pV 2 m X ++ pV 2 d e = pV 2 (m + d) (X * 2 ^ d + e) := by
 rw [wE, P3 he]
 congr 1
 refine Jn ?_;rw [Nat.mul_comm, Nat.mul_add_mod]
theorem Rm (N : Nat) (hN : 100000 ≤ N) {d : Nat} (hd : 1 ≤ d ∧ d ≤ 16) {l : List Int} (hl : l.length ≤ 4096) (hall : l.all (ZR d) = true) (kk) : ∀ (j k fuel : Nat), k + j = l.length → j < fuel →
  lH N l (d : Int) kk fuel (sN (yV (pV 2 (k * d) (Gb d l k))), (k : Int)) = kk (sN (yV (pV 2 (l.length * d) (Gb d l l.length))), (l.length : Int)) := by
 intro j
 induction j with
 | zero =>
  intro k fuel hk hf;obtain ⟨fuel, rfl⟩ := mN fuel (by omega);obtain rfl : k = l.length := by omega
  unfold lH;rw [cF (dF (by omega))]
 | succ j ih =>
  intro k fuel hk hf;obtain ⟨fuel, rfl⟩ := mN fuel (by omega);have hlt : k < l.length := by omega
  have hp := AB hd.2;have hin := of_decide_eq_true (List.all_eq_true.1 hall _ (List.getElem_mem hlt));obtain ⟨e, he⟩ : ∃ e : Nat, l[k] = e := ⟨l[k].toNat, by omega⟩
  have hed : e < 2 ^ d := by omega
  have hsm := Tt (d := d) hlt;rw [he, Int.toNat_natCast] at hsm;have hkb : k * d ≤ 4096 * 16 := Nat.mul_le_mul (by omega) hd.2;have hih := ih (k + 1) fuel (by omega) (by omega);rw [hsm, Nat.add_mul, Nat.one_mul, ← Gn hed, Gm, LX] at hih;unfold lH;rw [cT (dT (by omega)), gB, List.getElem?_eq_getElem hlt, aC, he, number_eq (by omega) hd.2 (by omega), aC, kY (by rw [rL, rL, oR, oR, kJ, kJ]; omega), aC, aC, iE (x := (k : Int) + 1) (by omega)];exact hih
def gr (M : Nat) (l : List Nat) : List Nat := (List.range M).map fun g => num 2 ((List.range 8).map fun t => l.getD (8 * g + t) 0)
theorem VJ {M : Nat} {a c : List Nat} (ha : a.length = 8 * M) (hc : c.length = 8) : gr (M + 1) (a ++ c) = gr M a ++ [num 2 c] := by
 unfold gr;rw [List.range_succ (n := M), List.map_append, List.map_singleton]
 congr 1
 ·refine List.map_congr_left fun g hg => ?_
  have := List.mem_range.1 hg
  congr 1
  refine List.map_congr_left fun t ht => ?_
  have := List.mem_range.1 ht;rw [List.getD_eq_getElem?_getD, List.getD_eq_getElem?_getD, List.getElem?_append_left (by omega)]
 ·congr 2
  apply List.ext_getElem?
  intro t
  by_cases ht : t < 8
  ·rw [List.getElem?_map, List.getElem?_range ht];show some ((a ++ c).getD (8 * M + t) 0) = _;rw [List.getD_eq_getElem?_getD, List.getElem?_append_right (by omega), show 8 * M + t - a.length = t by omega, List.getElem?_eq_getElem (by omega)]
   rfl
  ·rw [List.getElem?_eq_none (by simp; omega), List.getElem?_eq_none (by omega)]
theorem Jr : ∀ (M Y : Nat), gr M (pV 2 (8 * M) Y) = pV 256 M Y
 | 0, _ => rfl
 | M + 1, Y => by
  rw [show 8 * (M + 1) = 8 * M + 8 by omega, wE, VJ (kJ _ _ _) (kJ _ _ _), BH, Jr M]
  rfl
theorem Tx (M p : Nat) (l : List Nat) : gr M (l ++ List.replicate p 0) = gr M l := by
 unfold gr;refine List.map_congr_left fun g _ => ?_
 congr 1
 refine List.map_congr_left fun t _ => ?_
 rw [List.getD_eq_getElem?_getD, List.getD_eq_getElem?_getD]
 by_cases h : 8 * g + t < l.length
 ·rw [List.getElem?_append_left h]
 ·rw [List.getElem?_append_right (by omega), List.getElem?_eq_none (l := l) (by omega), List.getElem?_replicate]
  split <;> rfl
theorem Nq (B : Nat) : ∀ n, pV B n 0 = List.replicate n 0
 | 0 => rfl
 | n + 1 => by
  show pV B n (0 / B) ++ [0 % B] = _;rw [Nat.zero_div, Nat.zero_mod, Nq B n, List.replicate_succ']
theorem aA0 (T X : Nat) : gr ((T + 7) / 8) (pV 2 T X) = pV 256 ((T + 7) / 8) (X * 2 ^ ((T + 7) / 8 * 8 - T)) := by
 have h1 : pV 2 T X ++ List.replicate ((T + 7) / 8 * 8 - T) 0 = pV 2 (8 * ((T + 7) / 8)) (X * 2 ^ ((T + 7) / 8 * 8 - T)) := by
  rw [show 8 * ((T + 7) / 8) = T + ((T + 7) / 8 * 8 - T) by omega, wE, Nat.mul_div_cancel _ (Nat.two_pow_pos _), ← Nq 2]
  congr 1
  exact Jn (by rw [Nat.mul_mod_left, Nat.zero_mod])
 rw [← Jr, ← h1, Tx]
theorem IK {l : List Nat} {k : Nat} (hk : k < l.length) (h2 : ∀ y ∈ l, y < 2) : idx (yV l) (k : Int) = some (UInt8.ofNat (48 + l.getD k 0)) ∧ ((UInt8.ofNat (48 + l.getD k 0)).toNat : Int) = ((48 + l.getD k 0 : Nat) : Int) ∧ l.getD k 0 < 2 := by
 have hg : l.getD k 0 = l[k] := by rw [List.getD_eq_getElem?_getD, List.getElem?_eq_getElem hk]; rfl
 have h3 := h2 _ (List.getElem_mem hk);rw [hg];refine ⟨?_, ?_, h3⟩
 ·rw [gB, yV, List.getElem?_map, List.getElem?_eq_getElem hk]; rfl
 ·rw [UInt8.toNat_ofNat', Nat.mod_eq_of_lt (by omega)]
theorem Ty (N : Nat) {l : List Nat} (h2 : ∀ y ∈ l, y < 2) (hl : l.length ≤ 16777216) {i : Nat} (hi : i < l.length) (kk) : ∀ (j t fuel : Nat), t + j = 8 → j < fuel →
  iP N (yV l) (i : Int) kk fuel (((num 2 ((List.range t).map fun t => l.getD (i + t) 0) : Nat) : Int), ((i + t : Nat) : Int)) = kk (((num 2 ((List.range 8).map fun t => l.getD (i + t) 0) : Nat) : Int), ((i + 8 : Nat) : Int)) := by
 intro j
 induction j with
 | zero =>
  intro t fuel hk hf;obtain ⟨fuel, rfl⟩ := mN fuel (by omega);obtain rfl : t = 8 := by omega
  unfold iP;rw [iE (x := (i : Int) + 8) (by omega), cF (dF (by omega))]
 | succ j ih =>
  intro t fuel hk hf;obtain ⟨fuel, rfl⟩ := mN fuel (by omega);have hih := ih (t + 1) fuel (by omega) (by omega);rw [List.range_succ, List.map_append, List.map_singleton, AA] at hih
  have hb : num 2 ((List.range t).map fun t => l.getD (i + t) 0) < 256 := by
   have := wJ (B := 2) ((List.range t).map fun t => l.getD (i + t) 0) fun y hy => by
    obtain ⟨q, _, rfl⟩ := List.mem_map.1 hy;rw [List.getD_eq_getElem?_getD]
    by_cases hq : i + q < l.length
    ·rw [List.getElem?_eq_getElem hq]; exact h2 _ (List.getElem_mem hq)
    ·rw [List.getElem?_eq_none (by omega)]; decide
   rw [List.length_map, List.length_range] at this;have h8 : 2 ^ t ≤ 256 := Nat.pow_le_pow_right (show 0 < 2 by decide) (show t ≤ 8 by omega)
   omega
  generalize num 2 ((List.range t).map fun t => l.getD (i + t) 0) = v at *
  unfold iP;rw [iE (x := (i : Int) + 8) (by omega), cT (dT (by omega)), iE (x := 2 * (v : Int)) (by omega), aC]
  by_cases hq : i + t < l.length
  ·obtain ⟨g1, g2, g3⟩ := IK hq h2;rw [cT (dT (by rw [oR]; omega)), g1, aC, g2]
   generalize l.getD (i + t) 0 = b at *
   by_cases h1 : b = 1
   ·subst h1;rw [cT (dT (by omega)), iE (x := 2 * (v : Int) + 1) (by omega), aC, iE (x := ((i + t : Nat) : Int) + 1) (by omega), aC];rw [show v * 2 + 1 = 2 * v + 1 by omega] at hih;exact hih
   ·obtain rfl : b = 0 := by omega
    rw [cF (dF (by omega)), iE (x := ((i + t : Nat) : Int) + 1) (by omega), aC];rw [show v * 2 + 0 = 2 * v by omega] at hih;exact hih
  ·have hz : l.getD (i + t) 0 = 0 := by rw [List.getD_eq_getElem?_getD, List.getElem?_eq_none (by omega)]; rfl
   rw [hz, show v * 2 + 0 = 2 * v by omega] at hih;rw [cF (dF (by rw [oR]; omega)), iE (x := ((i + t : Nat) : Int) + 1) (by omega), aC];exact hih
theorem Tz (N : Nat) (hN : 100 ≤ N) {l : List Nat} (h2 : ∀ y ∈ l, y < 2) (hl : l.length ≤ 16777216) (kk) : ∀ (j m fuel : Nat), m + j = (l.length + 7) / 8 → j < fuel →
  jX N (yV l) kk fuel (pW (gr m l), ((8 * m : Nat) : Int)) = kk (pW (gr ((l.length + 7) / 8) l), ((8 * ((l.length + 7) / 8) : Nat) : Int)) := by
 intro j
 induction j with
 | zero =>
  intro m fuel hk hf;obtain ⟨fuel, rfl⟩ := mN fuel (by omega);obtain rfl : m = (l.length + 7) / 8 := by omega
  unfold jX;rw [cF (dF (by rw [oR]; omega))]
 | succ j ih =>
  intro m fuel hk hf;obtain ⟨fuel, rfl⟩ := mN fuel (by omega);have hlt : 8 * m < l.length := by omega
  have hih := ih (m + 1) fuel (by omega) (by omega)
  have hg : gr (m + 1) l = gr m l ++ [num 2 ((List.range 8).map fun t => l.getD (8 * m + t) 0)] := by
   unfold gr;rw [List.range_succ (n := m), List.map_append, List.map_singleton]
  have hgl : (gr m l).length = m := by simp [gr]
  have hb : num 2 ((List.range 8).map fun t => l.getD (8 * m + t) 0) < 256 := by
   have := wJ (B := 2) ((List.range 8).map fun t => l.getD (8 * m + t) 0) fun y hy => by
    obtain ⟨q, _, rfl⟩ := List.mem_map.1 hy;rw [List.getD_eq_getElem?_getD]
    by_cases hq : 8 * m + q < l.length
    ·rw [List.getElem?_eq_getElem hq]; exact h2 _ (List.getElem_mem hq)
    ·rw [List.getElem?_eq_none (by omega)]; decide
   rw [List.length_map, List.length_range] at this;exact this
  unfold jX;rw [cT (dT (by rw [oR]; omega))];have key := Ty N h2 hl hlt (fun x : Int × Int => Option.bind (app 1 (pW (gr m l)) ([IntKind.u8.wrap x.1] : List Int)) fun l4 => Option.bind (some (IntKind.i64.wrap (((8 * m : Nat) : Int) + 8))) fun i3 => jX N (yV l) kk fuel (l4, i3)) 8 0 N (by omega) (by omega);refine Eq.trans key ?_;rw [hg, DM] at hih
  generalize num 2 ((List.range 8).map fun t => l.getD (8 * m + t) 0) = v at *
  dsimp only
  rw [ED, Nat.mod_eq_of_lt hb, kY (by rw [iN, hgl]; simp; omega), aC, iE (by omega), aC, show ((8 * m : Nat) : Int) + 8 = ((8 * (m + 1) : Nat) : Int) by omega];exact hih
theorem Nr (N : Nat) (l : List Nat) (h2 : ∀ y ∈ l, y < 2) (hl : l.length ≤ 16777216) (hN : 100 ≤ N ∧ (l.length + 7) / 8 < N) : jD N (yV l) = some ((gr ((l.length + 7) / 8) l).map UInt8.ofNat) := by
 unfold jD
 have e1 : IntKind.i64.wrap (IntKind.i64.wrap (Int.tdiv ((yV l).length : Int) 8) + 1) = ((l.length / 8 + 1 : Nat) : Int) := by
  rw [oR, show Int.tdiv (l.length : Int) 8 = ((l.length / 8 : Nat) : Int) from rfl, iE (x := ((l.length / 8 : Nat) : Int)) (by omega), iE (by omega)]
  omega
 have YA : Vo 1 ((l.length / 8 + 1 : Nat) : Int) = some () := by unfold Vo; rw [if_pos (by omega)]
 rw [e1, YA, aC];have key := Tz N hN.1 h2 hl (fun x : List Int × Int => some (toB x.1)) ((l.length + 7) / 8) 0 N (by omega) (by omega);refine Eq.trans key ?_
 dsimp only
 rw [IJ]
theorem Rn (N : Nat) (hN : 100000 ≤ N) {d : Nat} (hd : 1 ≤ d ∧ d ≤ 16) {l : List Int} (hl : l.length ≤ 4096) (hall : l.all (ZR d) = true) : mV N l (d : Int) = some ((D0 d l).map UInt8.ofNat) := by
 have hkb : l.length * d ≤ 4096 * 16 := Nat.mul_le_mul hl hd.2;unfold mV;have key := Rm N hN hd hl hall (fun x : List Int × Int => Option.bind (jD N (toB x.1)) fun r5 => some r5) l.length 0 N (by omega) (by omega);rw [Nat.zero_mul] at key;refine Eq.trans key ?_
 dsimp only
 rw [LY, Nr N _ (fun y hy => AW (by decide) _ _ y hy) (by rw [kJ]; omega) (by rw [kJ]; omega), aC, kJ, aA0]
 rfl
theorem Ns : ∀ n : Fin 256, Es .u8 ((n.val : Nat) : Int) 1 = ((n.val % 2 : Nat) : Int) := by decide +kernel
theorem aEb {b k : Nat} (hk : k ≤ 8) : dP .u8 (b : Int) (k : Int) = ((b / 2 ^ k : Nat) : Int) := by
 unfold dP
 have : min ((k : Int)).toNat IntKind.u8.bits = k := by
  rw [Int.toNat_natCast];exact Nat.min_eq_left hk
 rw [this, show (2 : Int) ^ k = ((2 ^ k : Nat) : Int) by simp, ← Int.ofNat_fdiv]
def Aa (l : List Nat) : List Nat := l.map fun b => 48 + b
theorem G9 (l m : List Nat) : Aa (l ++ m) = Aa l ++ Aa m := by simp [Aa]
theorem Lb (l : List Nat) : (Aa l).map UInt8.ofNat = yV l := by unfold Aa yV; rw [List.map_map]; rfl
theorem YB (N : Nat) {s : List UInt8} {i : Nat} (hi : i < s.length) (kk) : ∀ (j fuel : Nat) (out : List Int), j ≤ 8 → out.length + j ≤ 140737488355328 → j < fuel →
  mW N s (i : Int) kk fuel (out, (j : Int) - 1) = kk (out ++ pW (Aa (pV 2 j s[i].toNat)), -1) := by
 intro j
 induction j with
 | zero =>
  intro fuel out _ _ hf;obtain ⟨fuel, rfl⟩ := mN fuel (by omega);unfold mW;rw [cF (dF (by omega))]
  simp [pV, Aa, pW]
 | succ j ih =>
  intro fuel out hj ho hf;obtain ⟨fuel, rfl⟩ := mN fuel (by omega);have hb : s[i].toNat < 256 := s[i].toNat_lt;have e0 : ((j + 1 : Nat) : Int) - 1 = (j : Int) := by omega
  generalize hbb : s[i].toNat = b at *
  have hlt : b / 2 ^ j < 256 := Nat.lt_of_le_of_lt (Nat.div_le_self _ _) hb
  have e1 : IntKind.u8.wrap (48 + Es .u8 (dP .u8 (b : Int) (j : Int)) 1) = ((48 + b / 2 ^ j % 2 : Nat) : Int) := by
   have := Ns ⟨b / 2 ^ j, hlt⟩;rw [aEb (by omega), this, show (48 : Int) + ((b / 2 ^ j % 2 : Nat) : Int) = ((48 + b / 2 ^ j % 2 : Nat) : Int) by omega, ED]
   omega
  have e2 : pV 2 (j + 1) b = [b / 2 ^ j % 2] ++ pV 2 j b := by rw [Nat.add_comm j 1, wE]; rfl
  unfold mW;rw [e0, cT (dT (by omega)), gB, List.getElem?_eq_getElem hi, aC, hbb, zJ, aC, e1, kY (by simp; omega), aC, iE (x := (j : Int) - 1) (by omega), aC];rw [ih fuel (out ++ [((48 + b / 2 ^ j % 2 : Nat) : Int)]) (by omega) (by simp; omega) (by omega), e2, G9, DM, List.append_assoc]
  rfl
theorem YC (N : Nat) (hN : 100 ≤ N) {s : List UInt8} (hs : s.length ≤ 16777216) (kk) : ∀ (j k fuel : Nat), k + j = s.length → j < fuel →
  lN N s kk fuel (pW (Aa (pV 2 (8 * k) (D1 s k))), (k : Int)) = kk (pW (Aa (pV 2 (8 * s.length) (D1 s s.length))), (s.length : Int)) := by
 intro j
 induction j with
 | zero =>
  intro k fuel hk hf;obtain ⟨fuel, rfl⟩ := mN fuel (by omega);obtain rfl : k = s.length := by omega
  unfold lN;rw [cF (dF (by omega))]
 | succ j ih =>
  intro k fuel hk hf;obtain ⟨fuel, rfl⟩ := mN fuel (by omega);have hlt : k < s.length := by omega
  have hih := ih (k + 1) fuel (by omega) (by omega);rw [Jq hlt, Nat.mul_add, Nat.mul_one, ← Gn (show s[k].toNat < 2 ^ 8 from s[k].toNat_lt), G9, DM] at hih;have hlen : (pW (Aa (pV 2 (8 * k) (D1 s k)))).length = 8 * k := by rw [iN]; simp [Aa, kJ]
  unfold lN;rw [cT (dT (by omega))];have key := YB N hlt (fun x : List Int × Int => Option.bind (some (IntKind.i64.wrap ((k : Int) + 1))) fun i3 => lN N s kk fuel (x.1, i3)) 8 N (pW (Aa (pV 2 (8 * k) (D1 s k)))) (by omega) (by rw [hlen]; omega) (by omega);refine Eq.trans key ?_
  dsimp only
  rw [aC, iE (x := (k : Int) + 1) (by omega)];exact hih
theorem TA (N : Nat) {s : List UInt8} (hs : s.length ≤ 16777216) (hN : 100 ≤ N ∧ s.length < N) : o7 N s = some (yV (pV 2 (8 * s.length) (D1 s s.length))) := by
 unfold o7;have YA : Vo 1 (IntKind.i64.wrap (8 * (s.length : Int))) = some () := by unfold Vo; rw [iE (by omega), if_pos (by omega)]
 rw [YA, aC];have key := YC N hN.1 hs (fun x : List Int × Int => some (toB x.1)) s.length 0 N (by omega) (by omega);refine Eq.trans key ?_
 dsimp only
 rw [IJ, Lb]
theorem TB (N : Nat) {l : List Nat} (h2 : ∀ y ∈ l, y < 2) (hl : l.length ≤ 60) (kk) : ∀ (j k fuel : Nat), k + j = l.length → j < fuel →
  lX N (yV l) kk fuel (((num 2 (l.take k) : Nat) : Int), (k : Int)) = kk (((num 2 l : Nat) : Int), (l.length : Int)) := by
 intro j
 induction j with
 | zero =>
  intro k fuel hk hf;obtain ⟨fuel, rfl⟩ := mN fuel (by omega);obtain rfl : k = l.length := by omega
  unfold lX;rw [cF (dF (by rw [oR]; omega)), List.take_length]
 | succ j ih =>
  intro k fuel hk hf;obtain ⟨fuel, rfl⟩ := mN fuel (by omega);have hlt : k < l.length := by omega
  have hih := ih (k + 1) fuel (by omega) (by omega);obtain ⟨g1, g2, g3⟩ := IK hlt h2;have hg : l.getD k 0 = l[k] := by rw [List.getD_eq_getElem?_getD, List.getElem?_eq_getElem hlt]; rfl
  rw [List.take_succ_eq_append_getElem hlt, AA, ← hg] at hih
  have hv : num 2 (l.take k) < 2 ^ 60 := by
   have := wJ (B := 2) (l.take k) fun y hy => h2 y (List.mem_of_mem_take hy)
   rw [List.length_take, Nat.min_eq_left (by omega)] at this;exact Nat.lt_of_lt_of_le this (Nat.pow_le_pow_right (by decide) (by omega))
  generalize num 2 (l.take k) = v at *
  generalize l.getD k 0 = b at *
  have e1 : IntKind.u8.wrap (((48 + b : Nat) : Int) - 48) = (b : Int) := by rw [show ((48 + b : Nat) : Int) - 48 = (b : Int) by omega, ED]; omega
  unfold lX;rw [cT (dT (by rw [oR]; omega)), g1, aC, g2, e1, iE (x := 2 * (v : Int)) (by omega), iE (x := (b : Int)) (by omega), iE (x := 2 * (v : Int) + b) (by omega), aC, iE (x := (k : Int) + 1) (by omega), aC, show 2 * (v : Int) + b = ((v * 2 + b : Nat) : Int) by omega];exact hih
theorem Nt {N : Nat} (hN : 100 ≤ N) {l : List Nat} (h2 : ∀ y ∈ l, y < 2) (hl : l.length ≤ 60) : mF N (yV l) = some ((num 2 l : Nat) : Int) := by
 unfold mF;exact TB N h2 hl (fun x : Int × Int => some x.1) l.length 0 N (by omega) (by omega)
theorem Ro {T p d Y : Nat} (h : p + d ≤ T) : ((pV 2 T Y).take (p + d)).drop p = pV 2 d (Y / 2 ^ (T - p - d)) := by
 have e : pV 2 T Y = pV 2 p (Y / 2 ^ (d + (T - p - d))) ++ (pV 2 d (Y / 2 ^ (T - p - d)) ++ pV 2 (T - p - d) Y) := by
  conv => lhs; rw [show T = p + (d + (T - p - d)) by omega]
  rw [wE, wE 2 d]
 have l1 := kJ 2 p (Y / 2 ^ (d + (T - p - d)));have l2 := kJ 2 d (Y / 2 ^ (T - p - d));rw [e, ← List.append_assoc, List.take_append_of_le_length (by rw [List.length_append]; omega), List.take_of_length_le (by rw [List.length_append]; omega), List.drop_append_of_le_length (by omega), List.drop_of_length_le (by omega), List.nil_append]
theorem VK (N : Nat) (hN : 100 ≤ N) {d n : Nat} (hd : 1 ≤ d ∧ d ≤ 16) (hn : n ≤ 4096) {T Y : Nat} (hT : n * d ≤ T) (hT2 : T ≤ 100000) (kk) : ∀ (j k fuel : Nat), k + j = n → j < fuel →
  j1 N (d : Int) (n : Int) (yV (pV 2 T Y)) kk fuel (pW (pV (2 ^ d) k (Y / 2 ^ (T - d * k))), (k : Int)) = kk (pW (pV (2 ^ d) n (Y / 2 ^ (T - d * n))), (n : Int)) := by
 intro j
 induction j with
 | zero =>
  intro k fuel hk hf;obtain ⟨fuel, rfl⟩ := mN fuel (by omega);obtain rfl : k = n := by omega
  unfold j1;rw [cF (dF (by omega))]
 | succ j ih =>
  intro k fuel hk hf;obtain ⟨fuel, rfl⟩ := mN fuel (by omega);have hlt : k < n := by omega
  have hih := ih (k + 1) fuel (by omega) (by omega);have hk1 : (k + 1) * d ≤ n * d := Nat.mul_le_mul_right d hlt;have hk2 : (k + 1) * d = k * d + d := by rw [Nat.add_mul, Nat.one_mul]
  have hk3 : d * (k + 1) = k * d + d := by rw [Nat.mul_comm, hk2]
  have hk4 : d * k = k * d := Nat.mul_comm _ _
  have eZ : pV (2 ^ d) (k + 1) (Y / 2 ^ (T - d * (k + 1))) = pV (2 ^ d) k (Y / 2 ^ (T - d * k)) ++ [Y / 2 ^ (T - d * (k + 1)) % 2 ^ d] := by
   show pV (2 ^ d) k (Y / 2 ^ (T - d * (k + 1)) / 2 ^ d) ++ _ = _;rw [Nat.div_div_eq_div_mul, ← Nat.pow_add, show T - d * (k + 1) + d = T - d * k by omega]
  rw [eZ, DM] at hih;have e1 : IntKind.i64.wrap ((k : Int) * (d : Int)) = ((k * d : Nat) : Int) := by rw [← Int.natCast_mul, iE (by omega)]
  have e2 : IntKind.i64.wrap (IntKind.i64.wrap ((k : Int) + 1) * (d : Int)) = ((k * d + d : Nat) : Int) := by
   rw [iE (x := (k : Int) + 1) (by omega), show (k : Int) + 1 = ((k + 1 : Nat) : Int) by omega, ← Int.natCast_mul, iE (by omega), hk2]
  have hsl : Dw (yV (pV 2 T Y)) ((k * d : Nat) : Int) ((k * d + d : Nat) : Int) = some (yV (pV 2 d (Y / 2 ^ (T - d * (k + 1))))) := by
   rw [DK (by rw [oR, kJ]; omega), Int.toNat_natCast, Int.toNat_natCast];unfold yV;rw [← List.map_take, ← List.map_drop, Ro (by omega), show T - k * d - d = T - d * (k + 1) by omega]
  have hol := iN (pV (2 ^ d) k (Y / 2 ^ (T - d * k)));rw [kJ] at hol;unfold j1;rw [cT (dT (by omega)), e1, e2, hsl, aC, Nt hN (fun y hy => AW (by decide) _ _ y hy) (by rw [kJ]; omega), aC, BH, kY (by rw [hol]; simp; omega), aC, aC, iE (x := (k : Int) + 1) (by omega)];exact hih
theorem P5 {d n : Nat} (s : List UInt8) : (pW (qA s d n)).all (ZR d) = true := by
 refine List.all_eq_true.2 fun y hy => ?_
 obtain ⟨e, he, rfl⟩ := List.mem_map.1 hy;have := AW (Nat.two_pow_pos d) _ _ e he;exact decide_eq_true (by omega)
theorem t6 (N : Nat) (n lo hi : Int) : bO N n lo hi = some (decide (lo ≤ n ∧ n ≤ hi)) := by
 unfold bO
 by_cases h1 : lo ≤ n
 ·rw [cT (dT h1)]; simp [h1]
 ·rw [cF (dF h1)]; simp [h1]
theorem VL {d n : Nat} (hd : 1 ≤ d ∧ d ≤ 16) {s : List UInt8} (hl : s.length = (n * d + 7) / 8) (h : (D0 d (pW (qA s d n))).map UInt8.ofNat = s) : D1 s s.length % 2 ^ (8 * s.length - d * n) = 0 := by
 have hlen : (pW (qA s d n)).length = n := by rw [iN]; exact kJ _ _ _
 obtain ⟨b1, b2⟩ := Tv hd (P5 (d := d) (n := n) s);rw [h, hlen, ← hl] at b2;rw [b2];exact Nat.mul_mod_left _ _
theorem Nu (N : Nat) (hN : 100000 ≤ N) (s : List UInt8) (hs : s.length ≤ 9223372036854775807) (o p : Int) : nS N s o p = some (if gC s o p = 0 then (pW (qA s o.toNat p.toNat), 0) else ([], gC s o p)) := by
 unfold nS;rw [t6, aC]
 by_cases h1 : 1 ≤ o ∧ o ≤ 16
 rotate_left
 ·have hpe : gC s o p = 3 := by unfold gC; rw [if_pos h1]
  rw [cT (by rw [dF h1]; rfl), hpe]; rfl
 have h1' : ¬ ¬ (1 ≤ o ∧ o ≤ 16) := fun h => h h1
 rw [cF (by rw [dT h1]; rfl)]
 by_cases h2 : p < 0
 ·have hpe : gC s o p = 3 := by unfold gC; rw [if_neg h1', if_pos h2]
  rw [cT (dT h2), hpe]; rfl
 rw [cF (dF h2)]
 by_cases h3 : 4096 < p
 ·have hpe : gC s o p = 2 := by unfold gC; rw [if_neg h1', if_neg h2, if_pos h3]
  rw [cT (dT h3), hpe]; rfl
 rw [cF (dF h3)];obtain ⟨d, rfl⟩ := Int.eq_ofNat_of_zero_le (show 0 ≤ o by omega);obtain ⟨n, rfl⟩ := Int.eq_ofNat_of_zero_le (show 0 ≤ p by omega);have hb : n * d ≤ 4096 * 16 := Nat.mul_le_mul (by omega) (by omega)
 have e1 : IntKind.i64.wrap (Int.tdiv (IntKind.i64.wrap (IntKind.i64.wrap ((n : Int) * (d : Int)) + 7)) 8) = (((n * d + 7) / 8 : Nat) : Int) := by
  rw [← Int.natCast_mul, iE (x := ((n * d : Nat) : Int)) (by omega), iE (x := ((n * d : Nat) : Int) + 7) (by omega), show ((n * d : Nat) : Int) + 7 = ((n * d + 7 : Nat) : Int) by omega,
   show Int.tdiv ((n * d + 7 : Nat) : Int) 8 = (((n * d + 7) / 8 : Nat) : Int) from rfl, iE (by omega)]
 rw [e1]
 by_cases h4 : s.length = (n * d + 7) / 8
 rotate_left
 ·have hpe : gC s d n = 1 := by unfold gC; rw [if_neg h1', if_neg h2, if_neg h3, Int.toNat_natCast, Int.toNat_natCast, if_pos h4]
  rw [cT (by rw [dF (by omega)]; rfl), hpe]; rfl
 rw [cF (by rw [dT (by omega)]; rfl), TA N (by omega) (by omega), aC];have hd : 1 ≤ d ∧ d ≤ 16 := by omega
 have key := VK N (by omega) hd (n := n) (by omega) (T := 8 * s.length) (Y := D1 s s.length) (by omega) (by omega) (fun x : List Int × Int =>
  Option.bind (mV N x.1 (d : Int)) fun r7 =>
  cond (!decide (r7 = s)) (
  some (([] : List Int), 1)) (
  some (x.1, 0))) n 0 N (by omega) (by omega)
 refine Eq.trans key ?_;have hlen : (pW (qA s d n)).length = n := by rw [iN]; exact kJ _ _ _
 have hpk := Rn N hN hd (l := pW (qA s d n)) (by omega) (P5 s);unfold qA at hpk
 dsimp only
 rw [hpk, aC]
 by_cases h5 : D1 s s.length % 2 ^ (8 * s.length - d * n) = 0
 ·have hpe : gC s d n = 0 := by
   unfold gC;rw [if_neg h1', if_neg h2, if_neg h3, Int.toNat_natCast, Int.toNat_natCast, if_neg (by omega), if_neg (by omega)]
  have hq := (Np hd h4 (by omega) h5).2.1;unfold qA at hq;rw [cF (by rw [dT hq]; rfl), hpe, if_pos rfl, Int.toNat_natCast, Int.toNat_natCast]
  rfl
 ·have hpe : gC s d n = 1 := by
   unfold gC;rw [if_neg h1', if_neg h2, if_neg h3, Int.toNat_natCast, Int.toNat_natCast, if_neg (by omega), if_pos h5]
  have hq : ¬ (D0 d (pW (qA s d n))).map UInt8.ofNat = s := fun h => h5 (VL hd h4 h)
  unfold qA at hq;rw [cT (by rw [dF hq]; rfl), hpe]; rfl
def zY (b : List UInt8) : Bool := b.all fun c => decide (c = 48 ∨ c = 49)
theorem P6 : ∀ b : List UInt8, b.count 48 + b.count 49 ≤ b.length ∧ (b.count 48 + b.count 49 = b.length ↔ zY b = true)
 | [] => by simp [zY]
 | c :: b => by
  obtain ⟨h1, h2⟩ := P6 b;have e : zY (c :: b) = (decide (c = 48 ∨ c = 49) && zY b) := rfl;rw [e, List.count_cons, List.count_cons, List.length_cons]
  by_cases q : c = 48
  ·subst q;have : ((48 : UInt8) == 49) = false := by decide
   rw [this, show decide ((48 : UInt8) = 48 ∨ (48 : UInt8) = 49) = true by decide, Bool.true_and, ← h2, show ((48 : UInt8) == 48) = true by decide]
   constructor
   ·simp; omega
   ·simp; omega
  ·by_cases q2 : c = 49
   ·subst q2;have : ((49 : UInt8) == 48) = false := by decide
    rw [this, show decide ((49 : UInt8) = 48 ∨ (49 : UInt8) = 49) = true by decide, Bool.true_and, ← h2, show ((49 : UInt8) == 49) = true by decide]
    constructor
    ·simp; omega
    ·simp; omega
   ·have q3 : (c == 48) = false := by simpa using q
    have q4 : (c == 49) = false := by simpa using q2
    rw [q3, q4, show decide (c = 48 ∨ c = 49) = false from decide_eq_false (fun h => h.elim q q2), Bool.false_and]
    constructor
    ·simp; omega
    ·simp; omega
theorem WX {p : UInt8 → Bool} : ∀ l : List UInt8, l.all p = true → l.dropWhile p = []
 | [], _ => rfl
 | c :: l, h => by
  rw [List.all_cons, Bool.and_eq_true] at h;rw [List.dropWhile_cons, if_pos h.1];exact WX l h.2
theorem Rq {b : List UInt8} (h : zY b = true) : Go.Lib.trimS b [48, 49] = [] := by
 have hp : b.all (fun c => [(48 : UInt8), 49].contains c) = true := by
  refine List.all_eq_true.2 fun c hc => ?_
  have := of_decide_eq_true (List.all_eq_true.1 h c hc)
  rcases this with rfl | rfl <;> decide
 have hr : b.reverse.all (fun c => [(48 : UInt8), 49].contains c) = true := by rw [List.all_reverse]; exact hp
 unfold Go.Lib.trimS Go.Lib.trimRightS;rw [WX _ hr]
 rfl
theorem all_eq (N : Nat) {b : List UInt8} (hb : b.length ≤ 16777216) : Ah N b = some (zY b) := by
 have ht : vD N b [48, 49] = some (Go.Lib.trimS b [48, 49]) := by
  unfold vD;rw [if_pos ⟨by omega, by decide, by decide⟩]
 have h0 : rU N b [48] = some ((b.count 48 : Nat) : Int) := rfl;have h1 : rU N b [49] = some ((b.count 49 : Nat) : Int) := rfl;obtain ⟨c1, c2⟩ := P6 b;have hw : IntKind.i64.wrap (((b.count 48 : Nat) : Int) + ((b.count 49 : Nat) : Int)) = ((b.count 48 + b.count 49 : Nat) : Int) := by rw [iE (by omega)]; omega
 unfold Ah;rw [ht, aC, h0, aC, h1, aC, hw]
 by_cases h : zY b = true
 ·rw [Rq h, cT (by rfl), h, dT (by have := c2.2 h; omega)]
 ·have hne : ¬ (b.count 48 + b.count 49 = b.length) := fun q => h (c2.1 q)
  have hf : zY b = false := by simpa using h
  rw [hf, dF (show ¬ (((b.count 48 + b.count 49 : Nat) : Int) = (b.length : Int)) by omega)]
  cases decide (Go.Lib.trimS b [48, 49] = ([] : List UInt8)) <;> rfl
def hU (b : List UInt8) : List Nat := b.map fun c => c.toNat - 48
theorem sG {b : List UInt8} (h : zY b = true) : ∀ y ∈ hU b, y < 2 := fun y hy => by
 obtain ⟨c, hc, rfl⟩ := List.mem_map.1 hy
 rcases of_decide_eq_true (List.all_eq_true.1 h c hc) with rfl | rfl <;> decide
theorem Fi {b : List UInt8} (h : zY b = true) : yV (hU b) = b := by
 unfold yV hU;rw [List.map_map]
 conv => rhs; rw [← List.map_id b]
 refine List.map_congr_left fun c hc => ?_
 rcases of_decide_eq_true (List.all_eq_true.1 h c hc) with rfl | rfl <;> rfl
theorem VM {h d e : Nat} (he : e < 2 ^ d) (hb : h * 2 ^ d + e < 256) : KT .u8 ((h * 2 ^ d : Nat) : Int) (e : Int) = ((h * 2 ^ d + e : Nat) : Int) := by
 unfold KT;have hb' : IntKind.u8.bits = 8 := rfl
 have e1 : (BitVec.ofInt IntKind.u8.bits ((h * 2 ^ d : Nat) : Int) ||| BitVec.ofInt IntKind.u8.bits (e : Int)).toNat = h * 2 ^ d + e := by
  rw [BitVec.toNat_or, BitVec.ofInt_natCast, BitVec.ofInt_natCast, BitVec.toNat_ofNat, BitVec.toNat_ofNat, hb', Nat.mod_eq_of_lt (show h * 2 ^ d < 2 ^ 8 by omega), Nat.mod_eq_of_lt (show e < 2 ^ 8 by omega)];rw [Nat.mul_comm h, Nat.two_pow_add_eq_or_of_lt he]
 rw [e1, ED, Nat.mod_eq_of_lt hb]
theorem aEc {b k : Nat} (hk : k ≤ 8) (h : b * 2 ^ k < 256) : rE .u8 (b : Int) (k : Int) = ((b * 2 ^ k : Nat) : Int) := by
 unfold rE
 have : min ((k : Int)).toNat IntKind.u8.bits = k := by
  rw [Int.toNat_natCast];exact Nat.min_eq_left hk
 rw [this, show (2 : Int) ^ k = ((2 ^ k : Nat) : Int) by simp, ← Int.natCast_mul, ED, Nat.mod_eq_of_lt h]
theorem Nv (f : Nat → Nat) : ∀ t r, (∀ q, t ≤ q → f q = 0) → num 2 ((List.range (t + r)).map f) = num 2 ((List.range t).map f) * 2 ^ r
 | t, 0, _ => by simp
 | t, r + 1, h => by
  rw [← Nat.add_assoc, List.range_succ, List.map_append, List.map_singleton, AA, Nv f t r h, h (t + r) (by omega), Nat.add_zero, Nat.pow_succ, Nat.mul_assoc]
theorem YD {M k : Nat} {l : List Nat} (hk : k < l.length) (hM : k / 8 < M) :
  (gr M (l.take k)).getD (k / 8) 0 = num 2 ((List.range (k % 8)).map fun t => l.getD (8 * (k / 8) + t) 0) * 2 ^ (8 - k % 8) ∧
  gr M (l.take (k + 1)) = (gr M (l.take k)).set (k / 8) (num 2 ((List.range (k % 8)).map fun t => l.getD (8 * (k / 8) + t) 0) * 2 ^ (8 - k % 8) + l.getD k 0 * 2 ^ (7 - k % 8)) := by
 have hmod : k % 8 < 8 := Nat.mod_lt _ (by decide);have hdm : 8 * (k / 8) + k % 8 = k := Nat.div_add_mod k 8
 have get : ∀ n i, (l.take n).getD i 0 = if i < n then l.getD i 0 else 0 := fun n i => by
  rw [List.getD_eq_getElem?_getD, List.getD_eq_getElem?_getD, List.getElem?_take]
  split <;> rfl
 have hval : ∀ n, 8 * (k / 8) ≤ n → n ≤ 8 * (k / 8) + 8 → num 2 ((List.range 8).map fun t => (l.take n).getD (8 * (k / 8) + t) 0) = num 2 ((List.range (n - 8 * (k / 8))).map fun t => l.getD (8 * (k / 8) + t) 0) * 2 ^ (8 - (n - 8 * (k / 8))) := fun n h1 h2 => by
  have := Nv (fun t => (l.take n).getD (8 * (k / 8) + t) 0) (n - 8 * (k / 8)) (8 - (n - 8 * (k / 8))) (fun q hq => by rw [get, if_neg (by omega)]);rw [show n - 8 * (k / 8) + (8 - (n - 8 * (k / 8))) = 8 by omega] at this;rw [this]
  congr 2
  refine List.map_congr_left fun t ht => ?_
  have := List.mem_range.1 ht;rw [get, if_pos (by omega)]
 have hv0 := hval k (by omega) (by omega);have hv1 := hval (k + 1) (by omega) (by omega);rw [show k - 8 * (k / 8) = k % 8 by omega] at hv0;rw [show k + 1 - 8 * (k / 8) = k % 8 + 1 by omega, List.range_succ (n := k % 8), List.map_append, List.map_singleton, AA, hdm, Nat.add_mul] at hv1
 have e2 : num 2 ((List.range (k % 8)).map fun t => l.getD (8 * (k / 8) + t) 0) * 2 * 2 ^ (8 - (k % 8 + 1)) = num 2 ((List.range (k % 8)).map fun t => l.getD (8 * (k / 8) + t) 0) * 2 ^ (8 - k % 8) := by
  rw [Nat.mul_assoc, show 8 - k % 8 = 8 - (k % 8 + 1) + 1 by omega, Nat.pow_succ, Nat.mul_comm 2]
 rw [e2, show 8 - (k % 8 + 1) = 7 - k % 8 by omega] at hv1;have hgl : ∀ n, (gr M (l.take n)).length = M := fun n => by simp [gr]
 have hgg : ∀ n g, g < M → (gr M (l.take n))[g]? = some (num 2 ((List.range 8).map fun t => (l.take n).getD (8 * g + t) 0)) := fun n g hg => by
  unfold gr;rw [List.getElem?_map, List.getElem?_range hg]; rfl
 constructor
 ·rw [List.getD_eq_getElem?_getD, hgg k _ hM, hv0]; rfl
 ·apply List.ext_getElem?
  intro g
  by_cases hg : g < M
  ·by_cases he : k / 8 = g
   ·subst he;rw [hgg _ _ hM, List.getElem?_set_self (by rw [hgl]; exact hM), hv1]
   ·rw [List.getElem?_set_ne he, hgg _ _ hg, hgg _ _ hg]
    congr 2
    refine List.map_congr_left fun t ht => ?_
    have := List.mem_range.1 ht;rw [get, get]
    by_cases q : 8 * g + t < k
    ·rw [if_pos (by omega), if_pos q]
    ·rw [if_neg q, if_neg]
     omega
  ·rw [List.getElem?_eq_none (by rw [hgl]; omega), List.getElem?_eq_none (by rw [List.length_set, hgl]; omega)]
theorem IL (l : List Nat) (i v : Nat) : pW (l.set i v) = (pW l).set i (v : Int) := by simp [pW, List.map_set]
theorem IM {l : List Nat} {i : Nat} (h : i < l.length) : idx (pW l) (i : Int) = some ((l.getD i 0 : Nat) : Int) := by
 rw [gB, pW, List.getElem?_map, List.getElem?_eq_getElem h, List.getD_eq_getElem?_getD, List.getElem?_eq_getElem h]; rfl
theorem Rr (N : Nat) {l : List Nat} (h2 : ∀ y ∈ l, y < 2) (hl : l.length ≤ 16777216) (kk) : ∀ (j k fuel : Nat), k + j = l.length → j < fuel →
  sB N (yV l) kk fuel (pW (gr ((l.length + 7) / 8) (l.take k)), (k : Int)) = kk (pW (gr ((l.length + 7) / 8) l), (l.length : Int)) := by
 intro j
 induction j with
 | zero =>
  intro k fuel hk hf;obtain ⟨fuel, rfl⟩ := mN fuel (by omega);obtain rfl : k = l.length := by omega
  unfold sB;rw [cF (dF (by rw [oR]; omega)), List.take_length]
 | succ j ih =>
  intro k fuel hk hf;obtain ⟨fuel, rfl⟩ := mN fuel (by omega);have hlt : k < l.length := by omega
  have hih := ih (k + 1) fuel (by omega) (by omega);have hmod : k % 8 < 8 := Nat.mod_lt _ (by decide);have hM : k / 8 < (l.length + 7) / 8 := by omega
  obtain ⟨s1, s2⟩ := YD (M := (l.length + 7) / 8) hlt hM;obtain ⟨g1, g2, g3⟩ := IK hlt h2;have hgl : (gr ((l.length + 7) / 8) (l.take k)).length = (l.length + 7) / 8 := by simp [gr]
  have hn : num 2 ((List.range (k % 8)).map fun t => l.getD (8 * (k / 8) + t) 0) < 2 ^ (k % 8) := by
   have := wJ (B := 2) ((List.range (k % 8)).map fun t => l.getD (8 * (k / 8) + t) 0) fun y hy => by
    obtain ⟨q, _, rfl⟩ := List.mem_map.1 hy;rw [List.getD_eq_getElem?_getD]
    by_cases hq : 8 * (k / 8) + q < l.length
    ·rw [List.getElem?_eq_getElem hq]; exact h2 _ (List.getElem_mem hq)
    ·rw [List.getElem?_eq_none (by omega)]; decide
   rwa [List.length_map, List.length_range] at this
  rw [s2] at hih;have hold := IM (l := gr ((l.length + 7) / 8) (l.take k)) (i := k / 8) (by omega);rw [s1] at hold
  generalize gr ((l.length + 7) / 8) (l.take k) = G at *
  generalize num 2 ((List.range (k % 8)).map fun t => l.getD (8 * (k / 8) + t) 0) = v at *
  generalize l.getD k 0 = b at *
  have p1 : 2 ^ (8 - k % 8) = 2 * 2 ^ (7 - k % 8) := by rw [show 8 - k % 8 = 7 - k % 8 + 1 by omega, Nat.pow_succ, Nat.mul_comm]
  have p2 : 2 ^ (7 - k % 8) ≤ 128 := Nat.pow_le_pow_right (show 0 < 2 by decide) (show 7 - k % 8 ≤ 7 by omega)
  have p3 : (v + 1) * 2 ^ (8 - k % 8) ≤ 256 := by
   have := Nat.mul_le_mul_right (2 ^ (8 - k % 8)) hn;rw [← Nat.pow_add, show k % 8 + (8 - k % 8) = 8 by omega] at this;exact this
  have p0 := Nat.two_pow_pos (7 - k % 8)
  have p4 : b * 2 ^ (7 - k % 8) < 2 ^ (8 - k % 8) := by
   have := Nat.mul_le_mul_right (2 ^ (7 - k % 8)) (show b ≤ 1 by omega)
   omega
  rw [Nat.add_mul, Nat.one_mul] at p3;have ediv : IntKind.i64.wrap (Int.tdiv (k : Int) 8) = ((k / 8 : Nat) : Int) := by rw [show Int.tdiv (k : Int) 8 = ((k / 8 : Nat) : Int) from rfl, iE (by omega)]
  have aEd : IntKind.i64.wrap (7 - Int.tmod (k : Int) 8) = ((7 - k % 8 : Nat) : Int) := by rw [show Int.tmod (k : Int) 8 = ((k % 8 : Nat) : Int) from rfl, iE (by omega)]; omega
  have eb : IntKind.u8.wrap (((48 + b : Nat) : Int) - 48) = (b : Int) := by rw [show ((48 + b : Nat) : Int) - 48 = (b : Int) by omega, ED]; omega
  have eor : KT .u8 ((v * 2 ^ (8 - k % 8) : Nat) : Int) (rE .u8 (b : Int) ((7 - k % 8 : Nat) : Int)) = ((v * 2 ^ (8 - k % 8) + b * 2 ^ (7 - k % 8) : Nat) : Int) := by rw [aEc (by omega) (by omega), VM p4 (by omega)]
  have hset : xX (pW G) ((k / 8 : Nat) : Int) ((v * 2 ^ (8 - k % 8) + b * 2 ^ (7 - k % 8) : Nat) : Int) = some (pW (G.set (k / 8) (v * 2 ^ (8 - k % 8) + b * 2 ^ (7 - k % 8)))) := by
   unfold xX;rw [if_pos (by rw [iN]; omega), Int.toNat_natCast, IL]
  unfold sB;rw [cT (dT (by rw [oR]; omega)), ediv, aC, hold, aC, g1, aC, g2, aEd, zJ, aC, aC, eb, eor, hset, aC, iE (x := (k : Int) + 1) (by omega)];exact hih
theorem YE (M : Nat) : gr M [] = List.replicate M 0 := by
 unfold gr
 apply List.ext_getElem?
 intro g
 by_cases h : g < M
 ·rw [List.getElem?_map, List.getElem?_range h, List.getElem?_replicate, if_pos h]; rfl
 ·rw [List.getElem?_eq_none (by simp; omega), List.getElem?_eq_none (by simp; omega)]
theorem O7 (N : Nat) {b : List UInt8} (hb : b.length ≤ 16777216) (hN : b.length < N) : wD N b = some (if zY b = true then ((gr ((b.length + 7) / 8) (hU b)).map UInt8.ofNat, 0) else ([], 1)) := by
 unfold wD;rw [all_eq N hb, aC]
 by_cases h : zY b = true
 rotate_left
 ·have hf : zY b = false := by simpa using h
  rw [hf]; rfl
 rw [h, cF (by rfl), if_pos rfl];have hlen : (hU b).length = b.length := by simp [hU]
 have e1 : IntKind.i64.wrap (Int.tdiv (IntKind.i64.wrap ((b.length : Int) + 7)) 8) = (((b.length + 7) / 8 : Nat) : Int) := by
  rw [iE (x := (b.length : Int) + 7) (by omega), show (b.length : Int) + 7 = ((b.length + 7 : Nat) : Int) by omega, show Int.tdiv ((b.length + 7 : Nat) : Int) 8 = (((b.length + 7) / 8 : Nat) : Int) from rfl, iE (by omega)]
 rw [e1, aC, mk_eq (by omega), aC, Int.toNat_natCast];have key := Rr N (l := hU b) (sG h) (by omega) (fun x : List Int × Int => some (toB x.1, (0 : Int))) (hU b).length 0 N (by omega) (by omega);rw [List.take_zero, YE, Fi h, hlen] at key;have hz : pW (List.replicate ((b.length + 7) / 8) 0) = List.replicate ((b.length + 7) / 8) 0 := by simp [pW]
 rw [hz] at key;refine Eq.trans key ?_
 dsimp only
 rw [IJ]
theorem Rs (N : Nat) {b : List UInt8} (h : zY b = true) (hb : b.length ≤ 16777216) (hN : 100 ≤ N ∧ b.length < N) : jD N b = some ((gr ((b.length + 7) / 8) (hU b)).map UInt8.ofNat) := by
 have hlen : (hU b).length = b.length := by simp [hU]
 have := Nr N (hU b) (sG h) (by omega) (by omega);rw [Fi h, hlen] at this;exact this
theorem VN (N : Nat) {l : List Nat} (h2 : ∀ y ∈ l, y < 2) (hl : l.length ≤ 16) (kk) : ∀ (j k fuel : Nat), k + j = l.length → j < fuel →
  sC N (yV l) kk fuel (((num 2 (l.take k) : Nat) : Int), (k : Int)) = kk (((num 2 l : Nat) : Int), (l.length : Int)) := by
 intro j
 induction j with
 | zero =>
  intro k fuel hk hf;obtain ⟨fuel, rfl⟩ := mN fuel (by omega);obtain rfl : k = l.length := by omega
  unfold sC;rw [cF (dF (by rw [oR]; omega)), List.take_length]
 | succ j ih =>
  intro k fuel hk hf;obtain ⟨fuel, rfl⟩ := mN fuel (by omega);have hlt : k < l.length := by omega
  have hih := ih (k + 1) fuel (by omega) (by omega);obtain ⟨g1, g2, g3⟩ := IK hlt h2;have hg : l.getD k 0 = l[k] := by rw [List.getD_eq_getElem?_getD, List.getElem?_eq_getElem hlt]; rfl
  rw [List.take_succ_eq_append_getElem hlt, AA, ← hg] at hih
  have hv : num 2 (l.take k) < 65536 := by
   have := wJ (B := 2) (l.take k) fun y hy => h2 y (List.mem_of_mem_take hy)
   rw [List.length_take, Nat.min_eq_left (by omega)] at this;exact Nat.lt_of_lt_of_le this (Nat.pow_le_pow_right (show 0 < 2 by decide) (show k ≤ 16 by omega))
  generalize num 2 (l.take k) = v at *
  generalize l.getD k 0 = b at *
  have e1 : IntKind.i64.wrap (Es .u8 ((48 + b : Nat) : Int) 1) = (b : Int) := by
   have := Ns ⟨48 + b, by omega⟩;rw [this, show (48 + b) % 2 = b by omega, iE (by omega)]
  have e2 : rE .i64 (v : Int) 1 = ((v * 2 : Nat) : Int) := BI (k := 1) (by decide) (by omega);unfold sC;rw [cT (dT (by rw [oR]; omega)), g1, aC, g2, e1, e2, show ((v * 2 : Nat) : Int) + (b : Int) = ((v * 2 + b : Nat) : Int) by omega, iE (x := ((v * 2 + b : Nat) : Int)) (by omega), aC, iE (x := (k : Int) + 1) (by omega)];exact hih
theorem O8 (N : Nat) (hN : 100 ≤ N) {b : List UInt8} (hb : b.length ≤ 16777216) : zH N b = some (if zY b = true then (if b.length ≤ 16 then (((num 2 (hU b) : Nat) : Int), 0) else (0, 3)) else (0, 1)) := by
 unfold zH;rw [all_eq N hb, aC]
 by_cases h : zY b = true
 rotate_left
 ·have hf : zY b = false := by simpa using h
  rw [hf]; rfl
 rw [h, cF (by rfl), if_pos rfl]
 by_cases h3 : b.length ≤ 16
 rotate_left
 ·rw [cT (dT (by omega)), if_neg h3]
 rw [cF (dF (by omega)), if_pos h3];have hlen : (hU b).length = b.length := by simp [hU]
 have key := VN N (l := hU b) (sG h) (by omega) (fun x : Int × Int => some (x.1, (0 : Int))) (hU b).length 0 N (by omega) (by omega);rw [Fi h] at key;exact key
theorem Ru (N : Nat) (hN : 100 ≤ N) {b : List UInt8} (h : zY b = true) (hb : b.length ≤ 16) : mF N b = some ((num 2 (hU b) : Nat) : Int) := by
 have hlen : (hU b).length = b.length := by simp [hU]
 have := Nt hN (l := hU b) (sG h) (by omega);rw [Fi h] at this;exact this
theorem VO {T k Y : Nat} (h : k < T) : (pV 2 T Y)[k]? = some (Y / 2 ^ (T - 1 - k) % 2) := by
 have e : pV 2 T Y = pV 2 k (Y / 2 ^ (1 + (T - 1 - k))) ++ ([Y / 2 ^ (T - 1 - k) % 2] ++ pV 2 (T - 1 - k) Y) := by
  conv => lhs; rw [show T = k + (1 + (T - 1 - k)) by omega]
  rw [wE, wE 2 1]
  rfl
 rw [e, List.getElem?_append_right (by rw [kJ]; exact Nat.le_refl _), kJ, Nat.sub_self]
 rfl
def Ik (size n k : Nat) : List Int := pW (Aa ((pV 2 size n).take k) ++ List.replicate (size - k) 0)
theorem Rv (N : Nat) {size n : Nat} (hs : size ≤ 16) (hn : n < 9223372036854775808) (kk) : ∀ (j k fuel : Nat), k + j = size → j < fuel →
  qZ N (n : Int) (size : Int) kk fuel (Ik size n k, (size : Int), (k : Int)) = kk (Ik size n size, (size : Int), (size : Int)) := by
 intro j
 induction j with
 | zero =>
  intro k fuel hk hf;obtain ⟨fuel, rfl⟩ := mN fuel (by omega);obtain rfl : k = size := by omega
  unfold qZ;rw [cF (dF (by omega))]
 | succ j ih =>
  intro k fuel hk hf;obtain ⟨fuel, rfl⟩ := mN fuel (by omega);have hlt : k < size := by omega
  have hih := ih (k + 1) fuel (by omega) (by omega);have ew : IntKind.i64.wrap (IntKind.i64.wrap ((size : Int) - 1) - (k : Int)) = ((size - 1 - k : Nat) : Int) := by rw [iE (x := (size : Int) - 1) (by omega), iE (by omega)]; omega
  have eb : Es .i64 (dP .i64 (n : Int) ((size - 1 - k : Nat) : Int)) 1 = ((n / 2 ^ (size - 1 - k) % 2 : Nat) : Int) := by
   rw [II (by omega)];exact Nn (k := 1) (Nat.lt_of_le_of_lt (Nat.div_le_self _ _) hn) (by decide)
  have hg := VO (Y := n) hlt;have hb2 : n / 2 ^ (size - 1 - k) % 2 < 2 := Nat.mod_lt _ (by decide);have hl := kJ 2 size n
  generalize hbv : n / 2 ^ (size - 1 - k) % 2 = b at *
  have hc : idx ([48, 49] : List UInt8) (b : Int) = some (UInt8.ofNat (48 + b)) := by
   rcases (show b = 0 ∨ b = 1 by omega) with rfl | rfl <;> rfl
  have hcn : ((UInt8.ofNat (48 + b)).toNat : Int) = ((48 + b : Nat) : Int) := by rw [UInt8.toNat_ofNat', Nat.mod_eq_of_lt (by omega)]
  have ht : (pV 2 size n).take (k + 1) = (pV 2 size n).take k ++ [b] := by
   rw [List.take_add_one, hg]; rfl
  have hl1 : (Aa ((pV 2 size n).take k)).length = k := by simp [Aa, hl]; omega
  have hlen : (Ik size n k).length = size := by
   unfold Ik;rw [iN, List.length_append, hl1, List.length_replicate]; omega
  have hget : ∃ e, idx (Ik size n k) (k : Int) = some e := by rw [gB]; exact ⟨_, List.getElem?_eq_getElem (by omega)⟩
  obtain ⟨e, he⟩ := hget
  have hset : xX (Ik size n k) (k : Int) ((48 + b : Nat) : Int) = some (Ik size n (k + 1)) := by
   unfold xX;rw [if_pos (by omega), Int.toNat_natCast];unfold Ik;rw [← IL, ht, G9, show size - k = (size - (k + 1)) + 1 by omega, List.replicate_succ, List.append_assoc]
   congr 2
   rw [List.set_append_right _ _ (by omega), hl1, Nat.sub_self]
   rfl
  unfold qZ;rw [cT (dT (by omega)), ew, zJ, aC, eb, hc, aC, he, aC, hcn, hset, aC, iE (x := (k : Int) + 1) (by omega)];exact hih
theorem Lc (N : Nat) (hN : 100 ≤ N) {size n : Nat} (hs : size ≤ 16) (hn : n < 9223372036854775808) : sO N (n : Int) (size : Int) = some (yV (pV 2 size n)) := by
 unfold sO;rw [mk_eq (by omega), aC, Int.toNat_natCast];have key := Rv N hs hn (fun x : List Int × Int × Int => some (toB x.1)) size 0 N (by omega) (by omega);have h0 : Ik size n 0 = List.replicate size 0 := by unfold Ik; simp [Aa, pW]
 have h1 : Ik size n size = pW (Aa (pV 2 size n)) := by
  unfold Ik;rw [Nat.sub_self, List.take_of_length_le (by rw [kJ]; exact Nat.le_refl _)]; simp
 rw [h0, h1] at key;rw [List.length_replicate];refine Eq.trans key ?_
 dsimp only
 rw [IJ, Lb]
def vW (n size : Int) : Int := if 0 ≤ size ∧ size ≤ 16 then (if 0 ≤ n ∧ n < ((2 ^ size.toNat : Nat) : Int) then 0 else 3) else 3
theorem DN {d : Nat} (hd : d ≤ 16) : rE .i64 1 (d : Int) = ((2 ^ d : Nat) : Int) := by
 have hp := AB hd;have := BI (h := 1) (k := d) (by omega) (by omega);rw [Nat.one_mul] at this;exact this
theorem Nw (N : Nat) (hN : 100 ≤ N) (n size : Int) : pD N n size = some (if vW n size = 0 then (yV (pV 2 size.toNat n.toNat), 0) else ([], 3)) := by
 unfold pD
 by_cases h1 : size < 0
 ·have : vW n size = 3 := by unfold vW; rw [if_neg (by omega)]
  rw [cT (dT h1), this]; rfl
 rw [cF (dF h1)]
 by_cases h2 : 16 < size
 ·have : vW n size = 3 := by unfold vW; rw [if_neg (by omega)]
  rw [cT (dT h2), this]; rfl
 rw [cF (dF h2)];obtain ⟨d, rfl⟩ := Int.eq_ofNat_of_zero_le (show 0 ≤ size by omega);have hp := AB (d := d) (by omega)
 by_cases h3 : n < 0
 ·have : vW n d = 3 := by unfold vW; rw [if_pos (by omega), if_neg (by omega)]
  rw [cT (dT h3), this]; rfl
 rw [cF (dF h3), zJ, aC, DN (by omega)]
 by_cases h4 : ((2 ^ d : Nat) : Int) ≤ n
 ·have : vW n d = 3 := by unfold vW; rw [if_pos (by omega), Int.toNat_natCast, if_neg (by omega)]
  rw [cT (dT h4), this]; rfl
 have hz : vW n d = 0 := by unfold vW; rw [if_pos (by omega), Int.toNat_natCast, if_pos (by omega)]
 obtain ⟨m, rfl⟩ := Int.eq_ofNat_of_zero_le (show 0 ≤ n by omega);rw [cF (dF h4), Lc N hN (by omega) (by omega), aC, if_pos hz, Int.toNat_natCast, Int.toNat_natCast]
theorem Js (N : Nat) (hN : 100 ≤ N) {n size : Int} (h : vW n size = 0) : lM N n size = some (yV (pV 2 size.toNat n.toNat)) := by
 unfold vW at h
 by_cases h1 : 0 ≤ size ∧ size ≤ 16
 rotate_left
 ·rw [if_neg h1] at h; cases h
 rw [if_pos h1] at h;obtain ⟨d, rfl⟩ := Int.eq_ofNat_of_zero_le h1.1;have hp := AB (d := d) (by omega)
 by_cases h2 : 0 ≤ n ∧ n < ((2 ^ (d : Int).toNat : Nat) : Int)
 rotate_left
 ·rw [if_neg h2] at h; cases h
 rw [Int.toNat_natCast] at h2;obtain ⟨m, rfl⟩ := Int.eq_ofNat_of_zero_le h2.1;rw [Int.toNat_natCast, Int.toNat_natCast];exact number_eq hN (by omega) (by omega)
theorem VP (N : Nat) (hN : 100 ≤ N) {s : List UInt8} (hs : s.length ≤ 16777216) (kk) : ∀ (j k fuel : Nat), k + j = s.length → j < fuel →
  tD N s kk fuel (yV (pV 2 (8 * k) (D1 s k)), (k : Int)) = kk (yV (pV 2 (8 * s.length) (D1 s s.length)), (s.length : Int)) := by
 intro j
 induction j with
 | zero =>
  intro k fuel hk hf;obtain ⟨fuel, rfl⟩ := mN fuel (by omega);obtain rfl : k = s.length := by omega
  unfold tD;rw [cF (dF (by omega))]
 | succ j ih =>
  intro k fuel hk hf;obtain ⟨fuel, rfl⟩ := mN fuel (by omega);have hlt : k < s.length := by omega
  have hb : s[k].toNat < 256 := s[k].toNat_lt;have hih := ih (k + 1) fuel (by omega) (by omega);rw [Jq hlt, Nat.mul_add, Nat.mul_one, ← Gn (show s[k].toNat < 2 ^ 8 from hb), Gm] at hih;have hd : sO N (s[k].toNat : Int) 8 = some (yV (pV 2 8 s[k].toNat)) := Lc N hN (size := 8) (by decide) (by omega)
  have hbw : Sl (yV (pV 2 (8 * k) (D1 s k))) (yV (pV 2 8 s[k].toNat)) = some (yV (pV 2 (8 * k) (D1 s k)) ++ yV (pV 2 8 s[k].toNat)) := by
   unfold Sl;rw [if_pos (by rw [oR, oR, kJ, kJ]; omega)]
  unfold tD;rw [cT (dT (by omega)), gB, List.getElem?_eq_getElem hlt, aC, iE (x := (s[k].toNat : Int)) (by omega), hd, aC, hbw, aC, iE (x := (k : Int) + 1) (by omega)];exact hih
theorem VQ (N : Nat) {s : List UInt8} (hs : s.length ≤ 16777216) (hN : 100 ≤ N ∧ s.length < N) : vU N s = some (yV (pV 2 (8 * s.length) (D1 s s.length))) := by
 unfold vU;exact VP N hN.1 hs (fun x : List UInt8 × Int => some x.1) s.length 0 N (by omega) (by omega)
def rm (n : Nat) : Nat := if 0 < n then 2 ^ (15 - n) else 0
theorem WY (n : Nat) : rm n ≤ 16384 := by
 unfold rm
 split
 ·exact Nat.le_trans (Nat.pow_le_pow_right (by decide) (show 15 - n ≤ 14 by omega)) (by decide)
 ·omega
def Fq (l : List Int) : Nat := (l.map fun e => rm e.toNat).sum
theorem Ha (e : Int) (l : List Int) : Fq (e :: l) = rm e.toNat + Fq l := by simp [Fq]
def Fx (e : Int) : Bool := decide (0 ≤ e ∧ e ≤ 15)
def lO (l : List Int) : Int := if l.length < 1 ∨ 17 < l.length then 2 else if l.all Fx = true then (if Fq l = 0 ∨ 32768 < Fq l then 1 else 0) else 3
theorem TC {e : Int} (h : 0 < e) (h2 : e ≤ 15) : rE .i64 1 (IntKind.i64.wrap (15 - e)) = ((rm e.toNat : Nat) : Int) ∧ nn (IntKind.i64.wrap (15 - e)) = some () := by
 have h0 : IntKind.i64.wrap (15 - e) = ((15 - e.toNat : Nat) : Int) := by rw [iE (by omega)]; omega
 rw [h0, DN (by omega), zJ, rm, if_pos (by omega)];exact ⟨rfl, rfl⟩
theorem TD (N : Nat) {l : List Int} (hl : l.length ≤ 17) (kk) : ∀ (j k fuel : Nat) (room : Int), k + j = l.length → j < fuel → -1000000 - 16384 * (k : Int) ≤ room ∧ room ≤ 1000000 →
  qD N l kk fuel (room, (k : Int)) = if (l.drop k).all Fx = true then kk (room - (Fq (l.drop k) : Nat), (l.length : Int)) else some 3 := by
 intro j
 induction j with
 | zero =>
  intro k fuel room hk hf hr;obtain ⟨fuel, rfl⟩ := mN fuel (by omega);obtain rfl : k = l.length := by omega
  unfold qD;rw [cF (dF (by omega)), List.drop_length, if_pos (by rfl), show Fq ([] : List Int) = 0 by rfl]
  simp
 | succ j ih =>
  intro k fuel room hk hf hr;obtain ⟨fuel, rfl⟩ := mN fuel (by omega);have hlt : k < l.length := by omega
  have hnx : IntKind.i64.wrap ((k : Int) + 1) = ((k + 1 : Nat) : Int) := by rw [iE (by omega)]; rfl
  rw [List.drop_eq_getElem_cons hlt, List.all_cons, Ha];unfold qD;rw [cT (dT (by omega)), gB, List.getElem?_eq_getElem hlt, aC]
  by_cases h0 : l[k] < 0
  ·rw [cT (dT h0), if_neg];rw [show Fx l[k] = false from dF (by omega)]; simp
  ·rw [cF (dF h0)]
   by_cases h1 : 15 < l[k]
   ·rw [cT (dT h1), if_neg];rw [show Fx l[k] = false from dF (by omega)]; simp
   ·rw [cF (dF h1), show Fx l[k] = true from dT (by omega), Bool.true_and]
    by_cases h2 : 0 < l[k]
    ·obtain ⟨e1, e2⟩ := TC h2 (by omega);have hr2 := WY l[k].toNat;rw [cT (dT h2), e2, aC, aC, e1, iE (x := room - _) (by omega), hnx, ih (k + 1) fuel _ (by omega) (by omega) (by omega)]
     congr 2
     rw [Prod.mk.injEq]; exact ⟨by omega, rfl⟩
    ·rw [cF (dF h2), hnx, ih (k + 1) fuel _ (by omega) (by omega) (by omega), show rm l[k].toNat = 0 by rw [rm, if_neg (by omega)], Nat.zero_add]
theorem DO (N : Nat) (hN : 100 ≤ N) (l : List Int) : tV N l = some (lO l) := by
 unfold tV lO
 by_cases h1 : l.length < 1
 ·rw [cT (dT (by omega)), if_pos (.inl h1)]
 rw [cF (dF (by omega))]
 by_cases h2 : 17 < l.length
 ·rw [cT (dT (by omega)), if_pos (.inr h2)]
 rw [cF (dF (by omega)), if_neg (by omega)];have key := TD N (l := l) (by omega) (fun (KZ, i2) => cond (decide (KZ < 0)) (some 1) (cond (decide (KZ = 32768)) (some 1) (some 0))) l.length 0 N 32768 (by omega) (by omega) (by omega);rw [List.drop_zero] at key;refine Eq.trans key ?_
 by_cases h3 : l.all Fx = true
 ·rw [if_pos h3, if_pos h3]
  dsimp only
  by_cases h4 : 32768 < Fq l
  ·rw [cT (dT (by omega)), if_pos (.inr h4)]
  ·rw [cF (dF (by omega))]
   by_cases h5 : Fq l = 0
   ·rw [cT (dT (by omega)), if_pos (.inl h5)]
   ·rw [cF (dF (by omega)), if_neg (by omega)]
 ·rw [if_neg h3, if_neg h3]
theorem Nx (N : Nat) {l : List Int} (hl : l.length ≤ 17) (kk) : ∀ (j k fuel : Nat) (sum : Nat) (used : Bool), k + j = l.length → j < fuel → sum ≤ 1000000 + 16384 * k →
  iH N l kk fuel ((sum : Int), used, (k : Int)) = if (l.drop k).all Fx = true then kk (((sum + Fq (l.drop k) : Nat) : Int), used || decide (0 < Fq (l.drop k)), (l.length : Int)) else some 3 := by
 intro j
 induction j with
 | zero =>
  intro k fuel sum used hk hf hr;obtain ⟨fuel, rfl⟩ := mN fuel (by omega);obtain rfl : k = l.length := by omega
  unfold iH;rw [cF (dF (by omega)), List.drop_length, if_pos (by rfl), show Fq ([] : List Int) = 0 by rfl]
  simp
 | succ j ih =>
  intro k fuel sum used hk hf hr;obtain ⟨fuel, rfl⟩ := mN fuel (by omega);have hlt : k < l.length := by omega
  have hnx : IntKind.i64.wrap ((k : Int) + 1) = ((k + 1 : Nat) : Int) := by rw [iE (by omega)]; rfl
  rw [List.drop_eq_getElem_cons hlt, List.all_cons, Ha];unfold iH;rw [cT (dT (by omega)), gB, List.getElem?_eq_getElem hlt, aC, t6, aC]
  by_cases h0 : 0 ≤ l[k] ∧ l[k] ≤ 15
  ·rw [show Fx l[k] = true from dT h0, cF (by rw [dT h0]; rfl), aC, Bool.true_and]
   by_cases h2 : 0 < l[k]
   ·obtain ⟨e1, e2⟩ := TC h2 (by omega);have hr2 := WY l[k].toNat;have hpos : 0 < rm l[k].toNat := by rw [rm, if_pos (by omega)]; exact Nat.two_pow_pos _
    rw [cT (dT h2), aC, e2, aC, aC, e1, hnx, aC, iE (x := (sum : Int) + _) (by omega), show ((sum : Int) + (rm l[k].toNat : Nat)) = ((sum + rm l[k].toNat : Nat) : Int) by omega, ih (k + 1) fuel _ _ (by omega) (by omega) (by omega)];rw [Bool.true_or, dT (show 0 < rm l[k].toNat + Fq (l.drop (k + 1)) by omega), Bool.or_true, Nat.add_assoc]
   ·rw [cF (dF h2), hnx, aC, ih (k + 1) fuel _ _ (by omega) (by omega) (by omega), show rm l[k].toNat = 0 by rw [rm, if_neg (by omega)], Nat.zero_add]
  ·rw [show Fx l[k] = false from dF h0, cT (by rw [dF h0]; rfl), if_neg (by simp)]
theorem Hb (N : Nat) (hN : 100 ≤ N) (l : List Int) : iK N l = some (lO l) := by
 unfold iK lO;rw [t6, aC]
 by_cases h1 : l.length < 1 ∨ 17 < l.length
 ·rw [cT (by rw [dF (by omega)]; rfl), if_pos h1]
 rw [cF (by rw [dT (by omega)]; rfl), if_neg h1];have key := Nx N (l := l) (by omega) (fun (VC, PW, i6) => cond (!(PW)) (some 1) (cond (decide (32768 < VC)) (some 1) (some 0))) l.length 0 N 0 false (by omega) (by omega) (by omega);rw [List.drop_zero] at key;refine Eq.trans key ?_
 by_cases h3 : l.all Fx = true
 ·rw [if_pos h3, if_pos h3]
  dsimp only
  rw [Bool.false_or]
  by_cases h5 : Fq l = 0
  ·rw [cT (by rw [dF (by omega)]; rfl), if_pos (.inl h5)]
  ·rw [cF (by rw [dT (by omega)]; rfl)]
   by_cases h4 : 32768 < Fq l
   ·rw [cT (dT (by omega)), if_pos (.inr h4)]
   ·rw [cF (dF (by omega)), if_neg (by omega)]
 ·rw [if_neg h3, if_neg h3]
def ky (ns : List Nat) (i : Nat) : Nat := ns.getD i 0
def tot (ns o : List Nat) : Nat := (o.map fun i => 2 ^ (15 - ky ns i)).sum
def Sq (S n : Nat) : List UInt8 := yV (pV 2 n (S / 2 ^ (15 - n)))
def P7 (ns : List Nat) (st : List (List UInt8) × Nat) (i : Nat) : List (List UInt8) × Nat := (st.1.set i (Sq st.2 (ky ns i)), st.2 + 2 ^ (15 - ky ns i))
theorem P8 (ns : List Nat) : tot ns [] = 0 := rfl
theorem tN (ns : List Nat) (i : Nat) (o : List Nat) : tot ns (i :: o) = 2 ^ (15 - ky ns i) + tot ns o := by simp [tot]
theorem Av (ns o p : List Nat) : tot ns (o ++ p) = tot ns o + tot ns p := by simp [tot]
theorem Fj (ns : List Nat) : ∀ (o : List Nat) (st : List (List UInt8) × Nat), (o.foldl (P7 ns) st).1.length = st.1.length
 | [], _ => rfl
 | i :: o, st => by rw [List.foldl_cons, Fj ns o]; simp [P7]
theorem LZ (ns : List Nat) : ∀ (o : List Nat) (st : List (List UInt8) × Nat), (o.foldl (P7 ns) st).2 = st.2 + tot ns o
 | [], _ => rfl
 | i :: o, st => by rw [List.foldl_cons, LZ ns o, tN]; simp [P7]; omega
section
variable {ns : List Nat} (hn : ∀ n ∈ ns, n ≤ 15) (hl : ns.length ≤ 17)
theorem Jt {i : Nat} (h : i < ns.length) : idx (pW ns) (i : Int) = some ((ky ns i : Nat) : Int) := IM h
include hn in
theorem HM (i : Nat) : ky ns i ≤ 15 := by
 unfold ky;rw [List.getD_eq_getElem?_getD]
 by_cases h : i < ns.length
 ·rw [List.getElem?_eq_getElem h]; exact hn _ (List.getElem_mem h)
 ·rw [List.getElem?_eq_none (by omega)]; exact Nat.zero_le _
theorem aA1 (n : Nat) : 2 ^ (15 - n) ≤ 32768 := Nat.le_trans (Nat.pow_le_pow_right (by decide) (show 15 - n ≤ 15 by omega)) (by decide)
include hn hl in
theorem TE (N : Nat) (hN : 100 ≤ N) (o : List Nat) (ho : ∀ i ∈ o, i < ns.length) (hol : o.length ≤ 17) (kk) : ∀ (j k fuel : Nat) (out : List (List UInt8)) (S : Nat), k + j = o.length → j < fuel → out.length = ns.length → S + tot ns (o.drop k) ≤ 32768 →
  oN N (pW ns) (pW o) kk fuel (out, (S : Int), (k : Int)) = kk (((o.drop k).foldl (P7 ns) (out, S)).1, ((S + tot ns (o.drop k) : Nat) : Int), (o.length : Int)) := by
 intro j
 induction j with
 | zero =>
  intro k fuel out S hk hf hout hS;obtain ⟨fuel, rfl⟩ := mN fuel (by omega);obtain rfl : k = o.length := by omega
  unfold oN;rw [cF (dF (by rw [iN]; omega)), List.drop_length]; rfl
 | succ j ih =>
  intro k fuel out S hk hf hout hS;obtain ⟨fuel, rfl⟩ := mN fuel (by omega);have hlt : k < o.length := by omega
  have hi : o[k] < ns.length := ho _ (List.getElem_mem hlt);have aE6 := HM hn o[k];rw [List.drop_eq_getElem_cons hlt, tN] at hS ⊢;have hp := aA1 (ky ns o[k]);have hp0 := Nat.two_pow_pos (15 - ky ns o[k]);have ZS : IntKind.i64.wrap (15 - (ky ns o[k] : Nat)) = ((15 - ky ns o[k] : Nat) : Int) := by rw [iE (by omega)]; omega
  have hget : idx (pW o) (k : Int) = some ((o[k] : Nat) : Int) := by rw [IM hlt, List.getD_eq_getElem?_getD, List.getElem?_eq_getElem hlt]; rfl
  have aEe : vW ((S / 2 ^ (15 - ky ns o[k]) : Nat) : Int) ((ky ns o[k] : Nat) : Int) = 0 := by
   have : S / 2 ^ (15 - ky ns o[k]) < 2 ^ ky ns o[k] := by
    refine Nat.div_lt_of_lt_mul ?_;rw [← Nat.pow_add, show 15 - ky ns o[k] + ky ns o[k] = 15 by omega];show S < 32768
    omega
   unfold vW;rw [if_pos (by omega), Int.toNat_natCast, if_pos ⟨Int.natCast_nonneg _, Int.ofNat_lt.2 this⟩]
  have hset : ∀ v, xX out (o[k] : Int) v = some (out.set o[k] v) := fun v => by rw [Fg (by omega), Int.toNat_natCast]
  have hio : ∃ e, idx out (o[k] : Int) = some e := by rw [gB]; exact ⟨_, List.getElem?_eq_getElem (by omega)⟩
  obtain ⟨e, he⟩ := hio;have hnx : IntKind.i64.wrap ((k : Int) + 1) = ((k + 1 : Nat) : Int) := by rw [iE (by omega)]; rfl
  have hih := ih (k + 1) fuel (out.set o[k] (Sq S (ky ns o[k]))) (S + 2 ^ (15 - ky ns o[k])) (by omega) (by omega) (by rw [List.length_set]; exact hout) (by omega);unfold oN;rw [cT (dT (by rw [iN]; omega)), hget, aC, Jt hi, aC, ZS, zJ, aC, aC, II (by omega), Nw N hN, if_pos aEe, aC, he, aC, hset, aC, aC, ZS, zJ, aC, DN (by omega), iE (x := (S : Int) + _) (by omega), aC, hnx, Int.toNat_natCast, Int.toNat_natCast, show (S : Int) + ((2 ^ (15 - ky ns o[k]) : Nat) : Int) = ((S + 2 ^ (15 - ky ns o[k]) : Nat) : Int) by omega];refine Eq.trans hih ?_;rw [List.foldl_cons, Nat.add_assoc]
  rfl
def pos (ns : List Nat) (i : Nat) : Bool := decide (0 < ky ns i)
include hl in
theorem TF (N : Nat) (kk) : ∀ (j k fuel : Nat) (A : List Nat), k + j = ns.length → j < fuel → A.length ≤ k →
  qG N (pW ns) kk fuel (pW A, (k : Int)) = kk (pW (A ++ (List.range' k j).filter (pos ns)), (ns.length : Int)) := by
 intro j
 induction j with
 | zero =>
  intro k fuel A hk hf hA;obtain ⟨fuel, rfl⟩ := mN fuel (by omega);obtain rfl : k = ns.length := by omega
  unfold qG;rw [cF (dF (by rw [iN]; omega))]; simp
 | succ j ih =>
  intro k fuel A hk hf hA;obtain ⟨fuel, rfl⟩ := mN fuel (by omega);have hlt : k < ns.length := by omega
  have hnx : IntKind.i64.wrap ((k : Int) + 1) = ((k + 1 : Nat) : Int) := by rw [iE (by omega)]; rfl
  unfold qG;rw [cT (dT (by rw [iN]; omega)), Jt hlt, aC, List.range'_succ]
  by_cases h : 0 < ky ns k
  ·have happ : app 8 (pW A) ([(k : Int)] : List Int) = some (pW (A ++ [k])) := by
    rw [kY (by rw [iN]; simp; omega), DM]; rfl
   rw [cT (dT (by omega)), happ, aC, hnx, ih (k + 1) fuel _ (by omega) (by omega) (by simp; omega), List.filter_cons, if_pos (show pos ns k = true from dT h), List.append_assoc]
   rfl
  ·rw [cF (dF (by omega)), hnx, ih (k + 1) fuel _ (by omega) (by omega) (by omega), List.filter_cons, if_neg (by rw [show pos ns k = false from dF h]; simp)]
def Kv (f : Nat → Nat) (x : Nat) : List Nat → List Nat → List Nat
 | [], B => x :: B
 | y :: A, B => if f x < f y then Kv f x A (y :: B) else (y :: A).reverse ++ x :: B
theorem P9 (f : Nat → Nat) (x : Nat) : ∀ A B C, Kv f x A (B ++ C) = Kv f x A B ++ C
 | [], B, C => rfl
 | y :: A, B, C => by
  unfold Kv
  split
  ·rw [← List.cons_append, P9 f x A]
  ·simp
theorem Qa (f : Nat → Nat) (x : Nat) : ∀ A B, (Kv f x A B).length = A.length + B.length + 1
 | [], B => by simp [Kv]
 | y :: A, B => by
  unfold Kv
  split
  ·rw [Qa f x A]; simp; omega
  ·simp; omega
theorem Ny (f : Nat → Nat) (x : Nat) (A1 : List Nat) (h1 : ∀ y ∈ A1, f y ≤ f x) : ∀ (R : List Nat) (B : List Nat), (∀ y ∈ R, f x < f y) → Kv f x (R ++ A1.reverse) B = A1 ++ x :: (R.reverse ++ B)
 | [], B, _ => by
  rcases hA : A1.reverse with _ | ⟨y, A⟩
  ·have : A1 = [] := by simpa using hA
   subst this; rfl
  ·have hy : f y ≤ f x := h1 y (by rw [← List.mem_reverse, hA]; simp);rw [List.nil_append];unfold Kv;rw [if_neg (by omega), ← hA, List.reverse_reverse]; rfl
 | y :: R, B, h => by
  have hy := h y (by simp);show Kv f x (y :: (R ++ A1.reverse)) B = _;unfold Kv;rw [if_pos hy, Ny f x A1 h1 R (y :: B) (fun z hz => h z (by simp [hz]))]
  simp
theorem cmp_eq (N : Nat) {a b : Nat} (ha : a < ns.length) (hb : b < ns.length) : vF N (a : Int) (b : Int) (pW ns) = some (if ky ns a < ky ns b then -1 else if ky ns b < ky ns a then 1 else 0) := by
 unfold vF;rw [Jt ha, aC, Jt hb, aC];unfold uW uA;rw [aC, aC, cF (by simp), cF (by simp)]
 by_cases h1 : ky ns a < ky ns b
 ·rw [cT (dT (by omega)), if_pos h1]; rfl
 ·rw [cF (dF (by omega)), if_neg h1]
  by_cases h2 : ky ns b < ky ns a
  ·rw [cT (dT (by omega)), if_pos h2]; rfl
  ·rw [cF (dF (by omega)), if_neg h2]; rfl
theorem O9 {A : List Nat} {i x : Nat} (h : A[i]? = some x) : idx (pW A) (i : Int) = some (x : Int) := by
 rw [gB, pW, List.getElem?_map, h]; rfl
theorem TG (N : Nat) (kk : List Int × Int → Option (List (List UInt8) × Int)) (r) (x : Nat) (hx : x < ns.length) : ∀ (A B : List Nat) (fuel : Nat), (∀ y ∈ A, y < ns.length) → A.length ≤ 1000 → A.length < fuel → (∀ j, kk (pW (Kv (ky ns) x A B), j) = r) →
  sA N (pW ns) kk fuel (pW (A.reverse ++ x :: B), (A.length : Int)) = r := by
 intro A
 induction A with
 | nil =>
  intro B fuel hA hA2 hf hk;obtain ⟨fuel, rfl⟩ : ∃ m, fuel = m + 1 := ⟨fuel - 1, by simp at hf; omega⟩
  unfold sA;rw [cF (dF (by simp))];exact hk _
 | cons y A ih =>
  intro B fuel hA hA2 hf hk;simp only [List.length_cons] at hf hA2;obtain ⟨fuel, rfl⟩ := mN fuel (by omega);have hy : y < ns.length := hA y (by simp);have g1 : ∀ u v : Nat, (A.reverse ++ u :: v :: B)[A.length]? = some u := fun u v => by rw [List.getElem?_append_right (by simp)]; simp
  have g2 : ∀ u v : Nat, (A.reverse ++ u :: v :: B)[A.length + 1]? = some v := fun u v => by rw [List.getElem?_append_right (by simp)]; simp
  have eq : (y :: A).reverse ++ x :: B = A.reverse ++ y :: x :: B := by simp
  have hm1 : IntKind.i64.wrap (((A.length + 1 : Nat) : Int) - 1) = (A.length : Int) := by rw [iE (by omega)]; omega
  rw [List.length_cons, eq];unfold sA;rw [cT (dT (by omega)), O9 (g2 y x), aC, hm1, O9 (g1 y x), aC, cmp_eq N hx hy, aC];unfold Kv at hk
  by_cases h : ky ns x < ky ns y
  ·rw [if_pos h] at hk
   have s1 : xX (pW (A.reverse ++ y :: x :: B)) (((A.length + 1 : Nat) : Int)) ((y : Nat) : Int) = some (pW (A.reverse ++ y :: y :: B)) := by
    rw [Fg (by rw [iN]; simp; omega), Int.toNat_natCast, ← IL]
    congr 2
    rw [List.set_append, if_neg (by simp)]; simp
   have s2 : xX (pW (A.reverse ++ y :: y :: B)) ((A.length : Nat) : Int) ((x : Nat) : Int) = some (pW (A.reverse ++ x :: y :: B)) := by
    rw [Fg (by rw [iN]; simp; omega), Int.toNat_natCast, ← IL]
    congr 2
    rw [List.set_append, if_neg (by simp)]; simp
   rw [if_pos h, cT (by decide), aC, aC, aC, s1, aC, O9 (g1 y y), aC, s2, aC, aC];exact ih (y :: B) fuel (fun z hz => hA z (by simp [hz])) (by omega) (by omega) hk
  ·rw [if_neg h] at hk;rw [if_neg h, cF (by split <;> decide), ← eq];exact hk _
def L0 (f : Nat → Nat) (o : List Nat) : List Nat := o.foldl (fun A x => Kv f x A.reverse []) []
theorem Nz (f : Nat → Nat) (o : List Nat) (x : Nat) : L0 f (o ++ [x]) = Kv f x (L0 f o).reverse [] := by simp [L0]
theorem Qb (f : Nat → Nat) (o : List Nat) : (L0 f o).length = o.length := by
 have : ∀ (o A : List Nat), (o.foldl (fun A x => Kv f x A.reverse []) A).length = A.length + o.length := by
  intro o
  induction o with
  | nil => intro A; rfl
  | cons x o ih => intro A; rw [List.foldl_cons, ih, Qa]; simp; omega
 rw [L0, this]; simp
end
section
variable {ns : List Nat} (hn : ∀ n ∈ ns, n ≤ 15) (hl : ns.length ≤ 17)
theorem TH (N : Nat) (hN : 100 ≤ N) (kk : List Int × Int × Int → Option (List (List UInt8) × Int)) (r) {o : List Nat} (ho : ∀ i ∈ o, i < ns.length) (hol : o.length ≤ 17) (hk : ∀ b j, kk (pW (L0 (ky ns) o), b, j) = r) : ∀ (j k fuel : Nat), k + j = o.length → j < fuel →
  nM N (pW ns) kk fuel (pW (L0 (ky ns) (o.take k) ++ o.drop k), (o.length : Int), (k : Int)) = r := by
 intro j
 induction j with
 | zero =>
  intro k fuel hkj hf;obtain ⟨fuel, rfl⟩ := mN fuel (by omega);obtain rfl : k = o.length := by omega
  unfold nM;rw [cF (dF (by omega)), List.take_length, List.drop_length, List.append_nil];exact hk _ _
 | succ j ih =>
  intro k fuel hkj hf;obtain ⟨fuel, rfl⟩ := mN fuel (by omega);have hlt : k < o.length := by omega
  have hnx : IntKind.i64.wrap ((k : Int) + 1) = ((k + 1 : Nat) : Int) := by rw [iE (by omega)]; rfl
  have hih := ih (k + 1) fuel (by omega) (by omega);have htk : o.take (k + 1) = o.take k ++ [o[k]] := by rw [List.take_add_one, List.getElem?_eq_getElem hlt]; rfl
  rw [htk, Nz] at hih;have hlen : (L0 (ky ns) (o.take k)).length = k := by rw [Qb, List.length_take]; omega
  have hmem : ∀ y ∈ L0 (ky ns) (o.take k), y < ns.length := fun y hy => by
   refine ho y (List.mem_of_mem_take (i := k) ?_)
   have key : ∀ (p A : List Nat), (∀ z ∈ A, z ∈ o.take k) → (∀ z ∈ p, z ∈ o.take k) → ∀ z ∈ p.foldl (fun A x => Kv (ky ns) x A.reverse []) A, z ∈ o.take k := by
    intro p
    induction p with
    | nil => intro A hA _ z hz; exact hA z hz
    | cons x p ihp =>
     intro A hA hp z hz;rw [List.foldl_cons] at hz;refine ihp _ ?_ (fun z hz => hp z (by simp [hz])) z hz;intro u hu
     have sub : ∀ (R B : List Nat), ∀ z ∈ Kv (ky ns) x R B, z ∈ R ∨ z = x ∨ z ∈ B := by
      intro R
      induction R with
      | nil => intro B z hz; simp [Kv] at hz; rcases hz with rfl | hz; exact .inr (.inl rfl); exact .inr (.inr hz)
      | cons q R ihR =>
       intro B z hz;unfold Kv at hz
       split at hz
       ·rcases ihR _ z hz with h | h | h
        ·exact .inl (by simp [h])
        ·exact .inr (.inl h)
        ·rcases List.mem_cons.1 h with rfl | h
         ·exact .inl (by simp)
         ·exact .inr (.inr h)
       ·simp at hz
        rcases hz with h | h | h | h
        ·exact .inl (by simp [h])
        ·exact .inl (by simp [h])
        ·exact .inr (.inl h)
        ·exact .inr (.inr h)
     rcases sub _ _ u hu with h | h | h
     ·exact hA u (by simpa using h)
     ·subst h; exact hp u (by simp)
     ·cases h
   exact key (o.take k) [] (fun z hz => by cases hz) (fun z hz => hz) y hy
  unfold nM;rw [cT (dT (by omega)), List.drop_eq_getElem_cons hlt]
  have h3 := TG (ns := ns) N (fun (l22, j9) => Option.bind (some (IntKind.i64.wrap ((k : Int) + 1))) fun i6 => nM N (pW ns) kk fuel (l22, (o.length : Int), i6)) r o[k] (ho _ (List.getElem_mem hlt)) (L0 (ky ns) (o.take k)).reverse (o.drop (k + 1)) N (fun y hy => hmem y (by simpa using hy)) (by simp; omega) (by simp; omega) (fun q => by
   show (Option.bind (some (IntKind.i64.wrap ((k : Int) + 1))) fun i6 => nM N (pW ns) kk fuel (pW (Kv (ky ns) o[k] (L0 (ky ns) (o.take k)).reverse (o.drop (k + 1))), (o.length : Int), i6)) = r;rw [hnx, aC];have e := P9 (ky ns) o[k] (L0 (ky ns) (o.take k)).reverse [] (o.drop (k + 1));rw [List.nil_append] at e;rw [e]
   exact hih)
  rw [List.reverse_reverse, List.length_reverse, hlen] at h3;exact h3
def xE (f : Nat → Nat) (o : List Nat) : List Nat := (List.range' 1 15).flatMap fun s => o.filter fun i => decide (f i = s)
theorem Ld (f : Nat → Nat) (o : List Nat) {x : Nat} (hx : 1 ≤ f x ∧ f x ≤ 15) : ∃ A1 A2, xE f o = A1 ++ A2 ∧ xE f (o ++ [x]) = A1 ++ x :: A2 ∧ (∀ y ∈ A1, f y ≤ f x) ∧ ∀ y ∈ A2, f x < f y := by
 have hsp : List.range' 1 15 = List.range' 1 (f x - 1) ++ (f x :: List.range' (f x + 1) (15 - f x)) := by
  have h1 : List.range' 1 (f x - 1) ++ List.range' (1 + (f x - 1)) (15 - (f x - 1)) = List.range' 1 15 := by
   have := List.range'_append (s := 1) (m := f x - 1) (n := 15 - (f x - 1)) (step := 1);rw [Nat.one_mul] at this;rw [this]; congr 1; omega
  rw [← h1, show 1 + (f x - 1) = f x by omega, show 15 - (f x - 1) = (15 - f x) + 1 by omega, List.range'_succ]
 have hne : ∀ L : List Nat, (∀ s ∈ L, s ≠ f x) → (L.flatMap fun s => (o ++ [x]).filter fun i => decide (f i = s)) = L.flatMap fun s => o.filter fun i => decide (f i = s) := by
  intro L hL
  induction L with
  | nil => rfl
  | cons s L ih =>
   rw [List.flatMap_cons, List.flatMap_cons, ih (fun s hs => hL s (by simp [hs])), List.filter_append]
   congr 1
   rw [List.filter_cons, if_neg (by simpa using fun h => hL s (by simp) h.symm)]; simp
 refine ⟨((List.range' 1 (f x - 1)).flatMap fun s => o.filter fun i => decide (f i = s)) ++ o.filter (fun i => decide (f i = f x)), (List.range' (f x + 1) (15 - f x)).flatMap (fun s => o.filter fun i => decide (f i = s)), ?_, ?_, ?_, ?_⟩
 ·unfold xE; rw [hsp, List.flatMap_append, List.flatMap_cons, List.append_assoc]
 ·unfold xE;rw [hsp, List.flatMap_append, List.flatMap_cons, hne _ (fun s hs => by have := (List.mem_range'_1.1 hs); omega), hne _ (fun s hs => by have := (List.mem_range'_1.1 hs); omega), List.filter_append, List.filter_cons, if_pos (by simp)]
  simp
 ·intro y hy
  rcases List.mem_append.1 hy with h | h
  ·obtain ⟨s, hs, h⟩ := List.mem_flatMap.1 h;have h1 := List.mem_range'_1.1 hs;have h2 := (List.mem_filter.1 h).2
   simp at h2
   omega
  ·have h2 := (List.mem_filter.1 h).2
   simp at h2
   omega
 ·intro y hy;obtain ⟨s, hs, h⟩ := List.mem_flatMap.1 hy;have h1 := List.mem_range'_1.1 hs;have h2 := (List.mem_filter.1 h).2
  simp at h2
  omega
theorem NA {P : List Nat → Prop} (o : List Nat) (h0 : P []) (hs : ∀ k (hk : k < o.length), P (o.take k) → P (o.take k ++ [o[k]])) : P o := by
 have : ∀ k, k ≤ o.length → P (o.take k) := by
  intro k
  induction k with
  | zero => intro _; exact h0
  | succ k ih =>
   intro hk;have := hs k (by omega) (ih (by omega))
   rwa [show o.take k ++ [o[k]] = o.take (k + 1) by rw [List.take_add_one, List.getElem?_eq_getElem (by omega)]; rfl] at this
 have := this o.length (Nat.le_refl _)
 rwa [List.take_length] at this
theorem TI (f : Nat → Nat) : xE f [] = [] := by
 unfold xE;rw [List.flatMap_eq_nil_iff];intro s _; rfl
theorem VR (f : Nat → Nat) (o : List Nat) (ho : ∀ x ∈ o, 1 ≤ f x ∧ f x ≤ 15) : L0 f o = xE f o := by
 refine NA (P := fun p => L0 f p = xE f p) o ?_ fun k hk ih => ?_
 ·show ([] : List Nat) = _;unfold xE;rw [eq_comm, List.flatMap_eq_nil_iff];intro s _; rfl
 ·obtain ⟨A1, A2, h1, h2, h3, h4⟩ := Ld f (o.take k) (ho _ (List.getElem_mem hk));have := Ny f o[k] A1 h3 A2.reverse [] (fun y hy => h4 y (by simpa using hy));show L0 f (o.take k ++ [o[k]]) = xE f (o.take k ++ [o[k]]);rw [Nz, h2, show L0 f (o.take k) = xE f (o.take k) from ih, h1, List.reverse_append, this]
  simp
theorem L1 (o : List Nat) (ho : ∀ x ∈ o, 1 ≤ ky ns x ∧ ky ns x ≤ 15) : tot ns (xE (ky ns) o) = tot ns o := by
 refine NA (P := fun p => tot ns (xE (ky ns) p) = tot ns p) o ?_ fun k hk ih => ?_
 ·show tot ns (xE (ky ns) []) = tot ns [];rw [TI]
 ·obtain ⟨A1, A2, h1, h2, h3, h4⟩ := Ld (ky ns) (o.take k) (ho _ (List.getElem_mem hk));have ih' : tot ns (xE (ky ns) (o.take k)) = tot ns (o.take k) := ih;show tot ns (xE (ky ns) (o.take k ++ [o[k]])) = tot ns (o.take k ++ [o[k]]);rw [h2, Av, tN, Av, ← ih', h1, Av, tN, P8]
  omega
def ups (ns : List Nat) (k j : Nat) : List Nat := (List.range' k j).filter (pos ns)
theorem TJ : ∀ (j k : Nat), k + j = ns.length → Fq ((pW ns).drop k) = tot ns (ups ns k j) := by
 intro j
 induction j with
 | zero =>
  intro k hk;rw [List.drop_eq_nil_iff.2 (by rw [iN]; omega)]; rfl
 | succ j ih =>
  intro k hk;have hlt : k < (pW ns).length := by rw [iN]; omega
  have hv : (pW ns)[k].toNat = ky ns k := by
   have := IM (l := ns) (i := k) (by omega);rw [gB, List.getElem?_eq_getElem hlt] at this;rw [Option.some.inj this, Int.toNat_natCast]; rfl
  rw [List.drop_eq_getElem_cons hlt, Ha, ih (k + 1) (by omega), hv];unfold ups;rw [List.range'_succ, List.filter_cons]
  by_cases h : 0 < ky ns k
  ·rw [if_pos (show pos ns k = true from dT h), tN, rm, if_pos h]
  ·rw [if_neg (by rw [show pos ns k = false from dF h]; simp), rm, if_neg h, Nat.zero_add]
theorem L2 (k j : Nat) : xE (ky ns) (ups ns k j) = xE (ky ns) (List.range' k j) := by
 unfold xE ups
 have : ∀ L : List Nat, (∀ s ∈ L, 1 ≤ s) → (L.flatMap fun s => ((List.range' k j).filter (pos ns)).filter fun i => decide (ky ns i = s)) = L.flatMap fun s => (List.range' k j).filter fun i => decide (ky ns i = s) := by
  intro L hL
  induction L with
  | nil => rfl
  | cons s L ih =>
   rw [List.flatMap_cons, List.flatMap_cons, ih (fun s hs => hL s (by simp [hs])), List.filter_filter]
   congr 1
   refine List.filter_congr fun i _ => ?_
   have := hL s (by simp);unfold pos
   by_cases h : ky ns i = s
   ·rw [dT h, dT (by omega)]; rfl
   ·rw [dF h]; rfl
 exact this _ fun s hs => (List.mem_range'_1.1 hs).1
theorem IN {k j i : Nat} (h : i ∈ ups ns k j) : k ≤ i ∧ i < k + j ∧ 0 < ky ns i := by
 obtain ⟨h1, h2⟩ := List.mem_filter.1 h;have := List.mem_range'_1.1 h1;exact ⟨this.1, this.2, of_decide_eq_true h2⟩
def wK (ns : List Nat) : List (List UInt8) := ((xE (ky ns) (List.range' 0 ns.length)).foldl (P7 ns) (List.replicate ns.length [], 0)).1
end
section
variable {ns : List Nat} (hn : ∀ n ∈ ns, n ≤ 15) (hl : ns.length ≤ 17)
include hn hl in
theorem YF (N : Nat) (hN : 100 ≤ N) {size : Nat} (hs : 1 ≤ size ∧ size ≤ 15) (kk : List (List UInt8) × Int × Int × Int → Option (List (List UInt8))) (r) : ∀ (j k fuel : Nat) (out : List (List UInt8)) (S nx la : Nat), k + j = ns.length → j < fuel → out.length = ns.length → la ≤ size → S = nx * 2 ^ (15 - la) → S + tot ns ((List.range' k j).filter fun i => decide (ky ns i = size)) ≤ 32768 →
  (∀ nx' la' : Nat, la' ≤ size → ∀ i' : Int, (((List.range' k j).filter fun i => decide (ky ns i = size)).foldl (P7 ns) (out, S)).2 = nx' * 2 ^ (15 - la') → kk ((((List.range' k j).filter fun i => decide (ky ns i = size)).foldl (P7 ns) (out, S)).1, (nx' : Int), (la' : Int), i') = r) →
  iW N (pW ns) (size : Int) kk fuel (out, (nx : Int), (la : Int), (k : Int)) = r := by
 intro j
 induction j with
 | zero =>
  intro k fuel out S nx la hk hf hout hla hS hT hkk;obtain ⟨fuel, rfl⟩ := mN fuel (by omega);unfold iW;rw [cF (dF (by rw [iN]; omega))];exact hkk nx la hla _ hS
 | succ j ih =>
  intro k fuel out S nx la hk hf hout hla hS hT hkk;obtain ⟨fuel, rfl⟩ := mN fuel (by omega);have hlt : k < ns.length := by omega
  have hnx : IntKind.i64.wrap ((k : Int) + 1) = ((k + 1 : Nat) : Int) := by rw [iE (by omega)]; rfl
  unfold iW;rw [cT (dT (by rw [iN]; omega)), Jt hlt, aC];rw [List.range'_succ, List.filter_cons] at hT hkk
  by_cases h : ky ns k = size
  ·rw [if_pos (dT h)] at hT hkk;rw [tN, h] at hT;rw [List.foldl_cons] at hkk;have hp0 := Nat.two_pow_pos (15 - size);have hpw : 2 ^ (15 - la) = 2 ^ (size - la) * 2 ^ (15 - size) := by rw [← Nat.pow_add]; congr 1; omega
   have hdiv : S / 2 ^ (15 - size) = nx * 2 ^ (size - la) := by
    rw [hS, hpw, ← Nat.mul_assoc, Nat.mul_div_cancel _ hp0]
   have hle : nx * 2 ^ (size - la) ≤ 32768 := by rw [← hdiv]; exact Nat.le_trans (Nat.div_le_self _ _) (by omega)
   have hsub : IntKind.i64.wrap ((size : Int) - (la : Int)) = ((size - la : Nat) : Int) := by rw [iE (by omega)]; omega
   have hio : ∃ e, idx out (k : Int) = some e := by rw [gB]; exact ⟨_, List.getElem?_eq_getElem (by omega)⟩
   obtain ⟨e, he⟩ := hio;have hset : ∀ v, xX out (k : Int) v = some (out.set k v) := fun v => by rw [Fg (by omega), Int.toNat_natCast]
   rw [cF (by rw [dT (by omega)]; rfl), hsub, zJ, aC, BI (by omega) (by omega), aC, number_eq hN (by omega) (by omega), aC, he, aC, hset, aC, iE (x := ((nx * 2 ^ (size - la) : Nat) : Int) + 1) (by omega), aC, hnx, aC];have hw : Sq S size = yV (pV 2 size (nx * 2 ^ (size - la))) := by unfold Sq; rw [hdiv]
   have hst : P7 ns (out, S) k = (out.set k (yV (pV 2 size (nx * 2 ^ (size - la)))), S + 2 ^ (15 - size)) := by unfold P7; rw [h, hw]
   rw [hst] at hkk;refine ih (k + 1) fuel _ (S + 2 ^ (15 - size)) (nx * 2 ^ (size - la) + 1) size (by omega) (by omega) (by rw [List.length_set]; exact hout) (Nat.le_refl _) ?_ (by omega) hkk;rw [Nat.add_mul, Nat.one_mul, hS, hpw, Nat.mul_assoc]
  ·rw [if_neg (by rw [dF h]; simp)] at hT hkk;rw [cT (by rw [dF (by omega)]; rfl), hnx, aC];exact ih (k + 1) fuel out S nx la (by omega) (by omega) hout hla hS hT hkk
include hn hl in
theorem YG (N : Nat) (hN : 100 ≤ N) (kk : List (List UInt8) × Int × Int × Int → Option (List (List UInt8))) (r) : ∀ (j s fuel : Nat) (out : List (List UInt8)) (S nx la : Nat), s + j = 16 → 1 ≤ s → j < fuel → out.length = ns.length → la < s → S = nx * 2 ^ (15 - la) → S + tot ns ((List.range' s j).flatMap fun s => (List.range' 0 ns.length).filter fun i => decide (ky ns i = s)) ≤ 32768 →
  (∀ a b c, kk ((((List.range' s j).flatMap fun s => (List.range' 0 ns.length).filter fun i => decide (ky ns i = s)).foldl (P7 ns) (out, S)).1, a, b, c) = r) →
  kV N (pW ns) kk fuel (out, (nx : Int), (la : Int), (s : Int)) = r := by
 intro j
 induction j with
 | zero =>
  intro s fuel out S nx la hk h1 hf hout hla hS hT hkk;obtain ⟨fuel, rfl⟩ := mN fuel (by omega);unfold kV;rw [cF (dF (by omega))];exact hkk _ _ _
 | succ j ih =>
  intro s fuel out S nx la hk h1 hf hout hla hS hT hkk;obtain ⟨fuel, rfl⟩ := mN fuel (by omega);unfold kV;rw [cT (dT (by omega))];rw [List.range'_succ, List.flatMap_cons] at hT hkk;rw [Av] at hT;refine YF hn hl N hN (size := s) (by omega) _ r ns.length 0 N out S nx la (by omega) (by omega) hout (by omega) hS (by omega) fun nx' la' aE7 i' hS' => ?_
  dsimp only
  rw [iE (x := (s : Int) + 1) (by omega), aC, show (s : Int) + 1 = ((s + 1 : Nat) : Int) by rfl];have h2 := LZ ns ((List.range' 0 ns.length).filter fun i => decide (ky ns i = s)) (out, S);have h3 := Fj ns ((List.range' 0 ns.length).filter fun i => decide (ky ns i = s)) (out, S);refine ih (s + 1) fuel _ _ nx' la' (by omega) (by omega) (by omega) (h3.trans hout) (by omega) (h2.symm.trans hS') (by show S + _ + _ ≤ _; omega) fun a b c => ?_
  have := hkk a b c;rw [List.foldl_append] at this;rw [← this]
  congr 3
  rw [← h2]
include hn hl in
theorem Rw (N : Nat) (hN : 100 ≤ N) (hK : tot ns (ups ns 0 ns.length) ≤ 32768) : kX N (pW ns) = some (wK ns) := by
 unfold kX;rw [iN, aC, mk_eq (by omega), aC, Int.toNat_natCast]
 have ht : tot ns (xE (ky ns) (List.range' 0 ns.length)) ≤ 32768 := by
  rw [← L2, L1]
  ·exact hK
  ·intro x hx;exact ⟨(IN hx).2.2, HM hn x⟩
 exact YG hn hl N hN _ _ 15 1 N (List.replicate ns.length []) 0 0 0 (by omega) (by omega) (by omega) (by simp) (by omega) (by omega) (by rw [Nat.zero_add]; exact ht) (fun a b c => rfl)
include hn hl in
theorem Rx (N : Nat) (hN : 100 ≤ N) (hK : tot ns (ups ns 0 ns.length) ≤ 32768) (hP : 0 < tot ns (ups ns 0 ns.length)) (hc : lO (pW ns) = 0) : sD N (pW ns) = some (wK ns, 0) := by
 unfold sD;have aA2 : ∀ x ∈ ups ns 0 ns.length, 1 ≤ ky ns x ∧ ky ns x ≤ 15 := fun x hx => ⟨(IN hx).2.2, HM hn x⟩
 have hlen : (ups ns 0 ns.length).length ≤ 17 := by
  unfold ups;refine Nat.le_trans (List.length_filter_le _ _) ?_;rw [List.length_range']; exact hl
 have hmem : ∀ i ∈ ups ns 0 ns.length, i < ns.length := fun i hi => by have := (IN hi).2.1; omega
 rw [DO N hN, hc, aC, cF (by decide)]
 have h1 := TF (ns := ns) hl N (fun (l6, i2) =>
  cond (decide (20 ≤ (l6.length : Int))) none (
  Option.bind (some (IntKind.i64.wrap (0 + 1))) fun i3 =>
  nM N (pW ns) (fun (Hz, b2, i7) =>
  Option.bind (C5 l6 Hz) fun _ =>
  cond (decide (20 < (Hz.length : Int))) none (
  Option.bind (C5 l6 Hz) fun _ =>
  Option.bind (C5 l6 Hz) fun _ =>
  Option.bind (some (((pW ns).length : Int))) fun x2 =>
  Option.bind (mk 16 x2 (([] : List UInt8) : List UInt8)) fun Zy =>
  oN N (pW ns) Hz (fun (WO, G4, i11) =>
  some (WO, 0)) N (Zy, 0, 0))) N (l6, (l6.length : Int), i3))) ns.length 0 N [] (by omega) (by omega) (by simp)
 refine Eq.trans h1 ?_;rw [List.nil_append]
 dsimp only
 rw [show (List.range' 0 ns.length).filter (pos ns) = ups ns 0 ns.length from rfl, cF (dF (by rw [iN]; omega)), show IntKind.i64.wrap (0 + 1) = ((1 : Nat) : Int) by decide, aC, show ((pW (ups ns 0 ns.length)).length : Int) = ((ups ns 0 ns.length).length : Int) by rw [iN]];have hsrt := VR (ky ns) (ups ns 0 ns.length) aA2;have hsl := Qb (ky ns) (ups ns 0 ns.length)
 have hfin : ∀ b j : Int, (fun (x : List Int × Int × Int) => (match x with
  | (Hz, b2, i7) => Option.bind (C5 (pW (ups ns 0 ns.length)) Hz) fun _ =>
  cond (decide (20 < (Hz.length : Int))) none (
  Option.bind (C5 (pW (ups ns 0 ns.length)) Hz) fun _ =>
  Option.bind (C5 (pW (ups ns 0 ns.length)) Hz) fun _ =>
  Option.bind (some (((pW ns).length : Int))) fun x2 =>
  Option.bind (mk 16 x2 (([] : List UInt8) : List UInt8)) fun Zy =>
  oN N (pW ns) Hz (fun (WO, G4, i11) =>
  some (WO, (0 : Int))) N (Zy, 0, 0)) : Option (List (List UInt8) × Int))) (pW (L0 (ky ns) (ups ns 0 ns.length)), b, j) = some (wK ns, 0) := by
  intro b j
  have hsame : C5 (pW (ups ns 0 ns.length)) (pW (L0 (ky ns) (ups ns 0 ns.length))) = some () := by
   unfold C5;rw [if_pos (by rw [iN, iN, hsl])]
  dsimp only
  rw [hsame, aC, cF (dF (by rw [iN, hsl]; omega)), aC, aC, iN, aC, mk_eq (by omega), aC, Int.toNat_natCast, hsrt];have ht : tot ns (xE (ky ns) (ups ns 0 ns.length)) ≤ 32768 := by rw [L1 _ aA2]; exact hK
  have hom : ∀ i ∈ xE (ky ns) (ups ns 0 ns.length), i < ns.length := fun i hi => by
   obtain ⟨s, _, h⟩ := List.mem_flatMap.1 hi;exact hmem i (List.mem_filter.1 h).1
  have hol : (xE (ky ns) (ups ns 0 ns.length)).length ≤ 17 := by rw [← hsrt, hsl]; exact hlen
  have h4 := TE hn hl N hN (xE (ky ns) (ups ns 0 ns.length)) hom hol (fun (WO, G4, i11) => some (WO, (0 : Int))) (xE (ky ns) (ups ns 0 ns.length)).length 0 N (List.replicate ns.length []) 0 (by omega) (by omega) (by simp) (by rw [List.drop_zero, Nat.zero_add]; exact ht);refine Eq.trans h4 ?_;rw [List.drop_zero, L2]
  rfl
 by_cases h0 : (ups ns 0 ns.length).length = 0
 ·rw [List.eq_nil_of_length_eq_zero h0, P8] at hP
  omega
 ·have h2 := fun kk hk => TH (ns := ns) N hN kk (some (wK ns, 0)) hmem hlen hk ((ups ns 0 ns.length).length - 1) 1 N (by omega) (by omega)
  have htk : L0 (ky ns) ((ups ns 0 ns.length).take 1) ++ (ups ns 0 ns.length).drop 1 = ups ns 0 ns.length := by
   rcases hu : ups ns 0 ns.length with _ | ⟨x, u⟩
   ·rw [hu] at h0; exact absurd rfl h0
   ·rfl
  simp only [htk] at h2;refine h2 _ ?_;exact hfin
end
theorem zK {l : List Int} (h : lO l = 0) : ∃ ns : List Nat, l = pW ns ∧ (∀ n ∈ ns, n ≤ 15) ∧ 1 ≤ ns.length ∧ ns.length ≤ 17 ∧ tot ns (ups ns 0 ns.length) ≤ 32768 ∧ 0 < tot ns (ups ns 0 ns.length) := by
 unfold lO at h
 split at h
 ·cases h
 rename_i h1
 split at h
 rotate_left
 ·cases h
 rename_i h2
 split at h
 ·cases h
 rename_i h3
 have hall : ∀ e ∈ l, 0 ≤ e ∧ e ≤ 15 := fun e he => of_decide_eq_true (List.all_eq_true.1 h2 e he)
 have he : pW (l.map Int.toNat) = l := Rl fun e h => (hall e h).1
 have hs := TJ (ns := l.map Int.toNat) (l.map Int.toNat).length 0 (by omega);rw [he, List.drop_zero] at hs;refine ⟨l.map Int.toNat, he.symm, ?_, by simp; omega, by simp; omega, by omega, by omega⟩;intro n hn;obtain ⟨e, h, rfl⟩ := List.mem_map.1 hn;have := hall e h
 omega
def wordsOf (l : List Int) : List (List UInt8) := if lO l = 0 then wK (l.map Int.toNat) else []
theorem Pa (N : Nat) (hN : 100 ≤ N) (l : List Int) : sD N l = some (wordsOf l, lO l) := by
 unfold wordsOf
 by_cases h : lO l = 0
 ·obtain ⟨ns, rfl, h1, h2, h3, h4, h5⟩ := zK h;rw [if_pos h, Rx h1 h3 N hN h4 h5 h, C9, h]
 ·rw [if_neg h];unfold sD;rw [DO N hN, aC, cT (by rw [dF h]; rfl)]
theorem HT (N : Nat) (hN : 100 ≤ N) {l : List Int} (h : lO l = 0) : kX N l = some (wordsOf l) := by
 unfold wordsOf;obtain ⟨ns, rfl, h1, h2, h3, h4, h5⟩ := zK h;rw [if_pos h, Rw h1 h3 N hN h4, C9]
theorem tT {l : List Int} (h : lO l = 0) : (wordsOf l).length = l.length := by
 unfold wordsOf wK;rw [if_pos h, Fj, List.length_replicate, List.length_map]
section
variable {ns : List Nat}
theorem FK {i : Nat} : ∀ (o : List Nat) (st : List (List UInt8) × Nat), i ∉ o → (o.foldl (P7 ns) st).1[i]? = st.1[i]?
 | [], _, _ => rfl
 | k :: o, st, h => by
  simp only [List.mem_cons, not_or] at h;rw [List.foldl_cons, FK o _ h.2];show (st.1.set k _)[i]? = _;rw [List.getElem?_set_ne (fun e => h.1 e.symm)]
theorem fold_at {i : Nat} (A B : List Nat) (st : List (List UInt8) × Nat) (hB : i ∉ B) (hi : i < st.1.length) : ((A ++ i :: B).foldl (P7 ns) st).1[i]? = some (Sq (st.2 + tot ns A) (ky ns i)) := by
 rw [List.foldl_append, List.foldl_cons, FK B _ hB];show ((A.foldl (P7 ns) st).1.set i _)[i]? = _;rw [List.getElem?_set_self (by rw [Fj]; exact hi), LZ]
theorem TK {f : Nat → Nat} {o : List Nat} {i : Nat} : i ∈ xE f o ↔ i ∈ o ∧ 1 ≤ f i ∧ f i ≤ 15 := by
 unfold xE;rw [List.mem_flatMap]
 constructor
 ·rintro ⟨s, hs, h⟩;have h1 := List.mem_range'_1.1 hs;have h2 := List.mem_filter.1 h;have h3 := of_decide_eq_true h2.2;exact ⟨h2.1, by omega, by omega⟩
 ·rintro ⟨h1, h2, h3⟩;exact ⟨f i, List.mem_range'_1.2 ⟨h2, by omega⟩, List.mem_filter.2 ⟨h1, dT rfl⟩⟩
theorem Ry (f : Nat → Nat) {o : List Nat} (ho : o.Pairwise (· < ·)) : (xE f o).Pairwise (fun a b => f a ≤ f b ∧ a ≠ b) := by
 unfold xE
 have : ∀ (j s : Nat), ((List.range' s j).flatMap fun s => o.filter fun i => decide (f i = s)).Pairwise (fun a b => f a ≤ f b ∧ a ≠ b) := by
  intro j
  induction j with
  | zero => intro s; exact List.Pairwise.nil
  | succ j ih =>
   intro s;rw [List.range'_succ, List.flatMap_cons, List.pairwise_append];refine ⟨?_, ih (s + 1), ?_⟩
   ·refine List.Pairwise.imp_of_mem ?_ (ho.filter _);intro a b ha hb hab;have h1 := of_decide_eq_true (List.mem_filter.1 ha).2;have h2 := of_decide_eq_true (List.mem_filter.1 hb).2;exact ⟨by omega, by omega⟩
   ·intro a ha b hb;have h1 := of_decide_eq_true (List.mem_filter.1 ha).2;obtain ⟨q, hq, hb⟩ := List.mem_flatMap.1 hb;have h3 := List.mem_range'_1.1 hq;have h2 := of_decide_eq_true (List.mem_filter.1 hb).2;exact ⟨by omega, fun e => by subst e; omega⟩
 exact this 15 1
def ord (ns : List Nat) : List Nat := xE (ky ns) (List.range' 0 ns.length)
theorem NB (ns : List Nat) : (ord ns).Pairwise (fun a b => ky ns a ≤ ky ns b ∧ a ≠ b) := Ry _ List.pairwise_lt_range'
theorem IP {i : Nat} (hn : ∀ n ∈ ns, n ≤ 15) : i ∈ ord ns ↔ i < ns.length ∧ 1 ≤ ky ns i := by
 unfold ord;rw [TK, List.mem_range'_1];have := HM hn i
 omega
theorem Hc {i : Nat} (hn : ∀ n ∈ ns, n ≤ 15) (hi : i < ns.length) (h : ky ns i = 0) : (wK ns)[i]? = some [] := by
 unfold wK;rw [FK _ _ (fun hm => by have := ((IP hn).1 hm).2; omega)]
 simp [hi]
theorem Gp {i : Nat} {A B : List Nat} (h : ord ns = A ++ i :: B) (hi : i < ns.length) : (wK ns)[i]? = some (Sq (tot ns A) (ky ns i)) := by
 have hp := NB ns;rw [h, List.pairwise_append] at hp;have hB : i ∉ B := fun hm => ((List.pairwise_cons.1 hp.2.1).1 i hm).2 rfl
 unfold wK;have h' : xE (ky ns) (List.range' 0 ns.length) = A ++ i :: B := h;rw [h', fold_at A B _ hB (by simpa using hi), Nat.zero_add]
theorem Fk (S n : Nat) : (Sq S n).length = n := by unfold Sq; rw [oR, kJ]
theorem L3 {n : Nat} : ∀ {A : List Nat}, (∀ a ∈ A, ky ns a ≤ n) → n ≤ 15 → 2 ^ (15 - n) ∣ tot ns A
 | [], _, _ => Nat.dvd_zero _
 | a :: A, h, hn => by
  rw [tN];refine Nat.dvd_add (Nat.pow_dvd_pow 2 ?_) (L3 (fun b hb => h b (by simp [hb])) hn);have := h a (by simp)
  omega
theorem VS {l m : List Nat} (hl : ∀ y ∈ l, y < 2) (hm : ∀ y ∈ m, y < 2) (h : yV l = yV m) : l = m := by
 have e : ∀ l : List Nat, (∀ y ∈ l, y < 2) → (yV l).map (fun c => c.toNat - 48) = l := fun l hl => by
  unfold yV;rw [List.map_map]
  conv => rhs; rw [← List.map_id l]
  refine List.map_congr_left fun y hy => ?_
  have := hl y hy
  rcases (show y = 0 ∨ y = 1 by omega) with rfl | rfl <;> rfl
 rw [← e l hl, h, e m hm]
theorem TM {S n m : Nat} (hmn : m ≤ n) (hn : n ≤ 15) : (Sq S n).take m = yV (pV 2 m (S / 2 ^ (15 - m))) := by
 unfold Sq;rw [show n = m + (n - m) by omega, wE, Gm, List.take_append_of_le_length (by rw [oR, kJ]; exact Nat.le_refl _), List.take_of_length_le (by rw [oR, kJ]; exact Nat.le_refl _), Nat.div_div_eq_div_mul, ← Nat.pow_add]
 congr 4
 omega
theorem Qc {S T n m : Nat} (hmn : m ≤ n) (hn : n ≤ 15) (hS : S < 32768) (hT : T < 32768) (h : (Sq S m) <+: (Sq T n)) : S / 2 ^ (15 - m) = T / 2 ^ (15 - m) := by
 have e := List.prefix_iff_eq_take.1 h;rw [Fk, TM hmn hn] at e;have h2 := VS (AW (by decide) _ _) (AW (by decide) _ _) e;have h3 := congrArg (num 2) h2;rw [BH, BH] at h3
 have lt : ∀ X, X < 32768 → X / 2 ^ (15 - m) < 2 ^ m := fun X hX => by
  refine Nat.div_lt_of_lt_mul ?_;rw [← Nat.pow_add, show 15 - m + m = 15 by omega];exact hX
 rwa [Nat.mod_eq_of_lt (lt S hS), Nat.mod_eq_of_lt (lt T hT)] at h3
theorem Le {α : Type} {x y : α} : ∀ {l : List α}, x ∈ l → y ∈ l → x ≠ y → (∃ A B C, l = A ++ x :: (B ++ y :: C)) ∨ ∃ A B C, l = A ++ y :: (B ++ x :: C)
 | [], h, _, _ => by cases h
 | z :: l, hx, hy, hne => by
  rcases List.mem_cons.1 hx with rfl | hx'
  ·rcases List.mem_cons.1 hy with rfl | hy'
   ·exact absurd rfl hne
   ·obtain ⟨B, C, rfl⟩ := List.append_of_mem hy';exact .inl ⟨[], B, C, rfl⟩
  ·rcases List.mem_cons.1 hy with rfl | hy'
   ·obtain ⟨B, C, rfl⟩ := List.append_of_mem hx';exact .inr ⟨[], B, C, rfl⟩
   ·rcases Le hx' hy' hne with ⟨A, B, C, rfl⟩ | ⟨A, B, C, rfl⟩
    ·exact .inl ⟨z :: A, B, C, rfl⟩
    ·exact .inr ⟨z :: A, B, C, rfl⟩
theorem TN (hn : ∀ n ∈ ns, n ≤ 15) (hK : tot ns (ups ns 0 ns.length) ≤ 32768) {i j : Nat} {u v : List UInt8} (hij : i ≠ j) (hu : (wK ns)[i]? = some u) (hv : (wK ns)[j]? = some v) (h0 : u ≠ []) : ¬ (u <+: v) := by
 intro hp;have hlen : (wK ns).length = ns.length := by unfold wK; rw [Fj, List.length_replicate]
 have hi : i < ns.length := by rw [← hlen]; exact (List.getElem?_eq_some_iff.1 hu).1
 have hj : j < ns.length := by rw [← hlen]; exact (List.getElem?_eq_some_iff.1 hv).1
 have hT : tot ns (ord ns) ≤ 32768 := by
  unfold ord;rw [← L2, L1 _ fun x hx => ⟨(IN hx).2.2, HM hn x⟩]; exact hK
 have hki : 1 ≤ ky ns i := by
  rcases Nat.eq_zero_or_pos (ky ns i) with h | h
  ·rw [Hc hn hi h] at hu; cases hu; exact absurd rfl h0
  ·exact h
 have hkj : 1 ≤ ky ns j := by
  rcases Nat.eq_zero_or_pos (ky ns j) with h | h
  ·rw [Hc hn hj h] at hv; cases hv;exact absurd (List.prefix_nil.1 hp) h0
  ·exact h
 have aEf := HM hn i;have YH := HM hn j;have hpi := Nat.two_pow_pos (15 - ky ns i);have hpj := Nat.two_pow_pos (15 - ky ns j);have yC := NB ns
 rcases Le ((IP hn).2 ⟨hi, hki⟩) ((IP hn).2 ⟨hj, hkj⟩) hij with ⟨A, B, C, h⟩ | ⟨A, B, C, h⟩
 ·
  have w1 := Gp h hi;have w2 := Gp (A := A ++ i :: B) (B := C) (by rw [h]; simp) hj;rw [hu] at w1; rw [hv] at w2;cases w1; cases w2;have hle := hp.length_le;rw [Fk, Fk] at hle;rw [h, Av, tN, Av, tN] at hT;rw [Av, tN] at hp;have e := Qc hle YH (by omega) (by omega) hp;rw [h, List.pairwise_append] at yC;have hd : 2 ^ (15 - ky ns i) ∣ tot ns A := L3 (fun a ha => (yC.2.2 a ha i (by simp)).1) aEf;obtain ⟨q, hq⟩ := hd;rw [hq, Nat.mul_div_cancel_left _ hpi, show 2 ^ (15 - ky ns i) * q + (2 ^ (15 - ky ns i) + tot ns B) = 2 ^ (15 - ky ns i) * (q + 1) + tot ns B by rw [Nat.mul_add]; omega, Nat.mul_add_div hpi] at e
  generalize tot ns B / 2 ^ (15 - ky ns i) = z at e
  omega
 ·
  have w1 := Gp (A := A ++ j :: B) (B := C) (by rw [h]; simp) hi;have w2 := Gp h hj;rw [hu] at w1; rw [hv] at w2;cases w1; cases w2;have hle := hp.length_le;rw [Fk, Fk] at hle;rw [h, List.pairwise_append] at yC;have hle2 : ky ns j ≤ ky ns i := ((List.pairwise_cons.1 yC.2.1).1 i (by simp)).1;have hkk : ky ns i = ky ns j := by omega
  rw [h, Av, tN, Av, tN] at hT;rw [Av, tN] at hp;have e := Qc hle YH (by omega) (by omega) hp;have hd : 2 ^ (15 - ky ns j) ∣ tot ns A := L3 (fun a ha => (yC.2.2 a ha j (by simp)).1) YH;obtain ⟨q, hq⟩ := hd;rw [hkk, hq, Nat.mul_div_cancel_left _ hpj, show 2 ^ (15 - ky ns j) * q + (2 ^ (15 - ky ns j) + tot ns B) = 2 ^ (15 - ky ns j) * (q + 1) + tot ns B by rw [Nat.mul_add]; omega, Nat.mul_add_div hpj] at e
  generalize tot ns B / 2 ^ (15 - ky ns j) = z at e
  omega
end
def PF (W : List (List UInt8)) : Prop := ∀ (i j : Nat) (u v : List UInt8), i ≠ j → W[i]? = some u → W[j]? = some v → u ≠ [] → ¬ (u <+: v)
def Hd (W : List (List UInt8)) : Prop := ∀ w ∈ W, zY w = true ∧ w.length ≤ 15
theorem L4 {l : List Nat} (h : ∀ y ∈ l, y < 2) : zY (yV l) = true := by
 unfold zY yV;rw [List.all_map, List.all_eq_true];intro y hy;have := h y hy
 rcases (show y = 0 ∨ y = 1 by omega) with rfl | rfl <;> rfl
theorem Ju (l : List Int) : PF (wordsOf l) := by
 intro i j u v hij hu hv h0;unfold wordsOf at hu hv
 by_cases h : lO l = 0
 ·obtain ⟨ns, rfl, h1, h2, h3, h4, h5⟩ := zK h;rw [if_pos h, C9] at hu hv;exact TN h1 h4 hij hu hv h0
 ·rw [if_neg h] at hu; simp at hu
theorem kZ (l : List Int) : Hd (wordsOf l) := by
 intro w hw;unfold wordsOf at hw
 by_cases h : lO l = 0
 ·obtain ⟨ns, rfl, h1, h2, h3, h4, h5⟩ := zK h;rw [if_pos h, C9] at hw;obtain ⟨i, hi⟩ := List.mem_iff_getElem?.1 hw;have hlen : (wK ns).length = ns.length := by unfold wK; rw [Fj, List.length_replicate]
  have hi' : i < ns.length := by rw [← hlen]; exact (List.getElem?_eq_some_iff.1 hi).1
  rcases Nat.eq_zero_or_pos (ky ns i) with h0 | h0
  ·rw [Hc h1 hi' h0] at hi; cases hi; exact ⟨rfl, by simp⟩
  ·obtain ⟨A, B, hAB⟩ := List.append_of_mem ((IP h1).2 ⟨hi', h0⟩);rw [Gp hAB hi'] at hi;cases hi;refine ⟨L4 (AW (by decide) _ _), ?_⟩;rw [Fk]; exact HM h1 i
 ·rw [if_neg h] at hw; cases hw
theorem zL {α : Type} {xs : List α} {k : Nat} (h : k ≤ xs.length) : Dw xs 0 (k : Int) = some (xs.take k) := by
 rw [DK (by omega), Int.toNat_natCast]; rfl
theorem Da {α : Type} {xs : List α} {k : Nat} (h : k ≤ xs.length) : Dw xs (k : Int) (xs.length : Int) = some (xs.drop k) := by
 rw [DK (by omega), Int.toNat_natCast, Int.toNat_natCast, List.take_length]
theorem EE {m : List (List UInt8 × Int)} {s : List UInt8} (h : s.length ≤ 140737488355328) : I5 m s = some ((sM m s).getD 0, (sM m s).isSome) := by unfold I5; rw [if_pos h]
theorem Qd {m : List (List UInt8 × Int)} {s : List UInt8} {v : Int} (h : m.length < 1099511627776 ∧ s.length ≤ 140737488355328 ∧ -9223372036854775808 ≤ v ∧ v ≤ 9223372036854775807) : OP m s v = some ((s, v) :: m) := by unfold OP; rw [if_pos h]
theorem Fl (k s : List UInt8) (v : Int) (m : List (List UInt8 × Int)) : sM ((k, v) :: m) s = if k = s then some v else sM m s := rfl
structure BK (V : List (List UInt8)) (m : List (List UInt8 × Int)) : Prop where
 wd : ∀ (i : Nat) (s : List UInt8), V[i]? = some s → s ≠ [] → sM m s = some (i : Int)
 pr : ∀ (s w : List UInt8), w ∈ V → s <+: w → s ≠ w → sM m s = some (-1)
 no : ∀ (s : List UInt8), (∀ w ∈ V, w ≠ [] → ¬ s <+: w) → sM m s = none
theorem PF.sub {V : List (List UInt8)} {w : List UInt8} (h : PF (V ++ [w])) : PF V := fun i j u v hij hu hv h0 =>
 h i j u v hij (by rw [List.getElem?_append_left (List.getElem?_eq_some_iff.1 hu).1]; exact hu) (by rw [List.getElem?_append_left (List.getElem?_eq_some_iff.1 hv).1]; exact hv) h0
theorem PF.last {V : List (List UInt8)} {w u : List UInt8} (h : PF (V ++ [w])) (hu : u ∈ V) : (u ≠ [] → ¬ u <+: w) ∧ (w ≠ [] → ¬ w <+: u) := by
 obtain ⟨i, hi⟩ := List.mem_iff_getElem?.1 hu;have hlt := (List.getElem?_eq_some_iff.1 hi).1;have h1 : (V ++ [w])[i]? = some u := by rw [List.getElem?_append_left hlt]; exact hi
 have h2 : (V ++ [w])[V.length]? = some w := by simp
 exact ⟨h i V.length u w (by omega) h1 h2, h V.length i w u (by omega) h2 h1⟩
theorem BK.step {V : List (List UInt8)} {w : List UInt8} {m m2 : List (List UInt8 × Int)} (B : BK V m) (hp : PF (V ++ [w])) (hw : w ≠ [])
  (h1 : ∀ s, s <+: w → s ≠ w → sM m s = none → sM m2 s = some (-1)) (h2 : ∀ s, ¬ (s <+: w ∧ s ≠ w ∧ sM m s = none) → sM m2 s = sM m s) : BK (V ++ [w]) ((w, (V.length : Int)) :: m2) := by
 have pre : ∀ s, s <+: w → s ≠ w → sM m2 s = some (-1) := fun s h3 h4 => by
  rcases hm : sM m s with _ | x
  ·exact h1 s h3 h4 hm
  ·rw [h2 s (fun h => by rw [h.2.2] at hm; cases hm), hm]
   by_cases hex : ∃ u ∈ V, u ≠ [] ∧ s <+: u
   ·obtain ⟨u, hu, hu0, hsu⟩ := hex
    by_cases e : s = u
    ·subst e; exact absurd h3 ((hp.last hu).1 hu0)
    ·rw [← hm]; exact B.pr s u hu hsu e
   ·rw [B.no s fun u hu hu0 hsu => hex ⟨u, hu, hu0, hsu⟩] at hm; cases hm
 refine ⟨fun i s hi h0 => ?_, fun s u hu h3 h4 => ?_, fun s h => ?_⟩
 ·rw [Fl]
  by_cases hlt : i < V.length
  ·rw [List.getElem?_append_left hlt] at hi;have hmem := List.mem_of_getElem? hi;rw [if_neg (fun e => by subst e; exact (hp.last hmem).1 h0 (List.prefix_refl _)), h2 s (fun h => (hp.last hmem).1 h0 h.1)];exact B.wd i s hi h0
  ·have hl := (List.getElem?_eq_some_iff.1 hi).1
   simp at hl
   obtain rfl : i = V.length := by omega
   simp at hi
   rw [if_pos hi]
 ·rw [Fl]
  rcases List.mem_append.1 hu with hu | hu
  ·rw [if_neg (fun e => by subst e; exact (hp.last hu).2 hw h3)];have := B.pr s u hu h3 h4;rw [h2 s (fun h => by rw [h.2.2] at this; cases this)];exact this
  ·obtain rfl : u = w := by simpa using hu
   rw [if_neg (fun e => h4 e.symm)];exact pre s h3 h4
 ·rw [Fl];have hsw := h w (by simp) hw;rw [if_neg (fun e => hsw (by subst e; exact List.prefix_refl _)), h2 s (fun h => hsw h.1)];exact B.no s fun u hu hu0 => h u (by simp [hu]) hu0
theorem BK.nil {V : List (List UInt8)} {m : List (List UInt8 × Int)} (B : BK V m) : BK (V ++ [[]]) m := by
 refine ⟨fun i s hi h0 => ?_, fun s u hu h3 h4 => ?_, fun s h => ?_⟩
 ·by_cases hlt : i < V.length
  ·rw [List.getElem?_append_left hlt] at hi; exact B.wd i s hi h0
  ·have hl := (List.getElem?_eq_some_iff.1 hi).1
   simp at hl
   obtain rfl : i = V.length := by omega
   simp at hi
   exact absurd hi h0
 ·rcases List.mem_append.1 hu with hu | hu
  ·exact B.pr s u hu h3 h4
  ·obtain rfl : u = [] := by simpa using hu
   exact absurd (List.prefix_nil.1 h3) h4
 ·exact B.no s fun u hu hu0 => h u (by simp [hu]) hu0
theorem VT (N : Nat) {w : List UInt8} (hw : w.length ≤ 15) (m0 : List (List UInt8 × Int)) (kk : List (List UInt8 × Int) × Int → Option (List Int × List UInt8 × Int)) (r) (T : Nat) (hT : T ≤ 1000)
  (hk : ∀ m2 i, m2.length ≤ T + w.length → (∀ s, s <+: w → s ≠ w → sM m0 s = none → sM m2 s = some (-1)) → (∀ s, ¬ (s <+: w ∧ s ≠ w ∧ sM m0 s = none) → sM m2 s = sM m0 s) → kk (m2, i) = r) :
  ∀ (j k fuel : Nat) (m : List (List UInt8 × Int)), k + j = w.length → j < fuel → m.length ≤ T + k → (∀ s, sM m s = if (∃ q, q < k ∧ s = w.take q) ∧ sM m0 s = none then some (-1) else sM m0 s) →
  rI N w kk fuel (m, (k : Int)) = r := by
 intro j
 induction j with
 | zero =>
  intro k fuel m hkj hf hml hm;obtain ⟨fuel, rfl⟩ := mN fuel (by omega);unfold rI;rw [cF (dF (by omega))];refine hk m _ (by omega) (fun s h1 h2 h3 => ?_) (fun s h => ?_)
  ·rw [hm, if_pos];refine ⟨⟨s.length, ?_, (List.prefix_iff_eq_take.1 h1)⟩, h3⟩;have hle := h1.length_le
   rcases Nat.lt_or_ge s.length w.length with h | h
   ·omega
   ·exact absurd (h1.eq_of_length (by omega)) h2
  ·rw [hm, if_neg];rintro ⟨⟨q, hq, rfl⟩, h3⟩;refine h ⟨List.take_prefix _ _, fun e => ?_, h3⟩;have := congrArg List.length e;rw [List.length_take] at this
   omega
 | succ j ih =>
  intro k fuel m hkj hf hml hm;obtain ⟨fuel, rfl⟩ := mN fuel (by omega);have hnx : IntKind.i64.wrap ((k : Int) + 1) = ((k + 1 : Nat) : Int) := by rw [iE (by omega)]; rfl
  have hlt : (w.take k).length = k := by rw [List.length_take]; omega
  have inj : ∀ q, q < k → w.take k ≠ w.take q := fun q hq e => by
   have := congrArg List.length e;rw [hlt, List.length_take] at this
   omega
  have hsame : sM m (w.take k) = sM m0 (w.take k) := by
   rw [hm, if_neg];rintro ⟨⟨q, hq, e⟩, _⟩;exact inj q hq e
  unfold rI;rw [cT (dT (by omega)), zL (by omega), aC, EE (by omega), aC, hsame]
  rcases h0 : sM m0 (w.take k) with _ | x
  ·rw [cT (by rfl), aC, Qd (by omega), aC, hnx];refine ih (k + 1) fuel _ (by omega) (by omega) (by simp; omega) fun s => ?_
   rw [Fl, hm]
   by_cases e : w.take k = s
   ·subst e;rw [if_pos rfl, if_pos ⟨⟨k, by omega, rfl⟩, h0⟩]
   ·rw [if_neg e]
    have : (∃ q, q < k + 1 ∧ s = w.take q) ↔ ∃ q, q < k ∧ s = w.take q := by
     constructor
     ·rintro ⟨q, hq, rfl⟩
      rcases Nat.lt_or_ge q k with h | h
      ·exact ⟨q, h, rfl⟩
      ·obtain rfl : q = k := by omega
       exact absurd rfl e
     ·rintro ⟨q, hq, rfl⟩; exact ⟨q, by omega, rfl⟩
    simp only [this]
  ·rw [cF (by rfl), hnx];refine ih (k + 1) fuel m (by omega) (by omega) (by omega) fun s => ?_
   rw [hm]
   have : ((∃ q, q < k + 1 ∧ s = w.take q) ∧ sM m0 s = none) ↔ (∃ q, q < k ∧ s = w.take q) ∧ sM m0 s = none := by
    constructor
    ·rintro ⟨⟨q, hq, rfl⟩, h3⟩
     rcases Nat.lt_or_ge q k with h | h
     ·exact ⟨⟨q, h, rfl⟩, h3⟩
     ·obtain rfl : q = k := by omega
      rw [h0] at h3; cases h3
    ·rintro ⟨⟨q, hq, rfl⟩, h3⟩; exact ⟨⟨q, by omega, rfl⟩, h3⟩
   simp only [this]
theorem VU (N : Nat) (hN : 100 ≤ N) {W : List (List UInt8)} (hW : W.length ≤ 17) (hb : Hd W) (hp : PF W) (e : Int) (kk : List (List UInt8 × Int) × Int → Option (List Int × List UInt8 × Int)) (r) (hk : ∀ m i, BK W m → kk (m, i) = r) :
  ∀ (j k fuel : Nat) (m : List (List UInt8 × Int)), k + j = W.length → j < fuel → m.length ≤ 16 * k → BK (W.take k) m → rJ N (W, e) kk fuel (m, (k : Int)) = r := by
 intro j
 induction j with
 | zero =>
  intro k fuel m hkj hf hml B;obtain ⟨fuel, rfl⟩ := mN fuel (by omega);unfold rJ;rw [cF (dF (by show ¬ ((k : Int) < (W.length : Int)); omega))];rw [List.take_of_length_le (by omega)] at B;exact hk _ _ B
 | succ j ih =>
  intro k fuel m hkj hf hml B;obtain ⟨fuel, rfl⟩ := mN fuel (by omega);have hlt : k < W.length := by omega
  have hnx : IntKind.i64.wrap ((k : Int) + 1) = ((k + 1 : Nat) : Int) := by rw [iE (by omega)]; rfl
  have hw := hb _ (List.getElem_mem hlt);have htk : W.take (k + 1) = W.take k ++ [W[k]] := by rw [List.take_add_one, List.getElem?_eq_getElem hlt]; rfl
  have hpk : PF (W.take k ++ [W[k]]) := by
   rw [← htk];intro i j' u v hij hu hv h0;rw [List.getElem?_take] at hu hv
   split at hu
   ·split at hv
    ·exact hp i j' u v hij hu hv h0
    ·cases hv
   ·cases hu
  have hkl : (W.take k).length = k := by rw [List.length_take]; omega
  unfold rJ;rw [cT (dT (by show (k : Int) < (W.length : Int); omega)), gB];show Option.bind W[k]? _ = _;rw [List.getElem?_eq_getElem hlt, aC];refine VT N hw.2 m _ r (16 * k) (by omega) (fun m2 i hm2 h1 h2 => ?_) W[k].length 0 N m (by omega) (by omega) (by omega) (fun s => by rw [if_neg]; rintro ⟨⟨q, hq, _⟩, _⟩; omega)
  dsimp only
  by_cases h0 : W[k] = []
  ·rw [cF (by rw [dT h0]; rfl), hnx];refine ih (k + 1) fuel m2 (by omega) (by omega) (by have := hw.2; omega) ?_;rw [htk, h0];have B2 := B.nil;have same : ∀ s, sM m2 s = sM m s := fun s => h2 s fun h => by rw [h0] at h; exact h.2.1 (List.prefix_nil.1 h.1)
   exact ⟨fun i s a b => by rw [same]; exact B2.wd i s a b, fun s w a b c => by rw [same]; exact B2.pr s w a b c, fun s a => by rw [same]; exact B2.no s a⟩
  ·rw [cT (by rw [dF h0]; rfl), Qd (by have := hw.2; omega), aC, hnx];refine ih (k + 1) fuel _ (by omega) (by omega) (by have := hw.2; simp; omega) ?_;rw [htk];have := B.step hpk h0 h1 h2;rw [hkl] at this;exact this
def WZ (b w : List UInt8) : Bool := !w.isEmpty && w.isPrefixOf b
def L5 (W : List (List UInt8)) (b : List UInt8) : Option Nat := W.findIdx? (WZ b)
def MQ (W : List (List UInt8)) (b : List UInt8) : Int := if W.any (fun w => !w.isEmpty && b.isPrefixOf w) = true then 5 else 4
def Rz (W : List (List UInt8)) : Nat → List Int → List UInt8 → List Int × List UInt8 × Int
 | 0, out, b => (out, b, 0)
 | n + 1, out, b => match L5 W b with
  | some i => Rz W n (out ++ [(i : Int)]) (b.drop (W.getD i []).length)
  | none => ([], [], MQ W b)
theorem IQ {b w : List UInt8} : WZ b w = true ↔ w ≠ [] ∧ w <+: b := by
 unfold WZ;rw [Bool.and_eq_true, List.isPrefixOf_iff_prefix]
 cases w <;> simp
theorem Db {W : List (List UInt8)} {b : List UInt8} {i : Nat} (h : L5 W b = some i) : ∃ u, W[i]? = some u ∧ u ≠ [] ∧ u <+: b := by
 obtain ⟨hi, h1, _⟩ := List.findIdx?_eq_some_iff_getElem.1 h;obtain ⟨h2, h3⟩ := IQ.1 h1;exact ⟨_, List.getElem?_eq_getElem hi, h2, h3⟩
theorem Jv {W : List (List UInt8)} {b : List UInt8} (h : L5 W b = none) : ∀ w ∈ W, w ≠ [] → ¬ w <+: b := fun w hw h0 hp => by
 have := List.findIdx?_eq_none_iff.1 h w hw;rw [IQ.2 ⟨h0, hp⟩] at this;cases this
theorem YI {W : List (List UInt8)} (hp : PF W) {b u : List UInt8} {i : Nat} (hi : W[i]? = some u) (h0 : u ≠ []) (hb : u <+: b) : L5 W b = some i := by
 rcases h : L5 W b with _ | j
 ·exact absurd hb (Jv h u (List.mem_of_getElem? hi) h0)
 ·obtain ⟨v, hv, hv0, hvb⟩ := Db h
  by_cases e : j = i
  ·rw [e]
  ·exfalso
   rcases Nat.le_total u.length v.length with hl | hl
   ·exact hp i j u v (fun q => e q.symm) hi hv h0 (List.prefix_of_prefix_length_le hb hvb hl)
   ·exact hp j i v u e hv hi hv0 (List.prefix_of_prefix_length_le hvb hb hl)
section
variable {W : List (List UInt8)} {m : List (List UInt8 × Int)} (hb : Hd W) (B : BK W m) {b : List UInt8} (hbl : b.length ≤ 16777216)
  (kk : Int × Int → Option (List Int × List UInt8 × Int))
include B hbl in
theorem TO (N : Nat) {u : List UInt8} {i : Nat} (hi : W[i]? = some u) (h0 : u ≠ []) (hu : u <+: b) : ∀ (j k fuel : Nat), k + j = u.length → j + 1 < fuel → lD N m b kk fuel ((k : Int), -1) = kk ((u.length : Int), (i : Int)) := by
 intro j;have hle := hu.length_le;have hut := List.prefix_iff_eq_take.1 hu
 induction j with
 | zero =>
  intro k fuel hkj hf;obtain ⟨fuel, rfl⟩ : ∃ q, fuel = q + 2 := ⟨fuel - 2, by omega⟩
  obtain rfl : k = u.length := by omega
  unfold lD;rw [cT (by decide), zL (by omega), aC, EE (by rw [List.length_take]; omega), aC, ← hut, B.wd i u hi h0, cF (by rfl), cT (by exact dT (Int.natCast_nonneg _))];show lD N m b kk (fuel + 1) ((u.length : Int), (i : Int)) = _;unfold lD;rw [cF (dF (by omega))]
 | succ j ih =>
  intro k fuel hkj hf;obtain ⟨fuel, rfl⟩ := mN fuel (by omega);have hnx : IntKind.i64.wrap ((k : Int) + 1) = ((k + 1 : Nat) : Int) := by rw [iE (by omega)]; rfl
  have hpr : sM m (b.take k) = some (-1) := by
   have e : b.take k = u.take k := by rw [hut, List.take_take, Nat.min_eq_left (by omega)]
   rw [e];refine B.pr _ u (List.mem_of_getElem? hi) (List.take_prefix _ _) fun e => ?_
   have := congrArg List.length e;rw [List.length_take] at this
   omega
  unfold lD;rw [cT (by decide), zL (by omega), aC, EE (by rw [List.length_take]; omega), aC, hpr, cF (by rfl), cF (by rfl), cF (dF (by omega)), hnx, aC];exact ih (k + 1) fuel (by omega) (by omega)
include hb B hbl in
theorem RA (N : Nat) (hno : ∀ w ∈ W, w ≠ [] → ¬ w <+: b) : ∀ (j k fuel : Nat), k + j = 16 → k ≤ b.length → j < fuel → lD N m b kk fuel ((k : Int), -1) = some ([], [], MQ W b) := by
 intro j
 induction j with
 | zero =>
  intro k fuel hkj hkb hf;obtain ⟨fuel, rfl⟩ := mN fuel (by omega)
  have TP : ∀ w ∈ W, w ≠ [] → ¬ (b.take k) <+: w := fun w hw _ h => by
   have h1 := h.length_le;have := (hb w hw).2;rw [List.length_take] at h1
   omega
  unfold lD;rw [cT (by decide), zL (by omega), aC, EE (by rw [List.length_take]; omega), aC, B.no _ TP, cT (by rfl)];unfold MQ;rw [if_neg];rw [List.any_eq_true];rintro ⟨w, hw, h⟩;have h2 := IQ (b := w) (w := b);simp only [Bool.and_eq_true, List.isPrefixOf_iff_prefix] at h;have h1 := h.2.length_le;have := (hb w hw).2
  omega
 | succ j ih =>
  intro k fuel hkj hkb hf;obtain ⟨fuel, rfl⟩ := mN fuel (by omega);have hnx : IntKind.i64.wrap ((k : Int) + 1) = ((k + 1 : Nat) : Int) := by rw [iE (by omega)]; rfl
  unfold lD;rw [cT (by decide), zL hkb, aC, EE (by rw [List.length_take]; omega), aC]
  by_cases hex : ∃ w ∈ W, w ≠ [] ∧ (b.take k) <+: w
  ·obtain ⟨w, hw, hw0, hwp⟩ := hex;have hne : b.take k ≠ w := fun e => hno w hw hw0 (by rw [← e]; exact List.take_prefix _ _)
   rw [B.pr _ w hw hwp hne, cF (by rfl), cF (by rfl)]
   by_cases he : k = b.length
   ·rw [cT (dT (by omega))];unfold MQ;rw [if_pos];rw [List.any_eq_true];refine ⟨w, hw, ?_⟩;rw [he, List.take_length] at hwp;rw [Bool.and_eq_true, List.isPrefixOf_iff_prefix];exact ⟨by cases w; exact absurd rfl hw0; rfl, hwp⟩
   ·rw [cF (dF (by omega)), hnx, aC];exact ih (k + 1) fuel (by omega) (by omega) (by omega)
  ·rw [B.no _ (fun w hw hw0 hwp => hex ⟨w, hw, hw0, hwp⟩), cT (by rfl)];unfold MQ;rw [if_neg];rw [List.any_eq_true];rintro ⟨w, hw, h⟩;simp only [Bool.and_eq_true, List.isPrefixOf_iff_prefix] at h;refine hex ⟨w, hw, ?_, (List.take_prefix _ _).trans h.2⟩;intro e; rw [e] at h; simp at h
end
theorem VV (N : Nat) (hN : 5000 ≤ N) {W : List (List UInt8)} {m : List (List UInt8 × Int)} (hb : Hd W) (B : BK W m) {p : Nat} (hp : p ≤ 4096) : ∀ (n fuel : Nat) (out : List Int) (b : List UInt8), out.length + n = p → n < fuel → b.length ≤ 16777216 →
  pO N (p : Int) m (fun (l6, o3) => some (l6, o3, 0)) fuel (out, b) = some (Rz W n out b) := by
 intro n
 induction n with
 | zero =>
  intro fuel out b ho hf hbl;obtain ⟨fuel, rfl⟩ := mN fuel (by omega);unfold pO;rw [cF (dF (by omega))]; rfl
 | succ n ih =>
  intro fuel out b ho hf hbl;obtain ⟨fuel, rfl⟩ := mN fuel (by omega);unfold pO;rw [cT (dT (by omega))]
  rcases h : L5 W b with _ | i
  ·have := RA hb B hbl (fun (i12, Ih) => Option.bind (app 8 out ([Ih] : List Int)) fun l5 => Option.bind (Dw b i12 (b.length : Int)) fun s13 => pO N (p : Int) m (fun (l6, o3) => some (l6, o3, 0)) fuel (l5, s13)) N (Jv h) 16 0 N (by omega) (by omega) (by omega);refine Eq.trans this ?_;unfold Rz;rw [h]
  ·obtain ⟨u, hu, hu0, hub⟩ := Db h;have aE8 := (hb u (List.mem_of_getElem? hu)).2;have := TO B hbl (fun (i12, Ih) => Option.bind (app 8 out ([Ih] : List Int)) fun l5 => Option.bind (Dw b i12 (b.length : Int)) fun s13 => pO N (p : Int) m (fun (l6, o3) => some (l6, o3, 0)) fuel (l5, s13)) N hu hu0 hub u.length 0 N (by omega) (by omega);refine Eq.trans this ?_
   dsimp only
   rw [kY (by simp; omega), aC, Da hub.length_le, aC, ih fuel _ _ (by simp; omega) (by omega) (by rw [List.length_drop]; omega)]
   conv => rhs; unfold Rz
   rw [h]
   dsimp only
   rw [List.getD_eq_getElem?_getD, hu]; rfl
def Qe (l : List Int) (b : List UInt8) (n : Int) : List Int × List UInt8 × Int :=
 if lO l ≠ 0 then ([], [], lO l) else if n < 0 ∨ 4096 < n then ([], [], 3) else if zY b = true then Rz (wordsOf l) n.toNat [] b else ([], [], 1)
theorem Lf (N : Nat) (l : List Int) (b : List UInt8) (n : Int) (hb : b.length ≤ 16777216) (hN : 5000 ≤ N ∧ b.length < N) : vT N l b n = some (Qe l b n) := by
 unfold vT Qe;rw [Pa N (by omega), aC]
 by_cases h : lO l = 0
 ·rw [cF (by rw [show (wordsOf l, lO l).2 = 0 from h]; rfl), if_neg (by simpa using h)]
  by_cases h1 : n < 0
  ·rw [cT (dT h1), if_pos (.inl h1)]
  rw [cF (dF h1)]
  by_cases h2 : 4096 < n
  ·rw [cT (dT h2), if_pos (.inr h2)]
  rw [cF (dF h2), if_neg (by omega), O7 N hb hN.2, aC]
  by_cases h3 : zY b = true
  ·rw [if_pos h3, if_pos h3, cF (by rfl)]
   have aEg : (wordsOf l).length ≤ 17 := by
    rw [tT h];obtain ⟨ns, rfl, _, _, NC, _⟩ := zK h;rw [iN]; exact NC
   obtain ⟨q, rfl⟩ := Int.eq_ofNat_of_zero_le (show 0 ≤ n by omega);refine VU N (by omega) aEg (kZ l) (Ju l) (lO l) _ _ (fun m i B => ?_) (wordsOf l).length 0 N [] (by omega) (by omega) (by simp) ⟨fun i s h => by simp at h, fun s w h => by simp at h, fun s _ => rfl⟩;exact VV N hN.1 (kZ l) B (by omega) q N [] b (by simp) (by omega) hb
  ·rw [if_neg h3, if_neg h3, cT (by rfl)]
 ·rw [cT (by rw [show (wordsOf l, lO l).2 = lO l from rfl, dF h]; rfl), if_pos h]
end
end Go.Proofs.YtpmnfhifmmfglacGreatDoor
