/- Texts of the claim RawFills, joined and made small by a program. -/
import Derived.Test.YtpmnfhifmmfglacGreatDoorRawFillsK5
set_option linter.unusedVariables false
set_option linter.unusedSimpArgs false
set_option linter.unusedSectionVars false
set_option maxRecDepth 100000
set_option maxHeartbeats 8000000
namespace Go.Proofs.YtpmnfhifmmfglacGreatDoor
section
open Go
def sG (B : Nat) : Nat → Nat → List Nat
 | 0, _ => []
 | n + 1, x => sG B n (x / B) ++ [x % B]
def num (B : Nat) (l : List Nat) : Nat := l.foldl (fun a x => a * B + x) 0
theorem oU (B : Nat) : ∀ n x, (sG B n x).length = n
 | 0, _ => rfl
 | n + 1, x => by simp [sG, oU B n]
theorem Hk {B : Nat} (hB : 0 < B) : ∀ n x, ∀ y ∈ sG B n x, y < B
 | 0, _, y, h => by simp [sG] at h
 | n + 1, x, y, h => by
  rcases List.mem_append.1 h with h | h
  ·exact Hk hB n _ y h
  ·rw [List.mem_singleton.1 h]; exact Nat.mod_lt _ hB
theorem zL (B m : Nat) : ∀ q x, sG B (m + q) x = sG B m (x / B ^ q) ++ sG B q x
 | 0, x => by simp [sG]
 | q + 1, x => by
  show sG B (m + q) (x / B) ++ [x % B] = _ ++ (sG B q (x / B) ++ [x % B]);rw [zL B m q, List.append_assoc, Nat.div_div_eq_div_mul, Nat.pow_succ, Nat.mul_comm B]
theorem E0 (B : Nat) : ∀ n x, sG B n (x % B ^ n) = sG B n x
 | 0, _ => rfl
 | n + 1, x => by
  show sG B n (x % B ^ (n + 1) / B) ++ [x % B ^ (n + 1) % B] = sG B n (x / B) ++ [x % B];rw [Nat.pow_succ, Nat.mul_comm, Nat.mod_mul_right_div_self, E0 B n, Nat.mod_mul_right_mod]
theorem Ix {B n x y : Nat} (h : x % B ^ n = y % B ^ n) : sG B n x = sG B n y := by rw [← E0 B n x, h, E0]
theorem BQ (B : Nat) (l : List Nat) (x : Nat) : num B (l ++ [x]) = num B l * B + x := by simp [num]
theorem Lf (B : Nat) : ∀ n x, num B (sG B n x) = x % B ^ n
 | 0, x => by simp [sG, num, Nat.mod_one]
 | n + 1, x => by
  show num B (sG B n (x / B) ++ [x % B]) = _;rw [BQ, Lf B n, Nat.pow_succ, Nat.mul_comm (B ^ n), Nat.mod_mul, Nat.mul_comm, Nat.add_comm]
theorem fold_eq (B : Nat) : ∀ (l : List Nat) (a : Nat), l.foldl (fun a x => a * B + x) a = a * B ^ l.length + num B l
 | [], a => by simp [num]
 | x :: l, a => by
  have h1 := fold_eq B l (a * B + x);have h2 := fold_eq B l (0 * B + x);unfold num;rw [List.foldl_cons, List.foldl_cons, h1, h2, List.length_cons, Nat.pow_succ, Nat.zero_mul, Nat.zero_add, Nat.add_mul, Nat.mul_assoc, Nat.mul_comm B, Nat.add_assoc]
theorem NN (B x : Nat) (l : List Nat) : num B (x :: l) = x * B ^ l.length + num B l := by
 have := fold_eq B l (0 * B + x);unfold num at this ⊢;rw [List.foldl_cons, this, Nat.zero_mul, Nat.zero_add]
theorem Hl {B : Nat} : ∀ (l : List Nat), (∀ y ∈ l, y < B) → num B l < B ^ l.length
 | [], _ => by simp [num]
 | x :: l, h => by
  have h1 := Hl l fun y hy => h y (by simp [hy])
  have h2 := h x (by simp);rw [NN, List.length_cons, Nat.pow_succ];have : (x + 1) * B ^ l.length ≤ B * B ^ l.length := Nat.mul_le_mul_right _ h2;rw [Nat.add_mul, Nat.one_mul, Nat.mul_comm B] at this
  omega
theorem Kl (q : Nat) : 256 ^ q = 2 ^ (8 * q) := by rw [show 256 = 2 ^ 8 by decide, ← Nat.pow_mul]
theorem E1 {h k : Nat} (hk : k ≤ 64) : j0 .i64 (h : Int) (k : Int) = ((h / 2 ^ k : Nat) : Int) := by
 unfold j0
 have : min ((k : Int)).toNat IntKind.i64.bits = k := by
  rw [Int.toNat_natCast];exact Nat.min_eq_left hk
 rw [this, show (2 : Int) ^ k = ((2 ^ k : Nat) : Int) by simp, ← Int.ofNat_fdiv]
theorem Ck {h k : Nat} (hk : k ≤ 64) (hb : h * 2 ^ k < 9223372036854775808) : qF .i64 (h : Int) (k : Int) = ((h * 2 ^ k : Nat) : Int) := by
 unfold qF
 have : min ((k : Int)).toNat IntKind.i64.bits = k := by
  rw [Int.toNat_natCast];exact Nat.min_eq_left hk
 rw [this, show (2 : Int) ^ k = ((2 ^ k : Nat) : Int) by simp, ← Int.natCast_mul, jR (by omega)]
theorem Iy {h k : Nat} (hh : h < 9223372036854775808) (hk : k < 63) : GP .i64 (h : Int) ((2 ^ k - 1 : Nat) : Int) = ((h % 2 ^ k : Nat) : Int) := by
 have hk2 : 2 ^ k ≤ 2 ^ 62 := Nat.pow_le_pow_right (by decide) (by omega);unfold GP
 have e : (BitVec.ofInt IntKind.i64.bits (h : Int) &&& BitVec.ofInt IntKind.i64.bits ((2 ^ k - 1 : Nat) : Int)).toNat = h % 2 ^ k := by
  rw [BitVec.toNat_and, BitVec.ofInt_natCast, BitVec.ofInt_natCast, BitVec.toNat_ofNat, BitVec.toNat_ofNat];have hb : IntKind.i64.bits = 64 := rfl;rw [hb, Nat.mod_eq_of_lt (show h < 2 ^ 64 by omega), Nat.mod_eq_of_lt (show 2 ^ k - 1 < 2 ^ 64 by omega), Nat.and_two_pow_sub_one_eq_mod]
 rw [e];have := Nat.mod_le h (2 ^ k);exact jR (by omega)
theorem SG {h d e : Nat} (he : e < 2 ^ d) (hb : h * 2 ^ d + e < 9223372036854775808) : LP .i64 ((h * 2 ^ d : Nat) : Int) (e : Int) = ((h * 2 ^ d + e : Nat) : Int) := by
 unfold LP;have hb' : IntKind.i64.bits = 64 := rfl
 have e1 : (BitVec.ofInt IntKind.i64.bits ((h * 2 ^ d : Nat) : Int) ||| BitVec.ofInt IntKind.i64.bits (e : Int)).toNat = h * 2 ^ d + e := by
  rw [BitVec.toNat_or, BitVec.ofInt_natCast, BitVec.ofInt_natCast, BitVec.toNat_ofNat, BitVec.toNat_ofNat, hb', Nat.mod_eq_of_lt (show h * 2 ^ d < 2 ^ 64 by omega), Nat.mod_eq_of_lt (show e < 2 ^ 64 by omega)];rw [Nat.mul_comm h, Nat.two_pow_add_eq_or_of_lt he]
 rw [e1];exact jR (by omega)
theorem AT (n : Nat) : IntKind.u8.wrap (n : Int) = ((n % 256 : Nat) : Int) := by
 simp [IntKind.wrap, IntKind.bits, IntKind.signed]
def qE (l : List Nat) : List Int := l.map fun n : Nat => (n : Int)
theorem lK (l : List Nat) : (qE l).length = l.length := by simp [qE]
theorem Dn (l m : List Nat) : qE (l ++ m) = qE l ++ qE m := by simp [qE]
theorem tM (n : Nat) : nn (n : Int) = some () := by unfold nn; rw [if_pos (by omega)]
theorem Iz {X d e L : Nat} (he : e < 2 ^ d) : X % 2 ^ L * 2 ^ d + e = (X * 2 ^ d + e) % 2 ^ (L + d) := by
 have h1 : X * 2 ^ d + e = 2 ^ (L + d) * (X / 2 ^ L) + (X % 2 ^ L * 2 ^ d + e) := by
  have h3 := Nat.div_add_mod X (2 ^ L);have h2 : X * 2 ^ d = 2 ^ L * (X / 2 ^ L) * 2 ^ d + X % 2 ^ L * 2 ^ d := by rw [← Nat.add_mul, h3]
  rw [h2, Nat.pow_add, Nat.mul_assoc, Nat.mul_comm (X / 2 ^ L), ← Nat.mul_assoc, Nat.add_assoc]
 have h2 : X % 2 ^ L * 2 ^ d + e < 2 ^ (L + d) := by
  have : X % 2 ^ L < 2 ^ L := Nat.mod_lt _ (Nat.two_pow_pos L);have h3 : (X % 2 ^ L + 1) * 2 ^ d ≤ 2 ^ L * 2 ^ d := Nat.mul_le_mul_right _ this;rw [← Nat.pow_add, Nat.add_mul, Nat.one_mul] at h3
  omega
 rw [h1, Nat.mul_add_mod, Nat.mod_eq_of_lt h2]
theorem Lg {X d e : Nat} (he : e < 2 ^ d) : (X * 2 ^ d + e) / 2 ^ d = X := by
 rw [Nat.mul_comm, Nat.mul_add_div (Nat.two_pow_pos d), Nat.div_eq_of_lt he, Nat.add_zero]
theorem NO {X d e L q r : Nat} (m : Nat) (he : e < 2 ^ d) (hq : L + d = 8 * q + r) : sG 256 m (X / 2 ^ L) ++ sG 256 q ((X % 2 ^ L * 2 ^ d + e) / 2 ^ r) = sG 256 (m + q) ((X * 2 ^ d + e) / 2 ^ r) := by
 rw [zL]
 congr 1
 ·rw [Kl, Nat.div_div_eq_div_mul, ← Nat.pow_add, show r + 8 * q = d + L by omega, Nat.pow_add, ← Nat.div_div_eq_div_mul, Lg he]
 ·rw [Iz he, show L + d = r + 8 * q by omega, Nat.pow_add, Nat.mod_mul_right_div_self, ← Kl, E0]
theorem step_mod {X d e L q r : Nat} (he : e < 2 ^ d) (hq : L + d = 8 * q + r) : (X % 2 ^ L * 2 ^ d + e) % 2 ^ r = (X * 2 ^ d + e) % 2 ^ r := by
 rw [Iz he, show L + d = r + 8 * q by omega, Nat.pow_add, Nat.mod_mul_right_mod]
theorem PV (N h : Nat) (kk) {r : Nat} (hr : r < 8) : ∀ (q fuel : Nat) (out : List Int), 8 * q + r ≤ 60 → out.length + q ≤ 100000 → q < fuel →
  pP N (h : Int) kk fuel (out, ((8 * q + r : Nat) : Int)) = kk (out ++ qE (sG 256 q (h / 2 ^ r)), (r : Int)) := by
 intro q
 induction q with
 | zero =>
  intro fuel out hq ho hf;obtain ⟨fuel, rfl⟩ : ∃ m, fuel = m + 1 := ⟨fuel - 1, by omega⟩
  unfold pP;rw [cF (dF (by omega)), Nat.mul_zero, Nat.zero_add]
  simp [sG, qE]
 | succ q ih =>
  intro fuel out hq ho hf;obtain ⟨fuel, rfl⟩ : ∃ m, fuel = m + 1 := ⟨fuel - 1, by omega⟩
  have e1 : IntKind.i64.wrap (((8 * (q + 1) + r : Nat) : Int) - 8) = ((8 * q + r : Nat) : Int) := by rw [jR (by omega)]; omega
  have e2 : IntKind.u8.wrap (j0 .i64 (h : Int) ((8 * q + r : Nat) : Int)) = ((h / 2 ^ (8 * q + r) % 256 : Nat) : Int) := by rw [E1 (by omega), AT]
  have e3 : sG 256 (q + 1) (h / 2 ^ r) = [h / 2 ^ (8 * q + r) % 256] ++ sG 256 q (h / 2 ^ r) := by
   rw [Nat.add_comm q 1, zL, Kl, Nat.div_div_eq_div_mul, ← Nat.pow_add, Nat.add_comm r]
   rfl
  unfold pP;rw [cT (dT (by omega)), e1, aN, tM, aN, e2, p9 (by simp; omega), aN, ih fuel _ (by omega) (by simp; omega) (by omega), e3, Dn, List.append_assoc]
  rfl
def DJ (d : Nat) (l : List Int) (k : Nat) : Nat := num (2 ^ d) ((l.take k).map Int.toNat)
def Lh (d : Nat) (e : Int) : Bool := decide (0 ≤ e ∧ e < ((2 ^ d : Nat) : Int))
theorem IA {d : Nat} {l : List Int} {k : Nat} (hk : k < l.length) : DJ d l (k + 1) = DJ d l k * 2 ^ d + l[k].toNat := by
 unfold DJ;rw [List.take_succ_eq_append_getElem hk, List.map_append, List.map_cons, List.map_nil, BQ]
abbrev ZX := List Int × Int × Int × Int
def QX (d : Nat) (l : List Int) (k : Nat) : ZX := (qE (sG 256 (k * d / 8) (DJ d l k / 2 ^ (k * d % 8))), ((DJ d l k % 2 ^ (k * d % 8) : Nat) : Int), ((k * d % 8 : Nat) : Int), (k : Int))
theorem wG {d : Nat} (h : d ≤ 16) : 2 ^ d ≤ 65536 := by
 have := Nat.pow_le_pow_right (show 0 < 2 by decide) h;exact this
theorem PW (N : Nat) (hN : 100000 ≤ N) {d : Nat} (hd : 1 ≤ d ∧ d ≤ 16) (l : List Int) (hl : l.length ≤ 4096) (kk) : ∀ (j k fuel : Nat), k + j = l.length → j < fuel →
  pQ N l (d : Int) kk fuel (QX d l k) = if (l.drop k).all (Lh d) = true then kk (QX d l l.length) else some ([], 3) := by
 intro j
 induction j with
 | zero =>
  intro k fuel hk hf;obtain ⟨fuel, rfl⟩ : ∃ m, fuel = m + 1 := ⟨fuel - 1, by omega⟩
  obtain rfl : k = l.length := by omega
  unfold QX pQ;rw [cF (dF (by omega)), List.drop_length]
  rfl
 | succ j ih =>
  intro k fuel hk hf;obtain ⟨fuel, rfl⟩ : ∃ m, fuel = m + 1 := ⟨fuel - 1, by omega⟩
  have hlt : k < l.length := by omega
  have hp := wG hd.2;have hih := ih (k + 1) fuel (by omega) (by omega);have hpos : 0 < 2 ^ d := Nat.two_pow_pos d
  have esh : qF .i64 1 (d : Int) = ((2 ^ d : Nat) : Int) := by
   have := Ck (h := 1) (k := d) (by omega) (by omega);rw [Nat.one_mul] at this;exact this
  rw [List.drop_eq_getElem_cons hlt, List.all_cons];unfold QX pQ;rw [cT (dT (by omega)), jG, List.getElem?_eq_getElem hlt, aN]
  by_cases h1 : l[k] < 0
  ·have : Lh d l[k] = false := dF (by omega);rw [cT (dT h1), this]; rfl
  rw [cF (dF h1), tM, aN, esh]
  by_cases h2 : ((2 ^ d : Nat) : Int) ≤ l[k]
  ·have : Lh d l[k] = false := dF (by omega);rw [cT (dT h2), this]; rfl
  have hin : Lh d l[k] = true := dT (by omega);rw [cF (dF h2), aN, hin, Bool.true_and];have hsm := IA (d := d) hlt;obtain ⟨e, he⟩ : ∃ e : Nat, l[k] = e := ⟨l[k].toNat, by omega⟩
  have hed : e < 2 ^ d := by omega
  rw [he, Int.toNat_natCast] at hsm;rw [he];have hL : k * d % 8 < 8 := Nat.mod_lt _ (by decide);have hkd : (k + 1) * d = k * d + d := by rw [Nat.add_mul, Nat.one_mul]
  have hkb : k * d ≤ 4096 * 16 := Nat.mul_le_mul (by omega) hd.2;unfold QX at hih;rw [hsm, hkd] at hih
  generalize DJ d l k = X at hih ⊢
  have hdl := oU 256 (k * d / 8) (X / 2 ^ (k * d % 8))
  generalize k * d = T at *
  have eT : (T + d) % 8 = (T % 8 + d) % 8 := by omega
  have eQ : (T + d) / 8 = T / 8 + (T % 8 + d) / 8 := by omega
  rw [eT, eQ] at hih;have hq : T % 8 + d = 8 * ((T % 8 + d) / 8) + (T % 8 + d) % 8 := by omega
  have hr : (T % 8 + d) % 8 < 8 := by omega
  generalize (T % 8 + d) / 8 = q at *
  generalize (T % 8 + d) % 8 = r at *
  have s1 := NO (X := X) (T / 8) hed hq;have s2 := step_mod (X := X) hed hq
  generalize T / 8 = m at *
  generalize T % 8 = L at *
  have hX : X % 2 ^ L < 128 := Nat.lt_of_lt_of_le (Nat.mod_lt _ (Nat.two_pow_pos L)) (Nat.pow_le_pow_right (show 0 < 2 by decide) (show L ≤ 7 by omega));have hx6 : X % 2 ^ L * 2 ^ d ≤ 128 * 65536 := Nat.mul_le_mul (by omega) hp
  have ex : LP .i64 (qF .i64 ((X % 2 ^ L : Nat) : Int) (d : Int)) (e : Int) = ((X % 2 ^ L * 2 ^ d + e : Nat) : Int) := by
   rw [Ck (by omega) (by omega), SG hed (by omega)]
  have ew : IntKind.i64.wrap ((L : Int) + (d : Int)) = ((8 * q + r : Nat) : Int) := by rw [jR (by omega)]; omega
  have hpr : 2 ^ r ≤ 128 := Nat.pow_le_pow_right (show 0 < 2 by decide) (show r ≤ 7 by omega);have hr0 : 0 < 2 ^ r := Nat.two_pow_pos r
  have em : IntKind.i64.wrap (qF .i64 1 (r : Int) - 1) = ((2 ^ r - 1 : Nat) : Int) := by
   have := Ck (h := 1) (k := r) (by omega) (by omega);rw [Nat.one_mul] at this;rw [show (1 : Int) = ((1 : Nat) : Int) from rfl, this, jR (by omega)]
   omega
  rw [ex, aN, ew, aN];refine (PV N _ _ hr q N _ (by omega) (by rw [lK]; omega) (by omega)).trans ?_
  dsimp only
  rw [tM, aN, em, Iy (by omega) (by omega), aN, ← Dn, s1, s2, jR (x := (k : Int) + 1) (by omega)];exact hih
def IB (d : Nat) (l : List Int) : List Nat := sG 256 ((l.length * d + 7) / 8) (DJ d l l.length * 2 ^ ((l.length * d + 7) / 8 * 8 - l.length * d))
theorem L3 (X L m : Nat) (hL : L < 8) (h0 : 0 < L) : sG 256 m (X / 2 ^ L) ++ [X % 2 ^ L * 2 ^ (8 - L) % 256] = sG 256 (m + 1) (X * 2 ^ (8 - L)) := by
 have SH : (256 : Nat) = 2 ^ (8 - L) * 2 ^ L := by rw [← Nat.pow_add, show 8 - L + L = 8 by omega]
 show _ = sG 256 m (X * 2 ^ (8 - L) / 256) ++ [X * 2 ^ (8 - L) % 256]
 have e1 : X * 2 ^ (8 - L) / 256 = X / 2 ^ L := by
  conv => lhs; rw [SH]
  rw [← Nat.div_div_eq_div_mul, Nat.mul_div_cancel _ (Nat.two_pow_pos _)]
 have e2 : X * 2 ^ (8 - L) % 256 = X % 2 ^ L * 2 ^ (8 - L) := by
  conv => lhs; rw [SH]
  rw [Nat.mul_comm X, Nat.mul_mod_mul_left, Nat.mul_comm]
 rw [e1, e2]
 congr 2
 rw [Nat.mod_eq_of_lt];have h1 : X % 2 ^ L < 2 ^ L := Nat.mod_lt _ (Nat.two_pow_pos L);have h2 : (X % 2 ^ L + 1) * 2 ^ (8 - L) ≤ 2 ^ L * 2 ^ (8 - L) := Nat.mul_le_mul_right _ h1;rw [Nat.mul_comm (2 ^ L), ← SH, Nat.add_mul, Nat.one_mul] at h2;have := Nat.two_pow_pos (8 - L)
 omega
theorem Do (l : List Nat) : toB (qE l) = l.map UInt8.ofNat := by
 unfold toB qE;rw [List.map_map]
 rfl
def v6 (l : List Int) (o : Int) : Int := if ¬ (1 ≤ o ∧ o ≤ 16) then 3 else if 4096 < l.length then 2 else if l.all (Lh o.toNat) = true then 0 else 3
theorem L4 (N : Nat) (o : Int) : q9 N o = some (decide (1 ≤ o ∧ o ≤ 16)) := by
 unfold q9
 by_cases h : 1 ≤ o
 ·rw [cT (dT h)]; simp [h]
 ·rw [cF (dF h)]; simp [h]
theorem PX (N : Nat) (hN : 100000 ≤ N) (l : List Int) (o : Int) : wB N l o = some (if v6 l o = 0 then ((IB o.toNat l).map UInt8.ofNat, 0) else ([], v6 l o)) := by
 unfold wB;rw [L4, aN]
 by_cases h1 : 1 ≤ o ∧ o ≤ 16
 rotate_left
 ·have hpe : v6 l o = 3 := by unfold v6; rw [if_pos h1]
  rw [cT (by rw [dF h1]; rfl), hpe]; rfl
 have h1' : ¬ ¬ (1 ≤ o ∧ o ≤ 16) := fun h => h h1
 rw [cF (by rw [dT h1]; rfl)]
 by_cases h2 : 4096 < l.length
 ·have hpe : v6 l o = 2 := by unfold v6; rw [if_neg h1', if_pos h2]
  rw [cT (dT (by omega)), hpe]; rfl
 have hpe : v6 l o = if l.all (Lh o.toNat) = true then 0 else 3 := by unfold v6; rw [if_neg h1', if_neg h2]
 rw [cF (dF (by omega)), hpe];clear hpe h1';obtain ⟨d, rfl⟩ := Int.eq_ofNat_of_zero_le (show 0 ≤ o by omega);rw [Int.toNat_natCast];have hb : l.length * d ≤ 4096 * 16 := Nat.mul_le_mul (by omega) (by omega)
 have e1 : IntKind.i64.wrap (Int.tdiv (IntKind.i64.wrap (IntKind.i64.wrap ((l.length : Int) * (d : Int)) + 7)) 8) = (((l.length * d + 7) / 8 : Nat) : Int) := by
  rw [← Int.natCast_mul, jR (x := ((l.length * d : Nat) : Int)) (by omega), jR (x := ((l.length * d : Nat) : Int) + 7) (by omega), show ((l.length * d : Nat) : Int) + 7 = ((l.length * d + 7 : Nat) : Int) by omega,
   show Int.tdiv ((l.length * d + 7 : Nat) : Int) 8 = (((l.length * d + 7) / 8 : Nat) : Int) from rfl, jR (by omega)]
 have SI : QC 1 (((l.length * d + 7) / 8 : Nat) : Int) = some () := by unfold QC; rw [if_pos (by omega)]
 rw [e1, SI, aN]
 have h0 : QX d l 0 = (([] : List Int), (0 : Int), (0 : Int), (0 : Int)) := by
  unfold QX;rw [Nat.zero_mul]
  simp [DJ, num, sG, qE]
 have key := PW N hN (d := d) (by omega) l (by omega) (fun x : ZX =>
  cond (decide (0 < x.2.2.1)) (
  Option.bind (nn (IntKind.i64.wrap (8 - x.2.2.1))) fun _ =>
  Option.bind (app 1 x.1 (([IntKind.u8.wrap (qF .i64 x.2.1 (IntKind.i64.wrap (8 - x.2.2.1)))] : List Int))) fun l10 =>
  some (toB l10, 0)) (
  some (toB x.1, 0))) l.length 0 N (by omega) (by omega)
 rw [h0, List.drop_zero] at key;refine Eq.trans key ?_;cases hall : l.all (Lh d)
 ·rfl
 show _ = some ((IB d l).map UInt8.ofNat, 0);rw [if_pos rfl];unfold QX IB
 dsimp only
 generalize DJ d l l.length = X
 have hdl := oU 256 (l.length * d / 8) (X / 2 ^ (l.length * d % 8))
 generalize l.length * d = T at *
 by_cases hr : T % 8 = 0
 ·rw [cF (dF (by omega)), Do, hr, Nat.pow_zero, Nat.div_one, show (T + 7) / 8 = T / 8 by omega, show T / 8 * 8 - T = 0 by omega, Nat.pow_zero, Nat.mul_one]
 ·have hw : IntKind.i64.wrap (8 - ((T % 8 : Nat) : Int)) = ((8 - T % 8 : Nat) : Int) := by rw [jR (by omega)]; omega
  have hX : X % 2 ^ (T % 8) < 128 := Nat.lt_of_lt_of_le (Nat.mod_lt _ (Nat.two_pow_pos _)) (Nat.pow_le_pow_right (show 0 < 2 by decide) (show T % 8 ≤ 7 by omega));have hp2 : 2 ^ (8 - T % 8) ≤ 2 ^ 8 := Nat.pow_le_pow_right (show 0 < 2 by decide) (by omega);have hxx : X % 2 ^ (T % 8) * 2 ^ (8 - T % 8) ≤ 128 * 256 := Nat.mul_le_mul (by omega) hp2;rw [cT (dT (by omega)), hw, tM, aN, Ck (by omega) (by omega), AT, p9 (by rw [lK]; simp; omega), aN];have e2 := L3 X (T % 8) (T / 8) (by omega) (by omega);have e3 : qE (sG 256 (T / 8) (X / 2 ^ (T % 8))) ++ [((X % 2 ^ (T % 8) * 2 ^ (8 - T % 8) % 256 : Nat) : Int)] = qE (sG 256 (T / 8 + 1) (X * 2 ^ (8 - T % 8))) := by rw [← e2, Dn]; rfl
  rw [e3, Do, show (T + 7) / 8 = T / 8 + 1 by omega, show (T / 8 + 1) * 8 - T = 8 - T % 8 by omega]
theorem NP (N : Nat) (l : List Int) (kk) (hl : l.length ≤ 4611686018427387904) : ∀ (j k fuel : Nat), k + j = l.length → j < fuel → jC N l l kk fuel (k : Int) = kk (l.length : Int) := by
 intro j
 induction j with
 | zero =>
  intro k fuel hk hf;obtain ⟨fuel, rfl⟩ : ∃ m, fuel = m + 1 := ⟨fuel - 1, by omega⟩
  obtain rfl : k = l.length := by omega
  unfold jC;rw [cF (dF (by omega))]
 | succ j ih =>
  intro k fuel hk hf;obtain ⟨fuel, rfl⟩ : ∃ m, fuel = m + 1 := ⟨fuel - 1, by omega⟩
  have hlt : k < l.length := by omega
  unfold jC;rw [cT (dT (by omega)), jG, List.getElem?_eq_getElem hlt, aN, aN, cF (by simp), aN, jR (by omega)];exact ih (k + 1) fuel (by omega) (by omega)
theorem toNat_ofNat (s : List UInt8) : (s.map UInt8.toNat).map UInt8.ofNat = s := by
 rw [List.map_map]
 conv => rhs; rw [← List.map_id s]
 refine List.map_congr_left fun y _ => ?_
 simp
theorem D2 (l : List Nat) : (qE l).map Int.toNat = l := by
 unfold qE;rw [List.map_map]
 conv => rhs; rw [← List.map_id l]
 exact List.map_congr_left fun y _ => rfl
theorem L5 {l : List Int} (h : ∀ y ∈ l, 0 ≤ y) : qE (l.map Int.toNat) = l := by
 unfold qE;rw [List.map_map]
 conv => rhs; rw [← List.map_id l]
 refine List.map_congr_left fun y hy => ?_
 have := h y hy;show ((y.toNat : Nat) : Int) = y
 omega
def BD (l : List Nat) : List UInt8 := l.map fun b => UInt8.ofNat (48 + b)
theorem tI (l : List Nat) : (BD l).length = l.length := by simp [BD]
theorem Li (l m : List Nat) : BD (l ++ m) = BD l ++ BD m := by simp [BD]
theorem Vd (N : Nat) : ∀ (k fu n : Nat), k < fu → k ≤ 16 → n < 9223372036854775808 → iE N fu (n : Int) (k : Int) = some (BD (sG 2 k n)) := by
 intro k
 induction k with
 | zero =>
  intro fu n hf _ _;obtain ⟨fu, rfl⟩ : ∃ m, fu = m + 1 := ⟨fu - 1, by omega⟩
  unfold iE;rw [cT (by rfl)]; rfl
 | succ k ih =>
  intro fu n hf hk hn;obtain ⟨fu, rfl⟩ : ∃ m, fu = m + 1 := ⟨fu - 1, by omega⟩
  have e1 : IntKind.i64.wrap (Int.tdiv (n : Int) 2) = ((n / 2 : Nat) : Int) := by rw [show Int.tdiv (n : Int) 2 = ((n / 2 : Nat) : Int) from rfl, jR (by omega)]
  have e2 : IntKind.i64.wrap (((k + 1 : Nat) : Int) - 1) = (k : Int) := by rw [jR (by omega)]; omega
  have e3 : IntKind.u8.wrap (48 + IntKind.u8.wrap (Int.tmod (n : Int) 2)) = ((48 + n % 2 : Nat) : Int) := by
   rw [show Int.tmod (n : Int) 2 = ((n % 2 : Nat) : Int) from rfl, AT, show (48 : Int) + ((n % 2 % 256 : Nat) : Int) = ((48 + n % 2 % 256 : Nat) : Int) by omega, AT]
   omega
  unfold iE;rw [cF (dF (by omega)), e1, e2, ih fu (n / 2) (by omega) (by omega) (by omega), aN, e3];have hl : (BD (sG 2 k (n / 2))).length = k := by rw [tI, oU]
  have ha : G0 (BD (sG 2 k (n / 2))) (toB [((48 + n % 2 : Nat) : Int)]) = some (BD (sG 2 (k + 1) n)) := by
   unfold G0;rw [if_pos (by rw [hl]; simp [toB]; omega)];show some (_ ++ _) = some (BD (sG 2 k (n / 2) ++ [n % 2]));rw [Li]
   rfl
  rw [ha, aN]
theorem number_eq {N : Nat} (hN : 100 ≤ N) {n k : Nat} (hk : k ≤ 16) (hn : n < 9223372036854775808) : j1 N (n : Int) (k : Int) = some (BD (sG 2 k n)) := Vd N k N n (by omega) hk hn
theorem Hm (l m : List UInt8) : pN (l ++ m) = pN l ++ pN m := by simp [pN]
theorem Lj (l : List UInt8) : toB (pN l) = l := by
 unfold toB pN;rw [List.map_map]
 conv => rhs; rw [← List.map_id l]
 refine List.map_congr_left fun y _ => ?_
 show UInt8.ofNat (Int.toNat ((y.toNat : Nat) : Int)) = y
 simp
theorem vL (l : List UInt8) : (pN l).length = l.length := by simp [pN]
theorem NQ {d e X m : Nat} (he : e < 2 ^ d) : sG 2 m X ++ sG 2 d e = sG 2 (m + d) (X * 2 ^ d + e) := by
 rw [zL, Lg he]
 congr 1
 refine Ix ?_;rw [Nat.mul_comm, Nat.mul_add_mod]
theorem L6 (N : Nat) (hN : 100000 ≤ N) {d : Nat} (hd : 1 ≤ d ∧ d ≤ 16) {l : List Int} (hl : l.length ≤ 4096) (hall : l.all (Lh d) = true) (kk) : ∀ (j k fuel : Nat), k + j = l.length → j < fuel →
  jZ N l (d : Int) kk fuel (pN (BD (sG 2 (k * d) (DJ d l k))), (k : Int)) = kk (pN (BD (sG 2 (l.length * d) (DJ d l l.length))), (l.length : Int)) := by
 intro j
 induction j with
 | zero =>
  intro k fuel hk hf;obtain ⟨fuel, rfl⟩ : ∃ m, fuel = m + 1 := ⟨fuel - 1, by omega⟩
  obtain rfl : k = l.length := by omega
  unfold jZ;rw [cF (dF (by omega))]
 | succ j ih =>
  intro k fuel hk hf;obtain ⟨fuel, rfl⟩ : ∃ m, fuel = m + 1 := ⟨fuel - 1, by omega⟩
  have hlt : k < l.length := by omega
  have hp := wG hd.2;have hin := of_decide_eq_true (List.all_eq_true.1 hall _ (List.getElem_mem hlt));obtain ⟨e, he⟩ : ∃ e : Nat, l[k] = e := ⟨l[k].toNat, by omega⟩
  have hed : e < 2 ^ d := by omega
  have hsm := IA (d := d) hlt;rw [he, Int.toNat_natCast] at hsm;have hkb : k * d ≤ 4096 * 16 := Nat.mul_le_mul (by omega) hd.2;have hih := ih (k + 1) fuel (by omega) (by omega);rw [hsm, Nat.add_mul, Nat.one_mul, ← NQ hed, Li, Hm] at hih;unfold jZ;rw [cT (dT (by omega)), jG, List.getElem?_eq_getElem hlt, aN, he, number_eq (by omega) hd.2 (by omega), aN, p9 (by rw [vL, vL, tI, tI, oU, oU]; omega), aN, aN, jR (x := (k : Int) + 1) (by omega)];exact hih
def gr (M : Nat) (l : List Nat) : List Nat := (List.range M).map fun g => num 2 ((List.range 8).map fun t => l.getD (8 * g + t) 0)
theorem PY {M : Nat} {a c : List Nat} (ha : a.length = 8 * M) (hc : c.length = 8) : gr (M + 1) (a ++ c) = gr M a ++ [num 2 c] := by
 unfold gr;rw [List.range_succ (n := M), List.map_append, List.map_singleton]
 congr 1
 ·refine List.map_congr_left fun g hg => ?_
  have := List.mem_range.1 hg
  congr 1
  refine List.map_congr_left fun t ht => ?_
  have := List.mem_range.1 ht;rw [List.getD_eq_getElem?_getD, List.getD_eq_getElem?_getD, List.getElem?_append_left (by omega)]
 ·congr 2
  apply List.ext_getElem?
  intro t
  by_cases ht : t < 8
  ·rw [List.getElem?_map, List.getElem?_range ht];show some ((a ++ c).getD (8 * M + t) 0) = _;rw [List.getD_eq_getElem?_getD, List.getElem?_append_right (by omega), show 8 * M + t - a.length = t by omega, List.getElem?_eq_getElem (by omega)]
   rfl
  ·rw [List.getElem?_eq_none (by simp; omega), List.getElem?_eq_none (by omega)]
theorem NR : ∀ (M Y : Nat), gr M (sG 2 (8 * M) Y) = sG 256 M Y
 | 0, _ => rfl
 | M + 1, Y => by
  rw [show 8 * (M + 1) = 8 * M + 8 by omega, zL, PY (oU _ _ _) (oU _ _ _), Lf, NR M]
  rfl
theorem SJ (M p : Nat) (l : List Nat) : gr M (l ++ List.replicate p 0) = gr M l := by
 unfold gr;refine List.map_congr_left fun g _ => ?_
 congr 1
 refine List.map_congr_left fun t _ => ?_
 rw [List.getD_eq_getElem?_getD, List.getD_eq_getElem?_getD]
 by_cases h : 8 * g + t < l.length
 ·rw [List.getElem?_append_left h]
 ·rw [List.getElem?_append_right (by omega), List.getElem?_eq_none (l := l) (by omega), List.getElem?_replicate]
  split <;> rfl
theorem IC (B : Nat) : ∀ n, sG B n 0 = List.replicate n 0
 | 0 => rfl
 | n + 1 => by
  show sG B n (0 / B) ++ [0 % B] = _;rw [Nat.zero_div, Nat.zero_mod, IC B n, List.replicate_succ']
theorem Ve (T X : Nat) : gr ((T + 7) / 8) (sG 2 T X) = sG 256 ((T + 7) / 8) (X * 2 ^ ((T + 7) / 8 * 8 - T)) := by
 have h1 : sG 2 T X ++ List.replicate ((T + 7) / 8 * 8 - T) 0 = sG 2 (8 * ((T + 7) / 8)) (X * 2 ^ ((T + 7) / 8 * 8 - T)) := by
  rw [show 8 * ((T + 7) / 8) = T + ((T + 7) / 8 * 8 - T) by omega, zL, Nat.mul_div_cancel _ (Nat.two_pow_pos _), ← IC 2]
  congr 1
  exact Ix (by rw [Nat.mul_mod_left, Nat.zero_mod])
 rw [← NR, ← h1, SJ]
theorem Lk {l : List Nat} {k : Nat} (hk : k < l.length) (h2 : ∀ y ∈ l, y < 2) : idx (BD l) (k : Int) = some (UInt8.ofNat (48 + l.getD k 0)) ∧ ((UInt8.ofNat (48 + l.getD k 0)).toNat : Int) = ((48 + l.getD k 0 : Nat) : Int) ∧ l.getD k 0 < 2 := by
 have hg : l.getD k 0 = l[k] := by rw [List.getD_eq_getElem?_getD, List.getElem?_eq_getElem hk]; rfl
 have h3 := h2 _ (List.getElem_mem hk);rw [hg];refine ⟨?_, ?_, h3⟩
 ·rw [jG, BD, List.getElem?_map, List.getElem?_eq_getElem hk]; rfl
 ·rw [UInt8.toNat_ofNat', Nat.mod_eq_of_lt (by omega)]
theorem NS (N : Nat) {l : List Nat} (h2 : ∀ y ∈ l, y < 2) (hl : l.length ≤ 16777216) {i : Nat} (hi : i < l.length) (kk) : ∀ (j t fuel : Nat), t + j = 8 → j < fuel →
  iF N (BD l) (i : Int) kk fuel (((num 2 ((List.range t).map fun t => l.getD (i + t) 0) : Nat) : Int), ((i + t : Nat) : Int)) = kk (((num 2 ((List.range 8).map fun t => l.getD (i + t) 0) : Nat) : Int), ((i + 8 : Nat) : Int)) := by
 intro j
 induction j with
 | zero =>
  intro t fuel hk hf;obtain ⟨fuel, rfl⟩ : ∃ m, fuel = m + 1 := ⟨fuel - 1, by omega⟩
  obtain rfl : t = 8 := by omega
  unfold iF;rw [jR (x := (i : Int) + 8) (by omega), cF (dF (by omega))]
 | succ j ih =>
  intro t fuel hk hf;obtain ⟨fuel, rfl⟩ : ∃ m, fuel = m + 1 := ⟨fuel - 1, by omega⟩
  have hih := ih (t + 1) fuel (by omega) (by omega);rw [List.range_succ, List.map_append, List.map_singleton, BQ] at hih
  have hb : num 2 ((List.range t).map fun t => l.getD (i + t) 0) < 256 := by
   have := Hl (B := 2) ((List.range t).map fun t => l.getD (i + t) 0) fun y hy => by
    obtain ⟨q, _, rfl⟩ := List.mem_map.1 hy;rw [List.getD_eq_getElem?_getD]
    by_cases hq : i + q < l.length
    ·rw [List.getElem?_eq_getElem hq]; exact h2 _ (List.getElem_mem hq)
    ·rw [List.getElem?_eq_none (by omega)]; decide
   rw [List.length_map, List.length_range] at this;have h8 : 2 ^ t ≤ 256 := Nat.pow_le_pow_right (show 0 < 2 by decide) (show t ≤ 8 by omega)
   omega
  generalize num 2 ((List.range t).map fun t => l.getD (i + t) 0) = v at *
  unfold iF;rw [jR (x := (i : Int) + 8) (by omega), cT (dT (by omega)), jR (x := 2 * (v : Int)) (by omega), aN]
  by_cases hq : i + t < l.length
  ·obtain ⟨g1, g2, g3⟩ := Lk hq h2;rw [cT (dT (by rw [tI]; omega)), g1, aN, g2]
   generalize l.getD (i + t) 0 = b at *
   by_cases h1 : b = 1
   ·subst h1;rw [cT (dT (by omega)), jR (x := 2 * (v : Int) + 1) (by omega), aN, jR (x := ((i + t : Nat) : Int) + 1) (by omega), aN];rw [show v * 2 + 1 = 2 * v + 1 by omega] at hih;exact hih
   ·obtain rfl : b = 0 := by omega
    rw [cF (dF (by omega)), jR (x := ((i + t : Nat) : Int) + 1) (by omega), aN];rw [show v * 2 + 0 = 2 * v by omega] at hih;exact hih
  ·have hz : l.getD (i + t) 0 = 0 := by rw [List.getD_eq_getElem?_getD, List.getElem?_eq_none (by omega)]; rfl
   rw [hz, show v * 2 + 0 = 2 * v by omega] at hih;rw [cF (dF (by rw [tI]; omega)), jR (x := ((i + t : Nat) : Int) + 1) (by omega), aN];exact hih
theorem NT (N : Nat) (hN : 100 ≤ N) {l : List Nat} (h2 : ∀ y ∈ l, y < 2) (hl : l.length ≤ 16777216) (kk) : ∀ (j m fuel : Nat), m + j = (l.length + 7) / 8 → j < fuel →
  jB N (BD l) kk fuel (qE (gr m l), ((8 * m : Nat) : Int)) = kk (qE (gr ((l.length + 7) / 8) l), ((8 * ((l.length + 7) / 8) : Nat) : Int)) := by
 intro j
 induction j with
 | zero =>
  intro m fuel hk hf;obtain ⟨fuel, rfl⟩ : ∃ q, fuel = q + 1 := ⟨fuel - 1, by omega⟩
  obtain rfl : m = (l.length + 7) / 8 := by omega
  unfold jB;rw [cF (dF (by rw [tI]; omega))]
 | succ j ih =>
  intro m fuel hk hf;obtain ⟨fuel, rfl⟩ : ∃ q, fuel = q + 1 := ⟨fuel - 1, by omega⟩
  have hlt : 8 * m < l.length := by omega
  have hih := ih (m + 1) fuel (by omega) (by omega)
  have hg : gr (m + 1) l = gr m l ++ [num 2 ((List.range 8).map fun t => l.getD (8 * m + t) 0)] := by
   unfold gr;rw [List.range_succ (n := m), List.map_append, List.map_singleton]
  have hgl : (gr m l).length = m := by simp [gr]
  have hb : num 2 ((List.range 8).map fun t => l.getD (8 * m + t) 0) < 256 := by
   have := Hl (B := 2) ((List.range 8).map fun t => l.getD (8 * m + t) 0) fun y hy => by
    obtain ⟨q, _, rfl⟩ := List.mem_map.1 hy;rw [List.getD_eq_getElem?_getD]
    by_cases hq : 8 * m + q < l.length
    ·rw [List.getElem?_eq_getElem hq]; exact h2 _ (List.getElem_mem hq)
    ·rw [List.getElem?_eq_none (by omega)]; decide
   rw [List.length_map, List.length_range] at this;exact this
  unfold jB;rw [cT (dT (by rw [tI]; omega))];have key := NS N h2 hl hlt (fun x : Int × Int => Option.bind (app 1 (qE (gr m l)) ([IntKind.u8.wrap x.1] : List Int)) fun l4 => Option.bind (some (IntKind.i64.wrap (((8 * m : Nat) : Int) + 8))) fun i3 => jB N (BD l) kk fuel (l4, i3)) 8 0 N (by omega) (by omega);refine Eq.trans key ?_;rw [hg, Dn] at hih
  generalize num 2 ((List.range 8).map fun t => l.getD (8 * m + t) 0) = v at *
  dsimp only
  rw [AT, Nat.mod_eq_of_lt hb, p9 (by rw [lK, hgl]; simp; omega), aN, jR (by omega), aN, show ((8 * m : Nat) : Int) + 8 = ((8 * (m + 1) : Nat) : Int) by omega];exact hih
theorem ID (N : Nat) (l : List Nat) (h2 : ∀ y ∈ l, y < 2) (hl : l.length ≤ 16777216) (hN : 100 ≤ N ∧ (l.length + 7) / 8 < N) : iN N (BD l) = some ((gr ((l.length + 7) / 8) l).map UInt8.ofNat) := by
 unfold iN
 have e1 : IntKind.i64.wrap (IntKind.i64.wrap (Int.tdiv ((BD l).length : Int) 8) + 1) = ((l.length / 8 + 1 : Nat) : Int) := by
  rw [tI, show Int.tdiv (l.length : Int) 8 = ((l.length / 8 : Nat) : Int) from rfl, jR (x := ((l.length / 8 : Nat) : Int)) (by omega), jR (by omega)]
  omega
 have SI : QC 1 ((l.length / 8 + 1 : Nat) : Int) = some () := by unfold QC; rw [if_pos (by omega)]
 rw [e1, SI, aN];have key := NT N hN.1 h2 hl (fun x : List Int × Int => some (toB x.1)) ((l.length + 7) / 8) 0 N (by omega) (by omega);refine Eq.trans key ?_
 dsimp only
 rw [Do]
theorem L7 (N : Nat) (hN : 100000 ≤ N) {d : Nat} (hd : 1 ≤ d ∧ d ≤ 16) {l : List Int} (hl : l.length ≤ 4096) (hall : l.all (Lh d) = true) : mI N l (d : Int) = some ((IB d l).map UInt8.ofNat) := by
 have hkb : l.length * d ≤ 4096 * 16 := Nat.mul_le_mul hl hd.2;unfold mI;have key := L6 N hN hd hl hall (fun x : List Int × Int => Option.bind (iN N (toB x.1)) fun r5 => some r5) l.length 0 N (by omega) (by omega);rw [Nat.zero_mul] at key;refine Eq.trans key ?_
 dsimp only
 rw [Lj, ID N _ (fun y hy => Hk (by decide) _ _ y hy) (by rw [oU]; omega) (by rw [oU]; omega), aN, oU, Ve]
 rfl
def BR (l : List Nat) : List Nat := l.map fun b => 48 + b
theorem L8 (l m : List Nat) : BR (l ++ m) = BR l ++ BR m := by simp [BR]
theorem L9 (l : List Nat) : (BR l).map UInt8.ofNat = BD l := by unfold BR BD; rw [List.map_map]; rfl
theorem uP (N : Nat) (n lo hi : Int) : cZ N n lo hi = some (decide (lo ≤ n ∧ n ≤ hi)) := by
 unfold cZ
 by_cases h1 : lo ≤ n
 ·rw [cT (dT h1)]; simp [h1]
 ·rw [cF (dF h1)]; simp [h1]
def E2 (b : List UInt8) : Bool := b.all fun c => decide (c = 48 ∨ c = 49)
theorem Ll : ∀ b : List UInt8, b.count 48 + b.count 49 ≤ b.length ∧ (b.count 48 + b.count 49 = b.length ↔ E2 b = true)
 | [] => by simp [E2]
 | c :: b => by
  obtain ⟨h1, h2⟩ := Ll b;have e : E2 (c :: b) = (decide (c = 48 ∨ c = 49) && E2 b) := rfl;rw [e, List.count_cons, List.count_cons, List.length_cons]
  by_cases q : c = 48
  ·subst q;have : ((48 : UInt8) == 49) = false := by decide
   rw [this, show decide ((48 : UInt8) = 48 ∨ (48 : UInt8) = 49) = true by decide, Bool.true_and, ← h2, show ((48 : UInt8) == 48) = true by decide]
   constructor
   ·simp; omega
   ·simp; omega
  ·by_cases q2 : c = 49
   ·subst q2;have : ((49 : UInt8) == 48) = false := by decide
    rw [this, show decide ((49 : UInt8) = 48 ∨ (49 : UInt8) = 49) = true by decide, Bool.true_and, ← h2, show ((49 : UInt8) == 49) = true by decide]
    constructor
    ·simp; omega
    ·simp; omega
   ·have q3 : (c == 48) = false := by simpa using q
    have q4 : (c == 49) = false := by simpa using q2
    rw [q3, q4, show decide (c = 48 ∨ c = 49) = false from decide_eq_false (fun h => h.elim q q2), Bool.false_and]
    constructor
    ·simp; omega
    ·simp; omega
theorem QY {p : UInt8 → Bool} : ∀ l : List UInt8, l.all p = true → l.dropWhile p = []
 | [], _ => rfl
 | c :: l, h => by
  rw [List.all_cons, Bool.and_eq_true] at h;rw [List.dropWhile_cons, if_pos h.1];exact QY l h.2
theorem Ma {b : List UInt8} (h : E2 b = true) : Go.Lib.trimS b [48, 49] = [] := by
 have hp : b.all (fun c => [(48 : UInt8), 49].contains c) = true := by
  refine List.all_eq_true.2 fun c hc => ?_
  have := of_decide_eq_true (List.all_eq_true.1 h c hc)
  rcases this with rfl | rfl <;> decide
 have hr : b.reverse.all (fun c => [(48 : UInt8), 49].contains c) = true := by rw [List.all_reverse]; exact hp
 unfold Go.Lib.trimS Go.Lib.trimRightS;rw [QY _ hr]
 rfl
theorem all_eq (N : Nat) {b : List UInt8} (hb : b.length ≤ 16777216) : vH N b = some (E2 b) := by
 have ht : rY N b [48, 49] = some (Go.Lib.trimS b [48, 49]) := by
  unfold rY;rw [if_pos ⟨by omega, by decide, by decide⟩]
 have h0 : oG N b [48] = some ((b.count 48 : Nat) : Int) := rfl;have h1 : oG N b [49] = some ((b.count 49 : Nat) : Int) := rfl;obtain ⟨c1, c2⟩ := Ll b;have hw : IntKind.i64.wrap (((b.count 48 : Nat) : Int) + ((b.count 49 : Nat) : Int)) = ((b.count 48 + b.count 49 : Nat) : Int) := by rw [jR (by omega)]; omega
 unfold vH;rw [ht, aN, h0, aN, h1, aN, hw]
 by_cases h : E2 b = true
 ·rw [Ma h, cT (by rfl), h, dT (by have := c2.2 h; omega)]
 ·have hne : ¬ (b.count 48 + b.count 49 = b.length) := fun q => h (c2.1 q)
  have hf : E2 b = false := by simpa using h
  rw [hf, dF (show ¬ (((b.count 48 + b.count 49 : Nat) : Int) = (b.length : Int)) by omega)]
  cases decide (Go.Lib.trimS b [48, 49] = ([] : List UInt8)) <;> rfl
def Ao (b : List UInt8) : List Nat := b.map fun c => c.toNat - 48
theorem IE {b : List UInt8} (h : E2 b = true) : ∀ y ∈ Ao b, y < 2 := fun y hy => by
 obtain ⟨c, hc, rfl⟩ := List.mem_map.1 hy
 rcases of_decide_eq_true (List.all_eq_true.1 h c hc) with rfl | rfl <;> decide
theorem Lm {b : List UInt8} (h : E2 b = true) : BD (Ao b) = b := by
 unfold BD Ao;rw [List.map_map]
 conv => rhs; rw [← List.map_id b]
 refine List.map_congr_left fun c hc => ?_
 rcases of_decide_eq_true (List.all_eq_true.1 h c hc) with rfl | rfl <;> rfl
theorem PZ {h d e : Nat} (he : e < 2 ^ d) (hb : h * 2 ^ d + e < 256) : LP .u8 ((h * 2 ^ d : Nat) : Int) (e : Int) = ((h * 2 ^ d + e : Nat) : Int) := by
 unfold LP;have hb' : IntKind.u8.bits = 8 := rfl
 have e1 : (BitVec.ofInt IntKind.u8.bits ((h * 2 ^ d : Nat) : Int) ||| BitVec.ofInt IntKind.u8.bits (e : Int)).toNat = h * 2 ^ d + e := by
  rw [BitVec.toNat_or, BitVec.ofInt_natCast, BitVec.ofInt_natCast, BitVec.toNat_ofNat, BitVec.toNat_ofNat, hb', Nat.mod_eq_of_lt (show h * 2 ^ d < 2 ^ 8 by omega), Nat.mod_eq_of_lt (show e < 2 ^ 8 by omega)];rw [Nat.mul_comm h, Nat.two_pow_add_eq_or_of_lt he]
 rw [e1, AT, Nat.mod_eq_of_lt hb]
theorem Y8 {b k : Nat} (hk : k ≤ 8) (h : b * 2 ^ k < 256) : qF .u8 (b : Int) (k : Int) = ((b * 2 ^ k : Nat) : Int) := by
 unfold qF
 have : min ((k : Int)).toNat IntKind.u8.bits = k := by
  rw [Int.toNat_natCast];exact Nat.min_eq_left hk
 rw [this, show (2 : Int) ^ k = ((2 ^ k : Nat) : Int) by simp, ← Int.natCast_mul, AT, Nat.mod_eq_of_lt h]
theorem IF (f : Nat → Nat) : ∀ t r, (∀ q, t ≤ q → f q = 0) → num 2 ((List.range (t + r)).map f) = num 2 ((List.range t).map f) * 2 ^ r
 | t, 0, _ => by simp
 | t, r + 1, h => by
  rw [← Nat.add_assoc, List.range_succ, List.map_append, List.map_singleton, BQ, IF f t r h, h (t + r) (by omega), Nat.add_zero, Nat.pow_succ, Nat.mul_assoc]
theorem SK {M k : Nat} {l : List Nat} (hk : k < l.length) (hM : k / 8 < M) :
  (gr M (l.take k)).getD (k / 8) 0 = num 2 ((List.range (k % 8)).map fun t => l.getD (8 * (k / 8) + t) 0) * 2 ^ (8 - k % 8) ∧
  gr M (l.take (k + 1)) = (gr M (l.take k)).set (k / 8) (num 2 ((List.range (k % 8)).map fun t => l.getD (8 * (k / 8) + t) 0) * 2 ^ (8 - k % 8) + l.getD k 0 * 2 ^ (7 - k % 8)) := by
 have hmod : k % 8 < 8 := Nat.mod_lt _ (by decide);have hdm : 8 * (k / 8) + k % 8 = k := Nat.div_add_mod k 8
 have get : ∀ n i, (l.take n).getD i 0 = if i < n then l.getD i 0 else 0 := fun n i => by
  rw [List.getD_eq_getElem?_getD, List.getD_eq_getElem?_getD, List.getElem?_take]
  split <;> rfl
 have hval : ∀ n, 8 * (k / 8) ≤ n → n ≤ 8 * (k / 8) + 8 → num 2 ((List.range 8).map fun t => (l.take n).getD (8 * (k / 8) + t) 0) = num 2 ((List.range (n - 8 * (k / 8))).map fun t => l.getD (8 * (k / 8) + t) 0) * 2 ^ (8 - (n - 8 * (k / 8))) := fun n h1 h2 => by
  have := IF (fun t => (l.take n).getD (8 * (k / 8) + t) 0) (n - 8 * (k / 8)) (8 - (n - 8 * (k / 8))) (fun q hq => by rw [get, if_neg (by omega)]);rw [show n - 8 * (k / 8) + (8 - (n - 8 * (k / 8))) = 8 by omega] at this;rw [this]
  congr 2
  refine List.map_congr_left fun t ht => ?_
  have := List.mem_range.1 ht;rw [get, if_pos (by omega)]
 have hv0 := hval k (by omega) (by omega);have hv1 := hval (k + 1) (by omega) (by omega);rw [show k - 8 * (k / 8) = k % 8 by omega] at hv0;rw [show k + 1 - 8 * (k / 8) = k % 8 + 1 by omega, List.range_succ (n := k % 8), List.map_append, List.map_singleton, BQ, hdm, Nat.add_mul] at hv1
 have e2 : num 2 ((List.range (k % 8)).map fun t => l.getD (8 * (k / 8) + t) 0) * 2 * 2 ^ (8 - (k % 8 + 1)) = num 2 ((List.range (k % 8)).map fun t => l.getD (8 * (k / 8) + t) 0) * 2 ^ (8 - k % 8) := by
  rw [Nat.mul_assoc, show 8 - k % 8 = 8 - (k % 8 + 1) + 1 by omega, Nat.pow_succ, Nat.mul_comm 2]
 rw [e2, show 8 - (k % 8 + 1) = 7 - k % 8 by omega] at hv1;have hgl : ∀ n, (gr M (l.take n)).length = M := fun n => by simp [gr]
 have hgg : ∀ n g, g < M → (gr M (l.take n))[g]? = some (num 2 ((List.range 8).map fun t => (l.take n).getD (8 * g + t) 0)) := fun n g hg => by
  unfold gr;rw [List.getElem?_map, List.getElem?_range hg]; rfl
 constructor
 ·rw [List.getD_eq_getElem?_getD, hgg k _ hM, hv0]; rfl
 ·apply List.ext_getElem?
  intro g
  by_cases hg : g < M
  ·by_cases he : k / 8 = g
   ·subst he;rw [hgg _ _ hM, List.getElem?_set_self (by rw [hgl]; exact hM), hv1]
   ·rw [List.getElem?_set_ne he, hgg _ _ hg, hgg _ _ hg]
    congr 2
    refine List.map_congr_left fun t ht => ?_
    have := List.mem_range.1 ht;rw [get, get]
    by_cases q : 8 * g + t < k
    ·rw [if_pos (by omega), if_pos q]
    ·rw [if_neg q, if_neg]
     omega
  ·rw [List.getElem?_eq_none (by rw [hgl]; omega), List.getElem?_eq_none (by rw [List.length_set, hgl]; omega)]
theorem E3 (l : List Nat) (i v : Nat) : qE (l.set i v) = (qE l).set i (v : Int) := by simp [qE, List.map_set]
theorem E4 {l : List Nat} {i : Nat} (h : i < l.length) : idx (qE l) (i : Int) = some ((l.getD i 0 : Nat) : Int) := by
 rw [jG, qE, List.getElem?_map, List.getElem?_eq_getElem h, List.getD_eq_getElem?_getD, List.getElem?_eq_getElem h]; rfl
theorem Mb (N : Nat) {l : List Nat} (h2 : ∀ y ∈ l, y < 2) (hl : l.length ≤ 16777216) (kk) : ∀ (j k fuel : Nat), k + j = l.length → j < fuel →
  oO N (BD l) kk fuel (qE (gr ((l.length + 7) / 8) (l.take k)), (k : Int)) = kk (qE (gr ((l.length + 7) / 8) l), (l.length : Int)) := by
 intro j
 induction j with
 | zero =>
  intro k fuel hk hf;obtain ⟨fuel, rfl⟩ : ∃ m, fuel = m + 1 := ⟨fuel - 1, by omega⟩
  obtain rfl : k = l.length := by omega
  unfold oO;rw [cF (dF (by rw [tI]; omega)), List.take_length]
 | succ j ih =>
  intro k fuel hk hf;obtain ⟨fuel, rfl⟩ : ∃ m, fuel = m + 1 := ⟨fuel - 1, by omega⟩
  have hlt : k < l.length := by omega
  have hih := ih (k + 1) fuel (by omega) (by omega);have hmod : k % 8 < 8 := Nat.mod_lt _ (by decide);have hM : k / 8 < (l.length + 7) / 8 := by omega
  obtain ⟨s1, s2⟩ := SK (M := (l.length + 7) / 8) hlt hM;obtain ⟨g1, g2, g3⟩ := Lk hlt h2;have hgl : (gr ((l.length + 7) / 8) (l.take k)).length = (l.length + 7) / 8 := by simp [gr]
  have hn : num 2 ((List.range (k % 8)).map fun t => l.getD (8 * (k / 8) + t) 0) < 2 ^ (k % 8) := by
   have := Hl (B := 2) ((List.range (k % 8)).map fun t => l.getD (8 * (k / 8) + t) 0) fun y hy => by
    obtain ⟨q, _, rfl⟩ := List.mem_map.1 hy;rw [List.getD_eq_getElem?_getD]
    by_cases hq : 8 * (k / 8) + q < l.length
    ·rw [List.getElem?_eq_getElem hq]; exact h2 _ (List.getElem_mem hq)
    ·rw [List.getElem?_eq_none (by omega)]; decide
   rwa [List.length_map, List.length_range] at this
  rw [s2] at hih;have hold := E4 (l := gr ((l.length + 7) / 8) (l.take k)) (i := k / 8) (by omega);rw [s1] at hold
  generalize gr ((l.length + 7) / 8) (l.take k) = G at *
  generalize num 2 ((List.range (k % 8)).map fun t => l.getD (8 * (k / 8) + t) 0) = v at *
  generalize l.getD k 0 = b at *
  have p1 : 2 ^ (8 - k % 8) = 2 * 2 ^ (7 - k % 8) := by rw [show 8 - k % 8 = 7 - k % 8 + 1 by omega, Nat.pow_succ, Nat.mul_comm]
  have p2 : 2 ^ (7 - k % 8) ≤ 128 := Nat.pow_le_pow_right (show 0 < 2 by decide) (show 7 - k % 8 ≤ 7 by omega)
  have p3 : (v + 1) * 2 ^ (8 - k % 8) ≤ 256 := by
   have := Nat.mul_le_mul_right (2 ^ (8 - k % 8)) hn;rw [← Nat.pow_add, show k % 8 + (8 - k % 8) = 8 by omega] at this;exact this
  have p0 := Nat.two_pow_pos (7 - k % 8)
  have p4 : b * 2 ^ (7 - k % 8) < 2 ^ (8 - k % 8) := by
   have := Nat.mul_le_mul_right (2 ^ (7 - k % 8)) (show b ≤ 1 by omega)
   omega
  rw [Nat.add_mul, Nat.one_mul] at p3;have ediv : IntKind.i64.wrap (Int.tdiv (k : Int) 8) = ((k / 8 : Nat) : Int) := by rw [show Int.tdiv (k : Int) 8 = ((k / 8 : Nat) : Int) from rfl, jR (by omega)]
  have Y9 : IntKind.i64.wrap (7 - Int.tmod (k : Int) 8) = ((7 - k % 8 : Nat) : Int) := by rw [show Int.tmod (k : Int) 8 = ((k % 8 : Nat) : Int) from rfl, jR (by omega)]; omega
  have eb : IntKind.u8.wrap (((48 + b : Nat) : Int) - 48) = (b : Int) := by rw [show ((48 + b : Nat) : Int) - 48 = (b : Int) by omega, AT]; omega
  have eor : LP .u8 ((v * 2 ^ (8 - k % 8) : Nat) : Int) (qF .u8 (b : Int) ((7 - k % 8 : Nat) : Int)) = ((v * 2 ^ (8 - k % 8) + b * 2 ^ (7 - k % 8) : Nat) : Int) := by rw [Y8 (by omega) (by omega), PZ p4 (by omega)]
  have hset : xC (qE G) ((k / 8 : Nat) : Int) ((v * 2 ^ (8 - k % 8) + b * 2 ^ (7 - k % 8) : Nat) : Int) = some (qE (G.set (k / 8) (v * 2 ^ (8 - k % 8) + b * 2 ^ (7 - k % 8)))) := by
   unfold xC;rw [if_pos (by rw [lK]; omega), Int.toNat_natCast, E3]
  unfold oO;rw [cT (dT (by rw [tI]; omega)), ediv, aN, hold, aN, g1, aN, g2, Y9, tM, aN, aN, eb, eor, hset, aN, jR (x := (k : Int) + 1) (by omega)];exact hih
theorem SM (M : Nat) : gr M [] = List.replicate M 0 := by
 unfold gr
 apply List.ext_getElem?
 intro g
 by_cases h : g < M
 ·rw [List.getElem?_map, List.getElem?_range h, List.getElem?_replicate, if_pos h]; rfl
 ·rw [List.getElem?_eq_none (by simp; omega), List.getElem?_eq_none (by simp; omega)]
theorem Km (N : Nat) {b : List UInt8} (hb : b.length ≤ 16777216) (hN : b.length < N) : qJ N b = some (if E2 b = true then ((gr ((b.length + 7) / 8) (Ao b)).map UInt8.ofNat, 0) else ([], 1)) := by
 unfold qJ;rw [all_eq N hb, aN]
 by_cases h : E2 b = true
 rotate_left
 ·have hf : E2 b = false := by simpa using h
  rw [hf]; rfl
 rw [h, cF (by rfl), if_pos rfl];have hlen : (Ao b).length = b.length := by simp [Ao]
 have e1 : IntKind.i64.wrap (Int.tdiv (IntKind.i64.wrap ((b.length : Int) + 7)) 8) = (((b.length + 7) / 8 : Nat) : Int) := by
  rw [jR (x := (b.length : Int) + 7) (by omega), show (b.length : Int) + 7 = ((b.length + 7 : Nat) : Int) by omega, show Int.tdiv ((b.length + 7 : Nat) : Int) 8 = (((b.length + 7) / 8 : Nat) : Int) from rfl, jR (by omega)]
 rw [e1, aN, mk_eq (by omega), aN, Int.toNat_natCast];have key := Mb N (l := Ao b) (IE h) (by omega) (fun x : List Int × Int => some (toB x.1, (0 : Int))) (Ao b).length 0 N (by omega) (by omega);rw [List.take_zero, SM, Lm h, hlen] at key;have hz : qE (List.replicate ((b.length + 7) / 8) 0) = List.replicate ((b.length + 7) / 8) 0 := by simp [qE]
 rw [hz] at key;refine Eq.trans key ?_
 dsimp only
 rw [Do]
theorem Mc (N : Nat) {b : List UInt8} (h : E2 b = true) (hb : b.length ≤ 16777216) (hN : 100 ≤ N ∧ b.length < N) : iN N b = some ((gr ((b.length + 7) / 8) (Ao b)).map UInt8.ofNat) := by
 have hlen : (Ao b).length = b.length := by simp [Ao]
 have := ID N (Ao b) (IE h) (by omega) (by omega);rw [Lm h, hlen] at this;exact this
theorem P0 {T k Y : Nat} (h : k < T) : (sG 2 T Y)[k]? = some (Y / 2 ^ (T - 1 - k) % 2) := by
 have e : sG 2 T Y = sG 2 k (Y / 2 ^ (1 + (T - 1 - k))) ++ ([Y / 2 ^ (T - 1 - k) % 2] ++ sG 2 (T - 1 - k) Y) := by
  conv => lhs; rw [show T = k + (1 + (T - 1 - k)) by omega]
  rw [zL, zL 2 1]
  rfl
 rw [e, List.getElem?_append_right (by rw [oU]; exact Nat.le_refl _), oU, Nat.sub_self]
 rfl
def ED (size n k : Nat) : List Int := qE (BR ((sG 2 size n).take k) ++ List.replicate (size - k) 0)
theorem Md (N : Nat) {size n : Nat} (hs : size ≤ 16) (hn : n < 9223372036854775808) (kk) : ∀ (j k fuel : Nat), k + j = size → j < fuel →
  nV N (n : Int) (size : Int) kk fuel (ED size n k, (size : Int), (k : Int)) = kk (ED size n size, (size : Int), (size : Int)) := by
 intro j
 induction j with
 | zero =>
  intro k fuel hk hf;obtain ⟨fuel, rfl⟩ : ∃ m, fuel = m + 1 := ⟨fuel - 1, by omega⟩
  obtain rfl : k = size := by omega
  unfold nV;rw [cF (dF (by omega))]
 | succ j ih =>
  intro k fuel hk hf;obtain ⟨fuel, rfl⟩ : ∃ m, fuel = m + 1 := ⟨fuel - 1, by omega⟩
  have hlt : k < size := by omega
  have hih := ih (k + 1) fuel (by omega) (by omega);have ew : IntKind.i64.wrap (IntKind.i64.wrap ((size : Int) - 1) - (k : Int)) = ((size - 1 - k : Nat) : Int) := by rw [jR (x := (size : Int) - 1) (by omega), jR (by omega)]; omega
  have eb : GP .i64 (j0 .i64 (n : Int) ((size - 1 - k : Nat) : Int)) 1 = ((n / 2 ^ (size - 1 - k) % 2 : Nat) : Int) := by
   rw [E1 (by omega)];exact Iy (k := 1) (Nat.lt_of_le_of_lt (Nat.div_le_self _ _) hn) (by decide)
  have hg := P0 (Y := n) hlt;have hb2 : n / 2 ^ (size - 1 - k) % 2 < 2 := Nat.mod_lt _ (by decide);have hl := oU 2 size n
  generalize hbv : n / 2 ^ (size - 1 - k) % 2 = b at *
  have hc : idx ([48, 49] : List UInt8) (b : Int) = some (UInt8.ofNat (48 + b)) := by
   rcases (show b = 0 ∨ b = 1 by omega) with rfl | rfl <;> rfl
  have hcn : ((UInt8.ofNat (48 + b)).toNat : Int) = ((48 + b : Nat) : Int) := by rw [UInt8.toNat_ofNat', Nat.mod_eq_of_lt (by omega)]
  have ht : (sG 2 size n).take (k + 1) = (sG 2 size n).take k ++ [b] := by
   rw [List.take_add_one, hg]; rfl
  have hl1 : (BR ((sG 2 size n).take k)).length = k := by simp [BR, hl]; omega
  have hlen : (ED size n k).length = size := by
   unfold ED;rw [lK, List.length_append, hl1, List.length_replicate]; omega
  have hget : ∃ e, idx (ED size n k) (k : Int) = some e := by rw [jG]; exact ⟨_, List.getElem?_eq_getElem (by omega)⟩
  obtain ⟨e, he⟩ := hget
  have hset : xC (ED size n k) (k : Int) ((48 + b : Nat) : Int) = some (ED size n (k + 1)) := by
   unfold xC;rw [if_pos (by omega), Int.toNat_natCast];unfold ED;rw [← E3, ht, L8, show size - k = (size - (k + 1)) + 1 by omega, List.replicate_succ, List.append_assoc]
   congr 2
   rw [List.set_append_right _ _ (by omega), hl1, Nat.sub_self]
   rfl
  unfold nV;rw [cT (dT (by omega)), ew, tM, aN, eb, hc, aN, he, aN, hcn, hset, aN, jR (x := (k : Int) + 1) (by omega)];exact hih
theorem Me (N : Nat) (hN : 100 ≤ N) {size n : Nat} (hs : size ≤ 16) (hn : n < 9223372036854775808) : rA N (n : Int) (size : Int) = some (BD (sG 2 size n)) := by
 unfold rA;rw [mk_eq (by omega), aN, Int.toNat_natCast];have key := Md N hs hn (fun x : List Int × Int × Int => some (toB x.1)) size 0 N (by omega) (by omega);have h0 : ED size n 0 = List.replicate size 0 := by unfold ED; simp [BR, qE]
 have h1 : ED size n size = qE (BR (sG 2 size n)) := by
  unfold ED;rw [Nat.sub_self, List.take_of_length_le (by rw [oU]; exact Nat.le_refl _)]; simp
 rw [h0, h1] at key;rw [List.length_replicate];refine Eq.trans key ?_
 dsimp only
 rw [Do, L9]
def sH (n size : Int) : Int := if 0 ≤ size ∧ size ≤ 16 then (if 0 ≤ n ∧ n < ((2 ^ size.toNat : Nat) : Int) then 0 else 3) else 3
theorem Cl {d : Nat} (hd : d ≤ 16) : qF .i64 1 (d : Int) = ((2 ^ d : Nat) : Int) := by
 have hp := wG hd;have := Ck (h := 1) (k := d) (by omega) (by omega);rw [Nat.one_mul] at this;exact this
theorem BS (N : Nat) (hN : 100 ≤ N) (n size : Int) : kV N n size = some (if sH n size = 0 then (BD (sG 2 size.toNat n.toNat), 0) else ([], 3)) := by
 unfold kV
 by_cases h1 : size < 0
 ·have : sH n size = 3 := by unfold sH; rw [if_neg (by omega)]
  rw [cT (dT h1), this]; rfl
 rw [cF (dF h1)]
 by_cases h2 : 16 < size
 ·have : sH n size = 3 := by unfold sH; rw [if_neg (by omega)]
  rw [cT (dT h2), this]; rfl
 rw [cF (dF h2)];obtain ⟨d, rfl⟩ := Int.eq_ofNat_of_zero_le (show 0 ≤ size by omega);have hp := wG (d := d) (by omega)
 by_cases h3 : n < 0
 ·have : sH n d = 3 := by unfold sH; rw [if_pos (by omega), if_neg (by omega)]
  rw [cT (dT h3), this]; rfl
 rw [cF (dF h3), tM, aN, Cl (by omega)]
 by_cases h4 : ((2 ^ d : Nat) : Int) ≤ n
 ·have : sH n d = 3 := by unfold sH; rw [if_pos (by omega), Int.toNat_natCast, if_neg (by omega)]
  rw [cT (dT h4), this]; rfl
 have hz : sH n d = 0 := by unfold sH; rw [if_pos (by omega), Int.toNat_natCast, if_pos (by omega)]
 obtain ⟨m, rfl⟩ := Int.eq_ofNat_of_zero_le (show 0 ≤ n by omega);rw [cF (dF h4), Me N hN (by omega) (by omega), aN, if_pos hz, Int.toNat_natCast, Int.toNat_natCast]
theorem Fy (N : Nat) (hN : 100 ≤ N) {n size : Int} (h : sH n size = 0) : j1 N n size = some (BD (sG 2 size.toNat n.toNat)) := by
 unfold sH at h
 by_cases h1 : 0 ≤ size ∧ size ≤ 16
 rotate_left
 ·rw [if_neg h1] at h; cases h
 rw [if_pos h1] at h;obtain ⟨d, rfl⟩ := Int.eq_ofNat_of_zero_le h1.1;have hp := wG (d := d) (by omega)
 by_cases h2 : 0 ≤ n ∧ n < ((2 ^ (d : Int).toNat : Nat) : Int)
 rotate_left
 ·rw [if_neg h2] at h; cases h
 rw [Int.toNat_natCast] at h2;obtain ⟨m, rfl⟩ := Int.eq_ofNat_of_zero_le h2.1;rw [Int.toNat_natCast, Int.toNat_natCast];exact number_eq hN (by omega) (by omega)
def rm (n : Nat) : Nat := if 0 < n then 2 ^ (15 - n) else 0
theorem QZ (n : Nat) : rm n ≤ 16384 := by
 unfold rm
 split
 ·exact Nat.le_trans (Nat.pow_le_pow_right (by decide) (show 15 - n ≤ 14 by omega)) (by decide)
 ·omega
def Cv (l : List Int) : Nat := (l.map fun e => rm e.toNat).sum
theorem D3 (e : Int) (l : List Int) : Cv (e :: l) = rm e.toNat + Cv l := by simp [Cv]
def CD (e : Int) : Bool := decide (0 ≤ e ∧ e ≤ 15)
def qK (l : List Int) : Int := if l.length < 1 ∨ 17 < l.length then 2 else if l.all CD = true then (if Cv l = 0 ∨ 32768 < Cv l then 1 else 0) else 3
theorem NU {e : Int} (h : 0 < e) (h2 : e ≤ 15) : qF .i64 1 (IntKind.i64.wrap (15 - e)) = ((rm e.toNat : Nat) : Int) ∧ nn (IntKind.i64.wrap (15 - e)) = some () := by
 have h0 : IntKind.i64.wrap (15 - e) = ((15 - e.toNat : Nat) : Int) := by rw [jR (by omega)]; omega
 rw [h0, Cl (by omega), tM, rm, if_pos (by omega)];exact ⟨rfl, rfl⟩
theorem NV (N : Nat) {l : List Int} (hl : l.length ≤ 17) (kk) : ∀ (j k fuel : Nat) (room : Int), k + j = l.length → j < fuel → -1000000 - 16384 * (k : Int) ≤ room ∧ room ≤ 1000000 →
  nB N l kk fuel (room, (k : Int)) = if (l.drop k).all CD = true then kk (room - (Cv (l.drop k) : Nat), (l.length : Int)) else some 3 := by
 intro j
 induction j with
 | zero =>
  intro k fuel room hk hf hr;obtain ⟨fuel, rfl⟩ : ∃ m, fuel = m + 1 := ⟨fuel - 1, by omega⟩
  obtain rfl : k = l.length := by omega
  unfold nB;rw [cF (dF (by omega)), List.drop_length, if_pos (by rfl), show Cv ([] : List Int) = 0 by rfl]
  simp
 | succ j ih =>
  intro k fuel room hk hf hr;obtain ⟨fuel, rfl⟩ : ∃ m, fuel = m + 1 := ⟨fuel - 1, by omega⟩
  have hlt : k < l.length := by omega
  have hnx : IntKind.i64.wrap ((k : Int) + 1) = ((k + 1 : Nat) : Int) := by rw [jR (by omega)]; rfl
  rw [List.drop_eq_getElem_cons hlt, List.all_cons, D3];unfold nB;rw [cT (dT (by omega)), jG, List.getElem?_eq_getElem hlt, aN]
  by_cases h0 : l[k] < 0
  ·rw [cT (dT h0), if_neg];rw [show CD l[k] = false from dF (by omega)]; simp
  ·rw [cF (dF h0)]
   by_cases h1 : 15 < l[k]
   ·rw [cT (dT h1), if_neg];rw [show CD l[k] = false from dF (by omega)]; simp
   ·rw [cF (dF h1), show CD l[k] = true from dT (by omega), Bool.true_and]
    by_cases h2 : 0 < l[k]
    ·obtain ⟨e1, e2⟩ := NU h2 (by omega);have hr2 := QZ l[k].toNat;rw [cT (dT h2), e2, aN, aN, e1, jR (x := room - _) (by omega), hnx, ih (k + 1) fuel _ (by omega) (by omega) (by omega)]
     congr 2
     rw [Prod.mk.injEq]; exact ⟨by omega, rfl⟩
    ·rw [cF (dF h2), hnx, ih (k + 1) fuel _ (by omega) (by omega) (by omega), show rm l[k].toNat = 0 by rw [rm, if_neg (by omega)], Nat.zero_add]
theorem CX (N : Nat) (hN : 100 ≤ N) (l : List Int) : qI N l = some (qK l) := by
 unfold qI qK
 by_cases h1 : l.length < 1
 ·rw [cT (dT (by omega)), if_pos (.inl h1)]
 rw [cF (dF (by omega))]
 by_cases h2 : 17 < l.length
 ·rw [cT (dT (by omega)), if_pos (.inr h2)]
 rw [cF (dF (by omega)), if_neg (by omega)];have key := NV N (l := l) (by omega) (fun (Fs, i2) => cond (decide (Fs < 0)) (some 1) (cond (decide (Fs = 32768)) (some 1) (some 0))) l.length 0 N 32768 (by omega) (by omega) (by omega);rw [List.drop_zero] at key;refine Eq.trans key ?_
 by_cases h3 : l.all CD = true
 ·rw [if_pos h3, if_pos h3]
  dsimp only
  by_cases h4 : 32768 < Cv l
  ·rw [cT (dT (by omega)), if_pos (.inr h4)]
  ·rw [cF (dF (by omega))]
   by_cases h5 : Cv l = 0
   ·rw [cT (dT (by omega)), if_pos (.inl h5)]
   ·rw [cF (dF (by omega)), if_neg (by omega)]
 ·rw [if_neg h3, if_neg h3]
theorem IG (N : Nat) {l : List Int} (hl : l.length ≤ 17) (kk) : ∀ (j k fuel : Nat) (sum : Nat) (used : Bool), k + j = l.length → j < fuel → sum ≤ 1000000 + 16384 * k →
  hG N l kk fuel ((sum : Int), used, (k : Int)) = if (l.drop k).all CD = true then kk (((sum + Cv (l.drop k) : Nat) : Int), used || decide (0 < Cv (l.drop k)), (l.length : Int)) else some 3 := by
 intro j
 induction j with
 | zero =>
  intro k fuel sum used hk hf hr;obtain ⟨fuel, rfl⟩ : ∃ m, fuel = m + 1 := ⟨fuel - 1, by omega⟩
  obtain rfl : k = l.length := by omega
  unfold hG;rw [cF (dF (by omega)), List.drop_length, if_pos (by rfl), show Cv ([] : List Int) = 0 by rfl]
  simp
 | succ j ih =>
  intro k fuel sum used hk hf hr;obtain ⟨fuel, rfl⟩ : ∃ m, fuel = m + 1 := ⟨fuel - 1, by omega⟩
  have hlt : k < l.length := by omega
  have hnx : IntKind.i64.wrap ((k : Int) + 1) = ((k + 1 : Nat) : Int) := by rw [jR (by omega)]; rfl
  rw [List.drop_eq_getElem_cons hlt, List.all_cons, D3];unfold hG;rw [cT (dT (by omega)), jG, List.getElem?_eq_getElem hlt, aN, uP, aN]
  by_cases h0 : 0 ≤ l[k] ∧ l[k] ≤ 15
  ·rw [show CD l[k] = true from dT h0, cF (by rw [dT h0]; rfl), aN, Bool.true_and]
   by_cases h2 : 0 < l[k]
   ·obtain ⟨e1, e2⟩ := NU h2 (by omega);have hr2 := QZ l[k].toNat;have hpos : 0 < rm l[k].toNat := by rw [rm, if_pos (by omega)]; exact Nat.two_pow_pos _
    rw [cT (dT h2), aN, e2, aN, aN, e1, hnx, aN, jR (x := (sum : Int) + _) (by omega), show ((sum : Int) + (rm l[k].toNat : Nat)) = ((sum + rm l[k].toNat : Nat) : Int) by omega, ih (k + 1) fuel _ _ (by omega) (by omega) (by omega)];rw [Bool.true_or, dT (show 0 < rm l[k].toNat + Cv (l.drop (k + 1)) by omega), Bool.or_true, Nat.add_assoc]
   ·rw [cF (dF h2), hnx, aN, ih (k + 1) fuel _ _ (by omega) (by omega) (by omega), show rm l[k].toNat = 0 by rw [rm, if_neg (by omega)], Nat.zero_add]
  ·rw [show CD l[k] = false from dF h0, cT (by rw [dF h0]; rfl), if_neg (by simp)]
theorem GC (N : Nat) (hN : 100 ≤ N) (l : List Int) : iQ N l = some (qK l) := by
 unfold iQ qK;rw [uP, aN]
 by_cases h1 : l.length < 1 ∨ 17 < l.length
 ·rw [cT (by rw [dF (by omega)]; rfl), if_pos h1]
 rw [cF (by rw [dT (by omega)]; rfl), if_neg h1];have key := IG N (l := l) (by omega) (fun (PP, Iq, i6) => cond (!(Iq)) (some 1) (cond (decide (32768 < PP)) (some 1) (some 0))) l.length 0 N 0 false (by omega) (by omega) (by omega);rw [List.drop_zero] at key;refine Eq.trans key ?_
 by_cases h3 : l.all CD = true
 ·rw [if_pos h3, if_pos h3]
  dsimp only
  rw [Bool.false_or]
  by_cases h5 : Cv l = 0
  ·rw [cT (by rw [dF (by omega)]; rfl), if_pos (.inl h5)]
  ·rw [cF (by rw [dT (by omega)]; rfl)]
   by_cases h4 : 32768 < Cv l
   ·rw [cT (dT (by omega)), if_pos (.inr h4)]
   ·rw [cF (dF (by omega)), if_neg (by omega)]
 ·rw [if_neg h3, if_neg h3]
def ky (ns : List Nat) (i : Nat) : Nat := ns.getD i 0
def tot (ns o : List Nat) : Nat := (o.map fun i => 2 ^ (15 - ky ns i)).sum
def Q4 (S n : Nat) : List UInt8 := BD (sG 2 n (S / 2 ^ (15 - n)))
def Ln (ns : List Nat) (st : List (List UInt8) × Nat) (i : Nat) : List (List UInt8) × Nat := (st.1.set i (Q4 st.2 (ky ns i)), st.2 + 2 ^ (15 - ky ns i))
theorem Lo (ns : List Nat) : tot ns [] = 0 := rfl
theorem Ap (ns : List Nat) (i : Nat) (o : List Nat) : tot ns (i :: o) = 2 ^ (15 - ky ns i) + tot ns o := by simp [tot]
theorem E5 (ns o p : List Nat) : tot ns (o ++ p) = tot ns o + tot ns p := by simp [tot]
theorem E6 (ns : List Nat) : ∀ (o : List Nat) (st : List (List UInt8) × Nat), (o.foldl (Ln ns) st).1.length = st.1.length
 | [], _ => rfl
 | i :: o, st => by rw [List.foldl_cons, E6 ns o]; simp [Ln]
theorem Hn (ns : List Nat) : ∀ (o : List Nat) (st : List (List UInt8) × Nat), (o.foldl (Ln ns) st).2 = st.2 + tot ns o
 | [], _ => rfl
 | i :: o, st => by rw [List.foldl_cons, Hn ns o, Ap]; simp [Ln]; omega
section
variable {ns : List Nat} (hn : ∀ n ∈ ns, n ≤ 15) (hl : ns.length ≤ 17)
theorem Fz {i : Nat} (h : i < ns.length) : idx (qE ns) (i : Int) = some ((ky ns i : Nat) : Int) := E4 h
include hn in
theorem IH (i : Nat) : ky ns i ≤ 15 := by
 unfold ky;rw [List.getD_eq_getElem?_getD]
 by_cases h : i < ns.length
 ·rw [List.getElem?_eq_getElem h]; exact hn _ (List.getElem_mem h)
 ·rw [List.getElem?_eq_none (by omega)]; exact Nat.zero_le _
theorem Vf (n : Nat) : 2 ^ (15 - n) ≤ 32768 := Nat.le_trans (Nat.pow_le_pow_right (by decide) (show 15 - n ≤ 15 by omega)) (by decide)
include hn hl in
theorem NW (N : Nat) (hN : 100 ≤ N) (o : List Nat) (ho : ∀ i ∈ o, i < ns.length) (hol : o.length ≤ 17) (kk) : ∀ (j k fuel : Nat) (out : List (List UInt8)) (S : Nat), k + j = o.length → j < fuel → out.length = ns.length → S + tot ns (o.drop k) ≤ 32768 →
  mC N (qE ns) (qE o) kk fuel (out, (S : Int), (k : Int)) = kk (((o.drop k).foldl (Ln ns) (out, S)).1, ((S + tot ns (o.drop k) : Nat) : Int), (o.length : Int)) := by
 intro j
 induction j with
 | zero =>
  intro k fuel out S hk hf hout hS;obtain ⟨fuel, rfl⟩ : ∃ m, fuel = m + 1 := ⟨fuel - 1, by omega⟩
  obtain rfl : k = o.length := by omega
  unfold mC;rw [cF (dF (by rw [lK]; omega)), List.drop_length]; rfl
 | succ j ih =>
  intro k fuel out S hk hf hout hS;obtain ⟨fuel, rfl⟩ : ∃ m, fuel = m + 1 := ⟨fuel - 1, by omega⟩
  have hlt : k < o.length := by omega
  have hi : o[k] < ns.length := ho _ (List.getElem_mem hlt);have aAh := IH hn o[k];rw [List.drop_eq_getElem_cons hlt, Ap] at hS ⊢;have hp := Vf (ky ns o[k]);have hp0 := Nat.two_pow_pos (15 - ky ns o[k]);have Ub : IntKind.i64.wrap (15 - (ky ns o[k] : Nat)) = ((15 - ky ns o[k] : Nat) : Int) := by rw [jR (by omega)]; omega
  have hget : idx (qE o) (k : Int) = some ((o[k] : Nat) : Int) := by rw [E4 hlt, List.getD_eq_getElem?_getD, List.getElem?_eq_getElem hlt]; rfl
  have Za : sH ((S / 2 ^ (15 - ky ns o[k]) : Nat) : Int) ((ky ns o[k] : Nat) : Int) = 0 := by
   have : S / 2 ^ (15 - ky ns o[k]) < 2 ^ ky ns o[k] := by
    refine Nat.div_lt_of_lt_mul ?_;rw [← Nat.pow_add, show 15 - ky ns o[k] + ky ns o[k] = 15 by omega];show S < 32768
    omega
   unfold sH;rw [if_pos (by omega), Int.toNat_natCast, if_pos ⟨Int.natCast_nonneg _, Int.ofNat_lt.2 this⟩]
  have hset : ∀ v, xC out (o[k] : Int) v = some (out.set o[k] v) := fun v => by rw [EZ (by omega), Int.toNat_natCast]
  have Zb : ∃ e, idx out (o[k] : Int) = some e := by rw [jG]; exact ⟨_, List.getElem?_eq_getElem (by omega)⟩
  obtain ⟨e, he⟩ := Zb;have hnx : IntKind.i64.wrap ((k : Int) + 1) = ((k + 1 : Nat) : Int) := by rw [jR (by omega)]; rfl
  have hih := ih (k + 1) fuel (out.set o[k] (Q4 S (ky ns o[k]))) (S + 2 ^ (15 - ky ns o[k])) (by omega) (by omega) (by rw [List.length_set]; exact hout) (by omega);unfold mC;rw [cT (dT (by rw [lK]; omega)), hget, aN, Fz hi, aN, Ub, tM, aN, aN, E1 (by omega), BS N hN, if_pos Za, aN, he, aN, hset, aN, aN, Ub, tM, aN, Cl (by omega), jR (x := (S : Int) + _) (by omega), aN, hnx, Int.toNat_natCast, Int.toNat_natCast, show (S : Int) + ((2 ^ (15 - ky ns o[k]) : Nat) : Int) = ((S + 2 ^ (15 - ky ns o[k]) : Nat) : Int) by omega];refine Eq.trans hih ?_;rw [List.foldl_cons, Nat.add_assoc]
  rfl
def pos (ns : List Nat) (i : Nat) : Bool := decide (0 < ky ns i)
include hl in
theorem NX (N : Nat) (kk) : ∀ (j k fuel : Nat) (A : List Nat), k + j = ns.length → j < fuel → A.length ≤ k →
  nE N (qE ns) kk fuel (qE A, (k : Int)) = kk (qE (A ++ (List.range' k j).filter (pos ns)), (ns.length : Int)) := by
 intro j
 induction j with
 | zero =>
  intro k fuel A hk hf hA;obtain ⟨fuel, rfl⟩ : ∃ m, fuel = m + 1 := ⟨fuel - 1, by omega⟩
  obtain rfl : k = ns.length := by omega
  unfold nE;rw [cF (dF (by rw [lK]; omega))]; simp
 | succ j ih =>
  intro k fuel A hk hf hA;obtain ⟨fuel, rfl⟩ : ∃ m, fuel = m + 1 := ⟨fuel - 1, by omega⟩
  have hlt : k < ns.length := by omega
  have hnx : IntKind.i64.wrap ((k : Int) + 1) = ((k + 1 : Nat) : Int) := by rw [jR (by omega)]; rfl
  unfold nE;rw [cT (dT (by rw [lK]; omega)), Fz hlt, aN, List.range'_succ]
  by_cases h : 0 < ky ns k
  ·have happ : app 8 (qE A) ([(k : Int)] : List Int) = some (qE (A ++ [k])) := by
    rw [p9 (by rw [lK]; simp; omega), Dn]; rfl
   rw [cT (dT (by omega)), happ, aN, hnx, ih (k + 1) fuel _ (by omega) (by omega) (by simp; omega), List.filter_cons, if_pos (show pos ns k = true from dT h), List.append_assoc]
   rfl
  ·rw [cF (dF (by omega)), hnx, ih (k + 1) fuel _ (by omega) (by omega) (by omega), List.filter_cons, if_neg (by rw [show pos ns k = false from dF h]; simp)]
def Gh (f : Nat → Nat) (x : Nat) : List Nat → List Nat → List Nat
 | [], B => x :: B
 | y :: A, B => if f x < f y then Gh f x A (y :: B) else (y :: A).reverse ++ x :: B
theorem Lp (f : Nat → Nat) (x : Nat) : ∀ A B C, Gh f x A (B ++ C) = Gh f x A B ++ C
 | [], B, C => rfl
 | y :: A, B, C => by
  unfold Gh
  split
  ·rw [← List.cons_append, Lp f x A]
  ·simp
theorem Lq (f : Nat → Nat) (x : Nat) : ∀ A B, (Gh f x A B).length = A.length + B.length + 1
 | [], B => by simp [Gh]
 | y :: A, B => by
  unfold Gh
  split
  ·rw [Lq f x A]; simp; omega
  ·simp; omega
theorem II (f : Nat → Nat) (x : Nat) (A1 : List Nat) (h1 : ∀ y ∈ A1, f y ≤ f x) : ∀ (R : List Nat) (B : List Nat), (∀ y ∈ R, f x < f y) → Gh f x (R ++ A1.reverse) B = A1 ++ x :: (R.reverse ++ B)
 | [], B, _ => by
  rcases hA : A1.reverse with _ | ⟨y, A⟩
  ·have : A1 = [] := by simpa using hA
   subst this; rfl
  ·have hy : f y ≤ f x := h1 y (by rw [← List.mem_reverse, hA]; simp);rw [List.nil_append];unfold Gh;rw [if_neg (by omega), ← hA, List.reverse_reverse]; rfl
 | y :: R, B, h => by
  have hy := h y (by simp);show Gh f x (y :: (R ++ A1.reverse)) B = _;unfold Gh;rw [if_pos hy, II f x A1 h1 R (y :: B) (fun z hz => h z (by simp [hz]))]
  simp
theorem cmp_eq (N : Nat) {a b : Nat} (ha : a < ns.length) (hb : b < ns.length) : sA N (a : Int) (b : Int) (qE ns) = some (if ky ns a < ky ns b then -1 else if ky ns b < ky ns a then 1 else 0) := by
 unfold sA;rw [Fz ha, aN, Fz hb, aN];unfold rP qV;rw [aN, aN, cF (by simp), cF (by simp)]
 by_cases h1 : ky ns a < ky ns b
 ·rw [cT (dT (by omega)), if_pos h1]; rfl
 ·rw [cF (dF (by omega)), if_neg h1]
  by_cases h2 : ky ns b < ky ns a
  ·rw [cT (dT (by omega)), if_pos h2]; rfl
  ·rw [cF (dF (by omega)), if_neg h2]; rfl
theorem Ko {A : List Nat} {i x : Nat} (h : A[i]? = some x) : idx (qE A) (i : Int) = some (x : Int) := by
 rw [jG, qE, List.getElem?_map, h]; rfl
theorem NY (N : Nat) (kk : List Int × Int → Option (List (List UInt8) × Int)) (r) (x : Nat) (hx : x < ns.length) : ∀ (A B : List Nat) (fuel : Nat), (∀ y ∈ A, y < ns.length) → A.length ≤ 1000 → A.length < fuel → (∀ j, kk (qE (Gh (ky ns) x A B), j) = r) →
  oN N (qE ns) kk fuel (qE (A.reverse ++ x :: B), (A.length : Int)) = r := by
 intro A
 induction A with
 | nil =>
  intro B fuel hA hA2 hf hk;obtain ⟨fuel, rfl⟩ : ∃ m, fuel = m + 1 := ⟨fuel - 1, by simp at hf; omega⟩
  unfold oN;rw [cF (dF (by simp))];exact hk _
 | cons y A ih =>
  intro B fuel hA hA2 hf hk;simp only [List.length_cons] at hf hA2;obtain ⟨fuel, rfl⟩ : ∃ m, fuel = m + 1 := ⟨fuel - 1, by omega⟩
  have hy : y < ns.length := hA y (by simp);have g1 : ∀ u v : Nat, (A.reverse ++ u :: v :: B)[A.length]? = some u := fun u v => by rw [List.getElem?_append_right (by simp)]; simp
  have g2 : ∀ u v : Nat, (A.reverse ++ u :: v :: B)[A.length + 1]? = some v := fun u v => by rw [List.getElem?_append_right (by simp)]; simp
  have eq : (y :: A).reverse ++ x :: B = A.reverse ++ y :: x :: B := by simp
  have hm1 : IntKind.i64.wrap (((A.length + 1 : Nat) : Int) - 1) = (A.length : Int) := by rw [jR (by omega)]; omega
  rw [List.length_cons, eq];unfold oN;rw [cT (dT (by omega)), Ko (g2 y x), aN, hm1, Ko (g1 y x), aN, cmp_eq N hx hy, aN];unfold Gh at hk
  by_cases h : ky ns x < ky ns y
  ·rw [if_pos h] at hk
   have s1 : xC (qE (A.reverse ++ y :: x :: B)) (((A.length + 1 : Nat) : Int)) ((y : Nat) : Int) = some (qE (A.reverse ++ y :: y :: B)) := by
    rw [EZ (by rw [lK]; simp; omega), Int.toNat_natCast, ← E3]
    congr 2
    rw [List.set_append, if_neg (by simp)]; simp
   have s2 : xC (qE (A.reverse ++ y :: y :: B)) ((A.length : Nat) : Int) ((x : Nat) : Int) = some (qE (A.reverse ++ x :: y :: B)) := by
    rw [EZ (by rw [lK]; simp; omega), Int.toNat_natCast, ← E3]
    congr 2
    rw [List.set_append, if_neg (by simp)]; simp
   rw [if_pos h, cT (by decide), aN, aN, aN, s1, aN, Ko (g1 y y), aN, s2, aN, aN];exact ih (y :: B) fuel (fun z hz => hA z (by simp [hz])) (by omega) (by omega) hk
  ·rw [if_neg h] at hk;rw [if_neg h, cF (by split <;> decide), ← eq];exact hk _
def Ho (f : Nat → Nat) (o : List Nat) : List Nat := o.foldl (fun A x => Gh f x A.reverse []) []
theorem IJ (f : Nat → Nat) (o : List Nat) (x : Nat) : Ho f (o ++ [x]) = Gh f x (Ho f o).reverse [] := by simp [Ho]
theorem Lr (f : Nat → Nat) (o : List Nat) : (Ho f o).length = o.length := by
 have : ∀ (o A : List Nat), (o.foldl (fun A x => Gh f x A.reverse []) A).length = A.length + o.length := by
  intro o
  induction o with
  | nil => intro A; rfl
  | cons x o ih => intro A; rw [List.foldl_cons, ih, Lq]; simp; omega
 rw [Ho, this]; simp
end
section
variable {ns : List Nat} (hn : ∀ n ∈ ns, n ≤ 15) (hl : ns.length ≤ 17)
theorem NZ (N : Nat) (hN : 100 ≤ N) (kk : List Int × Int × Int → Option (List (List UInt8) × Int)) (r) {o : List Nat} (ho : ∀ i ∈ o, i < ns.length) (hol : o.length ≤ 17) (hk : ∀ b j, kk (qE (Ho (ky ns) o), b, j) = r) : ∀ (j k fuel : Nat), k + j = o.length → j < fuel →
  k8 N (qE ns) kk fuel (qE (Ho (ky ns) (o.take k) ++ o.drop k), (o.length : Int), (k : Int)) = r := by
 intro j
 induction j with
 | zero =>
  intro k fuel hkj hf;obtain ⟨fuel, rfl⟩ : ∃ m, fuel = m + 1 := ⟨fuel - 1, by omega⟩
  obtain rfl : k = o.length := by omega
  unfold k8;rw [cF (dF (by omega)), List.take_length, List.drop_length, List.append_nil];exact hk _ _
 | succ j ih =>
  intro k fuel hkj hf;obtain ⟨fuel, rfl⟩ : ∃ m, fuel = m + 1 := ⟨fuel - 1, by omega⟩
  have hlt : k < o.length := by omega
  have hnx : IntKind.i64.wrap ((k : Int) + 1) = ((k + 1 : Nat) : Int) := by rw [jR (by omega)]; rfl
  have hih := ih (k + 1) fuel (by omega) (by omega);have htk : o.take (k + 1) = o.take k ++ [o[k]] := by rw [List.take_add_one, List.getElem?_eq_getElem hlt]; rfl
  rw [htk, IJ] at hih;have hlen : (Ho (ky ns) (o.take k)).length = k := by rw [Lr, List.length_take]; omega
  have hmem : ∀ y ∈ Ho (ky ns) (o.take k), y < ns.length := fun y hy => by
   refine ho y (List.mem_of_mem_take (i := k) ?_)
   have key : ∀ (p A : List Nat), (∀ z ∈ A, z ∈ o.take k) → (∀ z ∈ p, z ∈ o.take k) → ∀ z ∈ p.foldl (fun A x => Gh (ky ns) x A.reverse []) A, z ∈ o.take k := by
    intro p
    induction p with
    | nil => intro A hA _ z hz; exact hA z hz
    | cons x p ihp =>
     intro A hA hp z hz;rw [List.foldl_cons] at hz;refine ihp _ ?_ (fun z hz => hp z (by simp [hz])) z hz;intro u hu
     have sub : ∀ (R B : List Nat), ∀ z ∈ Gh (ky ns) x R B, z ∈ R ∨ z = x ∨ z ∈ B := by
      intro R
      induction R with
      | nil => intro B z hz; simp [Gh] at hz; rcases hz with rfl | hz; exact .inr (.inl rfl); exact .inr (.inr hz)
      | cons q R ihR =>
       intro B z hz;unfold Gh at hz
       split at hz
       ·rcases ihR _ z hz with h | h | h
        ·exact .inl (by simp [h])
        ·exact .inr (.inl h)
        ·rcases List.mem_cons.1 h with rfl | h
         ·exact .inl (by simp)
         ·exact .inr (.inr h)
       ·simp at hz
        rcases hz with h | h | h | h
        ·exact .inl (by simp [h])
        ·exact .inl (by simp [h])
        ·exact .inr (.inl h)
        ·exact .inr (.inr h)
     rcases sub _ _ u hu with h | h | h
     ·exact hA u (by simpa using h)
     ·subst h; exact hp u (by simp)
     ·cases h
   exact key (o.take k) [] (fun z hz => by cases hz) (fun z hz => hz) y hy
  unfold k8;rw [cT (dT (by omega)), List.drop_eq_getElem_cons hlt]
  have h3 := NY (ns := ns) N (fun (U0, j9) => Option.bind (some (IntKind.i64.wrap ((k : Int) + 1))) fun i6 => k8 N (qE ns) kk fuel (U0, (o.length : Int), i6)) r o[k] (ho _ (List.getElem_mem hlt)) (Ho (ky ns) (o.take k)).reverse (o.drop (k + 1)) N (fun y hy => hmem y (by simpa using hy)) (by simp; omega) (by simp; omega) (fun q => by
   show (Option.bind (some (IntKind.i64.wrap ((k : Int) + 1))) fun i6 => k8 N (qE ns) kk fuel (qE (Gh (ky ns) o[k] (Ho (ky ns) (o.take k)).reverse (o.drop (k + 1))), (o.length : Int), i6)) = r;rw [hnx, aN];have e := Lp (ky ns) o[k] (Ho (ky ns) (o.take k)).reverse [] (o.drop (k + 1));rw [List.nil_append] at e;rw [e]
   exact hih)
  rw [List.reverse_reverse, List.length_reverse, hlen] at h3;exact h3
def s9 (f : Nat → Nat) (o : List Nat) : List Nat := (List.range' 1 15).flatMap fun s => o.filter fun i => decide (f i = s)
theorem GD (f : Nat → Nat) (o : List Nat) {x : Nat} (hx : 1 ≤ f x ∧ f x ≤ 15) : ∃ A1 A2, s9 f o = A1 ++ A2 ∧ s9 f (o ++ [x]) = A1 ++ x :: A2 ∧ (∀ y ∈ A1, f y ≤ f x) ∧ ∀ y ∈ A2, f x < f y := by
 have hsp : List.range' 1 15 = List.range' 1 (f x - 1) ++ (f x :: List.range' (f x + 1) (15 - f x)) := by
  have h1 : List.range' 1 (f x - 1) ++ List.range' (1 + (f x - 1)) (15 - (f x - 1)) = List.range' 1 15 := by
   have := List.range'_append (s := 1) (m := f x - 1) (n := 15 - (f x - 1)) (step := 1);rw [Nat.one_mul] at this;rw [this]; congr 1; omega
  rw [← h1, show 1 + (f x - 1) = f x by omega, show 15 - (f x - 1) = (15 - f x) + 1 by omega, List.range'_succ]
 have hne : ∀ L : List Nat, (∀ s ∈ L, s ≠ f x) → (L.flatMap fun s => (o ++ [x]).filter fun i => decide (f i = s)) = L.flatMap fun s => o.filter fun i => decide (f i = s) := by
  intro L hL
  induction L with
  | nil => rfl
  | cons s L ih =>
   rw [List.flatMap_cons, List.flatMap_cons, ih (fun s hs => hL s (by simp [hs])), List.filter_append]
   congr 1
   rw [List.filter_cons, if_neg (by simpa using fun h => hL s (by simp) h.symm)]; simp
 refine ⟨((List.range' 1 (f x - 1)).flatMap fun s => o.filter fun i => decide (f i = s)) ++ o.filter (fun i => decide (f i = f x)), (List.range' (f x + 1) (15 - f x)).flatMap (fun s => o.filter fun i => decide (f i = s)), ?_, ?_, ?_, ?_⟩
 ·unfold s9; rw [hsp, List.flatMap_append, List.flatMap_cons, List.append_assoc]
 ·unfold s9;rw [hsp, List.flatMap_append, List.flatMap_cons, hne _ (fun s hs => by have := (List.mem_range'_1.1 hs); omega), hne _ (fun s hs => by have := (List.mem_range'_1.1 hs); omega), List.filter_append, List.filter_cons, if_pos (by simp)]
  simp
 ·intro y hy
  rcases List.mem_append.1 hy with h | h
  ·obtain ⟨s, hs, h⟩ := List.mem_flatMap.1 h;have h1 := List.mem_range'_1.1 hs;have h2 := (List.mem_filter.1 h).2
   simp at h2
   omega
  ·have h2 := (List.mem_filter.1 h).2
   simp at h2
   omega
 ·intro y hy;obtain ⟨s, hs, h⟩ := List.mem_flatMap.1 hy;have h1 := List.mem_range'_1.1 hs;have h2 := (List.mem_filter.1 h).2
  simp at h2
  omega
theorem IK {P : List Nat → Prop} (o : List Nat) (h0 : P []) (hs : ∀ k (hk : k < o.length), P (o.take k) → P (o.take k ++ [o[k]])) : P o := by
 have : ∀ k, k ≤ o.length → P (o.take k) := by
  intro k
  induction k with
  | zero => intro _; exact h0
  | succ k ih =>
   intro hk;have := hs k (by omega) (ih (by omega))
   rwa [show o.take k ++ [o[k]] = o.take (k + 1) by rw [List.take_add_one, List.getElem?_eq_getElem (by omega)]; rfl] at this
 have := this o.length (Nat.le_refl _)
 rwa [List.take_length] at this
theorem N0 (f : Nat → Nat) : s9 f [] = [] := by
 unfold s9;rw [List.flatMap_eq_nil_iff];intro s _; rfl
theorem P1 (f : Nat → Nat) (o : List Nat) (ho : ∀ x ∈ o, 1 ≤ f x ∧ f x ≤ 15) : Ho f o = s9 f o := by
 refine IK (P := fun p => Ho f p = s9 f p) o ?_ fun k hk ih => ?_
 ·show ([] : List Nat) = _;unfold s9;rw [eq_comm, List.flatMap_eq_nil_iff];intro s _; rfl
 ·obtain ⟨A1, A2, h1, h2, h3, h4⟩ := GD f (o.take k) (ho _ (List.getElem_mem hk));have := II f o[k] A1 h3 A2.reverse [] (fun y hy => h4 y (by simpa using hy));show Ho f (o.take k ++ [o[k]]) = s9 f (o.take k ++ [o[k]]);rw [IJ, h2, show Ho f (o.take k) = s9 f (o.take k) from ih, h1, List.reverse_append, this]
  simp
theorem Lt (o : List Nat) (ho : ∀ x ∈ o, 1 ≤ ky ns x ∧ ky ns x ≤ 15) : tot ns (s9 (ky ns) o) = tot ns o := by
 refine IK (P := fun p => tot ns (s9 (ky ns) p) = tot ns p) o ?_ fun k hk ih => ?_
 ·show tot ns (s9 (ky ns) []) = tot ns [];rw [N0]
 ·obtain ⟨A1, A2, h1, h2, h3, h4⟩ := GD (ky ns) (o.take k) (ho _ (List.getElem_mem hk));have ih' : tot ns (s9 (ky ns) (o.take k)) = tot ns (o.take k) := ih;show tot ns (s9 (ky ns) (o.take k ++ [o[k]])) = tot ns (o.take k ++ [o[k]]);rw [h2, E5, Ap, E5, ← ih', h1, E5, Ap, Lo]
  omega
def ups (ns : List Nat) (k j : Nat) : List Nat := (List.range' k j).filter (pos ns)
theorem N1 : ∀ (j k : Nat), k + j = ns.length → Cv ((qE ns).drop k) = tot ns (ups ns k j) := by
 intro j
 induction j with
 | zero =>
  intro k hk;rw [List.drop_eq_nil_iff.2 (by rw [lK]; omega)]; rfl
 | succ j ih =>
  intro k hk;have hlt : k < (qE ns).length := by rw [lK]; omega
  have hv : (qE ns)[k].toNat = ky ns k := by
   have := E4 (l := ns) (i := k) (by omega);rw [jG, List.getElem?_eq_getElem hlt] at this;rw [Option.some.inj this, Int.toNat_natCast]; rfl
  rw [List.drop_eq_getElem_cons hlt, D3, ih (k + 1) (by omega), hv];unfold ups;rw [List.range'_succ, List.filter_cons]
  by_cases h : 0 < ky ns k
  ·rw [if_pos (show pos ns k = true from dT h), Ap, rm, if_pos h]
  ·rw [if_neg (by rw [show pos ns k = false from dF h]; simp), rm, if_neg h, Nat.zero_add]
theorem Lu (k j : Nat) : s9 (ky ns) (ups ns k j) = s9 (ky ns) (List.range' k j) := by
 unfold s9 ups
 have : ∀ L : List Nat, (∀ s ∈ L, 1 ≤ s) → (L.flatMap fun s => ((List.range' k j).filter (pos ns)).filter fun i => decide (ky ns i = s)) = L.flatMap fun s => (List.range' k j).filter fun i => decide (ky ns i = s) := by
  intro L hL
  induction L with
  | nil => rfl
  | cons s L ih =>
   rw [List.flatMap_cons, List.flatMap_cons, ih (fun s hs => hL s (by simp [hs])), List.filter_filter]
   congr 1
   refine List.filter_congr fun i _ => ?_
   have := hL s (by simp);unfold pos
   by_cases h : ky ns i = s
   ·rw [dT h, dT (by omega)]; rfl
   ·rw [dF h]; rfl
 exact this _ fun s hs => (List.mem_range'_1.1 hs).1
theorem Hp {k j i : Nat} (h : i ∈ ups ns k j) : k ≤ i ∧ i < k + j ∧ 0 < ky ns i := by
 obtain ⟨h1, h2⟩ := List.mem_filter.1 h;have := List.mem_range'_1.1 h1;exact ⟨this.1, this.2, of_decide_eq_true h2⟩
def yQ (ns : List Nat) : List (List UInt8) := ((s9 (ky ns) (List.range' 0 ns.length)).foldl (Ln ns) (List.replicate ns.length [], 0)).1
end
section
variable {ns : List Nat} (hn : ∀ n ∈ ns, n ≤ 15) (hl : ns.length ≤ 17)
include hn hl in
theorem SN (N : Nat) (hN : 100 ≤ N) {size : Nat} (hs : 1 ≤ size ∧ size ≤ 15) (kk : List (List UInt8) × Int × Int × Int → Option (List (List UInt8))) (r) : ∀ (j k fuel : Nat) (out : List (List UInt8)) (S nx la : Nat), k + j = ns.length → j < fuel → out.length = ns.length → la ≤ size → S = nx * 2 ^ (15 - la) → S + tot ns ((List.range' k j).filter fun i => decide (ky ns i = size)) ≤ 32768 →
  (∀ nx' la' : Nat, la' ≤ size → ∀ i' : Int, (((List.range' k j).filter fun i => decide (ky ns i = size)).foldl (Ln ns) (out, S)).2 = nx' * 2 ^ (15 - la') → kk ((((List.range' k j).filter fun i => decide (ky ns i = size)).foldl (Ln ns) (out, S)).1, (nx' : Int), (la' : Int), i') = r) →
  iK N (qE ns) (size : Int) kk fuel (out, (nx : Int), (la : Int), (k : Int)) = r := by
 intro j
 induction j with
 | zero =>
  intro k fuel out S nx la hk hf hout hla hS hT hkk;obtain ⟨fuel, rfl⟩ : ∃ m, fuel = m + 1 := ⟨fuel - 1, by omega⟩
  unfold iK;rw [cF (dF (by rw [lK]; omega))];exact hkk nx la hla _ hS
 | succ j ih =>
  intro k fuel out S nx la hk hf hout hla hS hT hkk;obtain ⟨fuel, rfl⟩ : ∃ m, fuel = m + 1 := ⟨fuel - 1, by omega⟩
  have hlt : k < ns.length := by omega
  have hnx : IntKind.i64.wrap ((k : Int) + 1) = ((k + 1 : Nat) : Int) := by rw [jR (by omega)]; rfl
  unfold iK;rw [cT (dT (by rw [lK]; omega)), Fz hlt, aN];rw [List.range'_succ, List.filter_cons] at hT hkk
  by_cases h : ky ns k = size
  ·rw [if_pos (dT h)] at hT hkk;rw [Ap, h] at hT;rw [List.foldl_cons] at hkk;have hp0 := Nat.two_pow_pos (15 - size);have hpw : 2 ^ (15 - la) = 2 ^ (size - la) * 2 ^ (15 - size) := by rw [← Nat.pow_add]; congr 1; omega
   have hdiv : S / 2 ^ (15 - size) = nx * 2 ^ (size - la) := by
    rw [hS, hpw, ← Nat.mul_assoc, Nat.mul_div_cancel _ hp0]
   have hle : nx * 2 ^ (size - la) ≤ 32768 := by rw [← hdiv]; exact Nat.le_trans (Nat.div_le_self _ _) (by omega)
   have hsub : IntKind.i64.wrap ((size : Int) - (la : Int)) = ((size - la : Nat) : Int) := by rw [jR (by omega)]; omega
   have Zb : ∃ e, idx out (k : Int) = some e := by rw [jG]; exact ⟨_, List.getElem?_eq_getElem (by omega)⟩
   obtain ⟨e, he⟩ := Zb;have hset : ∀ v, xC out (k : Int) v = some (out.set k v) := fun v => by rw [EZ (by omega), Int.toNat_natCast]
   rw [cF (by rw [dT (by omega)]; rfl), hsub, tM, aN, Ck (by omega) (by omega), aN, number_eq hN (by omega) (by omega), aN, he, aN, hset, aN, jR (x := ((nx * 2 ^ (size - la) : Nat) : Int) + 1) (by omega), aN, hnx, aN];have hw : Q4 S size = BD (sG 2 size (nx * 2 ^ (size - la))) := by unfold Q4; rw [hdiv]
   have hst : Ln ns (out, S) k = (out.set k (BD (sG 2 size (nx * 2 ^ (size - la)))), S + 2 ^ (15 - size)) := by unfold Ln; rw [h, hw]
   rw [hst] at hkk;refine ih (k + 1) fuel _ (S + 2 ^ (15 - size)) (nx * 2 ^ (size - la) + 1) size (by omega) (by omega) (by rw [List.length_set]; exact hout) (Nat.le_refl _) ?_ (by omega) hkk;rw [Nat.add_mul, Nat.one_mul, hS, hpw, Nat.mul_assoc]
  ·rw [if_neg (by rw [dF h]; simp)] at hT hkk;rw [cT (by rw [dF (by omega)]; rfl), hnx, aN];exact ih (k + 1) fuel out S nx la (by omega) (by omega) hout hla hS hT hkk
include hn hl in
theorem SO (N : Nat) (hN : 100 ≤ N) (kk : List (List UInt8) × Int × Int × Int → Option (List (List UInt8))) (r) : ∀ (j s fuel : Nat) (out : List (List UInt8)) (S nx la : Nat), s + j = 16 → 1 ≤ s → j < fuel → out.length = ns.length → la < s → S = nx * 2 ^ (15 - la) → S + tot ns ((List.range' s j).flatMap fun s => (List.range' 0 ns.length).filter fun i => decide (ky ns i = s)) ≤ 32768 →
  (∀ a b c, kk ((((List.range' s j).flatMap fun s => (List.range' 0 ns.length).filter fun i => decide (ky ns i = s)).foldl (Ln ns) (out, S)).1, a, b, c) = r) →
  jN N (qE ns) kk fuel (out, (nx : Int), (la : Int), (s : Int)) = r := by
 intro j
 induction j with
 | zero =>
  intro s fuel out S nx la hk h1 hf hout hla hS hT hkk;obtain ⟨fuel, rfl⟩ : ∃ m, fuel = m + 1 := ⟨fuel - 1, by omega⟩
  unfold jN;rw [cF (dF (by omega))];exact hkk _ _ _
 | succ j ih =>
  intro s fuel out S nx la hk h1 hf hout hla hS hT hkk;obtain ⟨fuel, rfl⟩ : ∃ m, fuel = m + 1 := ⟨fuel - 1, by omega⟩
  unfold jN;rw [cT (dT (by omega))];rw [List.range'_succ, List.flatMap_cons] at hT hkk;rw [E5] at hT;refine SN hn hl N hN (size := s) (by omega) _ r ns.length 0 N out S nx la (by omega) (by omega) hout (by omega) hS (by omega) fun nx' la' aAi i' hS' => ?_
  dsimp only
  rw [jR (x := (s : Int) + 1) (by omega), aN, show (s : Int) + 1 = ((s + 1 : Nat) : Int) by rfl];have h2 := Hn ns ((List.range' 0 ns.length).filter fun i => decide (ky ns i = s)) (out, S);have h3 := E6 ns ((List.range' 0 ns.length).filter fun i => decide (ky ns i = s)) (out, S);refine ih (s + 1) fuel _ _ nx' la' (by omega) (by omega) (by omega) (h3.trans hout) (by omega) (h2.symm.trans hS') (by show S + _ + _ ≤ _; omega) fun a b c => ?_
  have := hkk a b c;rw [List.foldl_append] at this;rw [← this]
  congr 3
  rw [← h2]
include hn hl in
theorem Mf (N : Nat) (hN : 100 ≤ N) (hK : tot ns (ups ns 0 ns.length) ≤ 32768) : kK N (qE ns) = some (yQ ns) := by
 unfold kK;rw [lK, aN, mk_eq (by omega), aN, Int.toNat_natCast]
 have ht : tot ns (s9 (ky ns) (List.range' 0 ns.length)) ≤ 32768 := by
  rw [← Lu, Lt]
  ·exact hK
  ·intro x hx;exact ⟨(Hp hx).2.2, IH hn x⟩
 exact SO hn hl N hN _ _ 15 1 N (List.replicate ns.length []) 0 0 0 (by omega) (by omega) (by omega) (by simp) (by omega) (by omega) (by rw [Nat.zero_add]; exact ht) (fun a b c => rfl)
include hn hl in
theorem Mg (N : Nat) (hN : 100 ≤ N) (hK : tot ns (ups ns 0 ns.length) ≤ 32768) (hP : 0 < tot ns (ups ns 0 ns.length)) (hc : qK (qE ns) = 0) : oQ N (qE ns) = some (yQ ns, 0) := by
 unfold oQ;have Vg : ∀ x ∈ ups ns 0 ns.length, 1 ≤ ky ns x ∧ ky ns x ≤ 15 := fun x hx => ⟨(Hp hx).2.2, IH hn x⟩
 have hlen : (ups ns 0 ns.length).length ≤ 17 := by
  unfold ups;refine Nat.le_trans (List.length_filter_le _ _) ?_;rw [List.length_range']; exact hl
 have hmem : ∀ i ∈ ups ns 0 ns.length, i < ns.length := fun i hi => by have := (Hp hi).2.1; omega
 rw [CX N hN, hc, aN, cF (by decide)]
 have h1 := NX (ns := ns) hl N (fun (l6, i2) =>
  cond (decide (20 ≤ (l6.length : Int))) none (
  Option.bind (some (IntKind.i64.wrap (0 + 1))) fun i3 =>
  k8 N (qE ns) (fun (Ej, b2, i7) =>
  Option.bind (Ak l6 Ej) fun _ =>
  cond (decide (20 < (Ej.length : Int))) none (
  Option.bind (Ak l6 Ej) fun _ =>
  Option.bind (Ak l6 Ej) fun _ =>
  Option.bind (some (((qE ns).length : Int))) fun x2 =>
  Option.bind (mk 16 x2 (([] : List UInt8) : List UInt8)) fun T4 =>
  mC N (qE ns) Ej (fun (QF, EC, i11) =>
  some (QF, 0)) N (T4, 0, 0))) N (l6, (l6.length : Int), i3))) ns.length 0 N [] (by omega) (by omega) (by simp)
 refine Eq.trans h1 ?_;rw [List.nil_append]
 dsimp only
 rw [show (List.range' 0 ns.length).filter (pos ns) = ups ns 0 ns.length from rfl, cF (dF (by rw [lK]; omega)), show IntKind.i64.wrap (0 + 1) = ((1 : Nat) : Int) by decide, aN, show ((qE (ups ns 0 ns.length)).length : Int) = ((ups ns 0 ns.length).length : Int) by rw [lK]];have hsrt := P1 (ky ns) (ups ns 0 ns.length) Vg;have hsl := Lr (ky ns) (ups ns 0 ns.length)
 have hfin : ∀ b j : Int, (fun (x : List Int × Int × Int) => (match x with
  | (Ej, b2, i7) => Option.bind (Ak (qE (ups ns 0 ns.length)) Ej) fun _ =>
  cond (decide (20 < (Ej.length : Int))) none (
  Option.bind (Ak (qE (ups ns 0 ns.length)) Ej) fun _ =>
  Option.bind (Ak (qE (ups ns 0 ns.length)) Ej) fun _ =>
  Option.bind (some (((qE ns).length : Int))) fun x2 =>
  Option.bind (mk 16 x2 (([] : List UInt8) : List UInt8)) fun T4 =>
  mC N (qE ns) Ej (fun (QF, EC, i11) =>
  some (QF, (0 : Int))) N (T4, 0, 0)) : Option (List (List UInt8) × Int))) (qE (Ho (ky ns) (ups ns 0 ns.length)), b, j) = some (yQ ns, 0) := by
  intro b j
  have hsame : Ak (qE (ups ns 0 ns.length)) (qE (Ho (ky ns) (ups ns 0 ns.length))) = some () := by
   unfold Ak;rw [if_pos (by rw [lK, lK, hsl])]
  dsimp only
  rw [hsame, aN, cF (dF (by rw [lK, hsl]; omega)), aN, aN, lK, aN, mk_eq (by omega), aN, Int.toNat_natCast, hsrt];have ht : tot ns (s9 (ky ns) (ups ns 0 ns.length)) ≤ 32768 := by rw [Lt _ Vg]; exact hK
  have hom : ∀ i ∈ s9 (ky ns) (ups ns 0 ns.length), i < ns.length := fun i hi => by
   obtain ⟨s, _, h⟩ := List.mem_flatMap.1 hi;exact hmem i (List.mem_filter.1 h).1
  have hol : (s9 (ky ns) (ups ns 0 ns.length)).length ≤ 17 := by rw [← hsrt, hsl]; exact hlen
  have h4 := NW hn hl N hN (s9 (ky ns) (ups ns 0 ns.length)) hom hol (fun (QF, EC, i11) => some (QF, (0 : Int))) (s9 (ky ns) (ups ns 0 ns.length)).length 0 N (List.replicate ns.length []) 0 (by omega) (by omega) (by simp) (by rw [List.drop_zero, Nat.zero_add]; exact ht);refine Eq.trans h4 ?_;rw [List.drop_zero, Lu]
  rfl
 by_cases h0 : (ups ns 0 ns.length).length = 0
 ·rw [List.eq_nil_of_length_eq_zero h0, Lo] at hP
  omega
 ·have h2 := fun kk hk => NZ (ns := ns) N hN kk (some (yQ ns, 0)) hmem hlen hk ((ups ns 0 ns.length).length - 1) 1 N (by omega) (by omega)
  have htk : Ho (ky ns) ((ups ns 0 ns.length).take 1) ++ (ups ns 0 ns.length).drop 1 = ups ns 0 ns.length := by
   rcases hu : ups ns 0 ns.length with _ | ⟨x, u⟩
   ·rw [hu] at h0; exact absurd rfl h0
   ·rfl
  simp only [htk] at h2;refine h2 _ ?_;exact hfin
end
theorem Hq {l : List Int} (h : qK l = 0) : ∃ ns : List Nat, l = qE ns ∧ (∀ n ∈ ns, n ≤ 15) ∧ 1 ≤ ns.length ∧ ns.length ≤ 17 ∧ tot ns (ups ns 0 ns.length) ≤ 32768 ∧ 0 < tot ns (ups ns 0 ns.length) := by
 unfold qK at h
 split at h
 ·cases h
 rename_i h1
 split at h
 rotate_left
 ·cases h
 rename_i h2
 split at h
 ·cases h
 rename_i h3
 have hall : ∀ e ∈ l, 0 ≤ e ∧ e ≤ 15 := fun e he => of_decide_eq_true (List.all_eq_true.1 h2 e he)
 have he : qE (l.map Int.toNat) = l := L5 fun e h => (hall e h).1
 have hs := N1 (ns := l.map Int.toNat) (l.map Int.toNat).length 0 (by omega);rw [he, List.drop_zero] at hs;refine ⟨l.map Int.toNat, he.symm, ?_, by simp; omega, by simp; omega, by omega, by omega⟩;intro n hn;obtain ⟨e, h, rfl⟩ := List.mem_map.1 hn;have := hall e h
 omega
def wordsOf (l : List Int) : List (List UInt8) := if qK l = 0 then yQ (l.map Int.toNat) else []
theorem Kp (N : Nat) (hN : 100 ≤ N) (l : List Int) : oQ N l = some (wordsOf l, qK l) := by
 unfold wordsOf
 by_cases h : qK l = 0
 ·obtain ⟨ns, rfl, h1, h2, h3, h4, h5⟩ := Hq h;rw [if_pos h, Mg h1 h3 N hN h4 h5 h, D2, h]
 ·rw [if_neg h];unfold oQ;rw [CX N hN, aN, cT (by rw [dF h]; rfl)]
theorem IL (N : Nat) (hN : 100 ≤ N) {l : List Int} (h : qK l = 0) : kK N l = some (wordsOf l) := by
 unfold wordsOf;obtain ⟨ns, rfl, h1, h2, h3, h4, h5⟩ := Hq h;rw [if_pos h, Mf h1 h3 N hN h4, D2]
section
variable {ns : List Nat}
theorem CY {i : Nat} : ∀ (o : List Nat) (st : List (List UInt8) × Nat), i ∉ o → (o.foldl (Ln ns) st).1[i]? = st.1[i]?
 | [], _, _ => rfl
 | k :: o, st, h => by
  simp only [List.mem_cons, not_or] at h;rw [List.foldl_cons, CY o _ h.2];show (st.1.set k _)[i]? = _;rw [List.getElem?_set_ne (fun e => h.1 e.symm)]
theorem fold_at {i : Nat} (A B : List Nat) (st : List (List UInt8) × Nat) (hB : i ∉ B) (hi : i < st.1.length) : ((A ++ i :: B).foldl (Ln ns) st).1[i]? = some (Q4 (st.2 + tot ns A) (ky ns i)) := by
 rw [List.foldl_append, List.foldl_cons, CY B _ hB];show ((A.foldl (Ln ns) st).1.set i _)[i]? = _;rw [List.getElem?_set_self (by rw [E6]; exact hi), Hn]
theorem N2 {f : Nat → Nat} {o : List Nat} {i : Nat} : i ∈ s9 f o ↔ i ∈ o ∧ 1 ≤ f i ∧ f i ≤ 15 := by
 unfold s9;rw [List.mem_flatMap]
 constructor
 ·rintro ⟨s, hs, h⟩;have h1 := List.mem_range'_1.1 hs;have h2 := List.mem_filter.1 h;have h3 := of_decide_eq_true h2.2;exact ⟨h2.1, by omega, by omega⟩
 ·rintro ⟨h1, h2, h3⟩;exact ⟨f i, List.mem_range'_1.2 ⟨h2, by omega⟩, List.mem_filter.2 ⟨h1, dT rfl⟩⟩
theorem Mh (f : Nat → Nat) {o : List Nat} (ho : o.Pairwise (· < ·)) : (s9 f o).Pairwise (fun a b => f a ≤ f b ∧ a ≠ b) := by
 unfold s9
 have : ∀ (j s : Nat), ((List.range' s j).flatMap fun s => o.filter fun i => decide (f i = s)).Pairwise (fun a b => f a ≤ f b ∧ a ≠ b) := by
  intro j
  induction j with
  | zero => intro s; exact List.Pairwise.nil
  | succ j ih =>
   intro s;rw [List.range'_succ, List.flatMap_cons, List.pairwise_append];refine ⟨?_, ih (s + 1), ?_⟩
   ·refine List.Pairwise.imp_of_mem ?_ (ho.filter _);intro a b ha hb hab;have h1 := of_decide_eq_true (List.mem_filter.1 ha).2;have h2 := of_decide_eq_true (List.mem_filter.1 hb).2;exact ⟨by omega, by omega⟩
   ·intro a ha b hb;have h1 := of_decide_eq_true (List.mem_filter.1 ha).2;obtain ⟨q, hq, hb⟩ := List.mem_flatMap.1 hb;have h3 := List.mem_range'_1.1 hq;have h2 := of_decide_eq_true (List.mem_filter.1 hb).2;exact ⟨by omega, fun e => by subst e; omega⟩
 exact this 15 1
def ord (ns : List Nat) : List Nat := s9 (ky ns) (List.range' 0 ns.length)
theorem N3 (ns : List Nat) : (ord ns).Pairwise (fun a b => ky ns a ≤ ky ns b ∧ a ≠ b) := Mh _ List.pairwise_lt_range'
theorem Lv {i : Nat} (hn : ∀ n ∈ ns, n ≤ 15) : i ∈ ord ns ↔ i < ns.length ∧ 1 ≤ ky ns i := by
 unfold ord;rw [N2, List.mem_range'_1];have := IH hn i
 omega
theorem Mi {i : Nat} (hn : ∀ n ∈ ns, n ≤ 15) (hi : i < ns.length) (h : ky ns i = 0) : (yQ ns)[i]? = some [] := by
 unfold yQ;rw [CY _ _ (fun hm => by have := ((Lv hn).1 hm).2; omega)]
 simp [hi]
theorem P2 {i : Nat} {A B : List Nat} (h : ord ns = A ++ i :: B) (hi : i < ns.length) : (yQ ns)[i]? = some (Q4 (tot ns A) (ky ns i)) := by
 have hp := N3 ns;rw [h, List.pairwise_append] at hp;have hB : i ∉ B := fun hm => ((List.pairwise_cons.1 hp.2.1).1 i hm).2 rfl
 unfold yQ;have h' : s9 (ky ns) (List.range' 0 ns.length) = A ++ i :: B := h;rw [h', fold_at A B _ hB (by simpa using hi), Nat.zero_add]
theorem P3 (S n : Nat) : (Q4 S n).length = n := by unfold Q4; rw [tI, oU]
end
def PF (W : List (List UInt8)) : Prop := ∀ (i j : Nat) (u v : List UInt8), i ≠ j → W[i]? = some u → W[j]? = some v → u ≠ [] → ¬ (u <+: v)
def IM (W : List (List UInt8)) : Prop := ∀ w ∈ W, E2 w = true ∧ w.length ≤ 15
theorem Lw {l : List Nat} (h : ∀ y ∈ l, y < 2) : E2 (BD l) = true := by
 unfold E2 BD;rw [List.all_map, List.all_eq_true];intro y hy;have := h y hy
 rcases (show y = 0 ∨ y = 1 by omega) with rfl | rfl <;> rfl
theorem sT (l : List Int) : IM (wordsOf l) := by
 intro w hw;unfold wordsOf at hw
 by_cases h : qK l = 0
 ·obtain ⟨ns, rfl, h1, h2, h3, h4, h5⟩ := Hq h;rw [if_pos h, D2] at hw;obtain ⟨i, hi⟩ := List.mem_iff_getElem?.1 hw;have hlen : (yQ ns).length = ns.length := by unfold yQ; rw [E6, List.length_replicate]
  have hi' : i < ns.length := by rw [← hlen]; exact (List.getElem?_eq_some_iff.1 hi).1
  rcases Nat.eq_zero_or_pos (ky ns i) with h0 | h0
  ·rw [Mi h1 hi' h0] at hi; cases hi; exact ⟨rfl, by simp⟩
  ·obtain ⟨A, B, hAB⟩ := List.append_of_mem ((Lv h1).2 ⟨hi', h0⟩);rw [P2 hAB hi'] at hi;cases hi;refine ⟨Lw (Hk (by decide) _ _), ?_⟩;rw [P3]; exact IH h1 i
 ·rw [if_neg h] at hw; cases hw
theorem D4 (k s : List UInt8) (v : Int) (m : List (List UInt8 × Int)) : wK ((k, v) :: m) s = if k = s then some v else wK m s := rfl
structure BK (V : List (List UInt8)) (m : List (List UInt8 × Int)) : Prop where
 wd : ∀ (i : Nat) (s : List UInt8), V[i]? = some s → s ≠ [] → wK m s = some (i : Int)
 pr : ∀ (s w : List UInt8), w ∈ V → s <+: w → s ≠ w → wK m s = some (-1)
 no : ∀ (s : List UInt8), (∀ w ∈ V, w ≠ [] → ¬ s <+: w) → wK m s = none
theorem PF.sub {V : List (List UInt8)} {w : List UInt8} (h : PF (V ++ [w])) : PF V := fun i j u v hij hu hv h0 =>
 h i j u v hij (by rw [List.getElem?_append_left (List.getElem?_eq_some_iff.1 hu).1]; exact hu) (by rw [List.getElem?_append_left (List.getElem?_eq_some_iff.1 hv).1]; exact hv) h0
theorem PF.last {V : List (List UInt8)} {w u : List UInt8} (h : PF (V ++ [w])) (hu : u ∈ V) : (u ≠ [] → ¬ u <+: w) ∧ (w ≠ [] → ¬ w <+: u) := by
 obtain ⟨i, hi⟩ := List.mem_iff_getElem?.1 hu;have hlt := (List.getElem?_eq_some_iff.1 hi).1;have h1 : (V ++ [w])[i]? = some u := by rw [List.getElem?_append_left hlt]; exact hi
 have h2 : (V ++ [w])[V.length]? = some w := by simp
 exact ⟨h i V.length u w (by omega) h1 h2, h V.length i w u (by omega) h2 h1⟩
theorem BK.step {V : List (List UInt8)} {w : List UInt8} {m m2 : List (List UInt8 × Int)} (B : BK V m) (hp : PF (V ++ [w])) (hw : w ≠ [])
  (h1 : ∀ s, s <+: w → s ≠ w → wK m s = none → wK m2 s = some (-1)) (h2 : ∀ s, ¬ (s <+: w ∧ s ≠ w ∧ wK m s = none) → wK m2 s = wK m s) : BK (V ++ [w]) ((w, (V.length : Int)) :: m2) := by
 have pre : ∀ s, s <+: w → s ≠ w → wK m2 s = some (-1) := fun s h3 h4 => by
  rcases hm : wK m s with _ | x
  ·exact h1 s h3 h4 hm
  ·rw [h2 s (fun h => by rw [h.2.2] at hm; cases hm), hm]
   by_cases hex : ∃ u ∈ V, u ≠ [] ∧ s <+: u
   ·obtain ⟨u, hu, hu0, hsu⟩ := hex
    by_cases e : s = u
    ·subst e; exact absurd h3 ((hp.last hu).1 hu0)
    ·rw [← hm]; exact B.pr s u hu hsu e
   ·rw [B.no s fun u hu hu0 hsu => hex ⟨u, hu, hu0, hsu⟩] at hm; cases hm
 refine ⟨fun i s hi h0 => ?_, fun s u hu h3 h4 => ?_, fun s h => ?_⟩
 ·rw [D4]
  by_cases hlt : i < V.length
  ·rw [List.getElem?_append_left hlt] at hi;have hmem := List.mem_of_getElem? hi;rw [if_neg (fun e => by subst e; exact (hp.last hmem).1 h0 (List.prefix_refl _)), h2 s (fun h => (hp.last hmem).1 h0 h.1)];exact B.wd i s hi h0
  ·have hl := (List.getElem?_eq_some_iff.1 hi).1
   simp at hl
   obtain rfl : i = V.length := by omega
   simp at hi
   rw [if_pos hi]
 ·rw [D4]
  rcases List.mem_append.1 hu with hu | hu
  ·rw [if_neg (fun e => by subst e; exact (hp.last hu).2 hw h3)];have := B.pr s u hu h3 h4;rw [h2 s (fun h => by rw [h.2.2] at this; cases this)];exact this
  ·obtain rfl : u = w := by simpa using hu
   rw [if_neg (fun e => h4 e.symm)];exact pre s h3 h4
 ·rw [D4];have hsw := h w (by simp) hw;rw [if_neg (fun e => hsw (by subst e; exact List.prefix_refl _)), h2 s (fun h => hsw h.1)];exact B.no s fun u hu hu0 => h u (by simp [hu]) hu0
theorem BK.nil {V : List (List UInt8)} {m : List (List UInt8 × Int)} (B : BK V m) : BK (V ++ [[]]) m := by
 refine ⟨fun i s hi h0 => ?_, fun s u hu h3 h4 => ?_, fun s h => ?_⟩
 ·by_cases hlt : i < V.length
  ·rw [List.getElem?_append_left hlt] at hi; exact B.wd i s hi h0
  ·have hl := (List.getElem?_eq_some_iff.1 hi).1
   simp at hl
   obtain rfl : i = V.length := by omega
   simp at hi
   exact absurd hi h0
 ·rcases List.mem_append.1 hu with hu | hu
  ·exact B.pr s u hu h3 h4
  ·obtain rfl : u = [] := by simpa using hu
   exact absurd (List.prefix_nil.1 h3) h4
 ·exact B.no s fun u hu hu0 => h u (by simp [hu]) hu0
theorem Lx (a b : List UInt8) : E2 (a ++ b) = (E2 a && E2 b) := by unfold E2; rw [List.all_append]
theorem SP (N : Nat) (l : List Int) (hl : l.length < N) (h2 : l.length ≤ 1000000) : kC N l l = some true := by
 unfold kC;rw [cF (by simp)];exact NP N l _ (by omega) l.length 0 N (by omega) hl
def Q5 (e : Int) : Bool := decide (0 ≤ e ∧ e ≤ 65535)
def Kq (W H : Int) (P : List Int) : Bool := decide (uO W H P.length) && P.all Q5
theorem N4 (N : Nat) {P : List Int} (hP : P.length ≤ 4096) (kk) : ∀ (j k fuel : Nat), k + j = P.length → j < fuel → pR N P kk fuel (k : Int) = if (P.drop k).all Q5 = true then kk (P.length : Int) else some false := by
 intro j
 induction j with
 | zero =>
  intro k fuel hk hf;obtain ⟨fuel, rfl⟩ : ∃ q, fuel = q + 1 := ⟨fuel - 1, by omega⟩
  obtain rfl : k = P.length := by omega
  unfold pR;rw [cF (dF (by omega)), List.drop_length, if_pos (by rfl)]
 | succ j ih =>
  intro k fuel hk hf;obtain ⟨fuel, rfl⟩ : ∃ q, fuel = q + 1 := ⟨fuel - 1, by omega⟩
  have hlt : k < P.length := by omega
  have hnx : IntKind.i64.wrap ((k : Int) + 1) = ((k + 1 : Nat) : Int) := by rw [jR (by omega)]; rfl
  unfold pR;rw [cT (dT (by omega)), jG, List.getElem?_eq_getElem hlt, aN, List.drop_eq_getElem_cons hlt, List.all_cons]
  by_cases h1 : P[k] < 0
  ·rw [cT (dT h1), if_neg];rw [show Q5 P[k] = false from dF (by omega)]; simp
  rw [cF (dF h1)]
  by_cases h2 : 65535 < P[k]
  ·rw [cT (dT h2), if_neg];rw [show Q5 P[k] = false from dF (by omega)]; simp
  rw [cF (dF h2), hnx, ih (k + 1) fuel (by omega) (by omega), show Q5 P[k] = true from dT (by omega), Bool.true_and]
theorem N5 (N : Nat) {P : List Int} (hP : P.length ≤ 4096) (kk) : ∀ (j k fuel : Nat), k + j = P.length → j < fuel → fJ N P kk fuel (k : Int) = if (P.drop k).all Q5 = true then kk (P.length : Int) else some false := by
 intro j
 induction j with
 | zero =>
  intro k fuel hk hf;obtain ⟨fuel, rfl⟩ : ∃ q, fuel = q + 1 := ⟨fuel - 1, by omega⟩
  obtain rfl : k = P.length := by omega
  unfold fJ;rw [cF (dF (by omega)), List.drop_length, if_pos (by rfl)]
 | succ j ih =>
  intro k fuel hk hf;obtain ⟨fuel, rfl⟩ : ∃ q, fuel = q + 1 := ⟨fuel - 1, by omega⟩
  have hlt : k < P.length := by omega
  have hnx : IntKind.i64.wrap ((k : Int) + 1) = ((k + 1 : Nat) : Int) := by rw [jR (by omega)]; rfl
  unfold fJ;rw [cT (dT (by omega)), jG, List.getElem?_eq_getElem hlt, aN, uP, aN, List.drop_eq_getElem_cons hlt, List.all_cons]
  by_cases h1 : 0 ≤ P[k] ∧ P[k] ≤ 65535
  ·rw [cF (by rw [dT h1]; rfl), hnx, aN, ih (k + 1) fuel (by omega) (by omega), show Q5 P[k] = true from dT h1, Bool.true_and]
  ·rw [cT (by rw [dF h1]; rfl), if_neg];rw [show Q5 P[k] = false from dF h1]; simp
theorem BT {W H : Int} {P : List Int} (h : ¬ uO W H P.length) : Kq W H P = false := by unfold Kq; rw [dF h]; rfl
theorem N6 (N : Nat) (hN : 5000 ≤ N) (W H : Int) (P : List Int) : wC N W H P = some (Kq W H P) := by
 unfold wC
 by_cases h1 : W < 1
 ·rw [cT (dT h1), BT (fun h => by unfold uO at h; omega)]
 rw [cF (dF h1)]
 by_cases h2 : 64 < W
 ·rw [cT (dT h2), BT (fun h => by unfold uO at h; omega)]
 rw [cF (dF h2)]
 by_cases h3 : H < 1
 ·rw [cT (dT h3), BT (fun h => by unfold uO at h; omega)]
 rw [cF (dF h3)]
 by_cases h4 : 64 < H
 ·rw [cT (dT h4), BT (fun h => by unfold uO at h; omega)]
 have hb := Ka (W := W) (H := H) (by omega);rw [cF (dF h4), jR (by omega)]
 by_cases h5 : (P.length : Int) = W * H
 rotate_left
 ·rw [cT (by rw [dF h5]; rfl), BT (fun h => by unfold uO at h; exact h5 h.2.2.2.2)]
 have hs : uO W H P.length := ⟨by omega, by omega, by omega, by omega, h5⟩
 rw [cF (by rw [dT h5]; rfl)];have key := N4 N (P := P) (by omega) (fun _ => some true) P.length 0 N (by omega) (by omega);refine Eq.trans key ?_;unfold Kq;rw [dT hs, Bool.true_and, List.drop_zero]
 split
 ·rename_i h; rw [h]
 ·rename_i h; rw [(Bool.not_eq_true _).mp h]
theorem FA (N : Nat) (hN : 5000 ≤ N) (W H : Int) (P : List Int) : iB N W H P = some (Kq W H P) := by
 unfold iB;rw [uP, aN]
 by_cases h1 : 1 ≤ W ∧ W ≤ 64
 rotate_left
 ·rw [cT (by rw [dF h1]; rfl), BT (fun h => by unfold uO at h; omega)]
 rw [cF (by rw [dT h1]; rfl), uP, aN]
 by_cases h3 : 1 ≤ H ∧ H ≤ 64
 rotate_left
 ·rw [cT (by rw [dF h3]; rfl), BT (fun h => by unfold uO at h; omega)]
 have hb := Ka (W := W) (H := H) (by omega);rw [cF (by rw [dT h3]; rfl), jR (by omega)]
 by_cases h5 : (P.length : Int) = W * H
 rotate_left
 ·rw [cT (by rw [dF h5]; rfl), BT (fun h => by unfold uO at h; exact h5 h.2.2.2.2)]
 have hs : uO W H P.length := ⟨by omega, by omega, by omega, by omega, h5⟩
 rw [cF (by rw [dT h5]; rfl)];have key := N5 N (P := P) (by omega) (fun _ => some true) P.length 0 N (by omega) (by omega);refine Eq.trans key ?_;unfold Kq;rw [dT hs, Bool.true_and, List.drop_zero]
 split
 ·rename_i h; rw [h]
 ·rename_i h; rw [(Bool.not_eq_true _).mp h]
def SQ (kind a b c : Int) : Int := if kind = 1 then a else if kind = 2 then b else if kind = 3 then c else if kind = 4 then a + b - c else if kind = 5 then a + (b - c) / 2 else if kind = 6 then b + (a - c) / 2 else (a + b) / 2
def gs (W : Nat) (P : List Int) (kind : Int) (i : Nat) : Int := if i = 0 then 32768 else if i / W = 0 then P.getD (i - 1) 0 else if i % W = 0 then P.getD (i - W) 0 else SQ kind (P.getD (i - 1) 0) (P.getD (i - W) 0) (P.getD (i - W - 1) 0)
theorem SR {kind a b c : Int} (ha : 0 ≤ a ∧ a ≤ 65535) (hb : 0 ≤ b ∧ b ≤ 65535) (hc : 0 ≤ c ∧ c ≤ 65535) : -65535 ≤ SQ kind a b c ∧ SQ kind a b c ≤ 131070 := by
 unfold SQ
 repeat' split
 all_goals omega
section
variable {P : List Int} (hP : ∀ e ∈ P, 0 ≤ e ∧ e ≤ 65535)
include hP in
theorem Cw {j : Nat} (h : j < P.length) : idx P (j : Int) = some (P.getD j 0) ∧ 0 ≤ P.getD j 0 ∧ P.getD j 0 ≤ 65535 := by
 have e : P.getD j 0 = P[j] := by rw [List.getD_eq_getElem?_getD, List.getElem?_eq_getElem h]; rfl
 rw [e, jG, List.getElem?_eq_getElem h];exact ⟨rfl, hP _ (List.getElem_mem h)⟩
include hP in
theorem Q6 {W : Nat} {kind : Int} {i : Nat} (hW : 1 ≤ W) (hi : i < P.length) : -65535 ≤ gs W P kind i ∧ gs W P kind i ≤ 131070 := by
 unfold gs
 split
 ·omega
 ·split
  ·have := (Cw hP (j := i - 1) (by omega)).2; omega
  ·split
   ·have := (Cw hP (j := i - W) (by omega)).2; omega
   ·exact SR (Cw hP (by omega)).2 (Cw hP (by omega)).2 (Cw hP (by omega)).2
theorem IN {i W : Nat} (h : i / W ≠ 0) : W ≤ i ∧ 0 < W := by
 rcases Nat.eq_zero_or_pos W with h0 | h0
 ·subst h0; simp at h
 ·refine ⟨?_, h0⟩
  rcases Nat.lt_or_ge i W with h1 | h1
  ·exact absurd (Nat.div_eq_of_lt h1) h
  ·exact h1
include hP in
theorem Kr (N : Nat) {W : Nat} (hW : 1 ≤ W ∧ W ≤ 64) {kind : Int} (hk : 1 ≤ kind ∧ kind ≤ 7) (H : Int) {i : Nat} (hi : i < P.length) (hl : P.length ≤ 4096) : nN N (W : Int) H P kind (i : Int) = some (gs W P kind i) := by
 unfold nN gs;obtain ⟨t1, t2⟩ := tdm (W := W) i (by omega);rw [Iv (by omega), aN, aN, t2, t1]
 by_cases h0 : i = 0
 ·rw [cT (dT (by omega)), if_pos h0]
 have hdl : i / W ≤ i := Nat.div_le_self _ _;rw [cF (dF (by omega)), if_neg h0, jR (x := ((i / W : Nat) : Int)) ⟨Int.le_trans (by decide) (Int.natCast_nonneg _), Int.le_trans (Int.ofNat_le.2 hdl) (by omega)⟩];have e1 : IntKind.i64.wrap ((i : Int) - 1) = ((i - 1 : Nat) : Int) := by rw [jR (by omega)]; omega
 by_cases h1 : i / W = 0
 ·rw [cT (dT (by rw [h1]; rfl)), if_pos h1, e1, (Cw hP (j := i - 1) (by omega)).1]; rfl
 obtain ⟨hWi, hW0⟩ := IN h1;have e2 : IntKind.i64.wrap ((i : Int) - (W : Int)) = ((i - W : Nat) : Int) := by rw [jR (by omega)]; omega
 rw [cF (dF (fun h => h1 (by exact_mod_cast h))), if_neg h1, e2]
 by_cases h2 : i % W = 0
 ·rw [cT (dT (by rw [h2]; rfl)), if_pos h2, (Cw hP (j := i - W) (by omega)).1]; rfl
 have hlt : W < i := by
  rcases Nat.lt_or_ge W i with h | h
  ·exact h
  ·obtain rfl : i = W := by omega
   simp at h2
 have e3 : IntKind.i64.wrap (((i - W : Nat) : Int) - 1) = ((i - W - 1 : Nat) : Int) := by rw [jR (by omega)]; omega
 obtain ⟨a1, a2⟩ := Cw hP (j := i - 1) (by omega);obtain ⟨b1, b2⟩ := Cw hP (j := i - W) (by omega);obtain ⟨c1, c2⟩ := Cw hP (j := i - W - 1) (by omega);rw [cF (dF (fun h => h2 (by exact_mod_cast h))), if_neg h2, e1, a1, aN, b1, aN, e3, c1, aN]
 generalize P.getD (i - 1) 0 = a at *
 generalize P.getD (i - W) 0 = b at *
 generalize P.getD (i - W - 1) 0 = c at *
 have s1 : ∀ m : Int, j0 .i64 m 1 = m / 2 := fun m => SE m 1 (by decide)
 rw [s1, s1, s1, jR (x := a + b) (by omega), jR (x := a + b - c) (by omega), jR (x := b - c) (by omega), jR (x := a - c) (by omega), jR (x := a + (b - c) / 2) (by omega), jR (x := b + (a - c) / 2) (by omega)];unfold SQ
 rcases (show kind = 1 ∨ kind = 2 ∨ kind = 3 ∨ kind = 4 ∨ kind = 5 ∨ kind = 6 ∨ kind = 7 by omega) with rfl | rfl | rfl | rfl | rfl | rfl | rfl <;> rfl
include hP in
theorem D5 (N : Nat) {W x y : Nat} (H : Int) (hW : W ≤ 64) (hx : x ≤ 64) (hy : y ≤ 64) (h : y * W + x < P.length) : fW N (W : Int) H P (x : Int) (y : Int) = some (P.getD (y * W + x) 0) := by
 have ZY : y * W ≤ 64 * 64 := Nat.mul_le_mul hy hW;have e : (y : Int) * (W : Int) = ((y * W : Nat) : Int) := by simp
 have e2 : IntKind.i64.wrap (IntKind.i64.wrap ((y : Int) * (W : Int)) + (x : Int)) = ((y * W + x : Nat) : Int) := by
  rw [e, jR (x := ((y * W : Nat) : Int)) (by omega), jR (by omega)]; omega
 unfold fW;rw [e2, (Cw hP h).1]; rfl
include hP in
theorem Ks (N : Nat) {W : Nat} (hW : 1 ≤ W ∧ W ≤ 64) {kind : Int} (hk : 1 ≤ kind ∧ kind ≤ 7) (H : Int) {x y : Nat} (hx : x < W) (hy : y < 64) (hi : y * W + x < P.length) (hl : P.length ≤ 4096) : lU N (W : Int) H P kind (x : Int) (y : Int) = some (gs W P kind (y * W + x)) := by
 obtain ⟨d1, d2⟩ := dm (W := W) y hx
 have fin : ∀ (a b c : Int), 0 ≤ a ∧ a ≤ 65535 → 0 ≤ b ∧ b ≤ 65535 → 0 ≤ c ∧ c ≤ 65535 → (cond (decide (kind = 1)) (
   some a) (
   cond (decide (kind = 2)) (
   some b) (
   cond (decide (kind = 3)) (
   some c) (
   cond (decide (kind = 4)) (
   some (IntKind.i64.wrap ((IntKind.i64.wrap (a + b)) - c))) (
   cond (decide (kind = 5)) (
   Option.bind (fZ N (IntKind.i64.wrap (b - c)) 2) fun Dg =>
   some (IntKind.i64.wrap (a + Dg))) (
   cond (decide (kind = 6)) (
   Option.bind (fZ N (IntKind.i64.wrap (a - c)) 2) fun r16 =>
   some (IntKind.i64.wrap (b + r16))) (
   Option.bind (fZ N (IntKind.i64.wrap (a + b)) 2) fun CC =>
   some CC)))))) : Option Int) = some (SQ kind a b c) := by
  intro a b c ha hb hc;rw [jR (x := a + b) (by omega), jR (x := a + b - c) (by omega), jR (x := b - c) (by omega), jR (x := a - c) (by omega), Hf N (by omega) (by omega), Hf N (by omega) (by omega), Hf N (by omega) (by omega), aN, aN, aN, jR (x := a + (b - c) / 2) (by omega), jR (x := b + (a - c) / 2) (by omega)];unfold SQ
  rcases (show kind = 1 ∨ kind = 2 ∨ kind = 3 ∨ kind = 4 ∨ kind = 5 ∨ kind = 6 ∨ kind = 7 by omega) with rfl | rfl | rfl | rfl | rfl | rfl | rfl <;> rfl
 unfold lU gs;rw [d2, d1]
 by_cases h0 : x = 0
 ·subst h0;rw [cT (dT (by rfl))]
  by_cases h1 : y = 0
  ·subst h1;rw [cT (dT (by rfl)), if_pos (by simp)]
  ·have ZY : 1 ≤ y * W := Nat.mul_pos (by omega) (by omega);have e : IntKind.i64.wrap ((y : Int) - 1) = ((y - 1 : Nat) : Int) := by rw [jR (by omega)]; omega
   have e2 : (y - 1) * W + 0 = y * W + 0 - W := by rw [Nat.sub_mul]; omega
   have hle : (y - 1) * W ≤ y * W := Nat.mul_le_mul_right _ (by omega);rw [cF (dF (by omega)), cF (dF (by omega)), cT (dT (by rfl)), e];have := D5 hP N (W := W) (x := 0) (y := y - 1) H (by omega) (by omega) (by omega) (by omega);rw [show ((0 : Nat) : Int) = 0 from rfl] at this;rw [this, aN, if_neg (by omega), if_neg (by omega), if_pos rfl, e2]
 ·rw [cF (dF (by omega))];have ex : IntKind.i64.wrap ((x : Int) - 1) = ((x - 1 : Nat) : Int) := by rw [jR (by omega)]; omega
  by_cases h1 : y = 0
  ·subst h1;have := D5 hP N (W := W) (x := x - 1) (y := 0) H (by omega) (by omega) (by omega) (by omega);rw [show ((0 : Nat) : Int) = 0 from rfl] at this;rw [cT (dT (by rfl)), ex, this, aN, if_neg (by omega), if_pos rfl]
   congr 2
   omega
  ·have e : IntKind.i64.wrap ((y : Int) - 1) = ((y - 1 : Nat) : Int) := by rw [jR (by omega)]; omega
   have hsub : (y - 1) * W = y * W - W := by rw [Nat.sub_mul]; omega
   have ZY : W ≤ y * W := Nat.le_mul_of_pos_left W (by omega);rw [cF (dF (by omega)), cF (dF (by omega)), ex, e, D5 hP N (W := W) (x := x - 1) (y := y) H (by omega) (by omega) (by omega) (by omega), aN, D5 hP N (W := W) (x := x) (y := y - 1) H (by omega) (by omega) (by omega) (by omega), aN, D5 hP N (W := W) (x := x - 1) (y := y - 1) H (by omega) (by omega) (by omega) (by omega), aN, if_neg (by omega), if_neg (by omega), if_neg (by omega)];rw [show y * W + (x - 1) = y * W + x - 1 by omega, show (y - 1) * W + x = y * W + x - W by omega, show (y - 1) * W + (x - 1) = y * W + x - W - 1 by omega];exact fin _ _ _ (Cw hP (by omega)).2 (Cw hP (by omega)).2 (Cw hP (by omega)).2
end
theorem E7 {W H : Int} {P : List Int} (h : Kq W H P = true) : ∃ w k : Nat, W = w ∧ H = k ∧ 1 ≤ w ∧ w ≤ 64 ∧ 1 ≤ k ∧ k ≤ 64 ∧ P.length = w * k ∧ w * k ≤ 4096 ∧ ∀ e ∈ P, 0 ≤ e ∧ e ≤ 65535 := by
 unfold Kq at h;rw [Bool.and_eq_true] at h;obtain ⟨h1, h2⟩ := h;obtain ⟨a, b, c, d, e⟩ := of_decide_eq_true h1;obtain ⟨w, rfl⟩ := Int.eq_ofNat_of_zero_le (show 0 ≤ W by omega);obtain ⟨k, rfl⟩ := Int.eq_ofNat_of_zero_le (show 0 ≤ H by omega);have hm := Nat.mul_le_mul (show w ≤ 64 by omega) (show k ≤ 64 by omega);exact ⟨w, k, rfl, rfl, by omega, by omega, by omega, by omega, by exact_mod_cast e, by omega, fun e he => of_decide_eq_true (List.all_eq_true.1 h2 e he)⟩
def bl (n : Nat) : Nat := if n = 0 then 0 else Nat.log2 n + 1
theorem v7 {n : Nat} (h : 0 < n) : bl n = bl (n / 2) + 1 := by
 unfold bl;rw [if_neg (by omega)]
 by_cases h2 : 2 ≤ n
 ·rw [if_neg (by omega), Nat.log2_def, if_pos h2]
 ·obtain rfl : n = 1 := by omega
  rfl
theorem D6 : ∀ (k n : Nat), bl n ≤ k ↔ n < 2 ^ k
 | 0, n => by
  unfold bl
  split
  ·subst n; simp
  ·rw [Nat.pow_zero]; omega
 | k + 1, n => by
  rcases Nat.eq_zero_or_pos n with rfl | h
  ·have := Nat.two_pow_pos (k + 1); simp [bl, this]
  ·have ih := D6 k (n / 2);rw [v7 h, Nat.pow_succ]
   constructor
   ·intro q;have := ih.1 (by omega)
    omega
   ·intro q;have := ih.2 (by omega)
    omega
theorem Vh {n : Nat} (h : 256 ≤ n) : bl n = bl (n / 256) + 8 := by
 rw [v7 (n := n) (by omega), v7 (n := n / 2) (by omega), v7 (n := n / 2 / 2) (by omega), v7 (n := n / 2 / 2 / 2) (by omega), v7 (n := n / 2 / 2 / 2 / 2) (by omega), v7 (n := n / 2 / 2 / 2 / 2 / 2) (by omega), v7 (n := n / 2 / 2 / 2 / 2 / 2 / 2) (by omega), v7 (n := n / 2 / 2 / 2 / 2 / 2 / 2 / 2) (by omega)];have : n / 2 / 2 / 2 / 2 / 2 / 2 / 2 / 2 = n / 256 := by omega
 rw [this]
theorem N7 : ∀ n : Fin 256, Gc[n.val]? = some (UInt8.ofNat (bl n.val)) ∧ bl n.val ≤ 8 := by decide +kernel
theorem Ly {n : Nat} (h : n < 256) : idx Gc (IntKind.u8.wrap (n : Int)) = some (UInt8.ofNat (bl n)) ∧ IntKind.i64.wrap ((UInt8.ofNat (bl n)).toNat : Int) = ((bl n : Nat) : Int) := by
 obtain ⟨h1, h2⟩ := N7 ⟨n, h⟩;rw [AT, Nat.mod_eq_of_lt h, jG];refine ⟨h1, ?_⟩
 have : (UInt8.ofNat (bl n)).toNat = bl n := by
  rw [UInt8.toNat_ofNat', Nat.mod_eq_of_lt];have : bl n ≤ 8 := h2
  omega
 rw [this, jR (by have : bl n ≤ 8 := h2; omega)]
theorem Zc {h k : Nat} (hk : k ≤ 64) : j0 .u64 (h : Int) (k : Int) = ((h / 2 ^ k : Nat) : Int) := by
 unfold j0
 have : min ((k : Int)).toNat IntKind.u64.bits = k := by
  rw [Int.toNat_natCast];exact Nat.min_eq_left hk
 rw [this];rw [show (2 : Int) ^ k = ((2 ^ k : Nat) : Int) by simp, Int.fdiv_eq_ediv_of_nonneg _ (Int.natCast_nonneg _), Int.natCast_ediv]
theorem len_eq (N : Nat) {n : Nat} (h : n ≤ 65535) : nF N (n : Int) = some ((bl n : Nat) : Int) := by
 have h16 : bl n ≤ 16 := (D6 16 n).2 (by omega);unfold nF rQ;rw [cF (dF (by omega)), cF (dF (by omega))]
 by_cases h1 : 256 ≤ n
 ·have hd : n / 2 ^ 8 < 256 := by omega
  obtain ⟨e1, e2⟩ := Ly hd;rw [cT (dT (by omega)), show ((8 : Int)) = ((8 : Nat) : Int) from rfl, Zc (by omega), aN, show IntKind.i64.wrap (0 + ((8 : Nat) : Int)) = 8 by decide, aN, e1, aN, e2, show n / 2 ^ 8 = n / 256 from rfl, Vh h1];rw [Vh h1] at h16;rw [jR (by omega), aN, aN]
  congr 1
  omega
 ·obtain ⟨e1, e2⟩ := Ly (show n < 256 by omega);rw [cF (dF (by omega)), e1, aN, e2, jR (by omega), aN, aN]
  congr 1
  omega
def zM (d : Int) : Nat := bl (max d (-d)).toNat
theorem Kt (N : Nat) : ∀ (j : Nat) (k n fuel : Nat), bl k = j → j < fuel → n + j ≤ 1000 → k ≤ 1000000 → jO N (fun (n4, k5) => some n4) fuel ((n : Int), (k : Int)) = some ((n + j : Nat) : Int) := by
 intro j
 induction j with
 | zero =>
  intro k n fuel hb hf hn hk;obtain ⟨fuel, rfl⟩ : ∃ q, fuel = q + 1 := ⟨fuel - 1, by omega⟩
  have := (D6 0 k).1 (by omega);unfold jO;rw [cF (dF (by omega))]; rfl
 | succ j ih =>
  intro k n fuel hb hf hn hk;obtain ⟨fuel, rfl⟩ : ∃ q, fuel = q + 1 := ⟨fuel - 1, by omega⟩
  have hk0 : 0 < k := by
   rcases Nat.eq_zero_or_pos k with rfl | h
   ·simp [bl] at hb
   ·exact h
  have hb2 := v7 hk0;unfold jO;rw [cT (dT (by omega)), jR (x := (n : Int) + 1) (by omega), aN, show Int.tdiv (k : Int) 2 = ((k / 2 : Nat) : Int) from rfl, jR (x := ((k / 2 : Nat) : Int)) (by omega), aN, show (n : Int) + 1 = ((n + 1 : Nat) : Int) by rfl, ih (k / 2) (n + 1) fuel (by omega) (by omega) (by omega) (by omega)]
  congr 2
  omega
theorem IP {d : Int} (h : -32768 < d ∧ d ≤ 32768) : zM d ≤ 16 := (D6 16 _).2 (by omega)
theorem FB (N : Nat) (hN : 100 ≤ N) {d : Int} (h : -32768 < d ∧ d ≤ 32768) : kL N d = some ((zM d : Nat) : Int) := by
 have hc := IP h;unfold kL;rw [jR (x := 0 - d) (by omega), aN, show max d (0 - d) = (((max d (-d)).toNat : Nat) : Int) by omega];have := Kt N (zM d) (max d (-d)).toNat 0 N rfl (by omega) (by omega) (by omega);rw [Nat.zero_add] at this;exact this
def JR (d : Int) : List UInt8 := if zM d = 0 ∨ zM d = 16 then [] else BD (sG 2 (zM d) (if 0 < d then d else d + ((2 ^ zM d : Nat) : Int) - 1).toNat)
theorem Ku {d : Int} : -((2 ^ zM d : Nat) : Int) < d ∧ d < ((2 ^ zM d : Nat) : Int) := by
 have h := (D6 (zM d) (max d (-d)).toNat).1 (Nat.le_refl _);have h2 : (((max d (-d)).toNat : Nat) : Int) < ((2 ^ zM d : Nat) : Int) := Int.ofNat_lt.2 h
 omega
theorem Lz {d : Int} : zM d = 0 ↔ d = 0 := by
 have := D6 0 (max d (-d)).toNat;unfold zM
 constructor
 ·intro h; have := this.1 (by omega); omega
 ·intro h; have := this.2 (by omega); omega
theorem Vi {d : Int} (h : zM d ≠ 0) (h2 : zM d ≠ 16) (hd : -32768 < d ∧ d ≤ 32768) : sH (if 0 < d then d else d + ((2 ^ zM d : Nat) : Int) - 1) ((zM d : Nat) : Int) = 0 := by
 have hc := IP hd;have hl := Ku (d := d);have h0 : d ≠ 0 := fun e => h (Lz.2 e)
 unfold sH;rw [if_pos (by omega), Int.toNat_natCast, if_pos]
 split
 ·omega
 ·omega
theorem P4 (N : Nat) (hN : 100 ≤ N) {d : Int} (h : -32768 < d ∧ d ≤ 32768) : nI N d = some (JR d) := by
 have hc := IP h;unfold nI JR;rw [FB N hN h, aN]
 by_cases h0 : zM d = 0
 ·rw [cT (dT (by omega)), if_pos (.inl h0)]
 rw [cF (dF (by omega))]
 by_cases h1 : zM d = 16
 ·rw [cT (dT (by omega)), if_pos (.inr h1)]
 have hv := Vi h0 h1 h;have hp := wG (d := zM d) hc;have hl := Ku (d := d);rw [cF (dF (by omega)), if_neg (by omega)]
 by_cases h2 : 0 < d
 ·rw [if_pos h2] at hv;rw [cT (dT h2), Fy N hN hv, aN, Int.toNat_natCast, if_pos h2]
 ·rw [if_neg h2] at hv;rw [cF (dF h2), tM, aN, Cl hc, jR (x := d + _) (by omega), jR (x := d + _ - 1) (by omega), Fy N hN hv, aN, Int.toNat_natCast, if_neg h2]
def dfn (n g : Int) : Int := if 32768 < (n - g) % 65536 then (n - g) % 65536 - 65536 else (n - g) % 65536
theorem N8 (n g : Int) : -32768 < dfn n g ∧ dfn n g ≤ 32768 := by unfold dfn; split <;> omega
theorem Kv (N : Nat) {d : Int} (h : -200000 ≤ d ∧ d ≤ 32768) {fuel : Nat} (hf : 5 ≤ fuel) : fE N (fun d9 => some d9) fuel d = some (dfn d 0) := by
 obtain ⟨fuel, rfl⟩ : ∃ q, fuel = q + 5 := ⟨fuel - 5, by omega⟩
 have key : ∀ (e : Int) (m : Nat), -32768 < e → e ≤ 32768 → e % 65536 = d % 65536 → fE N (fun d9 => some d9) (m + 1) e = some (dfn d 0) := by
  intro e m h1 h2 h3;unfold fE;rw [cF (dF (by omega))]
  congr 1
  unfold dfn
  split <;> omega
 by_cases h1 : -32768 < d
 ·exact key d _ h1 h.2 rfl
 unfold fE;rw [cT (dT (by omega)), jR (x := d + 65536) (by omega), aN]
 by_cases h2 : -32768 < d + 65536
 ·exact key (d + 65536) _ h2 (by omega) (by omega)
 unfold fE;rw [cT (dT (by omega)), jR (x := d + 65536 + 65536) (by omega), aN]
 by_cases h3 : -32768 < d + 65536 + 65536
 ·exact key (d + 65536 + 65536) _ h3 (by omega) (by omega)
 unfold fE;rw [cT (dT (by omega)), jR (x := d + 65536 + 65536 + 65536) (by omega), aN];exact key (d + 65536 + 65536 + 65536) _ (by omega) (by omega) (by omega)
theorem LA {a b : Int} (h : a % 65536 = b % 65536) : dfn a 0 = dfn b 0 := by unfold dfn; rw [Int.sub_zero, Int.sub_zero, h]
theorem difference_eq (N : Nat) (hN : 100 ≤ N) {n g : Int} (hn : 0 ≤ n ∧ n ≤ 65535) (hg : -65535 ≤ g ∧ g ≤ 131070) : kQ N n g = some (dfn n g) := by
 have e0 : dfn n g = dfn (n - g) 0 := by unfold dfn; rw [Int.sub_zero]
 unfold kQ;rw [jR (x := n - g) (by omega), aN, e0];obtain ⟨M, rfl⟩ : ∃ q, N = q + 5 := ⟨N - 5, by omega⟩
 generalize hd : n - g = d
 by_cases h1 : 32768 < d
 ·unfold gE;rw [cT (dT h1), jR (x := d - 65536) (by omega), aN]
  by_cases h2 : 32768 < d - 65536
  ·unfold gE;rw [cT (dT h2), jR (x := d - 65536 - 65536) (by omega), aN];unfold gE;rw [cF (dF (by omega)), Kv _ (by omega) (by omega)];exact congrArg some (LA (by omega))
  ·unfold gE;rw [cF (dF h2), Kv _ (by omega) (by omega)];exact congrArg some (LA (by omega))
 ·unfold gE;rw [cF (dF h1), Kv _ (by omega) (by omega)]
def ds (W : Nat) (P : List Int) (kind : Int) : List Int := (List.range P.length).map fun i => dfn (P.getD i 0) (gs W P kind i)
section
variable {W H : Nat} {P : List Int} (hP : ∀ e ∈ P, 0 ≤ e ∧ e ≤ 65535) (hW : 1 ≤ W ∧ W ≤ 64) (hH : 1 ≤ H ∧ H ≤ 64) (hl : P.length = W * H) (hl2 : W * H ≤ 4096) {kind : Int} (hk : 1 ≤ kind ∧ kind ≤ 7)
include hP hW hH hl hl2 hk
theorem P5 (N : Nat) (hN : 100 ≤ N) {y : Nat} (hy : y < H) (kk) : ∀ (j x fuel : Nat), x + j = W → j < fuel →
  iG N (W : Int) (H : Int) P kind (y : Int) kk fuel ((List.range (y * W + x)).map (fun i => dfn (P.getD i 0) (gs W P kind i)), (x : Int)) = kk ((List.range ((y + 1) * W)).map (fun i => dfn (P.getD i 0) (gs W P kind i)), (W : Int)) := by
 intro j
 induction j with
 | zero =>
  intro x fuel hx hf;obtain ⟨fuel, rfl⟩ : ∃ q, fuel = q + 1 := ⟨fuel - 1, by omega⟩
  obtain rfl : x = W := by omega
  unfold iG;rw [cF (dF (by omega)), Nat.add_mul, Nat.one_mul]
 | succ j ih =>
  intro x fuel hx hf;obtain ⟨fuel, rfl⟩ : ∃ q, fuel = q + 1 := ⟨fuel - 1, by omega⟩
  have hpl := ND (W := W) (H := H) (x := x) (y := y) (by omega) hy;have hg := Q6 hP (W := W) (kind := kind) (i := y * W + x) hW.1 (by omega)
  have hs : (List.range (y * W + x)).map (fun i => dfn (P.getD i 0) (gs W P kind i)) ++ [dfn (P.getD (y * W + x) 0) (gs W P kind (y * W + x))] = (List.range (y * W + (x + 1))).map (fun i => dfn (P.getD i 0) (gs W P kind i)) := by
   rw [show y * W + (x + 1) = y * W + x + 1 by omega, List.range_succ, List.map_append, List.map_singleton]
  unfold iG;rw [cT (dT (by omega)), D5 hP N (W := W) (x := x) (y := y) _ (by omega) (by omega) (by omega) (by omega), aN, Ks hP N hW hk _ (by omega) (by omega) (by omega) (by omega), aN, difference_eq N hN (Cw hP (by omega)).2 hg, aN, p9 (by simp; omega), aN, hs, jR (x := (x : Int) + 1) (by omega), aN];exact ih (x + 1) fuel (by omega) (by omega)
theorem P6 (N : Nat) (hN : 100 ≤ N) : lV N (W : Int) (H : Int) P kind = some (ds W P kind) := by
 have main : ∀ (j y fuel : Nat), y + j = H → j < fuel → gX N (W : Int) (H : Int) P kind (fun (PR, y5) => some PR) fuel ((List.range (y * W)).map (fun i => dfn (P.getD i 0) (gs W P kind i)), (y : Int)) = some (ds W P kind) := by
  intro j
  induction j with
  | zero =>
   intro y fuel hx hf;obtain ⟨fuel, rfl⟩ : ∃ q, fuel = q + 1 := ⟨fuel - 1, by omega⟩
   obtain rfl : y = H := by omega
   unfold gX;rw [cF (dF (by omega))];unfold ds;rw [hl, Nat.mul_comm]
  | succ j ih =>
   intro y fuel hx hf;obtain ⟨fuel, rfl⟩ : ∃ q, fuel = q + 1 := ⟨fuel - 1, by omega⟩
   have key := P5 hP hW hH hl hl2 hk N hN (y := y) (by omega) (fun (PQ, x10) => Option.bind (some (IntKind.i64.wrap ((y : Int) + 1))) fun y4 => gX N (W : Int) (H : Int) P kind (fun (PR, y5) => some PR) fuel (PQ, y4)) W 0 N (by omega) (by omega);unfold gX;rw [cT (dT (by omega))];refine Eq.trans key ?_
   dsimp only
   rw [jR (x := (y : Int) + 1) (by omega), aN];exact ih (y + 1) fuel (by omega) (by omega)
 have := main H 0 N (by omega) (by omega);rw [Nat.zero_mul] at this;exact this
end
def Hr (W : List (List UInt8)) (d : Int) : Bool := decide (zM d < W.length) && !(W.getD (zM d) []).isEmpty
def CE (W : List (List UInt8)) (d : Int) : List UInt8 := W.getD (zM d) [] ++ JR d
def FC (W : List (List UInt8)) (l : List Int) : List UInt8 := l.flatMap (CE W)
theorem Cm (W : List (List UInt8)) (d : Int) (l : List Int) : FC W (d :: l) = CE W d ++ FC W l := rfl
theorem Hs {d : Int} (h : -32768 < d ∧ d ≤ 32768) : (JR d).length ≤ 16 := by
 unfold JR
 split
 ·simp
 ·rw [tI, oU]; exact IP h
theorem Cn {W : List (List UInt8)} (hb : IM W) (i : Nat) : (W.getD i []).length ≤ 15 ∧ E2 (W.getD i []) = true := by
 rw [List.getD_eq_getElem?_getD]
 by_cases h : i < W.length
 ·rw [List.getElem?_eq_getElem h]; exact ⟨(hb _ (List.getElem_mem h)).2, (hb _ (List.getElem_mem h)).1⟩
 ·rw [List.getElem?_eq_none (by omega)]; exact ⟨by simp, rfl⟩
theorem GE {W : List (List UInt8)} (hb : IM W) {d : Int} (h : -32768 < d ∧ d ≤ 32768) : (CE W d).length ≤ 31 := by
 unfold CE;rw [List.length_append];have := Hs h;have := (Cn hb (zM d)).1
 omega
theorem N9 {W : List (List UInt8)} {d : Int} (h : Hr W d = true) : ∃ u, W[zM d]? = some u ∧ u ≠ [] ∧ W.getD (zM d) [] = u ∧ zM d < W.length := by
 unfold Hr at h;rw [Bool.and_eq_true] at h;have hq := of_decide_eq_true h.1;refine ⟨W[zM d], List.getElem?_eq_getElem hq, ?_, ?_, hq⟩
 ·have h2 := h.2;rw [List.getD_eq_getElem?_getD, List.getElem?_eq_getElem hq] at h2;intro e;rw [Option.getD_some, e] at h2;cases h2
 ·rw [List.getD_eq_getElem?_getD, List.getElem?_eq_getElem hq]; rfl
theorem Oa {W : List (List UInt8)} {d : Int} (h : ¬ Hr W d = true) (h2 : zM d < W.length) : W[zM d]? = some [] := by
 rw [List.getElem?_eq_getElem h2];unfold Hr at h;rw [dT h2, Bool.true_and, List.getD_eq_getElem?_getD, List.getElem?_eq_getElem h2, Option.getD_some] at h;cases hc : W[zM d]
 ·rfl
 ·rw [hc] at h; simp at h
theorem P7 (N : Nat) (hN : 100 ≤ N) {W : List (List UInt8)} (hb : IM W) {l : List Int} (hd : ∀ d ∈ l, -32768 < d ∧ d ≤ 32768) (hl : l.length ≤ 4096) (kk) : ∀ (j k fuel : Nat) (acc : List UInt8), k + j = l.length → j < fuel → acc.length ≤ 31 * k →
  iT N W l kk fuel (pN acc, (k : Int)) = if (l.drop k).all (Hr W) = true then kk (pN (acc ++ FC W (l.drop k)), (l.length : Int)) else some ([], 4) := by
 intro j
 induction j with
 | zero =>
  intro k fuel acc hk hf ha;obtain ⟨fuel, rfl⟩ : ∃ q, fuel = q + 1 := ⟨fuel - 1, by omega⟩
  obtain rfl : k = l.length := by omega
  unfold iT;rw [cF (dF (by omega)), List.drop_length, if_pos (by rfl)]
  simp [FC]
 | succ j ih =>
  intro k fuel acc hk hf ha;obtain ⟨fuel, rfl⟩ : ∃ q, fuel = q + 1 := ⟨fuel - 1, by omega⟩
  have hlt : k < l.length := by omega
  have hnx : IntKind.i64.wrap ((k : Int) + 1) = ((k + 1 : Nat) : Int) := by rw [jR (by omega)]; rfl
  have hdk := hd _ (List.getElem_mem hlt);unfold iT;rw [cT (dT (by omega)), jG, List.getElem?_eq_getElem hlt, aN, FB N hN hdk, aN, List.drop_eq_getElem_cons hlt, List.all_cons, Cm]
  generalize l[k] = d at hdk ⊢
  by_cases h1 : W.length ≤ zM d
  ·rw [cT (dT (by omega)), if_neg];rw [show Hr W d = false by unfold Hr; rw [dF (by omega)]; rfl]; simp
  rw [cF (dF (by omega)), jG]
  by_cases h2 : Hr W d = true
  ·obtain ⟨u, hu, hu0, hg, _⟩ := N9 h2;have Ub := (Cn hb (zM d)).1;have hm := Hs hdk;rw [hg] at Ub;rw [hu, aN, cF (dF hu0), aN, p9 (by rw [vL, vL]; omega), aN, aN, P4 N hN hdk, aN, ← Hm, p9 (by rw [vL, vL, List.length_append]; omega), aN, ← Hm, hnx, aN, ih (k + 1) fuel _ (by omega) (by omega) (by rw [List.length_append, List.length_append]; omega), h2, Bool.true_and];unfold CE;rw [hg, List.append_assoc, List.append_assoc, List.append_assoc]
  ·rw [Oa h2 (by omega), aN, cT (dT rfl), if_neg];rw [(Bool.not_eq_true _).mp h2]; simp
theorem Ob (W : Nat) (P : List Int) (kind : Int) : ∀ d ∈ ds W P kind, -32768 < d ∧ d ≤ 32768 := fun d hd => by
 obtain ⟨i, _, rfl⟩ := List.mem_map.1 hd;exact N8 _ _
theorem Kw (W : Nat) (P : List Int) (kind : Int) : (ds W P kind).length = P.length := by simp [ds]
theorem Vj (W : Nat) (P : List Int) (kind : Int) {i : Nat} (h : i < P.length) : (ds W P kind)[i]? = some (dfn (P.getD i 0) (gs W P kind i)) := by
 unfold ds;rw [List.getElem?_map, List.getElem?_range h]; rfl
def byB (b : List UInt8) : List UInt8 := (gr ((b.length + 7) / 8) (Ao b)).map UInt8.ofNat
def xF (W H : Int) (P : List Int) (kind : Int) (c : List Int) : List UInt8 × Int :=
 if Kq W H P = false then ([], 1) else if ¬ (1 ≤ kind ∧ kind ≤ 7) then ([], 6) else if qK c ≠ 0 then ([], qK c) else
 if (ds W.toNat P kind).all (Hr (wordsOf c)) = true then (byB (FC (wordsOf c) (ds W.toNat P kind)), 0) else ([], 4)
theorem Oc (d : Int) : E2 (JR d) = true := by
 unfold JR
 split
 ·rfl
 ·exact Lw (Hk (by decide) _ _)
theorem D7 {W : List (List UInt8)} (hb : IM W) : ∀ l : List Int, E2 (FC W l) = true
 | [] => rfl
 | d :: l => by
  rw [Cm, Lx, D7 hb l, Bool.and_true];unfold CE;rw [Lx, (Cn hb (zM d)).2, Oc]; rfl
theorem FD {W : List (List UInt8)} (hb : IM W) : ∀ {l : List Int}, (∀ d ∈ l, -32768 < d ∧ d ≤ 32768) → (FC W l).length ≤ 31 * l.length
 | [], _ => by simp [FC]
 | d :: l, h => by
  have h1 := FD hb (l := l) fun d hd => h d (by simp [hd])
  have h2 := GE hb (h d (by simp));rw [Cm, List.length_append, List.length_cons]; omega
theorem Gi (N : Nat) (hN : 200000 ≤ N) (W H : Int) (P : List Int) (kind : Int) (c : List Int) : kZ N W H P kind c = some (xF W H P kind c) := by
 unfold kZ xF;rw [FA N (by omega), aN]
 by_cases hp : Kq W H P = true
 rotate_left
 ·rw [(Bool.not_eq_true _).mp hp, Bool.not_false, cT rfl, if_pos rfl]
 rw [hp, Bool.not_true, cF rfl, if_neg (by decide), uP, aN]
 by_cases h1 : 1 ≤ kind ∧ kind ≤ 7
 rotate_left
 ·rw [dF h1, Bool.not_false, cT rfl, if_pos h1]
 rw [dT h1, Bool.not_true, cF rfl, if_neg (by omega), GC N (by omega), aN]
 by_cases h2 : qK c = 0
 rotate_left
 ·rw [cT (by rw [dF h2]; rfl), if_pos h2]
 obtain ⟨w, k, rfl, rfl, a1, a2, a3, a4, a5, a6, hP⟩ := E7 hp;rw [cF (by rw [dT h2]; rfl), if_neg (by omega), IL N (by omega) h2, aN, P6 hP ⟨a1, a2⟩ ⟨a3, a4⟩ a5 a6 h1 N (by omega), aN, Int.toNat_natCast];have hdl := Kw w P kind;have key := P7 N (by omega) (sT c) (l := ds w P kind) (Ob w P kind) (by omega) (fun (l9, i2) => Option.bind (iN N (toB l9)) fun yZ => some (yZ, (0 : Int))) (ds w P kind).length 0 N [] (by omega) (by omega) (by simp);refine Eq.trans key ?_;rw [List.drop_zero]
 by_cases h3 : (ds w P kind).all (Hr (wordsOf c)) = true
 ·rw [if_pos h3, if_pos h3]
  dsimp only
  have hcl := FD (sT c) (Ob w P kind);rw [List.nil_append, Lj, Mc N (D7 (sT c) _) (by omega) ⟨by omega, by omega⟩]
  rfl
 ·rw [if_neg h3, if_neg h3]
theorem Kx {a b : List UInt8} (h : a.length + b.length ≤ 140737488355328) : J3 a b = some (a ++ b) := by unfold J3; rw [if_pos h]
theorem Q7 (N : Nat) (hN : 100 ≤ N) {W : List (List UInt8) × Int} (hb : IM W.1) {d : Int} (hd : -32768 < d ∧ d ≤ 32768) {acc : List UInt8} (ha : acc.length ≤ 1000000) (K : List UInt8 → Option (List UInt8 × Int)) :
  (Option.bind (nF N (IntKind.u64.wrap (max d (IntKind.i64.wrap (0 - d))))) fun pS =>
  cond (decide ((W.1.length : Int) ≤ pS)) (
  some (([] : List UInt8), (4 : Int))) (
  Option.bind (idx W.1 pS) fun e7 =>
  cond (decide (e7 = ([] : List UInt8))) (
  some (([] : List UInt8), (4 : Int))) (
  Option.bind (idx W.1 pS) fun e8 =>
  Option.bind (J3 acc e8) fun b7 =>
  cond (decide (0 < pS)) (
  cond (decide (pS < 16)) (
  cond (decide (d < 0)) (
  Option.bind (nn pS) fun _ =>
  Option.bind (some (IntKind.i64.wrap (d + (IntKind.i64.wrap ((qF .i64 1 pS) - 1))))) fun x8 =>
  Option.bind (kV N x8 pS) fun yZ =>
  Option.bind (J3 b7 yZ.1) fun b8 => K b8) (
  Option.bind (kV N d pS) fun Ip =>
  Option.bind (J3 b7 Ip.1) fun b9 => K b9)) (K b7)) (K b7)))) = if Hr W.1 d = true then K (acc ++ CE W.1 d) else some ([], 4) := by
 have hc := IP hd
 have hmx : IntKind.u64.wrap (max d (IntKind.i64.wrap (0 - d))) = (((max d (-d)).toNat : Nat) : Int) := by
  rw [jR (x := 0 - d) (by omega), IntWalk.u64_in _ (by omega)]; omega
 rw [hmx, len_eq N (by omega), aN, show bl (max d (-d)).toNat = zM d from rfl]
 by_cases h1 : W.1.length ≤ zM d
 ·rw [cT (dT (by omega)), if_neg];rw [show Hr W.1 d = false by unfold Hr; rw [dF (by omega)]; rfl]; simp
 rw [cF (dF (by omega)), jG]
 by_cases h2 : Hr W.1 d = true
 rotate_left
 ·rw [Oa h2 (by omega), aN, cT (dT rfl), if_neg h2]
 obtain ⟨u, hu, hu0, hg, _⟩ := N9 h2;have Ub := (Cn hb (zM d)).1;rw [hg] at Ub;have hm := Hs hd;have hl := Ku (d := d);have hp := wG (d := zM d) hc;rw [hu, aN, cF (dF hu0), aN, Kx (by omega), aN, if_pos h2];have e0 : acc ++ CE W.1 d = acc ++ u ++ JR d := by unfold CE; rw [hg, List.append_assoc]
 rw [e0]
 by_cases h3 : zM d = 0
 ·rw [cF (dF (by omega)), show JR d = [] by unfold JR; rw [if_pos (.inl h3)], List.append_nil]
 rw [cT (dT (by omega))]
 by_cases h4 : zM d = 16
 ·rw [cF (dF (by omega)), show JR d = [] by unfold JR; rw [if_pos (.inr h4)], List.append_nil]
 have hv := Vi h3 h4 hd;have h0 : d ≠ 0 := fun e => h3 (Lz.2 e)
 have hmo : JR d = BD (sG 2 (zM d) (if 0 < d then d else d + ((2 ^ zM d : Nat) : Int) - 1).toNat) := by unfold JR; rw [if_neg (by omega)]
 rw [cT (dT (by omega))]
 by_cases h5 : d < 0
 ·rw [if_neg (by omega)] at hv hmo;rw [cT (dT h5), tM, aN, Cl hc, jR (x := _ - 1) (by omega), show d + (((2 ^ zM d : Nat) : Int) - 1) = d + ((2 ^ zM d : Nat) : Int) - 1 by omega, jR (by omega), aN, BS N hN, hv, if_pos rfl, aN, Int.toNat_natCast, ← hmo, Kx (by rw [List.length_append]; show acc.length + u.length + (JR d).length ≤ _; omega), aN]
 ·rw [if_pos (by omega)] at hv hmo;rw [cF (dF h5), BS N hN, hv, if_pos rfl, aN, Int.toNat_natCast, ← hmo, Kx (by rw [List.length_append]; show acc.length + u.length + (JR d).length ≤ _; omega), aN]
theorem Od (N : Nat) (hN : 100 ≤ N) {W : List (List UInt8) × Int} (hb : IM W.1) {w : Nat} (hw : 1 ≤ w ∧ w ≤ 64) {kind : Int} (hk : 1 ≤ kind ∧ kind ≤ 7) (H : Int) {P : List Int} (hP : ∀ e ∈ P, 0 ≤ e ∧ e ≤ 65535) (hl : P.length ≤ 4096) (kk) : ∀ (j k fuel : Nat) (acc : List UInt8), k + j = P.length → j < fuel → acc.length ≤ 31 * k →
  gR N (w : Int) H P kind W kk fuel (acc, (k : Int)) = if ((ds w P kind).drop k).all (Hr W.1) = true then kk (acc ++ FC W.1 ((ds w P kind).drop k), (P.length : Int)) else some ([], 4) := by
 intro j;have hdl := Kw w P kind
 induction j with
 | zero =>
  intro k fuel acc hkj hf ha;obtain ⟨fuel, rfl⟩ : ∃ q, fuel = q + 1 := ⟨fuel - 1, by omega⟩
  obtain rfl : k = P.length := by omega
  unfold gR;rw [cF (dF (by omega)), ← hdl, List.drop_length, if_pos (by rfl)]
  simp [FC]
 | succ j ih =>
  intro k fuel acc hkj hf ha;obtain ⟨fuel, rfl⟩ : ∃ q, fuel = q + 1 := ⟨fuel - 1, by omega⟩
  have hlt : k < P.length := by omega
  have hnx : IntKind.i64.wrap ((k : Int) + 1) = ((k + 1 : Nat) : Int) := by rw [jR (by omega)]; rfl
  obtain ⟨p1, p2⟩ := Cw hP hlt;have hg := Q6 hP (kind := kind) hw.1 hlt
  have hdr : (ds w P kind).drop k = dfn (P.getD k 0) (gs w P kind k) :: (ds w P kind).drop (k + 1) := by
   rw [List.drop_eq_getElem_cons (by omega)]
   congr 1
   have := Vj w P kind hlt;rw [List.getElem?_eq_getElem (by omega)] at this;exact Option.some.inj this
  have hd := N8 (P.getD k 0) (gs w P kind k)
  have fin : (if Hr W.1 (dfn (P.getD k 0) (gs w P kind k)) = true then gR N (w : Int) H P kind W kk fuel (acc ++ CE W.1 (dfn (P.getD k 0) (gs w P kind k)), ((k + 1 : Nat) : Int)) else some ([], 4)) = if ((ds w P kind).drop k).all (Hr W.1) = true then kk (acc ++ FC W.1 ((ds w P kind).drop k), (P.length : Int)) else some ([], 4) := by
   rw [hdr, List.all_cons, Cm]
   by_cases h : Hr W.1 (dfn (P.getD k 0) (gs w P kind k)) = true
   ·have := GE hb hd;rw [if_pos h, ih (k + 1) fuel _ (by omega) (by omega) (by rw [List.length_append]; omega), h, Bool.true_and, List.append_assoc]
   ·rw [if_neg h, (Bool.not_eq_true _).mp h, Bool.false_and, if_neg (by decide)]
  unfold gR
  have hx : IntKind.i64.wrap (IntKind.u16.wrap (IntKind.i64.wrap (P.getD k 0 - gs w P kind k))) = (P.getD k 0 - gs w P kind k) % 65536 := by
   rw [jR (x := P.getD k 0 - _) (by omega), show IntKind.u16.wrap (P.getD k 0 - gs w P kind k) = (P.getD k 0 - gs w P kind k) % 65536 by simp [IntKind.wrap, IntKind.bits, IntKind.signed], jR (by omega)]
  rw [cT (dT (by omega)), p1, aN, Kr hP N hw hk H hlt hl, aN, hx, aN, hnx];refine Eq.trans ?_ fin
  by_cases h : 32768 < (P.getD k 0 - gs w P kind k) % 65536
  ·have e : dfn (P.getD k 0) (gs w P kind k) = (P.getD k 0 - gs w P kind k) % 65536 - 65536 := by unfold dfn; rw [if_pos h]
   rw [cT (dT h), jR (x := _ - 65536) (by omega), aN, ← e];exact Q7 N hN hb hd (by omega) fun b => gR N (w : Int) H P kind W kk fuel (b, ((k + 1 : Nat) : Int))
  ·have e : dfn (P.getD k 0) (gs w P kind k) = (P.getD k 0 - gs w P kind k) % 65536 := by unfold dfn; rw [if_neg h]
   rw [cF (dF h), ← e];exact Q7 N hN hb hd (by omega) fun b => gR N (w : Int) H P kind W kk fuel (b, ((k + 1 : Nat) : Int))
theorem FE (N : Nat) (hN : 200000 ≤ N) (W H : Int) (P : List Int) (kind : Int) (c : List Int) : uJ N W H P kind c = some (xF W H P kind c) := by
 unfold uJ xF;rw [N6 N (by omega), aN]
 by_cases hp : Kq W H P = true
 rotate_left
 ·rw [(Bool.not_eq_true _).mp hp, Bool.not_false, cT rfl, if_pos rfl]
 rw [hp, Bool.not_true, cF rfl, if_neg (by decide)]
 by_cases h1 : kind < 1
 ·rw [cT (dT h1), if_pos (by omega)]
 rw [cF (dF h1)]
 by_cases h2 : 7 < kind
 ·rw [cT (dT h2), if_pos (by omega)]
 rw [cF (dF h2), if_neg (by omega), Kp N (by omega), aN]
 by_cases h3 : qK c = 0
 rotate_left
 ·rw [cT (by rw [dF h3]; rfl), if_pos h3]
 obtain ⟨w, k, rfl, rfl, a1, a2, a3, a4, a5, a6, hP⟩ := E7 hp;rw [cF (by rw [dT h3]; rfl), if_neg (by omega), Int.toNat_natCast];have hdl := Kw w P kind;have key := Od N (by omega) (W := (wordsOf c, qK c)) (sT c) ⟨a1, a2⟩ (kind := kind) (by omega) (k : Int) hP (by omega) (fun (l3, i2) => Option.bind (qJ N l3) fun BC => some (BC.1, (0 : Int))) P.length 0 N [] (by omega) (by omega) (by simp);refine Eq.trans key ?_;rw [List.drop_zero]
 dsimp only
 by_cases h4 : (ds w P kind).all (Hr (wordsOf c)) = true
 ·rw [if_pos h4, if_pos h4];have hcl := FD (sT c) (Ob w P kind);rw [List.nil_append, Km N (by omega) (by omega), aN, if_pos (D7 (sT c) _)]
  rfl
 ·rw [if_neg h4, if_neg h4]
end
end Go.Proofs.YtpmnfhifmmfglacGreatDoor
