/- Texts of the claim CodeBack, joined: PDig, PPack, PBitsB, PRefBits, PRefUnp, PCodeB, PCodeC, PCodeW, PCodeV, PCodeX, PPf, PCodeR, PCodeD, PCodeWrL, PCodeBkL, D7, D8, D9. -/
import Derived.Laws.CopyRow
import Derived.Laws.IdiomCopy
import Derived.Lib.SliceRun
import Derived.LoopN
import Derived.WalkSpells
import Derived.Test.YtpmnfhifmmfglacDoorCodeBackK1
set_option linter.unusedVariables false
set_option linter.unusedSimpArgs false
set_option linter.unusedSectionVars false
namespace Go.Proofs.YtpmnfhifmmfglacDoor
open Go
/-- The last n digits of a number, the highest first. -/
def dig (B : Nat) : Nat → Nat → List Nat
  | 0, _ => []
  | n + 1, x => dig B n (x / B) ++ [x % B]
def num (B : Nat) (l : List Nat) : Nat := l.foldl (fun a x => a * B + x) 0
theorem dig_len (B : Nat) : ∀ n x, (dig B n x).length = n
  | 0, _ => rfl
  | n + 1, x => by simp [dig, dig_len B n]
theorem dig_lt {B : Nat} (hB : 0 < B) : ∀ n x, ∀ y ∈ dig B n x, y < B
  | 0, _, y, h => by simp [dig] at h
  | n + 1, x, y, h => by
    rcases List.mem_append.1 h with h | h
    · exact dig_lt hB n _ y h
    · rw [List.mem_singleton.1 h]; exact Nat.mod_lt _ hB
theorem dig_add (B m : Nat) : ∀ q x, dig B (m + q) x = dig B m (x / B ^ q) ++ dig B q x
  | 0, x => by simp [dig]
  | q + 1, x => by
    show dig B (m + q) (x / B) ++ [x % B] = _ ++ (dig B q (x / B) ++ [x % B])
    rw [dig_add B m q, List.append_assoc, Nat.div_div_eq_div_mul, Nat.pow_succ, Nat.mul_comm B]
theorem num_snoc (B : Nat) (l : List Nat) (x : Nat) : num B (l ++ [x]) = num B l * B + x := by simp [num]
theorem num_dig (B : Nat) : ∀ n x, num B (dig B n x) = x % B ^ n
  | 0, x => by simp [dig, num, Nat.mod_one]
  | n + 1, x => by
    show num B (dig B n (x / B) ++ [x % B]) = _
    rw [num_snoc, num_dig B n, Nat.pow_succ, Nat.mul_comm (B ^ n), Nat.mod_mul, Nat.mul_comm, Nat.add_comm]
theorem fold_eq (B : Nat) : ∀ (l : List Nat) (a : Nat), l.foldl (fun a x => a * B + x) a = a * B ^ l.length + num B l
  | [], a => by simp [num]
  | x :: l, a => by
    have h1 := fold_eq B l (a * B + x)
    have h2 := fold_eq B l (0 * B + x)
    unfold num
    rw [List.foldl_cons, List.foldl_cons, h1, h2, List.length_cons, Nat.pow_succ, Nat.zero_mul, Nat.zero_add, Nat.add_mul, Nat.mul_assoc, Nat.mul_comm B, Nat.add_assoc]
theorem num_cons (B x : Nat) (l : List Nat) : num B (x :: l) = x * B ^ l.length + num B l := by
  have := fold_eq B l (0 * B + x)
  unfold num at this ⊢
  rw [List.foldl_cons, this, Nat.zero_mul, Nat.zero_add]
theorem num_lt {B : Nat} : ∀ (l : List Nat), (∀ y ∈ l, y < B) → num B l < B ^ l.length
  | [], _ => by simp [num]
  | x :: l, h => by
    have h1 := num_lt l fun y hy => h y (by simp [hy])
    have h2 := h x (by simp)
    rw [num_cons, List.length_cons, Nat.pow_succ]
    have : (x + 1) * B ^ l.length ≤ B * B ^ l.length := Nat.mul_le_mul_right _ h2
    rw [Nat.add_mul, Nat.one_mul, Nat.mul_comm B] at this
    omega
theorem shr_nat {h k : Nat} (hk : k ≤ 64) : shrI .i64 (h : Int) (k : Int) = ((h / 2 ^ k : Nat) : Int) := by
  unfold shrI
  have : min ((k : Int)).toNat IntKind.i64.bits = k := by
    rw [Int.toNat_natCast]
    exact Nat.min_eq_left hk
  rw [this, show (2 : Int) ^ k = ((2 ^ k : Nat) : Int) by simp, ← Int.ofNat_fdiv]
theorem shl_nat {h k : Nat} (hk : k ≤ 64) (hb : h * 2 ^ k < 9223372036854775808) : shlI .i64 (h : Int) (k : Int) = ((h * 2 ^ k : Nat) : Int) := by
  unfold shlI
  have : min ((k : Int)).toNat IntKind.i64.bits = k := by
    rw [Int.toNat_natCast]
    exact Nat.min_eq_left hk
  rw [this, show (2 : Int) ^ k = ((2 ^ k : Nat) : Int) by simp, ← Int.natCast_mul, w64 (by omega)]
theorem and_mask {h k : Nat} (hh : h < 9223372036854775808) (hk : k < 63) : andI .i64 (h : Int) ((2 ^ k - 1 : Nat) : Int) = ((h % 2 ^ k : Nat) : Int) := by
  have hk2 : 2 ^ k ≤ 2 ^ 62 := Nat.pow_le_pow_right (by decide) (by omega)
  unfold andI
  have e : (BitVec.ofInt IntKind.i64.bits (h : Int) &&& BitVec.ofInt IntKind.i64.bits ((2 ^ k - 1 : Nat) : Int)).toNat = h % 2 ^ k := by
    rw [BitVec.toNat_and, BitVec.ofInt_natCast, BitVec.ofInt_natCast, BitVec.toNat_ofNat, BitVec.toNat_ofNat]
    have hb : IntKind.i64.bits = 64 := rfl
    rw [hb, Nat.mod_eq_of_lt (show h < 2 ^ 64 by omega), Nat.mod_eq_of_lt (show 2 ^ k - 1 < 2 ^ 64 by omega), Nat.and_two_pow_sub_one_eq_mod]
  rw [e]
  have := Nat.mod_le h (2 ^ k)
  exact w64 (by omega)
theorem u8_nat (n : Nat) : IntKind.u8.wrap (n : Int) = ((n % 256 : Nat) : Int) := by
  simp [IntKind.wrap, IntKind.bits, IntKind.signed]
end Go.Proofs.YtpmnfhifmmfglacDoor

namespace Go.Proofs.YtpmnfhifmmfglacDoor
open Go
def toI (l : List Nat) : List Int := l.map fun n : Nat => (n : Int)
theorem toI_len (l : List Nat) : (toI l).length = l.length := by simp [toI]
theorem toI_app (l m : List Nat) : toI (l ++ m) = toI l ++ toI m := by simp [toI]
theorem nn_nat (n : Nat) : nn (n : Int) = some () := by unfold nn; rw [if_pos (by omega)]
/-- The number that samples are. -/
def smp (d : Nat) (l : List Int) (k : Nat) : Nat := num (2 ^ d) ((l.take k).map Int.toNat)
theorem pow_le16 {d : Nat} (h : d ≤ 16) : 2 ^ d ≤ 65536 := by
  have := Nat.pow_le_pow_right (show 0 < 2 by decide) h
  exact this
theorem toB_toI (l : List Nat) : toB (toI l) = l.map UInt8.ofNat := by
  unfold toB toI
  rw [List.map_map]
  rfl
end Go.Proofs.YtpmnfhifmmfglacDoor

namespace Go.Proofs.YtpmnfhifmmfglacDoor
open Go
theorem sameI_l1 (N : Nat) (l : List Int) (kk) (hl : l.length ≤ 4611686018427387904) : ∀ (j k fuel : Nat), k + j = l.length → j < fuel → D_darkslideref_SameInts_l1 N l l kk fuel (k : Int) = kk (l.length : Int) := by
  intro j
  induction j with
  | zero =>
    intro k fuel hk hf
    obtain ⟨fuel, rfl⟩ : ∃ m, fuel = m + 1 := ⟨fuel - 1, by omega⟩
    obtain rfl : k = l.length := by omega
    unfold D_darkslideref_SameInts_l1
    rw [cF (dF (by omega))]
  | succ j ih =>
    intro k fuel hk hf
    obtain ⟨fuel, rfl⟩ : ∃ m, fuel = m + 1 := ⟨fuel - 1, by omega⟩
    have hlt : k < l.length := by omega
    unfold D_darkslideref_SameInts_l1
    rw [cT (dT (by omega)), idx_nat, List.getElem?_eq_getElem hlt, bsome, bsome, cF (by simp), bsome, w64 (by omega)]
    exact ih (k + 1) fuel (by omega) (by omega)
theorem toNat_ofNat (s : List UInt8) : (s.map UInt8.toNat).map UInt8.ofNat = s := by
  rw [List.map_map]
  conv => rhs; rw [← List.map_id s]
  refine List.map_congr_left fun y _ => ?_
  simp
theorem toI_toNat (l : List Nat) : (toI l).map Int.toNat = l := by
  unfold toI
  rw [List.map_map]
  conv => rhs; rw [← List.map_id l]
  exact List.map_congr_left fun y _ => rfl
theorem toNat_toI {l : List Int} (h : ∀ y ∈ l, 0 ≤ y) : toI (l.map Int.toNat) = l := by
  unfold toI
  rw [List.map_map]
  conv => rhs; rw [← List.map_id l]
  refine List.map_congr_left fun y hy => ?_
  have := h y hy
  show ((y.toNat : Nat) : Int) = y
  omega
end Go.Proofs.YtpmnfhifmmfglacDoor

namespace Go.Proofs.YtpmnfhifmmfglacDoor
open Go
/-- Bits as letters. -/
def chs (l : List Nat) : List UInt8 := l.map fun b => UInt8.ofNat (48 + b)
theorem chs_len (l : List Nat) : (chs l).length = l.length := by simp [chs]
theorem chs_app (l m : List Nat) : chs (l ++ m) = chs l ++ chs m := by simp [chs]
def gr (M : Nat) (l : List Nat) : List Nat := (List.range M).map fun g => num 2 ((List.range 8).map fun t => l.getD (8 * g + t) 0)
theorem chs_get {l : List Nat} {k : Nat} (hk : k < l.length) (h2 : ∀ y ∈ l, y < 2) : idx (chs l) (k : Int) = some (UInt8.ofNat (48 + l.getD k 0)) ∧ ((UInt8.ofNat (48 + l.getD k 0)).toNat : Int) = ((48 + l.getD k 0 : Nat) : Int) ∧ l.getD k 0 < 2 := by
  have hg : l.getD k 0 = l[k] := by rw [List.getD_eq_getElem?_getD, List.getElem?_eq_getElem hk]; rfl
  have h3 := h2 _ (List.getElem_mem hk)
  rw [hg]
  refine ⟨?_, ?_, h3⟩
  · rw [idx_nat, chs, List.getElem?_map, List.getElem?_eq_getElem hk]; rfl
  · rw [UInt8.toNat_ofNat', Nat.mod_eq_of_lt (by omega)]
end Go.Proofs.YtpmnfhifmmfglacDoor

namespace Go.Proofs.YtpmnfhifmmfglacDoor
open Go
def let48 (l : List Nat) : List Nat := l.map fun b => 48 + b
theorem let48_app (l m : List Nat) : let48 (l ++ m) = let48 l ++ let48 m := by simp [let48]
theorem let48_chs (l : List Nat) : (let48 l).map UInt8.ofNat = chs l := by unfold let48 chs; rw [List.map_map]; rfl
end Go.Proofs.YtpmnfhifmmfglacDoor

namespace Go.Proofs.YtpmnfhifmmfglacDoor
open Go
/-- Is every letter a bit? -/
def isB (b : List UInt8) : Bool := b.all fun c => decide (c = 48 ∨ c = 49)
theorem isB_cnt : ∀ b : List UInt8, b.count 48 + b.count 49 ≤ b.length ∧ (b.count 48 + b.count 49 = b.length ↔ isB b = true)
  | [] => by simp [isB]
  | c :: b => by
    obtain ⟨h1, h2⟩ := isB_cnt b
    have e : isB (c :: b) = (decide (c = 48 ∨ c = 49) && isB b) := rfl
    rw [e, List.count_cons, List.count_cons, List.length_cons]
    by_cases q : c = 48
    · subst q
      have : ((48 : UInt8) == 49) = false := by decide
      rw [this, show decide ((48 : UInt8) = 48 ∨ (48 : UInt8) = 49) = true by decide, Bool.true_and, ← h2, show ((48 : UInt8) == 48) = true by decide]
      constructor
      · simp; omega
      · simp; omega
    · by_cases q2 : c = 49
      · subst q2
        have : ((49 : UInt8) == 48) = false := by decide
        rw [this, show decide ((49 : UInt8) = 48 ∨ (49 : UInt8) = 49) = true by decide, Bool.true_and, ← h2, show ((49 : UInt8) == 49) = true by decide]
        constructor
        · simp; omega
        · simp; omega
      · have q3 : (c == 48) = false := by simpa using q
        have q4 : (c == 49) = false := by simpa using q2
        rw [q3, q4, show decide (c = 48 ∨ c = 49) = false from decide_eq_false (fun h => h.elim q q2), Bool.false_and]
        constructor
        · simp; omega
        · simp; omega
theorem dropW {p : UInt8 → Bool} : ∀ l : List UInt8, l.all p = true → l.dropWhile p = []
  | [], _ => rfl
  | c :: l, h => by
    rw [List.all_cons, Bool.and_eq_true] at h
    rw [List.dropWhile_cons, if_pos h.1]
    exact dropW l h.2
theorem trim_bits {b : List UInt8} (h : isB b = true) : Go.Lib.trimS b [48, 49] = [] := by
  have hp : b.all (fun c => [(48 : UInt8), 49].contains c) = true := by
    refine List.all_eq_true.2 fun c hc => ?_
    have := of_decide_eq_true (List.all_eq_true.1 h c hc)
    rcases this with rfl | rfl <;> decide
  have hr : b.reverse.all (fun c => [(48 : UInt8), 49].contains c) = true := by rw [List.all_reverse]; exact hp
  unfold Go.Lib.trimS Go.Lib.trimRightS
  rw [dropW _ hr]
  rfl
theorem all_eq (N : Nat) {b : List UInt8} (hb : b.length ≤ 281474976710656) : D_bits_all N b = some (isB b) := by
  have ht : D_strings_Trim N b [48, 49] = some (Go.Lib.trimS b [48, 49]) := by
    unfold D_strings_Trim
    rw [if_pos ⟨by omega, by decide, by decide⟩]
  have h0 : D_strings_Count N b [48] = some ((b.count 48 : Nat) : Int) := rfl
  have h1 : D_strings_Count N b [49] = some ((b.count 49 : Nat) : Int) := rfl
  obtain ⟨c1, c2⟩ := isB_cnt b
  have hw : IntKind.i64.wrap (((b.count 48 : Nat) : Int) + ((b.count 49 : Nat) : Int)) = ((b.count 48 + b.count 49 : Nat) : Int) := by rw [w64 (by omega)]; omega
  unfold D_bits_all
  rw [ht, bsome, h0, bsome, h1, bsome, hw]
  by_cases h : isB b = true
  · rw [trim_bits h, cT (by rfl), h, dT (by have := c2.2 h; omega)]
  · have hne : ¬ (b.count 48 + b.count 49 = b.length) := fun q => h (c2.1 q)
    have hf : isB b = false := by simpa using h
    rw [hf, dF (show ¬ (((b.count 48 + b.count 49 : Nat) : Int) = (b.length : Int)) by omega)]
    cases decide (Go.Lib.trimS b [48, 49] = ([] : List UInt8)) <;> rfl
theorem isRow_l1 (N : Nat) {b : List UInt8} (hb : b.length ≤ 281474976710656) (kk) : ∀ (j k fuel : Nat), k + j = b.length → j < fuel →
    D_darkslideref_IsRow_l1 N b kk fuel (k : Int) = if isB (b.drop k) = true then kk (b.length : Int) else some false := by
  intro j
  induction j with
  | zero =>
    intro k fuel hk hf
    obtain ⟨fuel, rfl⟩ : ∃ m, fuel = m + 1 := ⟨fuel - 1, by omega⟩
    obtain rfl : k = b.length := by omega
    unfold D_darkslideref_IsRow_l1
    rw [cF (dF (by omega)), List.drop_length]
    rfl
  | succ j ih =>
    intro k fuel hk hf
    obtain ⟨fuel, rfl⟩ : ∃ m, fuel = m + 1 := ⟨fuel - 1, by omega⟩
    have hlt : k < b.length := by omega
    have hih := ih (k + 1) fuel (by omega) (by omega)
    have e : isB (b[k] :: b.drop (k + 1)) = (decide (b[k] = 48 ∨ b[k] = 49) && isB (b.drop (k + 1))) := rfl
    have t48 : ((b[k].toNat : Int) = 48) ↔ b[k] = 48 := by
      constructor
      · intro h; exact UInt8.toNat.inj (by show b[k].toNat = 48; omega)
      · intro h; rw [h]; rfl
    have t49 : ((b[k].toNat : Int) = 49) ↔ b[k] = 49 := by
      constructor
      · intro h; exact UInt8.toNat.inj (by show b[k].toNat = 49; omega)
      · intro h; rw [h]; rfl
    unfold D_darkslideref_IsRow_l1
    rw [cT (dT (by omega)), idx_nat, List.getElem?_eq_getElem hlt, bsome, bsome, w64 (x := (k : Int) + 1) (by omega), bsome, List.drop_eq_getElem_cons hlt, e]
    by_cases q : b[k] = 48
    · rw [cF (by rw [dT (t48.2 q)]; rfl), dT (.inl q), Bool.true_and]; exact hih
    · rw [cT (by rw [dF (fun h => q (t48.1 h))]; rfl)]
      by_cases q2 : b[k] = 49
      · rw [cF (by rw [dT (t49.2 q2)]; rfl), dT (.inr q2), Bool.true_and]; exact hih
      · rw [cT (by rw [dF (fun h => q2 (t49.1 h))]; rfl), dF (fun h => h.elim q q2)]; rfl
theorem isRow_eq (N : Nat) {b : List UInt8} (hb : b.length ≤ 281474976710656) (hN : b.length < N) : D_darkslideref_IsRow N b = some (isB b) := by
  unfold D_darkslideref_IsRow
  have key := isRow_l1 N hb (fun _ => some true) b.length 0 N (by omega) (by omega)
  rw [List.drop_zero] at key
  refine Eq.trans key ?_
  cases isB b <;> rfl
/-- The bits that letters are. -/
def btsOf (b : List UInt8) : List Nat := b.map fun c => c.toNat - 48
theorem btsOf_lt {b : List UInt8} (h : isB b = true) : ∀ y ∈ btsOf b, y < 2 := fun y hy => by
  obtain ⟨c, hc, rfl⟩ := List.mem_map.1 hy
  rcases of_decide_eq_true (List.all_eq_true.1 h c hc) with rfl | rfl <;> decide
theorem chs_bts {b : List UInt8} (h : isB b = true) : chs (btsOf b) = b := by
  unfold chs btsOf
  rw [List.map_map]
  conv => rhs; rw [← List.map_id b]
  refine List.map_congr_left fun c hc => ?_
  rcases of_decide_eq_true (List.all_eq_true.1 h c hc) with rfl | rfl <;> rfl
theorem or_add8 {h d e : Nat} (he : e < 2 ^ d) (hb : h * 2 ^ d + e < 256) : orI .u8 ((h * 2 ^ d : Nat) : Int) (e : Int) = ((h * 2 ^ d + e : Nat) : Int) := by
  unfold orI
  have hb' : IntKind.u8.bits = 8 := rfl
  have e1 : (BitVec.ofInt IntKind.u8.bits ((h * 2 ^ d : Nat) : Int) ||| BitVec.ofInt IntKind.u8.bits (e : Int)).toNat = h * 2 ^ d + e := by
    rw [BitVec.toNat_or, BitVec.ofInt_natCast, BitVec.ofInt_natCast, BitVec.toNat_ofNat, BitVec.toNat_ofNat, hb', Nat.mod_eq_of_lt (show h * 2 ^ d < 2 ^ 8 by omega), Nat.mod_eq_of_lt (show e < 2 ^ 8 by omega)]
    rw [Nat.mul_comm h, Nat.two_pow_add_eq_or_of_lt he]
  rw [e1, u8_nat, Nat.mod_eq_of_lt hb]
theorem shl8 {b k : Nat} (hk : k ≤ 8) (h : b * 2 ^ k < 256) : shlI .u8 (b : Int) (k : Int) = ((b * 2 ^ k : Nat) : Int) := by
  unfold shlI
  have : min ((k : Int)).toNat IntKind.u8.bits = k := by
    rw [Int.toNat_natCast]
    exact Nat.min_eq_left hk
  rw [this, show (2 : Int) ^ k = ((2 ^ k : Nat) : Int) by simp, ← Int.natCast_mul, u8_nat, Nat.mod_eq_of_lt h]
/-- The first t bits of a byte, moved up. -/
theorem num_part (f : Nat → Nat) : ∀ t r, (∀ q, t ≤ q → f q = 0) → num 2 ((List.range (t + r)).map f) = num 2 ((List.range t).map f) * 2 ^ r
  | t, 0, _ => by simp
  | t, r + 1, h => by
    rw [← Nat.add_assoc, List.range_succ, List.map_append, List.map_singleton, num_snoc, num_part f t r h, h (t + r) (by omega), Nat.add_zero, Nat.pow_succ, Nat.mul_assoc]
theorem gr_set {M k : Nat} {l : List Nat} (hk : k < l.length) (hM : k / 8 < M) :
    (gr M (l.take k)).getD (k / 8) 0 = num 2 ((List.range (k % 8)).map fun t => l.getD (8 * (k / 8) + t) 0) * 2 ^ (8 - k % 8) ∧
    gr M (l.take (k + 1)) = (gr M (l.take k)).set (k / 8) (num 2 ((List.range (k % 8)).map fun t => l.getD (8 * (k / 8) + t) 0) * 2 ^ (8 - k % 8) + l.getD k 0 * 2 ^ (7 - k % 8)) := by
  have hmod : k % 8 < 8 := Nat.mod_lt _ (by decide)
  have hdm : 8 * (k / 8) + k % 8 = k := Nat.div_add_mod k 8
  have get : ∀ n i, (l.take n).getD i 0 = if i < n then l.getD i 0 else 0 := fun n i => by
    rw [List.getD_eq_getElem?_getD, List.getD_eq_getElem?_getD, List.getElem?_take]
    split <;> rfl
  have hval : ∀ n, 8 * (k / 8) ≤ n → n ≤ 8 * (k / 8) + 8 → num 2 ((List.range 8).map fun t => (l.take n).getD (8 * (k / 8) + t) 0) = num 2 ((List.range (n - 8 * (k / 8))).map fun t => l.getD (8 * (k / 8) + t) 0) * 2 ^ (8 - (n - 8 * (k / 8))) := fun n h1 h2 => by
    have := num_part (fun t => (l.take n).getD (8 * (k / 8) + t) 0) (n - 8 * (k / 8)) (8 - (n - 8 * (k / 8))) (fun q hq => by rw [get, if_neg (by omega)])
    rw [show n - 8 * (k / 8) + (8 - (n - 8 * (k / 8))) = 8 by omega] at this
    rw [this]
    congr 2
    refine List.map_congr_left fun t ht => ?_
    have := List.mem_range.1 ht
    rw [get, if_pos (by omega)]
  have hv0 := hval k (by omega) (by omega)
  have hv1 := hval (k + 1) (by omega) (by omega)
  rw [show k - 8 * (k / 8) = k % 8 by omega] at hv0
  rw [show k + 1 - 8 * (k / 8) = k % 8 + 1 by omega, List.range_succ (n := k % 8), List.map_append, List.map_singleton, num_snoc, hdm, Nat.add_mul] at hv1
  have e2 : num 2 ((List.range (k % 8)).map fun t => l.getD (8 * (k / 8) + t) 0) * 2 * 2 ^ (8 - (k % 8 + 1)) = num 2 ((List.range (k % 8)).map fun t => l.getD (8 * (k / 8) + t) 0) * 2 ^ (8 - k % 8) := by
    rw [Nat.mul_assoc, show 8 - k % 8 = 8 - (k % 8 + 1) + 1 by omega, Nat.pow_succ, Nat.mul_comm 2]
  rw [e2, show 8 - (k % 8 + 1) = 7 - k % 8 by omega] at hv1
  have hgl : ∀ n, (gr M (l.take n)).length = M := fun n => by simp [gr]
  have hgg : ∀ n g, g < M → (gr M (l.take n))[g]? = some (num 2 ((List.range 8).map fun t => (l.take n).getD (8 * g + t) 0)) := fun n g hg => by
    unfold gr
    rw [List.getElem?_map, List.getElem?_range hg]; rfl
  constructor
  · rw [List.getD_eq_getElem?_getD, hgg k _ hM, hv0]; rfl
  · apply List.ext_getElem?
    intro g
    by_cases hg : g < M
    · by_cases he : k / 8 = g
      · subst he
        rw [hgg _ _ hM, List.getElem?_set_self (by rw [hgl]; exact hM), hv1]
      · rw [List.getElem?_set_ne he, hgg _ _ hg, hgg _ _ hg]
        congr 2
        refine List.map_congr_left fun t ht => ?_
        have := List.mem_range.1 ht
        rw [get, get]
        by_cases q : 8 * g + t < k
        · rw [if_pos (by omega), if_pos q]
        · rw [if_neg q, if_neg]
          omega
    · rw [List.getElem?_eq_none (by rw [hgl]; omega), List.getElem?_eq_none (by rw [List.length_set, hgl]; omega)]
theorem toI_set (l : List Nat) (i v : Nat) : toI (l.set i v) = (toI l).set i (v : Int) := by simp [toI, List.map_set]
theorem toI_get {l : List Nat} {i : Nat} (h : i < l.length) : idx (toI l) (i : Int) = some ((l.getD i 0 : Nat) : Int) := by
  rw [idx_nat, toI, List.getElem?_map, List.getElem?_eq_getElem h, List.getD_eq_getElem?_getD, List.getElem?_eq_getElem h]; rfl
theorem cbytes_l1 (N : Nat) {l : List Nat} (h2 : ∀ y ∈ l, y < 2) (hl : l.length ≤ 281474976710656) (kk) : ∀ (j k fuel : Nat), k + j = l.length → j < fuel →
    D_bits_Bytes_l1 N (chs l) kk fuel (toI (gr ((l.length + 7) / 8) (l.take k)), (k : Int)) = kk (toI (gr ((l.length + 7) / 8) l), (l.length : Int)) := by
  intro j
  induction j with
  | zero =>
    intro k fuel hk hf
    obtain ⟨fuel, rfl⟩ : ∃ m, fuel = m + 1 := ⟨fuel - 1, by omega⟩
    obtain rfl : k = l.length := by omega
    unfold D_bits_Bytes_l1
    rw [cF (dF (by rw [chs_len]; omega)), List.take_length]
  | succ j ih =>
    intro k fuel hk hf
    obtain ⟨fuel, rfl⟩ : ∃ m, fuel = m + 1 := ⟨fuel - 1, by omega⟩
    have hlt : k < l.length := by omega
    have hih := ih (k + 1) fuel (by omega) (by omega)
    have hmod : k % 8 < 8 := Nat.mod_lt _ (by decide)
    have hM : k / 8 < (l.length + 7) / 8 := by omega
    obtain ⟨s1, s2⟩ := gr_set (M := (l.length + 7) / 8) hlt hM
    obtain ⟨g1, g2, g3⟩ := chs_get hlt h2
    have hgl : (gr ((l.length + 7) / 8) (l.take k)).length = (l.length + 7) / 8 := by simp [gr]
    have hn : num 2 ((List.range (k % 8)).map fun t => l.getD (8 * (k / 8) + t) 0) < 2 ^ (k % 8) := by
      have := num_lt (B := 2) ((List.range (k % 8)).map fun t => l.getD (8 * (k / 8) + t) 0) fun y hy => by
        obtain ⟨q, _, rfl⟩ := List.mem_map.1 hy
        rw [List.getD_eq_getElem?_getD]
        by_cases hq : 8 * (k / 8) + q < l.length
        · rw [List.getElem?_eq_getElem hq]; exact h2 _ (List.getElem_mem hq)
        · rw [List.getElem?_eq_none (by omega)]; decide
      rwa [List.length_map, List.length_range] at this
    rw [s2] at hih
    have hold := toI_get (l := gr ((l.length + 7) / 8) (l.take k)) (i := k / 8) (by omega)
    rw [s1] at hold
    generalize gr ((l.length + 7) / 8) (l.take k) = G at *
    generalize num 2 ((List.range (k % 8)).map fun t => l.getD (8 * (k / 8) + t) 0) = v at *
    generalize l.getD k 0 = b at *
    have p1 : 2 ^ (8 - k % 8) = 2 * 2 ^ (7 - k % 8) := by rw [show 8 - k % 8 = 7 - k % 8 + 1 by omega, Nat.pow_succ, Nat.mul_comm]
    have p2 : 2 ^ (7 - k % 8) ≤ 128 := Nat.pow_le_pow_right (show 0 < 2 by decide) (show 7 - k % 8 ≤ 7 by omega)
    have p3 : (v + 1) * 2 ^ (8 - k % 8) ≤ 256 := by
      have := Nat.mul_le_mul_right (2 ^ (8 - k % 8)) hn
      rw [← Nat.pow_add, show k % 8 + (8 - k % 8) = 8 by omega] at this
      exact this
    have p0 := Nat.two_pow_pos (7 - k % 8)
    have p4 : b * 2 ^ (7 - k % 8) < 2 ^ (8 - k % 8) := by
      have := Nat.mul_le_mul_right (2 ^ (7 - k % 8)) (show b ≤ 1 by omega)
      omega
    rw [Nat.add_mul, Nat.one_mul] at p3
    have ediv : IntKind.i64.wrap (Int.tdiv (k : Int) 8) = ((k / 8 : Nat) : Int) := by rw [show Int.tdiv (k : Int) 8 = ((k / 8 : Nat) : Int) from rfl, w64 (by omega)]
    have esub : IntKind.i64.wrap (7 - Int.tmod (k : Int) 8) = ((7 - k % 8 : Nat) : Int) := by rw [show Int.tmod (k : Int) 8 = ((k % 8 : Nat) : Int) from rfl, w64 (by omega)]; omega
    have eb : IntKind.u8.wrap (((48 + b : Nat) : Int) - 48) = (b : Int) := by rw [show ((48 + b : Nat) : Int) - 48 = (b : Int) by omega, u8_nat]; omega
    have eor : orI .u8 ((v * 2 ^ (8 - k % 8) : Nat) : Int) (shlI .u8 (b : Int) ((7 - k % 8 : Nat) : Int)) = ((v * 2 ^ (8 - k % 8) + b * 2 ^ (7 - k % 8) : Nat) : Int) := by rw [shl8 (by omega) (by omega), or_add8 p4 (by omega)]
    have hset : setL (toI G) ((k / 8 : Nat) : Int) ((v * 2 ^ (8 - k % 8) + b * 2 ^ (7 - k % 8) : Nat) : Int) = some (toI (G.set (k / 8) (v * 2 ^ (8 - k % 8) + b * 2 ^ (7 - k % 8)))) := by
      unfold setL
      rw [if_pos (by rw [toI_len]; omega), Int.toNat_natCast, toI_set]
    unfold D_bits_Bytes_l1
    rw [cT (dT (by rw [chs_len]; omega)), ediv, bsome, hold, bsome, g1, bsome, g2, esub, nn_nat, bsome, bsome, eb, eor, hset, bsome, w64 (x := (k : Int) + 1) (by omega)]
    exact hih
theorem gr_nil (M : Nat) : gr M [] = List.replicate M 0 := by
  unfold gr
  apply List.ext_getElem?
  intro g
  by_cases h : g < M
  · rw [List.getElem?_map, List.getElem?_range h, List.getElem?_replicate, if_pos h]; rfl
  · rw [List.getElem?_eq_none (by simp; omega), List.getElem?_eq_none (by simp; omega)]
theorem bytes_code (N : Nat) {b : List UInt8} (hb : b.length ≤ 281474976710656) (hN : b.length < N) : D_bits_Bytes N b = some (if isB b = true then ((gr ((b.length + 7) / 8) (btsOf b)).map UInt8.ofNat, 0) else ([], 1)) := by
  unfold D_bits_Bytes
  rw [all_eq N hb, bsome]
  by_cases h : isB b = true
  rotate_left
  · have hf : isB b = false := by simpa using h
    rw [hf]; rfl
  rw [h, cF (by rfl), if_pos rfl]
  have hlen : (btsOf b).length = b.length := by simp [btsOf]
  have e1 : IntKind.i64.wrap (Int.tdiv (IntKind.i64.wrap ((b.length : Int) + 7)) 8) = (((b.length + 7) / 8 : Nat) : Int) := by
    rw [w64 (x := (b.length : Int) + 7) (by omega), show (b.length : Int) + 7 = ((b.length + 7 : Nat) : Int) by omega, show Int.tdiv ((b.length + 7 : Nat) : Int) 8 = (((b.length + 7) / 8 : Nat) : Int) from rfl, w64 (by omega)]
  rw [e1, bsome, mk_eq (by omega), bsome, Int.toNat_natCast]
  have key := cbytes_l1 N (l := btsOf b) (btsOf_lt h) (by omega) (fun x : List Int × Int => some (toB x.1, (0 : Int))) (btsOf b).length 0 N (by omega) (by omega)
  rw [List.take_zero, gr_nil, chs_bts h, hlen] at key
  have hz : toI (List.replicate ((b.length + 7) / 8) 0) = List.replicate ((b.length + 7) / 8) 0 := by simp [toI]
  rw [hz] at key
  refine Eq.trans key ?_
  dsimp only
  rw [toB_toI]
theorem dig_get {T k Y : Nat} (h : k < T) : (dig 2 T Y)[k]? = some (Y / 2 ^ (T - 1 - k) % 2) := by
  have e : dig 2 T Y = dig 2 k (Y / 2 ^ (1 + (T - 1 - k))) ++ ([Y / 2 ^ (T - 1 - k) % 2] ++ dig 2 (T - 1 - k) Y) := by
    conv => lhs; rw [show T = k + (1 + (T - 1 - k)) by omega]
    rw [dig_add, dig_add 2 1]
    rfl
  rw [e, List.getElem?_append_right (by rw [dig_len]; exact Nat.le_refl _), dig_len, Nat.sub_self]
  rfl
def dgSt (size n k : Nat) : List Int := toI (let48 ((dig 2 size n).take k) ++ List.replicate (size - k) 0)
theorem digits_l1 (N : Nat) {size n : Nat} (hs : size ≤ 16) (hn : n < 9223372036854775808) (kk) : ∀ (j k fuel : Nat), k + j = size → j < fuel →
    D_bits_digits_l1 N (n : Int) (size : Int) kk fuel (dgSt size n k, (size : Int), (k : Int)) = kk (dgSt size n size, (size : Int), (size : Int)) := by
  intro j
  induction j with
  | zero =>
    intro k fuel hk hf
    obtain ⟨fuel, rfl⟩ : ∃ m, fuel = m + 1 := ⟨fuel - 1, by omega⟩
    obtain rfl : k = size := by omega
    unfold D_bits_digits_l1
    rw [cF (dF (by omega))]
  | succ j ih =>
    intro k fuel hk hf
    obtain ⟨fuel, rfl⟩ : ∃ m, fuel = m + 1 := ⟨fuel - 1, by omega⟩
    have hlt : k < size := by omega
    have hih := ih (k + 1) fuel (by omega) (by omega)
    have ew : IntKind.i64.wrap (IntKind.i64.wrap ((size : Int) - 1) - (k : Int)) = ((size - 1 - k : Nat) : Int) := by rw [w64 (x := (size : Int) - 1) (by omega), w64 (by omega)]; omega
    have eb : andI .i64 (shrI .i64 (n : Int) ((size - 1 - k : Nat) : Int)) 1 = ((n / 2 ^ (size - 1 - k) % 2 : Nat) : Int) := by
      rw [shr_nat (by omega)]
      exact and_mask (k := 1) (Nat.lt_of_le_of_lt (Nat.div_le_self _ _) hn) (by decide)
    have hg := dig_get (Y := n) hlt
    have hb2 : n / 2 ^ (size - 1 - k) % 2 < 2 := Nat.mod_lt _ (by decide)
    have hl := dig_len 2 size n
    generalize hbv : n / 2 ^ (size - 1 - k) % 2 = b at *
    have hc : idx ([48, 49] : List UInt8) (b : Int) = some (UInt8.ofNat (48 + b)) := by
      rcases (show b = 0 ∨ b = 1 by omega) with rfl | rfl <;> rfl
    have hcn : ((UInt8.ofNat (48 + b)).toNat : Int) = ((48 + b : Nat) : Int) := by rw [UInt8.toNat_ofNat', Nat.mod_eq_of_lt (by omega)]
    have ht : (dig 2 size n).take (k + 1) = (dig 2 size n).take k ++ [b] := by
      rw [List.take_add_one, hg]; rfl
    have hl1 : (let48 ((dig 2 size n).take k)).length = k := by simp [let48, hl]; omega
    have hlen : (dgSt size n k).length = size := by
      unfold dgSt
      rw [toI_len, List.length_append, hl1, List.length_replicate]; omega
    have hget : ∃ e, idx (dgSt size n k) (k : Int) = some e := by rw [idx_nat]; exact ⟨_, List.getElem?_eq_getElem (by omega)⟩
    obtain ⟨e, he⟩ := hget
    have hset : setL (dgSt size n k) (k : Int) ((48 + b : Nat) : Int) = some (dgSt size n (k + 1)) := by
      unfold setL
      rw [if_pos (by omega), Int.toNat_natCast]
      unfold dgSt
      rw [← toI_set, ht, let48_app, show size - k = (size - (k + 1)) + 1 by omega, List.replicate_succ, List.append_assoc]
      congr 2
      rw [List.set_append_right _ _ (by omega), hl1, Nat.sub_self]
      rfl
    unfold D_bits_digits_l1
    rw [cT (dT (by omega)), ew, nn_nat, bsome, eb, hc, bsome, he, bsome, hcn, hset, bsome, w64 (x := (k : Int) + 1) (by omega)]
    exact hih
theorem digits_eq (N : Nat) (hN : 100 ≤ N) {size n : Nat} (hs : size ≤ 16) (hn : n < 9223372036854775808) : D_bits_digits N (n : Int) (size : Int) = some (chs (dig 2 size n)) := by
  unfold D_bits_digits
  rw [mk_eq (by omega), bsome, Int.toNat_natCast]
  have key := digits_l1 N hs hn (fun x : List Int × Int × Int => some (toB x.1)) size 0 N (by omega) (by omega)
  have h0 : dgSt size n 0 = List.replicate size 0 := by unfold dgSt; simp [let48, toI]
  have h1 : dgSt size n size = toI (let48 (dig 2 size n)) := by
    unfold dgSt
    rw [Nat.sub_self, List.take_of_length_le (by rw [dig_len]; exact Nat.le_refl _)]; simp
  rw [h0, h1] at key
  rw [List.length_replicate]
  refine Eq.trans key ?_
  dsimp only
  rw [toB_toI, let48_chs]
def numErr (n size : Int) : Int := if 0 ≤ size ∧ size ≤ 16 then (if 0 ≤ n ∧ n < ((2 ^ size.toNat : Nat) : Int) then 0 else 3) else 3
theorem one_shl {d : Nat} (hd : d ≤ 16) : shlI .i64 1 (d : Int) = ((2 ^ d : Nat) : Int) := by
  have hp := pow_le16 hd
  have := shl_nat (h := 1) (k := d) (by omega) (by omega)
  rw [Nat.one_mul] at this
  exact this
theorem number_code (N : Nat) (hN : 100 ≤ N) (n size : Int) : D_bits_Number N n size = some (if numErr n size = 0 then (chs (dig 2 size.toNat n.toNat), 0) else ([], 3)) := by
  unfold D_bits_Number
  by_cases h1 : size < 0
  · have : numErr n size = 3 := by unfold numErr; rw [if_neg (by omega)]
    rw [cT (dT h1), this]; rfl
  rw [cF (dF h1)]
  by_cases h2 : 16 < size
  · have : numErr n size = 3 := by unfold numErr; rw [if_neg (by omega)]
    rw [cT (dT h2), this]; rfl
  rw [cF (dF h2)]
  obtain ⟨d, rfl⟩ := Int.eq_ofNat_of_zero_le (show 0 ≤ size by omega)
  have hp := pow_le16 (d := d) (by omega)
  by_cases h3 : n < 0
  · have : numErr n d = 3 := by unfold numErr; rw [if_pos (by omega), if_neg (by omega)]
    rw [cT (dT h3), this]; rfl
  rw [cF (dF h3), nn_nat, bsome, one_shl (by omega)]
  by_cases h4 : ((2 ^ d : Nat) : Int) ≤ n
  · have : numErr n d = 3 := by unfold numErr; rw [if_pos (by omega), Int.toNat_natCast, if_neg (by omega)]
    rw [cT (dT h4), this]; rfl
  have hz : numErr n d = 0 := by unfold numErr; rw [if_pos (by omega), Int.toNat_natCast, if_pos (by omega)]
  obtain ⟨m, rfl⟩ := Int.eq_ofNat_of_zero_le (show 0 ≤ n by omega)
  rw [cF (dF h4), digits_eq N hN (by omega) (by omega), bsome, if_pos hz, Int.toNat_natCast, Int.toNat_natCast]
end Go.Proofs.YtpmnfhifmmfglacDoor

namespace Go.Proofs.YtpmnfhifmmfglacDoor
open Go
/-- What a word of n bits takes of the room. -/
def rm (n : Nat) : Nat := if 0 < n then 2 ^ (15 - n) else 0
theorem rm_le (n : Nat) : rm n ≤ 16384 := by
  unfold rm
  split
  · exact Nat.le_trans (Nat.pow_le_pow_right (by decide) (show 15 - n ≤ 14 by omega)) (by decide)
  · omega
def sumK (l : List Int) : Nat := (l.map fun e => rm e.toNat).sum
theorem sumK_cons (e : Int) (l : List Int) : sumK (e :: l) = rm e.toNat + sumK l := by simp [sumK]
def lenOK (e : Int) : Bool := decide (0 ≤ e ∧ e ≤ 15)
def chkErr (l : List Int) : Int := if l.length < 1 ∨ 17 < l.length then 2 else if l.all lenOK = true then (if sumK l = 0 ∨ 32768 < sumK l then 1 else 0) else 3
theorem rm_pos {e : Int} (h : 0 < e) (h2 : e ≤ 15) : shlI .i64 1 (IntKind.i64.wrap (15 - e)) = ((rm e.toNat : Nat) : Int) ∧ nn (IntKind.i64.wrap (15 - e)) = some () := by
  have h0 : IntKind.i64.wrap (15 - e) = ((15 - e.toNat : Nat) : Int) := by rw [w64 (by omega)]; omega
  rw [h0, one_shl (by omega), nn_nat, rm, if_pos (by omega)]
  exact ⟨rfl, rfl⟩
theorem check_l1 (N : Nat) {l : List Int} (hl : l.length ≤ 17) (kk) : ∀ (j k fuel : Nat) (room : Int), k + j = l.length → j < fuel → -1000000 - 16384 * (k : Int) ≤ room ∧ room ≤ 1000000 →
    D_code_Check_l1 N l kk fuel (room, (k : Int)) = if (l.drop k).all lenOK = true then kk (room - (sumK (l.drop k) : Nat), (l.length : Int)) else some 3 := by
  intro j
  induction j with
  | zero =>
    intro k fuel room hk hf hr
    obtain ⟨fuel, rfl⟩ : ∃ m, fuel = m + 1 := ⟨fuel - 1, by omega⟩
    obtain rfl : k = l.length := by omega
    unfold D_code_Check_l1
    rw [cF (dF (by omega)), List.drop_length, if_pos (by rfl), show sumK ([] : List Int) = 0 by rfl]
    simp
  | succ j ih =>
    intro k fuel room hk hf hr
    obtain ⟨fuel, rfl⟩ : ∃ m, fuel = m + 1 := ⟨fuel - 1, by omega⟩
    have hlt : k < l.length := by omega
    have hnx : IntKind.i64.wrap ((k : Int) + 1) = ((k + 1 : Nat) : Int) := by rw [w64 (by omega)]; rfl
    rw [List.drop_eq_getElem_cons hlt, List.all_cons, sumK_cons]
    unfold D_code_Check_l1
    rw [cT (dT (by omega)), idx_nat, List.getElem?_eq_getElem hlt, bsome]
    by_cases h0 : l[k] < 0
    · rw [cT (dT h0), if_neg]
      rw [show lenOK l[k] = false from dF (by omega)]; simp
    · rw [cF (dF h0)]
      by_cases h1 : 15 < l[k]
      · rw [cT (dT h1), if_neg]
        rw [show lenOK l[k] = false from dF (by omega)]; simp
      · rw [cF (dF h1), show lenOK l[k] = true from dT (by omega), Bool.true_and]
        by_cases h2 : 0 < l[k]
        · obtain ⟨e1, e2⟩ := rm_pos h2 (by omega)
          have hr2 := rm_le l[k].toNat
          rw [cT (dT h2), e2, bsome, bsome, e1, w64 (x := room - _) (by omega), hnx, ih (k + 1) fuel _ (by omega) (by omega) (by omega)]
          congr 2
          rw [Prod.mk.injEq]; exact ⟨by omega, rfl⟩
        · rw [cF (dF h2), hnx, ih (k + 1) fuel _ (by omega) (by omega) (by omega), show rm l[k].toNat = 0 by rw [rm, if_neg (by omega)], Nat.zero_add]
theorem check_code (N : Nat) (hN : 100 ≤ N) (l : List Int) : D_code_Check N l = some (chkErr l) := by
  unfold D_code_Check chkErr
  by_cases h1 : l.length < 1
  · rw [cT (dT (by omega)), if_pos (.inl h1)]
  rw [cF (dF (by omega))]
  by_cases h2 : 17 < l.length
  · rw [cT (dT (by omega)), if_pos (.inr h2)]
  rw [cF (dF (by omega)), if_neg (by omega)]
  have key := check_l1 N (l := l) (by omega) (fun (room4, i2) => cond (decide (room4 < 0)) (some 1) (cond (decide (room4 = 32768)) (some 1) (some 0))) l.length 0 N 32768 (by omega) (by omega) (by omega)
  rw [List.drop_zero] at key
  refine Eq.trans key ?_
  by_cases h3 : l.all lenOK = true
  · rw [if_pos h3, if_pos h3]
    dsimp only
    by_cases h4 : 32768 < sumK l
    · rw [cT (dT (by omega)), if_pos (.inr h4)]
    · rw [cF (dF (by omega))]
      by_cases h5 : sumK l = 0
      · rw [cT (dT (by omega)), if_pos (.inl h5)]
      · rw [cF (dF (by omega)), if_neg (by omega)]
  · rw [if_neg h3, if_neg h3]
end Go.Proofs.YtpmnfhifmmfglacDoor

namespace Go.Proofs.YtpmnfhifmmfglacDoor
open Go
/-- How long the i-th word is. -/
def ky (ns : List Nat) (i : Nat) : Nat := ns.getD i 0
def tot (ns : List Nat) (o : List Nat) : Nat := (o.map fun i => 2 ^ (15 - ky ns i)).sum
def wrd (S n : Nat) : List UInt8 := chs (dig 2 n (S / 2 ^ (15 - n)))
def stp (ns : List Nat) (st : List (List UInt8) × Nat) (i : Nat) : List (List UInt8) × Nat := (st.1.set i (wrd st.2 (ky ns i)), st.2 + 2 ^ (15 - ky ns i))
theorem tot_nil (ns : List Nat) : tot ns [] = 0 := rfl
theorem tot_cons (ns : List Nat) (i : Nat) (o : List Nat) : tot ns (i :: o) = 2 ^ (15 - ky ns i) + tot ns o := by simp [tot]
theorem tot_app (ns : List Nat) (o p : List Nat) : tot ns (o ++ p) = tot ns o + tot ns p := by simp [tot]
theorem stp_len (ns : List Nat) : ∀ (o : List Nat) (st : List (List UInt8) × Nat), (o.foldl (stp ns) st).1.length = st.1.length
  | [], _ => rfl
  | i :: o, st => by rw [List.foldl_cons, stp_len ns o]; simp [stp]
theorem stp_snd (ns : List Nat) : ∀ (o : List Nat) (st : List (List UInt8) × Nat), (o.foldl (stp ns) st).2 = st.2 + tot ns o
  | [], _ => rfl
  | i :: o, st => by rw [List.foldl_cons, stp_snd ns o, tot_cons]; simp [stp]; omega
section
variable {ns : List Nat} (hn : ∀ n ∈ ns, n ≤ 15) (hl : ns.length ≤ 17)
theorem ky_get {i : Nat} (h : i < ns.length) : idx (toI ns) (i : Int) = some ((ky ns i : Nat) : Int) := toI_get h
include hn in
theorem ky_le (i : Nat) : ky ns i ≤ 15 := by
  unfold ky
  rw [List.getD_eq_getElem?_getD]
  by_cases h : i < ns.length
  · rw [List.getElem?_eq_getElem h]; exact hn _ (List.getElem_mem h)
  · rw [List.getElem?_eq_none (by omega)]; exact Nat.zero_le _
theorem pow15 (n : Nat) : 2 ^ (15 - n) ≤ 32768 := Nat.le_trans (Nat.pow_le_pow_right (by decide) (show 15 - n ≤ 15 by omega)) (by decide)
include hn hl in
theorem words_l4 (N : Nat) (hN : 100 ≤ N) (o : List Nat) (ho : ∀ i ∈ o, i < ns.length) (hol : o.length ≤ 17) (kk) : ∀ (j k fuel : Nat) (out : List (List UInt8)) (S : Nat), k + j = o.length → j < fuel → out.length = ns.length → S + tot ns (o.drop k) ≤ 32768 →
    D_code_Words_l4 N (toI ns) (toI o) kk fuel (out, (S : Int), (k : Int)) = kk (((o.drop k).foldl (stp ns) (out, S)).1, ((S + tot ns (o.drop k) : Nat) : Int), (o.length : Int)) := by
  intro j
  induction j with
  | zero =>
    intro k fuel out S hk hf hout hS
    obtain ⟨fuel, rfl⟩ : ∃ m, fuel = m + 1 := ⟨fuel - 1, by omega⟩
    obtain rfl : k = o.length := by omega
    unfold D_code_Words_l4
    rw [cF (dF (by rw [toI_len]; omega)), List.drop_length]; rfl
  | succ j ih =>
    intro k fuel out S hk hf hout hS
    obtain ⟨fuel, rfl⟩ : ∃ m, fuel = m + 1 := ⟨fuel - 1, by omega⟩
    have hlt : k < o.length := by omega
    have hi : o[k] < ns.length := ho _ (List.getElem_mem hlt)
    have hk15 := ky_le hn o[k]
    rw [List.drop_eq_getElem_cons hlt, tot_cons] at hS ⊢
    have hp := pow15 (ky ns o[k])
    have hp0 := Nat.two_pow_pos (15 - ky ns o[k])
    have h15 : IntKind.i64.wrap (15 - (ky ns o[k] : Nat)) = ((15 - ky ns o[k] : Nat) : Int) := by rw [w64 (by omega)]; omega
    have hget : idx (toI o) (k : Int) = some ((o[k] : Nat) : Int) := by rw [toI_get hlt, List.getD_eq_getElem?_getD, List.getElem?_eq_getElem hlt]; rfl
    have hnum : numErr ((S / 2 ^ (15 - ky ns o[k]) : Nat) : Int) ((ky ns o[k] : Nat) : Int) = 0 := by
      have : S / 2 ^ (15 - ky ns o[k]) < 2 ^ ky ns o[k] := by
        refine Nat.div_lt_of_lt_mul ?_
        rw [← Nat.pow_add, show 15 - ky ns o[k] + ky ns o[k] = 15 by omega]
        show S < 32768
        omega
      unfold numErr
      rw [if_pos (by omega), Int.toNat_natCast, if_pos ⟨Int.natCast_nonneg _, Int.ofNat_lt.2 this⟩]
    have hset : ∀ v, setL out (o[k] : Int) v = some (out.set o[k] v) := fun v => by rw [setL_eq (by omega), Int.toNat_natCast]
    have hio : ∃ e, idx out (o[k] : Int) = some e := by rw [idx_nat]; exact ⟨_, List.getElem?_eq_getElem (by omega)⟩
    obtain ⟨e, he⟩ := hio
    have hnx : IntKind.i64.wrap ((k : Int) + 1) = ((k + 1 : Nat) : Int) := by rw [w64 (by omega)]; rfl
    have hih := ih (k + 1) fuel (out.set o[k] (wrd S (ky ns o[k]))) (S + 2 ^ (15 - ky ns o[k])) (by omega) (by omega) (by rw [List.length_set]; exact hout) (by omega)
    unfold D_code_Words_l4
    rw [cT (dT (by rw [toI_len]; omega)), hget, bsome, ky_get hi, bsome, h15, nn_nat, bsome, bsome, shr_nat (by omega), number_code N hN, if_pos hnum, bsome, he, bsome, hset, bsome, bsome, h15, nn_nat, bsome, one_shl (by omega), w64 (x := (S : Int) + _) (by omega), bsome, hnx, Int.toNat_natCast, Int.toNat_natCast, show (S : Int) + ((2 ^ (15 - ky ns o[k]) : Nat) : Int) = ((S + 2 ^ (15 - ky ns o[k]) : Nat) : Int) by omega]
    refine Eq.trans hih ?_
    rw [List.foldl_cons, Nat.add_assoc]
    rfl
def pos (ns : List Nat) (i : Nat) : Bool := decide (0 < ky ns i)
include hl in
theorem words_l1 (N : Nat) (kk) : ∀ (j k fuel : Nat) (A : List Nat), k + j = ns.length → j < fuel → A.length ≤ k →
    D_code_Words_l1 N (toI ns) kk fuel (toI A, (k : Int)) = kk (toI (A ++ (List.range' k j).filter (pos ns)), (ns.length : Int)) := by
  intro j
  induction j with
  | zero =>
    intro k fuel A hk hf hA
    obtain ⟨fuel, rfl⟩ : ∃ m, fuel = m + 1 := ⟨fuel - 1, by omega⟩
    obtain rfl : k = ns.length := by omega
    unfold D_code_Words_l1
    rw [cF (dF (by rw [toI_len]; omega))]; simp
  | succ j ih =>
    intro k fuel A hk hf hA
    obtain ⟨fuel, rfl⟩ : ∃ m, fuel = m + 1 := ⟨fuel - 1, by omega⟩
    have hlt : k < ns.length := by omega
    have hnx : IntKind.i64.wrap ((k : Int) + 1) = ((k + 1 : Nat) : Int) := by rw [w64 (by omega)]; rfl
    unfold D_code_Words_l1
    rw [cT (dT (by rw [toI_len]; omega)), ky_get hlt, bsome, List.range'_succ]
    by_cases h : 0 < ky ns k
    · have happ : app 8 (toI A) ([(k : Int)] : List Int) = some (toI (A ++ [k])) := by
        rw [app_eq (by rw [toI_len]; simp; omega), toI_app]; rfl
      rw [cT (dT (by omega)), happ, bsome, hnx, ih (k + 1) fuel _ (by omega) (by omega) (by simp; omega), List.filter_cons, if_pos (show pos ns k = true from dT h), List.append_assoc]
      rfl
    · rw [cF (dF (by omega)), hnx, ih (k + 1) fuel _ (by omega) (by omega) (by omega), List.filter_cons, if_neg (by rw [show pos ns k = false from dF h]; simp)]
def inw (f : Nat → Nat) (x : Nat) : List Nat → List Nat → List Nat
  | [], B => x :: B
  | y :: A, B => if f x < f y then inw f x A (y :: B) else (y :: A).reverse ++ x :: B
theorem inw_app (f : Nat → Nat) (x : Nat) : ∀ A B C, inw f x A (B ++ C) = inw f x A B ++ C
  | [], B, C => rfl
  | y :: A, B, C => by
    unfold inw
    split
    · rw [← List.cons_append, inw_app f x A]
    · simp
theorem inw_len (f : Nat → Nat) (x : Nat) : ∀ A B, (inw f x A B).length = A.length + B.length + 1
  | [], B => by simp [inw]
  | y :: A, B => by
    unfold inw
    split
    · rw [inw_len f x A]; simp; omega
    · simp; omega
theorem inw_spec (f : Nat → Nat) (x : Nat) (A1 : List Nat) (h1 : ∀ y ∈ A1, f y ≤ f x) : ∀ (R : List Nat) (B : List Nat), (∀ y ∈ R, f x < f y) → inw f x (R ++ A1.reverse) B = A1 ++ x :: (R.reverse ++ B)
  | [], B, _ => by
    rcases hA : A1.reverse with _ | ⟨y, A⟩
    · have : A1 = [] := by simpa using hA
      subst this; rfl
    · have hy : f y ≤ f x := h1 y (by rw [← List.mem_reverse, hA]; simp)
      rw [List.nil_append]
      unfold inw
      rw [if_neg (by omega), ← hA, List.reverse_reverse]; rfl
  | y :: R, B, h => by
    have hy := h y (by simp)
    show inw f x (y :: (R ++ A1.reverse)) B = _
    unfold inw
    rw [if_pos hy, inw_spec f x A1 h1 R (y :: B) (fun z hz => h z (by simp [hz]))]
    simp
theorem cmp_eq (N : Nat) {a b : Nat} (ha : a < ns.length) (hb : b < ns.length) : D_code_Words_1 N (a : Int) (b : Int) (toI ns) = some (if ky ns a < ky ns b then -1 else if ky ns b < ky ns a then 1 else 0) := by
  unfold D_code_Words_1
  rw [ky_get ha, bsome, ky_get hb, bsome]
  unfold D_cmp_Compare_int D_cmp_isNaN_int
  rw [bsome, bsome, cF (by simp), cF (by simp)]
  by_cases h1 : ky ns a < ky ns b
  · rw [cT (dT (by omega)), if_pos h1]; rfl
  · rw [cF (dF (by omega)), if_neg h1]
    by_cases h2 : ky ns b < ky ns a
    · rw [cT (dT (by omega)), if_pos h2]; rfl
    · rw [cF (dF (by omega)), if_neg h2]; rfl
theorem toI_at {A : List Nat} {i x : Nat} (h : A[i]? = some x) : idx (toI A) (i : Int) = some (x : Int) := by
  rw [idx_nat, toI, List.getElem?_map, h]; rfl
theorem words_l3 (N : Nat) (kk : List Int × Int → Option (List (List UInt8) × Int)) (r) (x : Nat) (hx : x < ns.length) : ∀ (A B : List Nat) (fuel : Nat), (∀ y ∈ A, y < ns.length) → A.length ≤ 1000 → A.length < fuel → (∀ j, kk (toI (inw (ky ns) x A B), j) = r) →
    D_code_Words_l3 N (toI ns) kk fuel (toI (A.reverse ++ x :: B), (A.length : Int)) = r := by
  intro A
  induction A with
  | nil =>
    intro B fuel hA hA2 hf hk
    obtain ⟨fuel, rfl⟩ : ∃ m, fuel = m + 1 := ⟨fuel - 1, by simp at hf; omega⟩
    unfold D_code_Words_l3
    rw [cF (dF (by simp))]
    exact hk _
  | cons y A ih =>
    intro B fuel hA hA2 hf hk
    simp only [List.length_cons] at hf hA2
    obtain ⟨fuel, rfl⟩ : ∃ m, fuel = m + 1 := ⟨fuel - 1, by omega⟩
    have hy : y < ns.length := hA y (by simp)
    have g1 : ∀ u v : Nat, (A.reverse ++ u :: v :: B)[A.length]? = some u := fun u v => by rw [List.getElem?_append_right (by simp)]; simp
    have g2 : ∀ u v : Nat, (A.reverse ++ u :: v :: B)[A.length + 1]? = some v := fun u v => by rw [List.getElem?_append_right (by simp)]; simp
    have eq : (y :: A).reverse ++ x :: B = A.reverse ++ y :: x :: B := by simp
    have hm1 : IntKind.i64.wrap (((A.length + 1 : Nat) : Int) - 1) = (A.length : Int) := by rw [w64 (by omega)]; omega
    rw [List.length_cons, eq]
    unfold D_code_Words_l3
    rw [cT (dT (by omega)), toI_at (g2 y x), bsome, hm1, toI_at (g1 y x), bsome, cmp_eq N hx hy, bsome]
    unfold inw at hk
    by_cases h : ky ns x < ky ns y
    · rw [if_pos h] at hk
      have s1 : setL (toI (A.reverse ++ y :: x :: B)) (((A.length + 1 : Nat) : Int)) ((y : Nat) : Int) = some (toI (A.reverse ++ y :: y :: B)) := by
        rw [setL_eq (by rw [toI_len]; simp; omega), Int.toNat_natCast, ← toI_set]
        congr 2
        rw [List.set_append, if_neg (by simp)]; simp
      have s2 : setL (toI (A.reverse ++ y :: y :: B)) ((A.length : Nat) : Int) ((x : Nat) : Int) = some (toI (A.reverse ++ x :: y :: B)) := by
        rw [setL_eq (by rw [toI_len]; simp; omega), Int.toNat_natCast, ← toI_set]
        congr 2
        rw [List.set_append, if_neg (by simp)]; simp
      rw [if_pos h, cT (by decide), bsome, bsome, bsome, s1, bsome, toI_at (g1 y y), bsome, s2, bsome, bsome]
      exact ih (y :: B) fuel (fun z hz => hA z (by simp [hz])) (by omega) (by omega) hk
    · rw [if_neg h] at hk
      rw [if_neg h, cF (by split <;> decide), ← eq]
      exact hk _
def srt (f : Nat → Nat) (o : List Nat) : List Nat := o.foldl (fun A x => inw f x A.reverse []) []
theorem srt_snoc (f : Nat → Nat) (o : List Nat) (x : Nat) : srt f (o ++ [x]) = inw f x (srt f o).reverse [] := by simp [srt]
theorem srt_len (f : Nat → Nat) (o : List Nat) : (srt f o).length = o.length := by
  have : ∀ (o A : List Nat), (o.foldl (fun A x => inw f x A.reverse []) A).length = A.length + o.length := by
    intro o
    induction o with
    | nil => intro A; rfl
    | cons x o ih => intro A; rw [List.foldl_cons, ih, inw_len]; simp; omega
  rw [srt, this]; simp
end
end Go.Proofs.YtpmnfhifmmfglacDoor

namespace Go.Proofs.YtpmnfhifmmfglacDoor
open Go
section
variable {ns : List Nat} (hn : ∀ n ∈ ns, n ≤ 15) (hl : ns.length ≤ 17)
theorem words_l2 (N : Nat) (hN : 100 ≤ N) (kk : List Int × Int × Int → Option (List (List UInt8) × Int)) (r) {o : List Nat} (ho : ∀ i ∈ o, i < ns.length) (hol : o.length ≤ 17) (hk : ∀ b j, kk (toI (srt (ky ns) o), b, j) = r) : ∀ (j k fuel : Nat), k + j = o.length → j < fuel →
    D_code_Words_l2 N (toI ns) kk fuel (toI (srt (ky ns) (o.take k) ++ o.drop k), (o.length : Int), (k : Int)) = r := by
  intro j
  induction j with
  | zero =>
    intro k fuel hkj hf
    obtain ⟨fuel, rfl⟩ : ∃ m, fuel = m + 1 := ⟨fuel - 1, by omega⟩
    obtain rfl : k = o.length := by omega
    unfold D_code_Words_l2
    rw [cF (dF (by omega)), List.take_length, List.drop_length, List.append_nil]
    exact hk _ _
  | succ j ih =>
    intro k fuel hkj hf
    obtain ⟨fuel, rfl⟩ : ∃ m, fuel = m + 1 := ⟨fuel - 1, by omega⟩
    have hlt : k < o.length := by omega
    have hnx : IntKind.i64.wrap ((k : Int) + 1) = ((k + 1 : Nat) : Int) := by rw [w64 (by omega)]; rfl
    have hih := ih (k + 1) fuel (by omega) (by omega)
    have htk : o.take (k + 1) = o.take k ++ [o[k]] := by rw [List.take_add_one, List.getElem?_eq_getElem hlt]; rfl
    rw [htk, srt_snoc] at hih
    have hlen : (srt (ky ns) (o.take k)).length = k := by rw [srt_len, List.length_take]; omega
    have hmem : ∀ y ∈ srt (ky ns) (o.take k), y < ns.length := fun y hy => by
      refine ho y (List.mem_of_mem_take (i := k) ?_)
      have key : ∀ (p A : List Nat), (∀ z ∈ A, z ∈ o.take k) → (∀ z ∈ p, z ∈ o.take k) → ∀ z ∈ p.foldl (fun A x => inw (ky ns) x A.reverse []) A, z ∈ o.take k := by
        intro p
        induction p with
        | nil => intro A hA _ z hz; exact hA z hz
        | cons x p ihp =>
          intro A hA hp z hz
          rw [List.foldl_cons] at hz
          refine ihp _ ?_ (fun z hz => hp z (by simp [hz])) z hz
          intro u hu
          have sub : ∀ (R B : List Nat), ∀ z ∈ inw (ky ns) x R B, z ∈ R ∨ z = x ∨ z ∈ B := by
            intro R
            induction R with
            | nil => intro B z hz; simp [inw] at hz; rcases hz with rfl | hz; exact .inr (.inl rfl); exact .inr (.inr hz)
            | cons q R ihR =>
              intro B z hz
              unfold inw at hz
              split at hz
              · rcases ihR _ z hz with h | h | h
                · exact .inl (by simp [h])
                · exact .inr (.inl h)
                · rcases List.mem_cons.1 h with rfl | h
                  · exact .inl (by simp)
                  · exact .inr (.inr h)
              · simp at hz
                rcases hz with h | h | h | h
                · exact .inl (by simp [h])
                · exact .inl (by simp [h])
                · exact .inr (.inl h)
                · exact .inr (.inr h)
          rcases sub _ _ u hu with h | h | h
          · exact hA u (by simpa using h)
          · subst h; exact hp u (by simp)
          · cases h
      exact key (o.take k) [] (fun z hz => by cases hz) (fun z hz => hz) y hy
    unfold D_code_Words_l2
    rw [cT (dT (by omega)), List.drop_eq_getElem_cons hlt]
    have h3 := words_l3 (ns := ns) N (fun (l22, j9) => Option.bind (some (IntKind.i64.wrap ((k : Int) + 1))) fun i6 => D_code_Words_l2 N (toI ns) kk fuel (l22, (o.length : Int), i6)) r o[k] (ho _ (List.getElem_mem hlt)) (srt (ky ns) (o.take k)).reverse (o.drop (k + 1)) N (fun y hy => hmem y (by simpa using hy)) (by simp; omega) (by simp; omega) (fun q => by
      show (Option.bind (some (IntKind.i64.wrap ((k : Int) + 1))) fun i6 => D_code_Words_l2 N (toI ns) kk fuel (toI (inw (ky ns) o[k] (srt (ky ns) (o.take k)).reverse (o.drop (k + 1))), (o.length : Int), i6)) = r
      rw [hnx, bsome]
      have e := inw_app (ky ns) o[k] (srt (ky ns) (o.take k)).reverse [] (o.drop (k + 1))
      rw [List.nil_append] at e
      rw [e]
      exact hih)
    rw [List.reverse_reverse, List.length_reverse, hlen] at h3
    exact h3
def ordL (f : Nat → Nat) (o : List Nat) : List Nat := (List.range' 1 15).flatMap fun s => o.filter fun i => decide (f i = s)
theorem ordL_snoc (f : Nat → Nat) (o : List Nat) {x : Nat} (hx : 1 ≤ f x ∧ f x ≤ 15) : ∃ A1 A2, ordL f o = A1 ++ A2 ∧ ordL f (o ++ [x]) = A1 ++ x :: A2 ∧ (∀ y ∈ A1, f y ≤ f x) ∧ ∀ y ∈ A2, f x < f y := by
  have hsp : List.range' 1 15 = List.range' 1 (f x - 1) ++ (f x :: List.range' (f x + 1) (15 - f x)) := by
    have h1 : List.range' 1 (f x - 1) ++ List.range' (1 + (f x - 1)) (15 - (f x - 1)) = List.range' 1 15 := by
      have := List.range'_append (s := 1) (m := f x - 1) (n := 15 - (f x - 1)) (step := 1)
      rw [Nat.one_mul] at this
      rw [this]; congr 1; omega
    rw [← h1, show 1 + (f x - 1) = f x by omega, show 15 - (f x - 1) = (15 - f x) + 1 by omega, List.range'_succ]
  have hne : ∀ L : List Nat, (∀ s ∈ L, s ≠ f x) → (L.flatMap fun s => (o ++ [x]).filter fun i => decide (f i = s)) = L.flatMap fun s => o.filter fun i => decide (f i = s) := by
    intro L hL
    induction L with
    | nil => rfl
    | cons s L ih =>
      rw [List.flatMap_cons, List.flatMap_cons, ih (fun s hs => hL s (by simp [hs])), List.filter_append]
      congr 1
      rw [List.filter_cons, if_neg (by simpa using fun h => hL s (by simp) h.symm)]; simp
  refine ⟨((List.range' 1 (f x - 1)).flatMap fun s => o.filter fun i => decide (f i = s)) ++ o.filter (fun i => decide (f i = f x)), (List.range' (f x + 1) (15 - f x)).flatMap (fun s => o.filter fun i => decide (f i = s)), ?_, ?_, ?_, ?_⟩
  · unfold ordL; rw [hsp, List.flatMap_append, List.flatMap_cons, List.append_assoc]
  · unfold ordL
    rw [hsp, List.flatMap_append, List.flatMap_cons, hne _ (fun s hs => by have := (List.mem_range'_1.1 hs); omega), hne _ (fun s hs => by have := (List.mem_range'_1.1 hs); omega), List.filter_append, List.filter_cons, if_pos (by simp)]
    simp
  · intro y hy
    rcases List.mem_append.1 hy with h | h
    · obtain ⟨s, hs, h⟩ := List.mem_flatMap.1 h
      have h1 := List.mem_range'_1.1 hs
      have h2 := (List.mem_filter.1 h).2
      simp at h2
      omega
    · have h2 := (List.mem_filter.1 h).2
      simp at h2
      omega
  · intro y hy
    obtain ⟨s, hs, h⟩ := List.mem_flatMap.1 hy
    have h1 := List.mem_range'_1.1 hs
    have h2 := (List.mem_filter.1 h).2
    simp at h2
    omega
theorem take_ind {P : List Nat → Prop} (o : List Nat) (h0 : P []) (hs : ∀ k (hk : k < o.length), P (o.take k) → P (o.take k ++ [o[k]])) : P o := by
  have : ∀ k, k ≤ o.length → P (o.take k) := by
    intro k
    induction k with
    | zero => intro _; exact h0
    | succ k ih =>
      intro hk
      have := hs k (by omega) (ih (by omega))
      rwa [show o.take k ++ [o[k]] = o.take (k + 1) by rw [List.take_add_one, List.getElem?_eq_getElem (by omega)]; rfl] at this
  have := this o.length (Nat.le_refl _)
  rwa [List.take_length] at this
theorem ordL_nil (f : Nat → Nat) : ordL f [] = [] := by
  unfold ordL
  rw [List.flatMap_eq_nil_iff]
  intro s _; rfl
theorem srt_ord (f : Nat → Nat) (o : List Nat) (ho : ∀ x ∈ o, 1 ≤ f x ∧ f x ≤ 15) : srt f o = ordL f o := by
  refine take_ind (P := fun p => srt f p = ordL f p) o ?_ fun k hk ih => ?_
  · show ([] : List Nat) = _
    unfold ordL
    rw [eq_comm, List.flatMap_eq_nil_iff]
    intro s _; rfl
  · obtain ⟨A1, A2, h1, h2, h3, h4⟩ := ordL_snoc f (o.take k) (ho _ (List.getElem_mem hk))
    have := inw_spec f o[k] A1 h3 A2.reverse [] (fun y hy => h4 y (by simpa using hy))
    show srt f (o.take k ++ [o[k]]) = ordL f (o.take k ++ [o[k]])
    rw [srt_snoc, h2, show srt f (o.take k) = ordL f (o.take k) from ih, h1, List.reverse_append, this]
    simp
theorem tot_ord (o : List Nat) (ho : ∀ x ∈ o, 1 ≤ ky ns x ∧ ky ns x ≤ 15) : tot ns (ordL (ky ns) o) = tot ns o := by
  refine take_ind (P := fun p => tot ns (ordL (ky ns) p) = tot ns p) o ?_ fun k hk ih => ?_
  · show tot ns (ordL (ky ns) []) = tot ns []
    rw [ordL_nil]
  · obtain ⟨A1, A2, h1, h2, h3, h4⟩ := ordL_snoc (ky ns) (o.take k) (ho _ (List.getElem_mem hk))
    have ih' : tot ns (ordL (ky ns) (o.take k)) = tot ns (o.take k) := ih
    show tot ns (ordL (ky ns) (o.take k ++ [o[k]])) = tot ns (o.take k ++ [o[k]])
    rw [h2, tot_app, tot_cons, tot_app, ← ih', h1, tot_app, tot_cons, tot_nil]
    omega
/-- The numbers that have a word, from k on. -/
def ups (ns : List Nat) (k j : Nat) : List Nat := (List.range' k j).filter (pos ns)
theorem sumK_ups : ∀ (j k : Nat), k + j = ns.length → sumK ((toI ns).drop k) = tot ns (ups ns k j) := by
  intro j
  induction j with
  | zero =>
    intro k hk
    rw [List.drop_eq_nil_iff.2 (by rw [toI_len]; omega)]; rfl
  | succ j ih =>
    intro k hk
    have hlt : k < (toI ns).length := by rw [toI_len]; omega
    have hv : (toI ns)[k].toNat = ky ns k := by
      have := toI_get (l := ns) (i := k) (by omega)
      rw [idx_nat, List.getElem?_eq_getElem hlt] at this
      rw [Option.some.inj this, Int.toNat_natCast]; rfl
    rw [List.drop_eq_getElem_cons hlt, sumK_cons, ih (k + 1) (by omega), hv]
    unfold ups
    rw [List.range'_succ, List.filter_cons]
    by_cases h : 0 < ky ns k
    · rw [if_pos (show pos ns k = true from dT h), tot_cons, rm, if_pos h]
    · rw [if_neg (by rw [show pos ns k = false from dF h]; simp), rm, if_neg h, Nat.zero_add]
theorem ord_ups (k j : Nat) : ordL (ky ns) (ups ns k j) = ordL (ky ns) (List.range' k j) := by
  unfold ordL ups
  have : ∀ L : List Nat, (∀ s ∈ L, 1 ≤ s) → (L.flatMap fun s => ((List.range' k j).filter (pos ns)).filter fun i => decide (ky ns i = s)) = L.flatMap fun s => (List.range' k j).filter fun i => decide (ky ns i = s) := by
    intro L hL
    induction L with
    | nil => rfl
    | cons s L ih =>
      rw [List.flatMap_cons, List.flatMap_cons, ih (fun s hs => hL s (by simp [hs])), List.filter_filter]
      congr 1
      refine List.filter_congr fun i _ => ?_
      have := hL s (by simp)
      unfold pos
      by_cases h : ky ns i = s
      · rw [dT h, dT (by omega)]; rfl
      · rw [dF h]; rfl
  exact this _ fun s hs => (List.mem_range'_1.1 hs).1
theorem ups_mem {k j i : Nat} (h : i ∈ ups ns k j) : k ≤ i ∧ i < k + j ∧ 0 < ky ns i := by
  obtain ⟨h1, h2⟩ := List.mem_filter.1 h
  have := List.mem_range'_1.1 h1
  exact ⟨this.1, this.2, of_decide_eq_true h2⟩
/-- The words. -/
def wordsL (ns : List Nat) : List (List UInt8) := ((ordL (ky ns) (List.range' 0 ns.length)).foldl (stp ns) (List.replicate ns.length [], 0)).1
end
end Go.Proofs.YtpmnfhifmmfglacDoor

namespace Go.Proofs.YtpmnfhifmmfglacDoor
open Go
section
variable {ns : List Nat} (hn : ∀ n ∈ ns, n ≤ 15) (hl : ns.length ≤ 17)
include hn hl in
theorem words_run (N : Nat) (hN : 100 ≤ N) (hK : tot ns (ups ns 0 ns.length) ≤ 32768) (hP : 0 < tot ns (ups ns 0 ns.length)) (hc : chkErr (toI ns) = 0) : D_code_Words N (toI ns) = some (wordsL ns, 0) := by
  unfold D_code_Words
  have hups : ∀ x ∈ ups ns 0 ns.length, 1 ≤ ky ns x ∧ ky ns x ≤ 15 := fun x hx => ⟨(ups_mem hx).2.2, ky_le hn x⟩
  have hlen : (ups ns 0 ns.length).length ≤ 17 := by
    unfold ups
    refine Nat.le_trans (List.length_filter_le _ _) ?_
    rw [List.length_range']; exact hl
  have hmem : ∀ i ∈ ups ns 0 ns.length, i < ns.length := fun i hi => by have := (ups_mem hi).2.1; omega
  rw [check_code N hN, hc, bsome, cF (by decide)]
  have h1 := words_l1 (ns := ns) hl N (fun (l6, i2) =>
    cond (decide (20 ≤ (l6.length : Int))) none (
    Option.bind (some (IntKind.i64.wrap (0 + 1))) fun i3 =>
    D_code_Words_l2 N (toI ns) (fun (l23, b2, i7) =>
    Option.bind (sameL l6 l23) fun _ =>
    cond (decide (20 < (l23.length : Int))) none (
    Option.bind (sameL l6 l23) fun _ =>
    Option.bind (sameL l6 l23) fun _ =>
    Option.bind (some (((toI ns).length : Int))) fun x2 =>
    Option.bind (mk 16 x2 (([] : List UInt8) : List UInt8)) fun l24 =>
    D_code_Words_l4 N (toI ns) l23 (fun (l28, i10, i11) =>
    some (l28, 0)) N (l24, 0, 0))) N (l6, (l6.length : Int), i3))) ns.length 0 N [] (by omega) (by omega) (by simp)
  refine Eq.trans h1 ?_
  rw [List.nil_append]
  dsimp only
  rw [show (List.range' 0 ns.length).filter (pos ns) = ups ns 0 ns.length from rfl, cF (dF (by rw [toI_len]; omega)), show IntKind.i64.wrap (0 + 1) = ((1 : Nat) : Int) by decide, bsome, show ((toI (ups ns 0 ns.length)).length : Int) = ((ups ns 0 ns.length).length : Int) by rw [toI_len]]
  have hsrt := srt_ord (ky ns) (ups ns 0 ns.length) hups
  have hsl := srt_len (ky ns) (ups ns 0 ns.length)
  have hfin : ∀ b j : Int, (fun (x : List Int × Int × Int) => (match x with
    | (l23, b2, i7) => Option.bind (sameL (toI (ups ns 0 ns.length)) l23) fun _ =>
    cond (decide (20 < (l23.length : Int))) none (
    Option.bind (sameL (toI (ups ns 0 ns.length)) l23) fun _ =>
    Option.bind (sameL (toI (ups ns 0 ns.length)) l23) fun _ =>
    Option.bind (some (((toI ns).length : Int))) fun x2 =>
    Option.bind (mk 16 x2 (([] : List UInt8) : List UInt8)) fun l24 =>
    D_code_Words_l4 N (toI ns) l23 (fun (l28, i10, i11) =>
    some (l28, (0 : Int))) N (l24, 0, 0)) : Option (List (List UInt8) × Int))) (toI (srt (ky ns) (ups ns 0 ns.length)), b, j) = some (wordsL ns, 0) := by
    intro b j
    have hsame : sameL (toI (ups ns 0 ns.length)) (toI (srt (ky ns) (ups ns 0 ns.length))) = some () := by
      unfold sameL
      rw [if_pos (by rw [toI_len, toI_len, hsl])]
    dsimp only
    rw [hsame, bsome, cF (dF (by rw [toI_len, hsl]; omega)), bsome, bsome, toI_len, bsome, mk_eq (by omega), bsome, Int.toNat_natCast, hsrt]
    have ht : tot ns (ordL (ky ns) (ups ns 0 ns.length)) ≤ 32768 := by rw [tot_ord _ hups]; exact hK
    have hom : ∀ i ∈ ordL (ky ns) (ups ns 0 ns.length), i < ns.length := fun i hi => by
      obtain ⟨s, _, h⟩ := List.mem_flatMap.1 hi
      exact hmem i (List.mem_filter.1 h).1
    have hol : (ordL (ky ns) (ups ns 0 ns.length)).length ≤ 17 := by rw [← hsrt, hsl]; exact hlen
    have h4 := words_l4 hn hl N hN (ordL (ky ns) (ups ns 0 ns.length)) hom hol (fun (l28, i10, i11) => some (l28, (0 : Int))) (ordL (ky ns) (ups ns 0 ns.length)).length 0 N (List.replicate ns.length []) 0 (by omega) (by omega) (by simp) (by rw [List.drop_zero, Nat.zero_add]; exact ht)
    refine Eq.trans h4 ?_
    rw [List.drop_zero, ord_ups]
    rfl
  by_cases h0 : (ups ns 0 ns.length).length = 0
  · rw [List.eq_nil_of_length_eq_zero h0, tot_nil] at hP
    omega
  · have h2 := fun kk hk => words_l2 (ns := ns) N hN kk (some (wordsL ns, 0)) hmem hlen hk ((ups ns 0 ns.length).length - 1) 1 N (by omega) (by omega)
    have htk : srt (ky ns) ((ups ns 0 ns.length).take 1) ++ (ups ns 0 ns.length).drop 1 = ups ns 0 ns.length := by
      rcases hu : ups ns 0 ns.length with _ | ⟨x, u⟩
      · rw [hu] at h0; exact absurd rfl h0
      · rfl
    simp only [htk] at h2
    refine h2 _ ?_
    exact hfin
end
/-- What a code's words are, whatever it is handed. -/
theorem chk_ok {l : List Int} (h : chkErr l = 0) : ∃ ns : List Nat, l = toI ns ∧ (∀ n ∈ ns, n ≤ 15) ∧ 1 ≤ ns.length ∧ ns.length ≤ 17 ∧ tot ns (ups ns 0 ns.length) ≤ 32768 ∧ 0 < tot ns (ups ns 0 ns.length) := by
  unfold chkErr at h
  split at h
  · cases h
  rename_i h1
  split at h
  rotate_left
  · cases h
  rename_i h2
  split at h
  · cases h
  rename_i h3
  have hall : ∀ e ∈ l, 0 ≤ e ∧ e ≤ 15 := fun e he => of_decide_eq_true (List.all_eq_true.1 h2 e he)
  have he : toI (l.map Int.toNat) = l := toNat_toI fun e h => (hall e h).1
  have hs := sumK_ups (ns := l.map Int.toNat) (l.map Int.toNat).length 0 (by omega)
  rw [he, List.drop_zero] at hs
  refine ⟨l.map Int.toNat, he.symm, ?_, by simp; omega, by simp; omega, by omega, by omega⟩
  intro n hn
  obtain ⟨e, h, rfl⟩ := List.mem_map.1 hn
  have := hall e h
  omega
def wordsOf (l : List Int) : List (List UInt8) := if chkErr l = 0 then wordsL (l.map Int.toNat) else []
theorem words_code (N : Nat) (hN : 100 ≤ N) (l : List Int) : D_code_Words N l = some (wordsOf l, chkErr l) := by
  unfold wordsOf
  by_cases h : chkErr l = 0
  · obtain ⟨ns, rfl, h1, h2, h3, h4, h5⟩ := chk_ok h
    rw [if_pos h, words_run h1 h3 N hN h4 h5 h, toI_toNat, h]
  · rw [if_neg h]
    unfold D_code_Words
    rw [check_code N hN, bsome, cT (by rw [dF h]; rfl)]
theorem wordsOf_len {l : List Int} (h : chkErr l = 0) : (wordsOf l).length = l.length := by
  unfold wordsOf wordsL
  rw [if_pos h, stp_len, List.length_replicate, List.length_map]
end Go.Proofs.YtpmnfhifmmfglacDoor

namespace Go.Proofs.YtpmnfhifmmfglacDoor
open Go
section
variable {ns : List Nat}
theorem fold_other {i : Nat} : ∀ (o : List Nat) (st : List (List UInt8) × Nat), i ∉ o → (o.foldl (stp ns) st).1[i]? = st.1[i]?
  | [], _, _ => rfl
  | k :: o, st, h => by
    simp only [List.mem_cons, not_or] at h
    rw [List.foldl_cons, fold_other o _ h.2]
    show (st.1.set k _)[i]? = _
    rw [List.getElem?_set_ne (fun e => h.1 e.symm)]
theorem fold_at {i : Nat} (A B : List Nat) (st : List (List UInt8) × Nat) (hB : i ∉ B) (hi : i < st.1.length) : ((A ++ i :: B).foldl (stp ns) st).1[i]? = some (wrd (st.2 + tot ns A) (ky ns i)) := by
  rw [List.foldl_append, List.foldl_cons, fold_other B _ hB]
  show ((A.foldl (stp ns) st).1.set i _)[i]? = _
  rw [List.getElem?_set_self (by rw [stp_len]; exact hi), stp_snd]
theorem ordL_mem {f : Nat → Nat} {o : List Nat} {i : Nat} : i ∈ ordL f o ↔ i ∈ o ∧ 1 ≤ f i ∧ f i ≤ 15 := by
  unfold ordL
  rw [List.mem_flatMap]
  constructor
  · rintro ⟨s, hs, h⟩
    have h1 := List.mem_range'_1.1 hs
    have h2 := List.mem_filter.1 h
    have h3 := of_decide_eq_true h2.2
    exact ⟨h2.1, by omega, by omega⟩
  · rintro ⟨h1, h2, h3⟩
    exact ⟨f i, List.mem_range'_1.2 ⟨h2, by omega⟩, List.mem_filter.2 ⟨h1, dT rfl⟩⟩
theorem ordL_pair (f : Nat → Nat) {o : List Nat} (ho : o.Pairwise (· < ·)) : (ordL f o).Pairwise (fun a b => f a ≤ f b ∧ a ≠ b) := by
  unfold ordL
  have : ∀ (j s : Nat), ((List.range' s j).flatMap fun s => o.filter fun i => decide (f i = s)).Pairwise (fun a b => f a ≤ f b ∧ a ≠ b) := by
    intro j
    induction j with
    | zero => intro s; exact List.Pairwise.nil
    | succ j ih =>
      intro s
      rw [List.range'_succ, List.flatMap_cons, List.pairwise_append]
      refine ⟨?_, ih (s + 1), ?_⟩
      · refine List.Pairwise.imp_of_mem ?_ (ho.filter _)
        intro a b ha hb hab
        have h1 := of_decide_eq_true (List.mem_filter.1 ha).2
        have h2 := of_decide_eq_true (List.mem_filter.1 hb).2
        exact ⟨by omega, by omega⟩
      · intro a ha b hb
        have h1 := of_decide_eq_true (List.mem_filter.1 ha).2
        obtain ⟨q, hq, hb⟩ := List.mem_flatMap.1 hb
        have h3 := List.mem_range'_1.1 hq
        have h2 := of_decide_eq_true (List.mem_filter.1 hb).2
        exact ⟨by omega, fun e => by subst e; omega⟩
  exact this 15 1
/-- The order of a code's words. -/
def ord (ns : List Nat) : List Nat := ordL (ky ns) (List.range' 0 ns.length)
theorem ord_pair (ns : List Nat) : (ord ns).Pairwise (fun a b => ky ns a ≤ ky ns b ∧ a ≠ b) := ordL_pair _ List.pairwise_lt_range'
theorem ord_mem {i : Nat} (hn : ∀ n ∈ ns, n ≤ 15) : i ∈ ord ns ↔ i < ns.length ∧ 1 ≤ ky ns i := by
  unfold ord
  rw [ordL_mem, List.mem_range'_1]
  have := ky_le hn i
  omega
theorem word_none {i : Nat} (hn : ∀ n ∈ ns, n ≤ 15) (hi : i < ns.length) (h : ky ns i = 0) : (wordsL ns)[i]? = some [] := by
  unfold wordsL
  rw [fold_other _ _ (fun hm => by have := ((ord_mem hn).1 hm).2; omega)]
  simp [hi]
theorem word_at {i : Nat} {A B : List Nat} (h : ord ns = A ++ i :: B) (hi : i < ns.length) : (wordsL ns)[i]? = some (wrd (tot ns A) (ky ns i)) := by
  have hp := ord_pair ns
  rw [h, List.pairwise_append] at hp
  have hB : i ∉ B := fun hm => ((List.pairwise_cons.1 hp.2.1).1 i hm).2 rfl
  unfold wordsL
  have h' : ordL (ky ns) (List.range' 0 ns.length) = A ++ i :: B := h
  rw [h', fold_at A B _ hB (by simpa using hi), Nat.zero_add]
theorem wrd_len (S n : Nat) : (wrd S n).length = n := by unfold wrd; rw [chs_len, dig_len]
theorem dvd_tot {n : Nat} : ∀ {A : List Nat}, (∀ a ∈ A, ky ns a ≤ n) → n ≤ 15 → 2 ^ (15 - n) ∣ tot ns A
  | [], _, _ => Nat.dvd_zero _
  | a :: A, h, hn => by
    rw [tot_cons]
    refine Nat.dvd_add (Nat.pow_dvd_pow 2 ?_) (dvd_tot (fun b hb => h b (by simp [hb])) hn)
    have := h a (by simp)
    omega
theorem chs_inj {l m : List Nat} (hl : ∀ y ∈ l, y < 2) (hm : ∀ y ∈ m, y < 2) (h : chs l = chs m) : l = m := by
  have e : ∀ l : List Nat, (∀ y ∈ l, y < 2) → (chs l).map (fun c => c.toNat - 48) = l := fun l hl => by
    unfold chs
    rw [List.map_map]
    conv => rhs; rw [← List.map_id l]
    refine List.map_congr_left fun y hy => ?_
    have := hl y hy
    rcases (show y = 0 ∨ y = 1 by omega) with rfl | rfl <;> rfl
  rw [← e l hl, h, e m hm]
/-- The first bits of a word. -/
theorem wrd_take {S n m : Nat} (hmn : m ≤ n) (hn : n ≤ 15) : (wrd S n).take m = chs (dig 2 m (S / 2 ^ (15 - m))) := by
  unfold wrd
  rw [show n = m + (n - m) by omega, dig_add, chs_app, List.take_append_of_le_length (by rw [chs_len, dig_len]; exact Nat.le_refl _), List.take_of_length_le (by rw [chs_len, dig_len]; exact Nat.le_refl _), Nat.div_div_eq_div_mul, ← Nat.pow_add]
  congr 4
  omega
theorem wrd_pre {S T n m : Nat} (hmn : m ≤ n) (hn : n ≤ 15) (hS : S < 32768) (hT : T < 32768) (h : (wrd S m) <+: (wrd T n)) : S / 2 ^ (15 - m) = T / 2 ^ (15 - m) := by
  have e := List.prefix_iff_eq_take.1 h
  rw [wrd_len, wrd_take hmn hn] at e
  have h2 := chs_inj (dig_lt (by decide) _ _) (dig_lt (by decide) _ _) e
  have h3 := congrArg (num 2) h2
  rw [num_dig, num_dig] at h3
  have lt : ∀ X, X < 32768 → X / 2 ^ (15 - m) < 2 ^ m := fun X hX => by
    refine Nat.div_lt_of_lt_mul ?_
    rw [← Nat.pow_add, show 15 - m + m = 15 by omega]
    exact hX
  rwa [Nat.mod_eq_of_lt (lt S hS), Nat.mod_eq_of_lt (lt T hT)] at h3
theorem split_two {α : Type} {x y : α} : ∀ {l : List α}, x ∈ l → y ∈ l → x ≠ y → (∃ A B C, l = A ++ x :: (B ++ y :: C)) ∨ ∃ A B C, l = A ++ y :: (B ++ x :: C)
  | [], h, _, _ => by cases h
  | z :: l, hx, hy, hne => by
    rcases List.mem_cons.1 hx with rfl | hx'
    · rcases List.mem_cons.1 hy with rfl | hy'
      · exact absurd rfl hne
      · obtain ⟨B, C, rfl⟩ := List.append_of_mem hy'
        exact .inl ⟨[], B, C, rfl⟩
    · rcases List.mem_cons.1 hy with rfl | hy'
      · obtain ⟨B, C, rfl⟩ := List.append_of_mem hx'
        exact .inr ⟨[], B, C, rfl⟩
      · rcases split_two hx' hy' hne with ⟨A, B, C, rfl⟩ | ⟨A, B, C, rfl⟩
        · exact .inl ⟨z :: A, B, C, rfl⟩
        · exact .inr ⟨z :: A, B, C, rfl⟩
theorem words_pf (hn : ∀ n ∈ ns, n ≤ 15) (hK : tot ns (ups ns 0 ns.length) ≤ 32768) {i j : Nat} {u v : List UInt8} (hij : i ≠ j) (hu : (wordsL ns)[i]? = some u) (hv : (wordsL ns)[j]? = some v) (h0 : u ≠ []) : ¬ (u <+: v) := by
  intro hp
  have hlen : (wordsL ns).length = ns.length := by unfold wordsL; rw [stp_len, List.length_replicate]
  have hi : i < ns.length := by rw [← hlen]; exact (List.getElem?_eq_some_iff.1 hu).1
  have hj : j < ns.length := by rw [← hlen]; exact (List.getElem?_eq_some_iff.1 hv).1
  have hT : tot ns (ord ns) ≤ 32768 := by
    unfold ord
    rw [← ord_ups, tot_ord _ fun x hx => ⟨(ups_mem hx).2.2, ky_le hn x⟩]; exact hK
  have hki : 1 ≤ ky ns i := by
    rcases Nat.eq_zero_or_pos (ky ns i) with h | h
    · rw [word_none hn hi h] at hu; cases hu; exact absurd rfl h0
    · exact h
  have hkj : 1 ≤ ky ns j := by
    rcases Nat.eq_zero_or_pos (ky ns j) with h | h
    · rw [word_none hn hj h] at hv; cases hv
      exact absurd (List.prefix_nil.1 hp) h0
    · exact h
  have hi15 := ky_le hn i
  have hj15 := ky_le hn j
  have hpi := Nat.two_pow_pos (15 - ky ns i)
  have hpj := Nat.two_pow_pos (15 - ky ns j)
  have hpair := ord_pair ns
  rcases split_two ((ord_mem hn).2 ⟨hi, hki⟩) ((ord_mem hn).2 ⟨hj, hkj⟩) hij with ⟨A, B, C, h⟩ | ⟨A, B, C, h⟩
  · -- i comes first
    have w1 := word_at h hi
    have w2 := word_at (A := A ++ i :: B) (B := C) (by rw [h]; simp) hj
    rw [hu] at w1; rw [hv] at w2
    cases w1; cases w2
    have hle := hp.length_le
    rw [wrd_len, wrd_len] at hle
    rw [h, tot_app, tot_cons, tot_app, tot_cons] at hT
    rw [tot_app, tot_cons] at hp
    have e := wrd_pre hle hj15 (by omega) (by omega) hp
    rw [h, List.pairwise_append] at hpair
    have hd : 2 ^ (15 - ky ns i) ∣ tot ns A := dvd_tot (fun a ha => (hpair.2.2 a ha i (by simp)).1) hi15
    obtain ⟨q, hq⟩ := hd
    rw [hq, Nat.mul_div_cancel_left _ hpi, show 2 ^ (15 - ky ns i) * q + (2 ^ (15 - ky ns i) + tot ns B) = 2 ^ (15 - ky ns i) * (q + 1) + tot ns B by rw [Nat.mul_add]; omega, Nat.mul_add_div hpi] at e
    generalize tot ns B / 2 ^ (15 - ky ns i) = z at e
    omega
  · -- j comes first: both are of one length
    have w1 := word_at (A := A ++ j :: B) (B := C) (by rw [h]; simp) hi
    have w2 := word_at h hj
    rw [hu] at w1; rw [hv] at w2
    cases w1; cases w2
    have hle := hp.length_le
    rw [wrd_len, wrd_len] at hle
    rw [h, List.pairwise_append] at hpair
    have hle2 : ky ns j ≤ ky ns i := ((List.pairwise_cons.1 hpair.2.1).1 i (by simp)).1
    have hkk : ky ns i = ky ns j := by omega
    rw [h, tot_app, tot_cons, tot_app, tot_cons] at hT
    rw [tot_app, tot_cons] at hp
    have e := wrd_pre hle hj15 (by omega) (by omega) hp
    have hd : 2 ^ (15 - ky ns j) ∣ tot ns A := dvd_tot (fun a ha => (hpair.2.2 a ha j (by simp)).1) hj15
    obtain ⟨q, hq⟩ := hd
    rw [hkk, hq, Nat.mul_div_cancel_left _ hpj, show 2 ^ (15 - ky ns j) * q + (2 ^ (15 - ky ns j) + tot ns B) = 2 ^ (15 - ky ns j) * (q + 1) + tot ns B by rw [Nat.mul_add]; omega, Nat.mul_add_div hpj] at e
    generalize tot ns B / 2 ^ (15 - ky ns j) = z at e
    omega
end
/-- A set of words, none of which begins with another one. -/
def PF (W : List (List UInt8)) : Prop := ∀ (i j : Nat) (u v : List UInt8), i ≠ j → W[i]? = some u → W[j]? = some v → u ≠ [] → ¬ (u <+: v)
def bitW (W : List (List UInt8)) : Prop := ∀ w ∈ W, isB w = true ∧ w.length ≤ 15
theorem isB_chs {l : List Nat} (h : ∀ y ∈ l, y < 2) : isB (chs l) = true := by
  unfold isB chs
  rw [List.all_map, List.all_eq_true]
  intro y hy
  have := h y hy
  rcases (show y = 0 ∨ y = 1 by omega) with rfl | rfl <;> rfl
theorem wordsOf_pf (l : List Int) : PF (wordsOf l) := by
  intro i j u v hij hu hv h0
  unfold wordsOf at hu hv
  by_cases h : chkErr l = 0
  · obtain ⟨ns, rfl, h1, h2, h3, h4, h5⟩ := chk_ok h
    rw [if_pos h, toI_toNat] at hu hv
    exact words_pf h1 h4 hij hu hv h0
  · rw [if_neg h] at hu; simp at hu
theorem wordsOf_bits (l : List Int) : bitW (wordsOf l) := by
  intro w hw
  unfold wordsOf at hw
  by_cases h : chkErr l = 0
  · obtain ⟨ns, rfl, h1, h2, h3, h4, h5⟩ := chk_ok h
    rw [if_pos h, toI_toNat] at hw
    obtain ⟨i, hi⟩ := List.mem_iff_getElem?.1 hw
    have hlen : (wordsL ns).length = ns.length := by unfold wordsL; rw [stp_len, List.length_replicate]
    have hi' : i < ns.length := by rw [← hlen]; exact (List.getElem?_eq_some_iff.1 hi).1
    rcases Nat.eq_zero_or_pos (ky ns i) with h0 | h0
    · rw [word_none h1 hi' h0] at hi; cases hi; exact ⟨rfl, by simp⟩
    · obtain ⟨A, B, hAB⟩ := List.append_of_mem ((ord_mem h1).2 ⟨hi', h0⟩)
      rw [word_at hAB hi'] at hi
      cases hi
      refine ⟨isB_chs (dig_lt (by decide) _ _), ?_⟩
      rw [wrd_len]; exact ky_le h1 i
  · rw [if_neg h] at hw; cases hw
end Go.Proofs.YtpmnfhifmmfglacDoor

namespace Go.Proofs.YtpmnfhifmmfglacDoor
open Go
theorem sli_take {α : Type} {xs : List α} {k : Nat} (h : k ≤ xs.length) : sli xs 0 (k : Int) = some (xs.take k) := by
  rw [sli_eq (by omega), Int.toNat_natCast]; rfl
theorem sli_drop {α : Type} {xs : List α} {k : Nat} (h : k ≤ xs.length) : sli xs (k : Int) (xs.length : Int) = some (xs.drop k) := by
  rw [sli_eq (by omega), Int.toNat_natCast, Int.toNat_natCast, List.take_length]
theorem mlook_eq {m : List (List UInt8 × Int)} {s : List UInt8} (h : s.length ≤ 281474976710656) : mlook m s = some ((mget m s).getD 0, (mget m s).isSome) := by unfold mlook; rw [if_pos h]
theorem mput_eq {m : List (List UInt8 × Int)} {s : List UInt8} {v : Int} (h : m.length < 1099511627776 ∧ s.length ≤ 281474976710656 ∧ -9223372036854775808 ≤ v ∧ v ≤ 9223372036854775807) : mput m s v = some ((s, v) :: m) := by unfold mput; rw [if_pos h]
theorem mget_cons (k s : List UInt8) (v : Int) (m : List (List UInt8 × Int)) : mget ((k, v) :: m) s = if k = s then some v else mget m s := rfl
/-- What a book of words holds. -/
structure BK (V : List (List UInt8)) (m : List (List UInt8 × Int)) : Prop where
  wd : ∀ (i : Nat) (s : List UInt8), V[i]? = some s → s ≠ [] → mget m s = some (i : Int)
  pr : ∀ (s w : List UInt8), w ∈ V → s <+: w → s ≠ w → mget m s = some (-1)
  no : ∀ (s : List UInt8), (∀ w ∈ V, w ≠ [] → ¬ s <+: w) → mget m s = none
theorem PF.sub {V : List (List UInt8)} {w : List UInt8} (h : PF (V ++ [w])) : PF V := fun i j u v hij hu hv h0 =>
  h i j u v hij (by rw [List.getElem?_append_left (List.getElem?_eq_some_iff.1 hu).1]; exact hu) (by rw [List.getElem?_append_left (List.getElem?_eq_some_iff.1 hv).1]; exact hv) h0
theorem PF.last {V : List (List UInt8)} {w u : List UInt8} (h : PF (V ++ [w])) (hu : u ∈ V) : (u ≠ [] → ¬ u <+: w) ∧ (w ≠ [] → ¬ w <+: u) := by
  obtain ⟨i, hi⟩ := List.mem_iff_getElem?.1 hu
  have hlt := (List.getElem?_eq_some_iff.1 hi).1
  have h1 : (V ++ [w])[i]? = some u := by rw [List.getElem?_append_left hlt]; exact hi
  have h2 : (V ++ [w])[V.length]? = some w := by simp
  exact ⟨h i V.length u w (by omega) h1 h2, h V.length i w u (by omega) h2 h1⟩
/-- Behind the prefixes of a word. -/
theorem BK.step {V : List (List UInt8)} {w : List UInt8} {m m2 : List (List UInt8 × Int)} (B : BK V m) (hp : PF (V ++ [w])) (hw : w ≠ [])
    (h1 : ∀ s, s <+: w → s ≠ w → mget m s = none → mget m2 s = some (-1)) (h2 : ∀ s, ¬ (s <+: w ∧ s ≠ w ∧ mget m s = none) → mget m2 s = mget m s) : BK (V ++ [w]) ((w, (V.length : Int)) :: m2) := by
  have pre : ∀ s, s <+: w → s ≠ w → mget m2 s = some (-1) := fun s h3 h4 => by
    rcases hm : mget m s with _ | x
    · exact h1 s h3 h4 hm
    · rw [h2 s (fun h => by rw [h.2.2] at hm; cases hm), hm]
      by_cases hex : ∃ u ∈ V, u ≠ [] ∧ s <+: u
      · obtain ⟨u, hu, hu0, hsu⟩ := hex
        by_cases e : s = u
        · subst e; exact absurd h3 ((hp.last hu).1 hu0)
        · rw [← hm]; exact B.pr s u hu hsu e
      · rw [B.no s fun u hu hu0 hsu => hex ⟨u, hu, hu0, hsu⟩] at hm; cases hm
  refine ⟨fun i s hi h0 => ?_, fun s u hu h3 h4 => ?_, fun s h => ?_⟩
  · rw [mget_cons]
    by_cases hlt : i < V.length
    · rw [List.getElem?_append_left hlt] at hi
      have hmem := List.mem_of_getElem? hi
      rw [if_neg (fun e => by subst e; exact (hp.last hmem).1 h0 (List.prefix_refl _)), h2 s (fun h => (hp.last hmem).1 h0 h.1)]
      exact B.wd i s hi h0
    · have hl := (List.getElem?_eq_some_iff.1 hi).1
      simp at hl
      obtain rfl : i = V.length := by omega
      simp at hi
      rw [if_pos hi]
  · rw [mget_cons]
    rcases List.mem_append.1 hu with hu | hu
    · rw [if_neg (fun e => by subst e; exact (hp.last hu).2 hw h3)]
      have := B.pr s u hu h3 h4
      rw [h2 s (fun h => by rw [h.2.2] at this; cases this)]
      exact this
    · obtain rfl : u = w := by simpa using hu
      rw [if_neg (fun e => h4 e.symm)]
      exact pre s h3 h4
  · rw [mget_cons]
    have hsw := h w (by simp) hw
    rw [if_neg (fun e => hsw (by subst e; exact List.prefix_refl _)), h2 s (fun h => hsw h.1)]
    exact B.no s fun u hu hu0 => h u (by simp [hu]) hu0
theorem BK.nil {V : List (List UInt8)} {m : List (List UInt8 × Int)} (B : BK V m) : BK (V ++ [[]]) m := by
  refine ⟨fun i s hi h0 => ?_, fun s u hu h3 h4 => ?_, fun s h => ?_⟩
  · by_cases hlt : i < V.length
    · rw [List.getElem?_append_left hlt] at hi; exact B.wd i s hi h0
    · have hl := (List.getElem?_eq_some_iff.1 hi).1
      simp at hl
      obtain rfl : i = V.length := by omega
      simp at hi
      exact absurd hi h0
  · rcases List.mem_append.1 hu with hu | hu
    · exact B.pr s u hu h3 h4
    · obtain rfl : u = [] := by simpa using hu
      exact absurd (List.prefix_nil.1 h3) h4
  · exact B.no s fun u hu hu0 => h u (by simp [hu]) hu0
theorem read_l2 (N : Nat) {w : List UInt8} (hw : w.length ≤ 15) (m0 : List (List UInt8 × Int)) (kk : List (List UInt8 × Int) × Int → Option (List Int × List UInt8 × Int)) (r) (T : Nat) (hT : T ≤ 1000)
    (hk : ∀ m2 i, m2.length ≤ T + w.length → (∀ s, s <+: w → s ≠ w → mget m0 s = none → mget m2 s = some (-1)) → (∀ s, ¬ (s <+: w ∧ s ≠ w ∧ mget m0 s = none) → mget m2 s = mget m0 s) → kk (m2, i) = r) :
    ∀ (j k fuel : Nat) (m : List (List UInt8 × Int)), k + j = w.length → j < fuel → m.length ≤ T + k → (∀ s, mget m s = if (∃ q, q < k ∧ s = w.take q) ∧ mget m0 s = none then some (-1) else mget m0 s) →
    D_code_Read_l2 N w kk fuel (m, (k : Int)) = r := by
  intro j
  induction j with
  | zero =>
    intro k fuel m hkj hf hml hm
    obtain ⟨fuel, rfl⟩ : ∃ q, fuel = q + 1 := ⟨fuel - 1, by omega⟩
    unfold D_code_Read_l2
    rw [cF (dF (by omega))]
    refine hk m _ (by omega) (fun s h1 h2 h3 => ?_) (fun s h => ?_)
    · rw [hm, if_pos]
      refine ⟨⟨s.length, ?_, (List.prefix_iff_eq_take.1 h1)⟩, h3⟩
      have hle := h1.length_le
      rcases Nat.lt_or_ge s.length w.length with h | h
      · omega
      · exact absurd (h1.eq_of_length (by omega)) h2
    · rw [hm, if_neg]
      rintro ⟨⟨q, hq, rfl⟩, h3⟩
      refine h ⟨List.take_prefix _ _, fun e => ?_, h3⟩
      have := congrArg List.length e
      rw [List.length_take] at this
      omega
  | succ j ih =>
    intro k fuel m hkj hf hml hm
    obtain ⟨fuel, rfl⟩ : ∃ q, fuel = q + 1 := ⟨fuel - 1, by omega⟩
    have hnx : IntKind.i64.wrap ((k : Int) + 1) = ((k + 1 : Nat) : Int) := by rw [w64 (by omega)]; rfl
    have hlt : (w.take k).length = k := by rw [List.length_take]; omega
    have inj : ∀ q, q < k → w.take k ≠ w.take q := fun q hq e => by
      have := congrArg List.length e
      rw [hlt, List.length_take] at this
      omega
    have hsame : mget m (w.take k) = mget m0 (w.take k) := by
      rw [hm, if_neg]
      rintro ⟨⟨q, hq, e⟩, _⟩
      exact inj q hq e
    unfold D_code_Read_l2
    rw [cT (dT (by omega)), sli_take (by omega), bsome, mlook_eq (by omega), bsome, hsame]
    rcases h0 : mget m0 (w.take k) with _ | x
    · rw [cT (by rfl), bsome, mput_eq (by omega), bsome, hnx]
      refine ih (k + 1) fuel _ (by omega) (by omega) (by simp; omega) fun s => ?_
      rw [mget_cons, hm]
      by_cases e : w.take k = s
      · subst e
        rw [if_pos rfl, if_pos ⟨⟨k, by omega, rfl⟩, h0⟩]
      · rw [if_neg e]
        have : (∃ q, q < k + 1 ∧ s = w.take q) ↔ ∃ q, q < k ∧ s = w.take q := by
          constructor
          · rintro ⟨q, hq, rfl⟩
            rcases Nat.lt_or_ge q k with h | h
            · exact ⟨q, h, rfl⟩
            · obtain rfl : q = k := by omega
              exact absurd rfl e
          · rintro ⟨q, hq, rfl⟩; exact ⟨q, by omega, rfl⟩
        simp only [this]
    · rw [cF (by rfl), hnx]
      refine ih (k + 1) fuel m (by omega) (by omega) (by omega) fun s => ?_
      rw [hm]
      have : ((∃ q, q < k + 1 ∧ s = w.take q) ∧ mget m0 s = none) ↔ (∃ q, q < k ∧ s = w.take q) ∧ mget m0 s = none := by
        constructor
        · rintro ⟨⟨q, hq, rfl⟩, h3⟩
          rcases Nat.lt_or_ge q k with h | h
          · exact ⟨⟨q, h, rfl⟩, h3⟩
          · obtain rfl : q = k := by omega
            rw [h0] at h3; cases h3
        · rintro ⟨⟨q, hq, rfl⟩, h3⟩; exact ⟨⟨q, by omega, rfl⟩, h3⟩
      simp only [this]
theorem read_l1 (N : Nat) (hN : 100 ≤ N) {W : List (List UInt8)} (hW : W.length ≤ 17) (hb : bitW W) (hp : PF W) (e : Int) (kk : List (List UInt8 × Int) × Int → Option (List Int × List UInt8 × Int)) (r) (hk : ∀ m i, BK W m → kk (m, i) = r) :
    ∀ (j k fuel : Nat) (m : List (List UInt8 × Int)), k + j = W.length → j < fuel → m.length ≤ 16 * k → BK (W.take k) m → D_code_Read_l1 N (W, e) kk fuel (m, (k : Int)) = r := by
  intro j
  induction j with
  | zero =>
    intro k fuel m hkj hf hml B
    obtain ⟨fuel, rfl⟩ : ∃ q, fuel = q + 1 := ⟨fuel - 1, by omega⟩
    unfold D_code_Read_l1
    rw [cF (dF (by show ¬ ((k : Int) < (W.length : Int)); omega))]
    rw [List.take_of_length_le (by omega)] at B
    exact hk _ _ B
  | succ j ih =>
    intro k fuel m hkj hf hml B
    obtain ⟨fuel, rfl⟩ : ∃ q, fuel = q + 1 := ⟨fuel - 1, by omega⟩
    have hlt : k < W.length := by omega
    have hnx : IntKind.i64.wrap ((k : Int) + 1) = ((k + 1 : Nat) : Int) := by rw [w64 (by omega)]; rfl
    have hw := hb _ (List.getElem_mem hlt)
    have htk : W.take (k + 1) = W.take k ++ [W[k]] := by rw [List.take_add_one, List.getElem?_eq_getElem hlt]; rfl
    have hpk : PF (W.take k ++ [W[k]]) := by
      rw [← htk]
      intro i j' u v hij hu hv h0
      rw [List.getElem?_take] at hu hv
      split at hu
      · split at hv
        · exact hp i j' u v hij hu hv h0
        · cases hv
      · cases hu
    have hkl : (W.take k).length = k := by rw [List.length_take]; omega
    unfold D_code_Read_l1
    rw [cT (dT (by show (k : Int) < (W.length : Int); omega)), idx_nat]
    show Option.bind W[k]? _ = _
    rw [List.getElem?_eq_getElem hlt, bsome]
    refine read_l2 N hw.2 m _ r (16 * k) (by omega) (fun m2 i hm2 h1 h2 => ?_) W[k].length 0 N m (by omega) (by omega) (by omega) (fun s => by rw [if_neg]; rintro ⟨⟨q, hq, _⟩, _⟩; omega)
    dsimp only
    by_cases h0 : W[k] = []
    · rw [cF (by rw [dT h0]; rfl), hnx]
      refine ih (k + 1) fuel m2 (by omega) (by omega) (by have := hw.2; omega) ?_
      rw [htk, h0]
      have B2 := B.nil
      have same : ∀ s, mget m2 s = mget m s := fun s => h2 s fun h => by rw [h0] at h; exact h.2.1 (List.prefix_nil.1 h.1)
      exact ⟨fun i s a b => by rw [same]; exact B2.wd i s a b, fun s w a b c => by rw [same]; exact B2.pr s w a b c, fun s a => by rw [same]; exact B2.no s a⟩
    · rw [cT (by rw [dF h0]; rfl), mput_eq (by have := hw.2; omega), bsome, hnx]
      refine ih (k + 1) fuel _ (by omega) (by omega) (by have := hw.2; simp; omega) ?_
      rw [htk]
      have := B.step hpk h0 h1 h2
      rw [hkl] at this
      exact this
def isW (b w : List UInt8) : Bool := !w.isEmpty && w.isPrefixOf b
def frI (W : List (List UInt8)) (b : List UInt8) : Option Nat := W.findIdx? (isW b)
def frE (W : List (List UInt8)) (b : List UInt8) : Int := if W.any (fun w => !w.isEmpty && b.isPrefixOf w) = true then 5 else 4
def rdL (W : List (List UInt8)) : Nat → List Int → List UInt8 → List Int × List UInt8 × Int
  | 0, out, b => (out, b, 0)
  | n + 1, out, b => match frI W b with
    | some i => rdL W n (out ++ [(i : Int)]) (b.drop (W.getD i []).length)
    | none => ([], [], frE W b)
theorem isW_iff {b w : List UInt8} : isW b w = true ↔ w ≠ [] ∧ w <+: b := by
  unfold isW
  rw [Bool.and_eq_true, List.isPrefixOf_iff_prefix]
  cases w <;> simp
theorem frI_some {W : List (List UInt8)} {b : List UInt8} {i : Nat} (h : frI W b = some i) : ∃ u, W[i]? = some u ∧ u ≠ [] ∧ u <+: b := by
  obtain ⟨hi, h1, _⟩ := List.findIdx?_eq_some_iff_getElem.1 h
  obtain ⟨h2, h3⟩ := isW_iff.1 h1
  exact ⟨_, List.getElem?_eq_getElem hi, h2, h3⟩
theorem frI_none {W : List (List UInt8)} {b : List UInt8} (h : frI W b = none) : ∀ w ∈ W, w ≠ [] → ¬ w <+: b := fun w hw h0 hp => by
  have := List.findIdx?_eq_none_iff.1 h w hw
  rw [isW_iff.2 ⟨h0, hp⟩] at this
  cases this
theorem frI_of {W : List (List UInt8)} (hp : PF W) {b u : List UInt8} {i : Nat} (hi : W[i]? = some u) (h0 : u ≠ []) (hb : u <+: b) : frI W b = some i := by
  rcases h : frI W b with _ | j
  · exact absurd hb (frI_none h u (List.mem_of_getElem? hi) h0)
  · obtain ⟨v, hv, hv0, hvb⟩ := frI_some h
    by_cases e : j = i
    · rw [e]
    · exfalso
      rcases Nat.le_total u.length v.length with hl | hl
      · exact hp i j u v (fun q => e q.symm) hi hv h0 (List.prefix_of_prefix_length_le hb hvb hl)
      · exact hp j i v u e hv hi hv0 (List.prefix_of_prefix_length_le hvb hb hl)
section
variable {W : List (List UInt8)} {m : List (List UInt8 × Int)} (hb : bitW W) (B : BK W m) {b : List UInt8} (hbl : b.length ≤ 281474976710656)
  (kk : Int × Int → Option (List Int × List UInt8 × Int))
include B hbl in
theorem read_hit (N : Nat) {u : List UInt8} {i : Nat} (hi : W[i]? = some u) (h0 : u ≠ []) (hu : u <+: b) : ∀ (j k fuel : Nat), k + j = u.length → j + 1 < fuel → D_code_Read_l4 N m b kk fuel ((k : Int), -1) = kk ((u.length : Int), (i : Int)) := by
  intro j
  have hle := hu.length_le
  have hut := List.prefix_iff_eq_take.1 hu
  induction j with
  | zero =>
    intro k fuel hkj hf
    obtain ⟨fuel, rfl⟩ : ∃ q, fuel = q + 2 := ⟨fuel - 2, by omega⟩
    obtain rfl : k = u.length := by omega
    unfold D_code_Read_l4
    rw [cT (by decide), sli_take (by omega), bsome, mlook_eq (by rw [List.length_take]; omega), bsome, ← hut, B.wd i u hi h0, cF (by rfl), cT (by exact dT (Int.natCast_nonneg _))]
    show D_code_Read_l4 N m b kk (fuel + 1) ((u.length : Int), (i : Int)) = _
    unfold D_code_Read_l4
    rw [cF (dF (by omega))]
  | succ j ih =>
    intro k fuel hkj hf
    obtain ⟨fuel, rfl⟩ : ∃ q, fuel = q + 1 := ⟨fuel - 1, by omega⟩
    have hnx : IntKind.i64.wrap ((k : Int) + 1) = ((k + 1 : Nat) : Int) := by rw [w64 (by omega)]; rfl
    have hpr : mget m (b.take k) = some (-1) := by
      have e : b.take k = u.take k := by rw [hut, List.take_take, Nat.min_eq_left (by omega)]
      rw [e]
      refine B.pr _ u (List.mem_of_getElem? hi) (List.take_prefix _ _) fun e => ?_
      have := congrArg List.length e
      rw [List.length_take] at this
      omega
    unfold D_code_Read_l4
    rw [cT (by decide), sli_take (by omega), bsome, mlook_eq (by rw [List.length_take]; omega), bsome, hpr, cF (by rfl), cF (by rfl), cF (dF (by omega)), hnx, bsome]
    exact ih (k + 1) fuel (by omega) (by omega)
include hb B hbl in
theorem read_miss (N : Nat) (hno : ∀ w ∈ W, w ≠ [] → ¬ w <+: b) : ∀ (j k fuel : Nat), k + j = 16 → k ≤ b.length → j < fuel → D_code_Read_l4 N m b kk fuel ((k : Int), -1) = some ([], [], frE W b) := by
  intro j
  induction j with
  | zero =>
    intro k fuel hkj hkb hf
    obtain ⟨fuel, rfl⟩ : ∃ q, fuel = q + 1 := ⟨fuel - 1, by omega⟩
    have hno2 : ∀ w ∈ W, w ≠ [] → ¬ (b.take k) <+: w := fun w hw _ h => by
      have h1 := h.length_le
      have := (hb w hw).2
      rw [List.length_take] at h1
      omega
    unfold D_code_Read_l4
    rw [cT (by decide), sli_take (by omega), bsome, mlook_eq (by rw [List.length_take]; omega), bsome, B.no _ hno2, cT (by rfl)]
    unfold frE
    rw [if_neg]
    rw [List.any_eq_true]
    rintro ⟨w, hw, h⟩
    have h2 := isW_iff (b := w) (w := b)
    simp only [Bool.and_eq_true, List.isPrefixOf_iff_prefix] at h
    have h1 := h.2.length_le
    have := (hb w hw).2
    omega
  | succ j ih =>
    intro k fuel hkj hkb hf
    obtain ⟨fuel, rfl⟩ : ∃ q, fuel = q + 1 := ⟨fuel - 1, by omega⟩
    have hnx : IntKind.i64.wrap ((k : Int) + 1) = ((k + 1 : Nat) : Int) := by rw [w64 (by omega)]; rfl
    unfold D_code_Read_l4
    rw [cT (by decide), sli_take hkb, bsome, mlook_eq (by rw [List.length_take]; omega), bsome]
    by_cases hex : ∃ w ∈ W, w ≠ [] ∧ (b.take k) <+: w
    · obtain ⟨w, hw, hw0, hwp⟩ := hex
      have hne : b.take k ≠ w := fun e => hno w hw hw0 (by rw [← e]; exact List.take_prefix _ _)
      rw [B.pr _ w hw hwp hne, cF (by rfl), cF (by rfl)]
      by_cases he : k = b.length
      · rw [cT (dT (by omega))]
        unfold frE
        rw [if_pos]
        rw [List.any_eq_true]
        refine ⟨w, hw, ?_⟩
        rw [he, List.take_length] at hwp
        rw [Bool.and_eq_true, List.isPrefixOf_iff_prefix]
        exact ⟨by cases w; exact absurd rfl hw0; rfl, hwp⟩
      · rw [cF (dF (by omega)), hnx, bsome]
        exact ih (k + 1) fuel (by omega) (by omega) (by omega)
    · rw [B.no _ (fun w hw hw0 hwp => hex ⟨w, hw, hw0, hwp⟩), cT (by rfl)]
      unfold frE
      rw [if_neg]
      rw [List.any_eq_true]
      rintro ⟨w, hw, h⟩
      simp only [Bool.and_eq_true, List.isPrefixOf_iff_prefix] at h
      refine hex ⟨w, hw, ?_, (List.take_prefix _ _).trans h.2⟩
      intro e; rw [e] at h; simp at h
end
theorem read_l3 (N : Nat) (hN : 5000 ≤ N) {W : List (List UInt8)} {m : List (List UInt8 × Int)} (hb : bitW W) (B : BK W m) {p : Nat} (hp : p ≤ 4096) : ∀ (n fuel : Nat) (out : List Int) (b : List UInt8), out.length + n = p → n < fuel → b.length ≤ 281474976710656 →
    D_code_Read_l3 N (p : Int) m (fun (l6, o3) => some (l6, o3, 0)) fuel (out, b) = some (rdL W n out b) := by
  intro n
  induction n with
  | zero =>
    intro fuel out b ho hf hbl
    obtain ⟨fuel, rfl⟩ : ∃ q, fuel = q + 1 := ⟨fuel - 1, by omega⟩
    unfold D_code_Read_l3
    rw [cF (dF (by omega))]; rfl
  | succ n ih =>
    intro fuel out b ho hf hbl
    obtain ⟨fuel, rfl⟩ : ∃ q, fuel = q + 1 := ⟨fuel - 1, by omega⟩
    unfold D_code_Read_l3
    rw [cT (dT (by omega))]
    rcases h : frI W b with _ | i
    · have := read_miss hb B hbl (fun (i12, i13) => Option.bind (app 8 out ([i13] : List Int)) fun l5 => Option.bind (sli b i12 (b.length : Int)) fun s13 => D_code_Read_l3 N (p : Int) m (fun (l6, o3) => some (l6, o3, 0)) fuel (l5, s13)) N (frI_none h) 16 0 N (by omega) (by omega) (by omega)
      refine Eq.trans this ?_
      unfold rdL
      rw [h]
    · obtain ⟨u, hu, hu0, hub⟩ := frI_some h
      have hu15 := (hb u (List.mem_of_getElem? hu)).2
      have := read_hit B hbl (fun (i12, i13) => Option.bind (app 8 out ([i13] : List Int)) fun l5 => Option.bind (sli b i12 (b.length : Int)) fun s13 => D_code_Read_l3 N (p : Int) m (fun (l6, o3) => some (l6, o3, 0)) fuel (l5, s13)) N hu hu0 hub u.length 0 N (by omega) (by omega)
      refine Eq.trans this ?_
      dsimp only
      rw [app_eq (by simp; omega), bsome, sli_drop hub.length_le, bsome, ih fuel _ _ (by simp; omega) (by omega) (by rw [List.length_drop]; omega)]
      conv => rhs; unfold rdL
      rw [h]
      dsimp only
      rw [List.getD_eq_getElem?_getD, hu]; rfl
/-- What Read answers. -/
def readR (l : List Int) (b : List UInt8) (n : Int) : List Int × List UInt8 × Int :=
  if chkErr l ≠ 0 then ([], [], chkErr l) else if n < 0 ∨ 4096 < n then ([], [], 3) else if isB b = true then rdL (wordsOf l) n.toNat [] b else ([], [], 1)
theorem read_code (N : Nat) (l : List Int) (b : List UInt8) (n : Int) (hb : b.length ≤ 281474976710656) (hN : 5000 ≤ N ∧ b.length < N) : D_code_Read N l b n = some (readR l b n) := by
  unfold D_code_Read readR
  rw [words_code N (by omega), bsome]
  by_cases h : chkErr l = 0
  · rw [cF (by rw [show (wordsOf l, chkErr l).2 = 0 from h]; rfl), if_neg (by simpa using h)]
    by_cases h1 : n < 0
    · rw [cT (dT h1), if_pos (.inl h1)]
    rw [cF (dF h1)]
    by_cases h2 : 4096 < n
    · rw [cT (dT h2), if_pos (.inr h2)]
    rw [cF (dF h2), if_neg (by omega), bytes_code N hb hN.2, bsome]
    by_cases h3 : isB b = true
    · rw [if_pos h3, if_pos h3, cF (by rfl)]
      have hl17 : (wordsOf l).length ≤ 17 := by
        rw [wordsOf_len h]
        obtain ⟨ns, rfl, _, _, h17, _⟩ := chk_ok h
        rw [toI_len]; exact h17
      obtain ⟨q, rfl⟩ := Int.eq_ofNat_of_zero_le (show 0 ≤ n by omega)
      refine read_l1 N (by omega) hl17 (wordsOf_bits l) (wordsOf_pf l) (chkErr l) _ _ (fun m i B => ?_) (wordsOf l).length 0 N [] (by omega) (by omega) (by simp) ⟨fun i s h => by simp at h, fun s w h => by simp at h, fun s _ => rfl⟩
      exact read_l3 N hN.1 (wordsOf_bits l) B (by omega) q N [] b (by simp) (by omega) hb
    · rw [if_neg h3, if_neg h3, cT (by rfl)]
  · rw [cT (by rw [show (wordsOf l, chkErr l).2 = chkErr l from rfl, dF h]; rfl), if_pos h]
def wOK (W : List (List UInt8)) (n : Int) : Bool := decide (0 ≤ n ∧ n < W.length) && !(W.getD n.toNat []).isEmpty
def wcat (W : List (List UInt8)) (l : List Int) : List UInt8 := l.flatMap fun n => W.getD n.toNat []
theorem wcat_cons (W : List (List UInt8)) (n : Int) (l : List Int) : wcat W (n :: l) = W.getD n.toNat [] ++ wcat W l := rfl
theorem write_l1 (N : Nat) {W : List (List UInt8)} (hb : bitW W) {l : List Int} (hl : l.length ≤ 4096) (e : Int) (kk) : ∀ (j k fuel : Nat) (acc : List UInt8), k + j = l.length → j < fuel → acc.length ≤ 15 * k →
    D_code_Write_l1 N l (W, e) kk fuel (acc, (k : Int)) = if (l.drop k).all (wOK W) = true then kk (acc ++ wcat W (l.drop k), (l.length : Int)) else some ([], 4) := by
  intro j
  induction j with
  | zero =>
    intro k fuel acc hk hf ha
    obtain ⟨fuel, rfl⟩ : ∃ q, fuel = q + 1 := ⟨fuel - 1, by omega⟩
    obtain rfl : k = l.length := by omega
    unfold D_code_Write_l1
    rw [cF (dF (by omega)), List.drop_length, if_pos (by rfl)]
    simp [wcat]
  | succ j ih =>
    intro k fuel acc hk hf ha
    obtain ⟨fuel, rfl⟩ : ∃ q, fuel = q + 1 := ⟨fuel - 1, by omega⟩
    have hlt : k < l.length := by omega
    have hnx : IntKind.i64.wrap ((k : Int) + 1) = ((k + 1 : Nat) : Int) := by rw [w64 (by omega)]; rfl
    unfold D_code_Write_l1
    rw [cT (dT (by omega)), idx_nat, List.getElem?_eq_getElem hlt, bsome, List.drop_eq_getElem_cons hlt, List.all_cons, wcat_cons]
    generalize l[k] = n
    by_cases h1 : n < 0
    · rw [cT (dT h1), if_neg]
      rw [show wOK W n = false by unfold wOK; rw [dF (by omega)]; rfl]; simp
    rw [cF (dF h1)]
    by_cases h2 : (W.length : Int) ≤ n
    · rw [cT (by exact dT h2), if_neg]
      rw [show wOK W n = false by unfold wOK; rw [dF (by omega)]; rfl]; simp
    rw [cF (by exact dF h2)]
    obtain ⟨q, rfl⟩ := Int.eq_ofNat_of_zero_le (show 0 ≤ n by omega)
    have hq : q < W.length := by omega
    have hgd : W.getD q [] = W[q] := by rw [List.getD_eq_getElem?_getD, List.getElem?_eq_getElem hq]; rfl
    have hok : wOK W (q : Int) = !(W[q]).isEmpty := by
      unfold wOK
      rw [dT (by omega), Int.toNat_natCast, hgd, Bool.true_and]
    have hi : idx (W, e).1 (q : Int) = some W[q] := by rw [idx_nat]; exact List.getElem?_eq_getElem hq
    rw [hi, bsome]
    by_cases h3 : W[q] = []
    · rw [cT (dT h3), if_neg]
      rw [hok, h3]; simp
    · have hw := (hb _ (List.getElem_mem hq)).2
      rw [cF (dF h3), bsome, show bwr acc W[q] = some (acc ++ W[q]) by unfold bwr; rw [if_pos (by omega)], bsome, hnx, ih (k + 1) fuel _ (by omega) (by omega) (by rw [List.length_append]; omega), hok, Int.toNat_natCast, hgd, List.append_assoc, show (!(W[q]).isEmpty) = true by cases hc : W[q]; exact absurd hc h3; rfl, Bool.true_and]
def writeR (c l : List Int) : List UInt8 × Int :=
  if chkErr c ≠ 0 then ([], chkErr c) else if 4096 < l.length then ([], 2) else if l.all (wOK (wordsOf c)) = true then (wcat (wordsOf c) l, 0) else ([], 4)
theorem write_code (N : Nat) (hN : 5000 ≤ N) (c l : List Int) : D_code_Write N c l = some (writeR c l) := by
  unfold D_code_Write writeR
  rw [words_code N (by omega), bsome]
  by_cases h : chkErr c = 0
  · rw [cF (by rw [show (wordsOf c, chkErr c).2 = 0 from h]; rfl), if_neg (by simpa using h)]
    by_cases h1 : 4096 < l.length
    · rw [cT (dT (by omega)), if_pos h1]
    rw [cF (dF (by omega)), if_neg h1]
    have key := write_l1 N (wordsOf_bits c) (l := l) (by omega) (chkErr c) (fun (l4, i2) => some (l4, 0)) l.length 0 N [] (by omega) (by omega) (by simp)
    refine Eq.trans key ?_
    rw [List.drop_zero, List.nil_append]
    split <;> rfl
  · rw [cT (by rw [show (wordsOf c, chkErr c).2 = chkErr c from rfl, dF h]; rfl), if_pos h]
end Go.Proofs.YtpmnfhifmmfglacDoor

namespace Go.Proofs.YtpmnfhifmmfglacDoor
open Go
theorem rdL_len (W : List (List UInt8)) : ∀ (n : Nat) (out : List Int) (b : List UInt8), (rdL W n out b).1.length ≤ out.length + n
  | 0, out, b => Nat.le_refl _
  | n + 1, out, b => by
    unfold rdL
    split
    · refine Nat.le_trans (rdL_len W n _ _) ?_
      simp; omega
    · simp
theorem readR_len (l : List Int) (b : List UInt8) (n : Int) : (readR l b n).1.length ≤ 4096 := by
  unfold readR
  split
  · simp
  · split
    · simp
    · split
      · have := rdL_len (wordsOf l) n.toNat [] b
        simp at this
        omega
      · simp
theorem wOK_some {W : List (List UInt8)} {n : Int} (h : wOK W n = true) : ∃ (i : Nat) (u : List UInt8), n = (i : Int) ∧ W[i]? = some u ∧ u ≠ [] ∧ W.getD n.toNat [] = u := by
  unfold wOK at h
  rw [Bool.and_eq_true] at h
  have hn := of_decide_eq_true h.1
  obtain ⟨q, rfl⟩ := Int.eq_ofNat_of_zero_le hn.1
  have hq : q < W.length := by omega
  refine ⟨q, W[q], rfl, List.getElem?_eq_getElem hq, ?_, ?_⟩
  · have h2 := h.2
    rw [Int.toNat_natCast, List.getD_eq_getElem?_getD, List.getElem?_eq_getElem hq] at h2
    intro e
    rw [Option.getD_some, e] at h2
    cases h2
  · rw [Int.toNat_natCast, List.getD_eq_getElem?_getD, List.getElem?_eq_getElem hq]; rfl
theorem rdL_wcat {W : List (List UInt8)} (hp : PF W) (b : List UInt8) : ∀ (l : List Int) (out : List Int), l.all (wOK W) = true → rdL W l.length out (wcat W l ++ b) = (out ++ l, b, 0)
  | [], out, _ => by simp [rdL, wcat]
  | n :: l, out, h => by
    rw [List.all_cons, Bool.and_eq_true] at h
    obtain ⟨i, u, rfl, hu, hu0, hg⟩ := wOK_some h.1
    rw [wcat_cons, hg, List.length_cons, List.append_assoc]
    unfold rdL
    rw [frI_of hp hu hu0 (List.prefix_append u _)]
    dsimp only
    rw [List.getD_eq_getElem?_getD, hu, Option.getD_some, List.drop_left, rdL_wcat hp b l _ h.2]
    simp
theorem isB_app (a b : List UInt8) : isB (a ++ b) = (isB a && isB b) := by unfold isB; rw [List.all_append]
theorem isB_wcat {W : List (List UInt8)} (hb : bitW W) : ∀ l : List Int, isB (wcat W l) = true
  | [] => rfl
  | n :: l => by
    rw [wcat_cons, isB_app, isB_wcat hb l, Bool.and_true, List.getD_eq_getElem?_getD]
    by_cases h : n.toNat < W.length
    · rw [List.getElem?_eq_getElem h]; exact (hb _ (List.getElem_mem h)).1
    · rw [List.getElem?_eq_none (by omega)]; rfl
theorem wcat_len {W : List (List UInt8)} (hb : bitW W) : ∀ l : List Int, (wcat W l).length ≤ 15 * l.length
  | [] => by simp [wcat]
  | n :: l => by
    rw [wcat_cons, List.length_append, List.length_cons]
    have := wcat_len hb l
    have : (W.getD n.toNat []).length ≤ 15 := by
      rw [List.getD_eq_getElem?_getD]
      by_cases h : n.toNat < W.length
      · rw [List.getElem?_eq_getElem h]; exact (hb _ (List.getElem_mem h)).2
      · rw [List.getElem?_eq_none (by omega)]; simp
    omega
theorem read_write {c l : List Int} {b : List UInt8} (h : (writeR c l).2 = 0) (hb : isB b = true) : readR c ((writeR c l).1 ++ b) (l.length : Int) = (l, b, 0) ∧ (writeR c l).1.length ≤ 61440 := by
  unfold writeR at h ⊢
  split at h
  · rename_i h1; exact absurd h h1
  rename_i h1
  split at h
  · cases h
  rename_i h2
  split at h
  rotate_left
  · cases h
  rename_i h3
  rw [if_neg h1, if_neg h2, if_pos h3]
  have hb2 := isB_wcat (wordsOf_bits c) l
  refine ⟨?_, ?_⟩
  · unfold readR
    rw [if_neg h1, if_neg (by omega), if_pos (by rw [isB_app, hb2, hb]; rfl), Int.toNat_natCast, rdL_wcat (wordsOf_pf c) b l [] h3, List.nil_append]
  · have := wcat_len (wordsOf_bits c) l
    show (wcat (wordsOf c) l).length ≤ _
    omega
theorem sameI2 (N : Nat) (l : List Int) (hl : l.length < N) (h2 : l.length ≤ 1000000) : D_darkslideref_SameInts N l l = some true := by
  unfold D_darkslideref_SameInts
  rw [cF (by simp)]
  exact sameI_l1 N l _ (by omega) l.length 0 N (by omega) hl
end Go.Proofs.YtpmnfhifmmfglacDoor

namespace Go.Proofs.YtpmnfhifmmfglacDoor
open Go
theorem codeBegun_far : D_darkslidelaw_codeBegun 1125899906842624 = some true := by kernel_rfl
end Go.Proofs.YtpmnfhifmmfglacDoor

namespace Go.Proofs.YtpmnfhifmmfglacDoor
open Go
theorem choose_eq (N : Nat) {c : Int} (hc : -9223372036854775808 ≤ c ∧ c ≤ 9223372036854775807) {n : Nat} (hn : 0 < n) : ∃ x : Nat, x < n ∧ D_darkslidelaw_choose N c (n : Int) = some (x : Int) := by
  have tm : ∀ a : Int, 0 ≤ a → Int.tmod a (n : Int) = ((a.toNat % n : Nat) : Int) := fun a ha => by
    obtain ⟨q, rfl⟩ := Int.eq_ofNat_of_zero_le ha
    rw [Int.toNat_natCast]; rfl
  unfold D_darkslidelaw_choose
  by_cases h : c < 0
  · rw [cT (dT h), w64 (x := c + 1) (by omega), w64 (x := 0 - (c + 1)) (by omega), bsome, nz_eq (by omega), bsome, tm _ (by omega)]
    exact ⟨_, Nat.mod_lt _ hn, rfl⟩
  · rw [cF (dF h), nz_eq (by omega), bsome, tm _ (by omega)]
    exact ⟨_, Nat.mod_lt _ hn, rfl⟩
theorem back_j3 (N : Nat) {W : List (List UInt8)} (hp : PF W) (e : Int) {x y : Nat} (hx : x < W.length) (hy : y < W.length) (kk : Bool → Option Bool) (hk : kk false = some true) : D_darkslidelaw_CodeBack_j3 N (W, e) (x : Int) (y : Int) kk = some true := by
  unfold D_darkslidelaw_CodeBack_j3
  by_cases h : x = y
  · rw [cF (by rw [dT (by omega)]; rfl)]; exact hk
  have ix : idx (W, e).1 (x : Int) = some W[x] := by rw [idx_nat]; exact List.getElem?_eq_getElem hx
  have iy : idx (W, e).1 (y : Int) = some W[y] := by rw [idx_nat]; exact List.getElem?_eq_getElem hy
  rw [cT (by rw [dF (by omega)]; rfl), ix, bsome]
  by_cases h0 : W[x] = []
  · rw [cF (by rw [dT h0]; rfl)]; exact hk
  rw [cT (by rw [dF h0]; rfl), bsome, iy, bsome]
  by_cases hl : W[x].length ≤ W[y].length
  · rw [cT (dT (by omega)), bsome, bsome, sli_take hl, bsome, bsome]
    have hne : W[y].take W[x].length ≠ W[x] := fun q => hp x y W[x] W[y] h (List.getElem?_eq_getElem hx) (List.getElem?_eq_getElem hy) h0 (List.prefix_iff_eq_take.2 q.symm)
    rw [dF hne]; exact hk
  · rw [cF (dF (by omega))]; exact hk
theorem codeBack_true (c l : List Int) (b : List UInt8) (i k : Int) (hb : b.length ≤ 140737488355328) (hi : -9223372036854775808 ≤ i ∧ i ≤ 9223372036854775807) (hk : -9223372036854775808 ≤ k ∧ k ≤ 9223372036854775807) : D_darkslidelaw_CodeBack 1125899906842624 c l b i k = some true := by
  unfold D_darkslidelaw_CodeBack
  rw [write_code _ (by decide), bsome, words_code _ (by decide), bsome]
  have hrest : D_darkslidelaw_CodeBack_j4 1125899906842624 b (writeR c l) (fun i6 =>
      cond (i6) (
      Option.bind (D_darkslidelaw_codeBegun 1125899906842624 ) fun r7 =>
      some r7) (
      Option.bind (addS (writeR c l).1 b) fun s2 =>
      Option.bind (D_code_Read 1125899906842624 c s2 (l.length : Int)) fun r8 =>
      D_darkslidelaw_CodeBack_j5 1125899906842624 l b r8 (fun i8 =>
      some i8))) = some true := by
    have hyes : (cond true (Option.bind (D_darkslidelaw_codeBegun 1125899906842624 ) fun r7 => some r7) (
      Option.bind (addS (writeR c l).1 b) fun s2 =>
      Option.bind (D_code_Read 1125899906842624 c s2 (l.length : Int)) fun r8 =>
      D_darkslidelaw_CodeBack_j5 1125899906842624 l b r8 (fun i8 => some i8))) = some true := by rw [cT rfl, codeBegun_far]; rfl
    unfold D_darkslidelaw_CodeBack_j4
    by_cases h : (writeR c l).2 = 0
    rotate_left
    · rw [cT (by rw [dF h]; rfl)]; exact hyes
    rw [cF (by rw [dT h]; rfl), isRow_eq _ (by omega) (by omega), bsome]
    by_cases h2 : isB b = true
    rotate_left
    · rw [show isB b = false from (Bool.not_eq_true _).mp h2]; exact hyes
    obtain ⟨r1, r2⟩ := read_write h h2
    have hlen : l.length ≤ 4096 := by
      have := readR_len c ((writeR c l).1 ++ b) (l.length : Int)
      rw [r1] at this
      exact this
    rw [h2]
    show cond false _ _ = _
    rw [cF rfl, show addS (writeR c l).1 b = some ((writeR c l).1 ++ b) by unfold addS; rw [if_pos (by rw [← List.length_append]; have : ((writeR c l).1 ++ b).length = (writeR c l).1.length + b.length := List.length_append; omega)], bsome, read_code _ c _ _ (by rw [List.length_append]; omega) ⟨by decide, by rw [List.length_append]; omega⟩, bsome, r1]
    unfold D_darkslidelaw_CodeBack_j5
    rw [codeBegun_far, bsome, cT rfl, cT (by rfl), cT (dT rfl)]
    dsimp only
    rw [sameI2 _ _ (by omega) (by omega)]
    rfl
  unfold D_darkslidelaw_CodeBack_j1
  by_cases h : chkErr c = 0
  rotate_left
  · rw [cF (dF h)]; exact hrest
  have hwl := wordsOf_len h
  obtain ⟨ns, hns, _, h1, h17, _⟩ := chk_ok h
  have hcl : 1 ≤ c.length ∧ c.length ≤ 17 := by rw [hns, toI_len]; exact ⟨h1, h17⟩
  rw [cT (dT h)]
  unfold D_darkslidelaw_CodeBack_j2
  dsimp only
  rw [cF (by rw [dT (by omega)]; rfl), dF (show ¬ ((c.length : Int) = 0) by omega), cF rfl]
  obtain ⟨x, hx, ex⟩ := choose_eq 1125899906842624 (c := i) hi (n := (wordsOf c).length) (by omega)
  obtain ⟨y, hy, ey⟩ := choose_eq 1125899906842624 (c := k) hk (n := (wordsOf c).length) (by omega)
  rw [ex, bsome, ey, bsome]
  refine back_j3 _ (wordsOf_pf c) _ hx hy _ ?_
  rw [cF rfl]
  exact hrest
end Go.Proofs.YtpmnfhifmmfglacDoor

namespace Go.Proofs.YtpmnfhifmmfglacDoor
open Go.RowKit
section
variable {P : Program} {ops : Array Oper} {Q O : Exit → Act → World → Prop} {S : World → Prop} {rob need : Nat → Bool} {R : Act → World → Prop}
def rdy (ops : Array Oper) (rem : List Nat) (i : Nat) : Bool := rem.all fun j => !waits ops i j
def wpTr (P : Program) (O : Exit → Act → World → Prop) (ops : Array Oper) (S : World → Prop) (rob need : Nat → Bool) (R : Act → World → Prop) : Nat → List Nat → Act → World → Prop
  | 0, rem, a, w => rem = [] ∧ R a w
  | n + 1, rem, a, w =>
    (∃ i ∈ rem, rob i = true ∧ rdy ops rem i = true ∧ ∃ o, ops[i]? = some o ∧ ∃ v, YldS P ops S o v a ∧ wpTr P O ops S rob need R n (rem.erase i) (a.put o.dst v) w) ∨
    ((∀ i ∈ rem, rob i = true → rdy ops rem i = false) ∧ ∀ c ∈ rem, rob c = false → rdy ops rem c = true → wpOp P ops O c (fun a' w' => (need c = true → S w') ∧ wpTr P O ops S rob need R n (rem.erase c) a' w') a w)
def trPair (ops : Array Oper) (rob : Nat → Bool) (i j : Nat) : Bool :=
  match ops[i]?, ops[j]? with
  | some oi, some oj => waits ops i j || ((!rob i || oi.apart ops oj) && (!rob j || oj.apart ops oi))
  | _, _ => false
def trOK (ops : Array Oper) (rob need : Nat → Bool) : Bool :=
  Region.noSelect ops && txtBack ops && ((List.range ops.size).all fun i => (List.range i).all fun j => trPair ops rob i j) &&
  (List.range ops.size).all fun i => rob i || need i || !freeOf ops rob i
/-- Ways out that ask nothing of the slots. -/
def Dull (O : Exit → Act → World → Prop) : Prop := (∀ e a d v w, O e (a.put d v) w → O e a w) ∧ ¬ LetsOut O
theorem dull_no : Dull NoOut := ⟨fun _ _ _ _ _ h => h.elim, fun ⟨_, _, h⟩ => h.elim⟩
theorem wpOp_aheadO (hO : Dull O) {j : Nat} {oi oj : Oper} {v : Value} (hj : ops[j]? = some oj) (hap : oi.apart ops oj = true)
    (hsi : ∀ cs b, oi.op ≠ .select cs b) (hsj : ∀ cs b, oj.op ≠ .select cs b) {K : Act → World → Prop} {a : Act} {w : World}
    (hy : YldS P ops S oi v a) (h : wpOp P ops O j K (a.put oi.dst v) w) :
    wpOp P ops O j (fun a' w' => YldS P ops S oi v a' ∧ K (a'.put oi.dst v) w') a w := by
  obtain ⟨h1, h2, h3⟩ := Oper.apart_spec hap
  have keep : ∀ (a : Act), YldS P ops S oi v a → ∀ u, YldS P ops S oi v (a.put oj.dst u) := fun a hy u =>
    hy.same (execOp_put oi hsi a oj.dst u h3) (wanted_put oi a oj.dst u h3)
  have keepD : ∀ d, YldS P ops S oi v { a with defers := d :: a.defers } := fun d => hy.same rfl rfl
  unfold wpOp at *
  simp only [hj] at *
  rw [wanted_put oj a oi.dst v h1] at h
  split
  · rename_i hw
    simp only [hw, if_true] at h
    rcases h with h | ⟨_, hl⟩
    case inr => exact absurd hl hO.2
    refine .inl ?_
    unfold Oper.wp at *
    rw [execOp_put oj hsj a oi.dst v h1] at h
    generalize (execOp a.eval oj).run P w = r at *
    cases r with
    | ok n w' =>
      cases n <;> simp only [Oper.upon] at h ⊢
      case value u => exact ⟨keep a hy u, by rw [← Act.put_comm a v u h2]; exact h⟩
      case skip => exact ⟨keep a hy _, by rw [← Act.put_comm a v undef h2]; exact h⟩
      case defer d =>
        refine ⟨keep _ (keepD d) _, ?_⟩
        rw [← Act.put_comm _ v undef h2, ← Act.put_defers]
        exact h
      case enter f args =>
        refine Calls.mono h fun e w'' he => ?_
        cases e with
        | returned u => exact ⟨keep a hy u, by rw [← Act.put_comm a v u h2]; exact he⟩
        | panicked c => exact hO.1 _ _ _ _ _ he
        | outgrown => exact absurd he hO.2
      case row row args => exact Rows.mono h fun u w'' he => ⟨keep a hy u, by rw [← Act.put_comm a v u h2]; exact he⟩
    | halt x w' => cases x <;> simp only [Oper.upon] at h ⊢; exact hO.1 _ _ _ _ _ h
  · rename_i hw
    simp only [hw] at h
    exact ⟨keep a hy _, by rw [← Act.put_comm a v undef h2]; exact h⟩
theorem wpOp_outO (hO : Dull O) (hQ : ∀ e a w, O e a w → Q e a w) {i : Nat} {K : Act → World → Prop} {a : Act} {w : World} (h : wpOp P ops O i K a w) : wpOp P ops Q i K a w := by
  unfold wpOp at *
  split
  · rename_i h0
    simp only [h0] at h
    exact h
  · rename_i o ho
    simp only [ho] at h
    split
    · rename_i hw
      rw [if_pos hw] at h
      rcases h with h | ⟨_, hl⟩
      case inr => exact absurd hl hO.2
      refine .inl ?_
      unfold Oper.wp at *
      generalize (execOp a.eval o).run P w = r at *
      cases r with
      | ok n w' =>
        cases n <;> simp only [Oper.upon] at h ⊢ <;> first
          | exact h
          | (refine Calls.mono h fun e w'' he => ?_
             cases e with
             | returned u => exact he
             | panicked c => exact hQ _ _ _ he
             | outgrown => exact absurd he hO.2)
      | halt x w' => cases x <;> simp only [Oper.upon] at h ⊢; exact hQ _ _ _ h
    · rename_i hw
      rw [if_neg hw] at h
      exact h
theorem rdy_erase {rem : List Nat} {i k : Nat} (h : rdy ops rem i = true) : rdy ops (rem.erase k) i = true := by
  unfold rdy at *
  rw [List.all_eq_true] at *
  exact fun j hj => h j (List.mem_of_mem_erase hj)
theorem rdy_waits {rem : List Nat} {i j : Nat} (h : rdy ops rem i = true) (hj : j ∈ rem) : waits ops i j = false := by
  unfold rdy at h
  rw [List.all_eq_true] at h
  simpa using h j hj
theorem tr_pull {i : Nat} {oi : Oper} (hi : ops[i]? = some oi) (hr : rob i = true) (hsel : ∀ (j : Nat) (o : Oper) cs b, ops[j]? = some o → o.op ≠ .select cs b)
    (hpair : ∀ j k oj ok, j ≠ k → ops[j]? = some oj → ops[k]? = some ok → waits ops j k = false → waits ops k j = false → (rob j = true → oj.apart ops ok = true)) :
    ∀ (n : Nat) (rem : List Nat) (a : Act) (w : World), i ∈ rem → rdy ops rem i = true → wpTr P O ops S rob need R (n + 1) rem a w → ∃ v, YldS P ops S oi v a ∧ wpTr P O ops S rob need R n (rem.erase i) (a.put oi.dst v) w := by
  intro n
  induction n with
  | zero =>
    intro rem a w him hrd h
    rcases h with ⟨i0, hi0, hr0, hd0, o0, ho0, u, hu, h⟩ | ⟨hno, _⟩
    · obtain ⟨hnil, hR⟩ := h
      have : i0 = i := by
        by_cases e : i0 = i
        · exact e
        · have : i ∈ rem.erase i0 := (List.mem_erase_of_ne (fun h => e h.symm)).2 him
          rw [hnil] at this; cases this
      subst this
      obtain rfl : o0 = oi := Option.some.inj (ho0.symm.trans hi)
      exact ⟨u, hu, hnil, hR⟩
    · rw [hno i him hr] at hrd; cases hrd
  | succ n ih =>
    intro rem a w him hrd h
    rcases h with ⟨i0, hi0, hr0, hd0, o0, ho0, u, hu, h⟩ | ⟨hno, _⟩
    · by_cases e : i0 = i
      · subst e
        obtain rfl : o0 = oi := Option.some.inj (ho0.symm.trans hi)
        exact ⟨u, hu, h⟩
      · have him' : i ∈ rem.erase i0 := (List.mem_erase_of_ne (fun h => e h.symm)).2 him
        obtain ⟨v, hv, h⟩ := ih _ _ _ him' (rdy_erase hrd) h
        have w1 := rdy_waits hrd hi0
        have w2 := rdy_waits hd0 him
        have ap1 := hpair i i0 oi o0 (fun h => e h.symm) hi ho0 w1 w2 hr
        have ap2 := hpair i0 i o0 oi e ho0 hi w2 w1 hr0
        obtain ⟨p1, p2, p3⟩ := Oper.apart_spec ap1
        obtain ⟨q1, q2, q3⟩ := Oper.apart_spec ap2
        have hv' : YldS P ops S oi v a := hv.same (execOp_put oi (fun cs b => hsel i oi cs b hi) a o0.dst u p3).symm (wanted_put oi a o0.dst u p3).symm
        refine ⟨v, hv', .inl ⟨i0, (List.mem_erase_of_ne e).2 hi0, hr0, rdy_erase hd0, o0, ho0, u, ?_, ?_⟩⟩
        · exact hu.same (execOp_put o0 (fun cs b => hsel i0 o0 cs b ho0) a oi.dst v q3) (wanted_put o0 a oi.dst v q3)
        · rw [List.erase_comm, Act.put_comm a v u p2]; exact h
    · rw [hno i him hr] at hrd; cases hrd
theorem tr_push (hO : Dull O) {c : Nat} {oc : Oper} (hc : ops[c]? = some oc) (hrc : rob c = false) (hsel : ∀ (j : Nat) (o : Oper) cs b, ops[j]? = some o → o.op ≠ .select cs b)
    (hpair : ∀ j k oj ok, j ≠ k → ops[j]? = some oj → ops[k]? = some ok → waits ops j k = false → waits ops k j = false → (rob j = true → oj.apart ops ok = true)) :
    ∀ (n : Nat) (rem : List Nat) (a : Act) (w : World), c ∈ rem → rdy ops rem c = true → wpTr P O ops S rob need R (n + 1) rem a w → wpOp P ops O c (fun a' w' => (need c = true → S w') ∧ wpTr P O ops S rob need R n (rem.erase c) a' w') a w := by
  intro n
  induction n with
  | zero =>
    intro rem a w hcm hrd h
    rcases h with ⟨i0, hi0, hr0, hd0, o0, ho0, u, hu, h⟩ | ⟨_, h⟩
    · obtain ⟨hnil, hR⟩ := h
      have e : i0 ≠ c := fun e => by subst e; rw [hrc] at hr0; cases hr0
      have : c ∈ rem.erase i0 := (List.mem_erase_of_ne (fun h => e h.symm)).2 hcm
      rw [hnil] at this; cases this
    · exact h c hcm hrc hrd
  | succ n ih =>
    intro rem a w hcm hrd h
    rcases h with ⟨i0, hi0, hr0, hd0, o0, ho0, u, hu, h⟩ | ⟨_, h⟩
    · have e : i0 ≠ c := fun e => by subst e; rw [hrc] at hr0; cases hr0
      have hcm' : c ∈ rem.erase i0 := (List.mem_erase_of_ne (fun h => e h.symm)).2 hcm
      have h2 := ih _ _ _ hcm' (rdy_erase hrd) h
      have w1 := rdy_waits hrd hi0
      have w2 := rdy_waits hd0 hcm
      have ap := hpair i0 c o0 oc e ho0 hc w2 w1 hr0
      have h3 := wpOp_aheadO hO hc ap (fun cs b => hsel i0 o0 cs b ho0) (fun cs b => hsel c oc cs b hc) hu h2
      refine wpOp_mono ?_ h3
      rintro a' w' ⟨hy, hn, hk⟩
      refine ⟨hn, .inl ⟨i0, (List.mem_erase_of_ne e).2 hi0, hr0, rdy_erase hd0, o0, ho0, u, hy, ?_⟩⟩
      rw [List.erase_comm]; exact hk
    · exact h c hcm hrc hrd
theorem filter_ne_erase {l : List Nat} (hl : l.Nodup) (i : Nat) : l.filter (· != i) = l.erase i := by
  rw [List.Nodup.erase_eq_filter hl]
theorem wpAny_of_tr (hO : Dull O) (hQ : ∀ e a w, O e a w → Q e a w) (hok : trOK ops rob need = true) : ∀ (fuel : Nat) (listed : Array Bool) (a : Act) (w : World), listed.size = ops.size → Closed ops listed → (remOf ops listed).length = fuel →
    (∀ r ∈ remOf ops listed, rob r = true → S w) → wpTr P O ops S rob need (Q .normal) fuel (remOf ops listed) a w → wpAny P .any ops Q fuel listed a w := by
  simp only [trOK, Bool.and_eq_true] at hok
  obtain ⟨⟨⟨hsel0, hback⟩, hpair0⟩, hneed⟩ := hok
  have hsel := Region.noSelect_spec hsel0
  have hp : ∀ i < ops.size, ∀ j < i, trPair ops rob i j = true := fun i hi j hj => List.all_eq_true.1 (List.all_eq_true.1 hpair0 i (List.mem_range.2 hi)) j (List.mem_range.2 hj)
  have hpair : ∀ j k oj ok, j ≠ k → ops[j]? = some oj → ops[k]? = some ok → waits ops j k = false → waits ops k j = false → (rob j = true → oj.apart ops ok = true) := by
    intro j k oj ok hjk hj hk w1 w2 hr
    have hjl := (Array.getElem?_eq_some_iff.1 hj).1
    have hkl := (Array.getElem?_eq_some_iff.1 hk).1
    rcases Nat.lt_or_gt_of_ne hjk with hlt | hlt
    · have h := hp k hkl j hlt
      unfold trPair at h
      simp only [hj, hk, w2, Bool.false_or, Bool.and_eq_true, Bool.or_eq_true, Bool.not_eq_true'] at h
      rcases h.2 with h0 | h0
      · rw [hr] at h0; cases h0
      · exact h0
    · have h := hp j hjl k hlt
      unfold trPair at h
      simp only [hj, hk, w1, Bool.false_or, Bool.and_eq_true, Bool.or_eq_true, Bool.not_eq_true'] at h
      rcases h.1 with h0 | h0
      · rw [hr] at h0; cases h0
      · exact h0
  have hbk : ∀ i o, ops[i]? = some o → ∀ e ∈ o.after, Region.binds .any e = true → e.on < i := fun i o ho e he hb => by
    have hi : i < ops.size := (Array.getElem?_eq_some_iff.1 ho).1
    have h := List.all_eq_true.1 hback i (List.mem_range.2 hi)
    simp only [ho] at h
    have h2 := Array.all_eq_true_iff_forall_mem.1 h e he
    simpa [hb] using h2
  have hnd : ∀ i < ops.size, rob i = false → ∀ r < ops.size, rob r = true → waits ops i r = false → need i = true := fun i hi hri r hr hrr hw => by
    have h := List.all_eq_true.1 hneed i (List.mem_range.2 hi)
    simp only [hri, Bool.false_or, Bool.or_eq_true, Bool.not_eq_true'] at h
    refine h.resolve_right fun h0 => ?_
    have : freeOf ops rob i = true := by
      refine List.any_eq_true.2 ⟨r, List.mem_range.2 hr, ?_⟩
      have : r ≠ i := fun e => by subst e; rw [hri] at hrr; cases hrr
      simp [hrr, hw, this]
    rw [this] at h0
    cases h0
  intro fuel
  induction fuel with
  | zero =>
    intro listed a w hs hc hlen _ h
    have hnil : remOf ops listed = [] := List.eq_nil_of_length_eq_zero hlen
    obtain ⟨_, h⟩ := h
    refine ⟨?_, h⟩
    refine List.eq_nil_iff_forall_not_mem.2 fun i hi => ?_
    obtain ⟨h0, o, ho, _⟩ := mem_ready.1 hi
    have : i ∈ remOf ops listed := mem_remOf.2 ⟨(Array.getElem?_eq_some_iff.1 ho).1, h0⟩
    rw [hnil] at this
    cases this
  | succ fuel ih =>
    intro listed a w hs hc hlen hS h
    refine ⟨fun h0 => ?_, fun i hi => ?_⟩
    · exfalso
      match hr : remOf ops listed, hlen with
      | i0 :: rest, _ =>
        have hm0 : i0 ∈ remOf ops listed := by rw [hr]; exact List.mem_cons_self ..
        obtain ⟨hlt, hun⟩ := mem_remOf.1 hm0
        have hsorted := remOf_sorted (ops := ops) listed
        rw [hr, List.pairwise_cons] at hsorted
        have : i0 ∈ Region.ready .any ops listed := by
          refine mem_ready.2 ⟨hun, ops[i0], Array.getElem?_eq_getElem hlt, fun e he hb => ?_⟩
          have hlt2 := hbk i0 _ (Array.getElem?_eq_getElem hlt) e he hb
          cases hl : listed.getD e.on false with
          | true => rfl
          | false =>
            have hm : e.on ∈ remOf ops listed := mem_remOf.2 ⟨by omega, by rw [listed_eq (by omega)]; exact hl⟩
            rw [hr] at hm
            rcases List.mem_cons.1 hm with hm | hm
            · omega
            · have := hsorted.1 _ hm; omega
        rw [h0] at this
        cases this
    · obtain ⟨hun, oi, hoi, hall⟩ := mem_ready.1 hi
      have hilt : i < ops.size := (Array.getElem?_eq_some_iff.1 hoi).1
      have him : i ∈ remOf ops listed := mem_remOf.2 ⟨hilt, hun⟩
      have hnodup : (remOf ops listed).Nodup := (remOf_sorted (ops := ops) listed).imp fun h => Nat.ne_of_lt h
      have hrem' : remOf ops (listed.setIfInBounds i true) = (remOf ops listed).erase i := by rw [remOf_set hs hilt, filter_ne_erase hnodup]
      have hlen' : (remOf ops (listed.setIfInBounds i true)).length = fuel := by
        rw [hrem', List.length_erase_of_mem him]; omega
      have hs' : (listed.setIfInBounds i true).size = ops.size := by simpa using hs
      have hc' : Closed ops (listed.setIfInBounds i true) := by
        intro k hk j hj
        by_cases hik : i = k
        · subst hik; exact getD_set_true (ready_waits hi hj)
        · rw [getD_set_ne false hik] at hk; exact getD_set_true (hc k hk j hj)
      have hrd : rdy ops (remOf ops listed) i = true := by
        unfold rdy
        rw [List.all_eq_true]
        intro j hj
        obtain ⟨h1, h2⟩ := mem_remOf.1 hj
        cases hw : waits ops i j with
        | false => rfl
        | true =>
          have := ready_waits hi hw
          rw [← listed_eq (by omega), h2] at this; cases this
      cases hri : rob i with
      | true =>
        have hSw : S w := hS i him hri
        obtain ⟨v, hv, hrest⟩ := tr_pull hoi hri hsel hpair fuel _ a w him hrd h
        refine hv.run hoi hSw (ih _ _ _ hs' hc' hlen' (fun _ _ _ => hSw) (by rw [hrem']; exact hrest))
      | false =>
        have h2 := tr_push hO hoi hri hsel hpair fuel _ a w him hrd h
        refine wpOp_outO hO hQ (wpOp_mono ?_ h2)
        rintro a' w' ⟨hn, hk⟩
        refine ih _ _ _ hs' hc' hlen' ?_ (by rw [hrem']; exact hk)
        intro r hr hrr
        rw [hrem'] at hr
        have hrm := List.mem_of_mem_erase hr
        exact hn (hnd i hilt hri r (mem_remOf.1 hrm).1 hrr (rdy_waits hrd hrm))
theorem wp_region_tO (hO : Dull O) (hQ : ∀ e a w, O e a w → Q e a w) {id : Nat} {a : Act} {w : World} {l : List Oper} (S : World → Prop) (f : List Nat) (n : Nat) (rem : List Nat) (hm : P.follows .mixedOrders = true) (hok : trOK l.toArray (robOf f) (needOf f) = true)
    (hl : List.range l.toArray.size = rem) (hn : rem.length = n) (hS : S w.drew) (h : wpTr P O l.toArray S (robOf f) (needOf f) (Q .normal) n rem a w.drew) : (Code.region id l.toArray true).wp P Q a w := by
  refine wp_region_any hm ?_
  have hrem : remOf l.toArray (Array.replicate l.toArray.size false) = List.range l.toArray.size := by
    unfold remOf
    refine List.filter_eq_self.2 fun i hi => ?_
    have := List.mem_range.1 hi
    simp at this
    simp [this]
  refine wpAny_of_tr hO hQ hok l.toArray.size (Array.replicate l.toArray.size false) a _ (by simp) ?_ (by rw [hrem]; simp) (fun _ _ _ => hS) ?_
  · intro i hi
    rw [getD_replicate_f] at hi
    cases hi
  · rw [hrem, hl]
    have : l.toArray.size = n := by rw [← hn, ← hl]; simp
    rw [this]; exact h
theorem wp_region_tr {id : Nat} {a : Act} {w : World} {l : List Oper} (S : World → Prop) (f : List Nat) (n : Nat) (rem : List Nat) (hm : P.follows .mixedOrders = true) (hok : trOK l.toArray (robOf f) (needOf f) = true)
    (hl : List.range l.toArray.size = rem) (hn : rem.length = n) (hS : S w.drew) (h : wpTr P NoOut l.toArray S (robOf f) (needOf f) (Q .normal) n rem a w.drew) : (Code.region id l.toArray true).wp P Q a w :=
  wp_region_tO dull_no (fun _ _ _ h => h.elim) S f n rem hm hok hl hn hS h
theorem put_defers (a : Act) (d : Option Nat) (v : Value) : (a.put d v).defers = a.defers := by cases d <;> rfl
variable {D : List Deferred} {a : Act} {w : World} {N : Nat} {l : List (Nat × Value)} {o : Oper} {v : Value} {post : Value → World → Prop} {d i c n : Nat} {rem rem' : List Nat} {f : List Nat}
theorem R_rd (i : Nat) (rem' : List Nat) (hc : (rem.elem i && robOf f i && rdy ops rem i && rem.erase i == rem') = true) (ho : ops[i]? = some o) (K : Kd D a N l) (hw : Region.wanted o (yielded ops a.tmps) = true) (hd : o.dst = some d) (hN : Nat.blt d N = true) (hr : Rd P S a o v)
    (k : ∀ a', Kd D a' N ((d, v) :: l) → wpTr P O ops S (robOf f) (needOf f) R n rem' a' w) : wpTr P O ops S (robOf f) (needOf f) R (n + 1) rem a w := by
  simp only [Bool.and_eq_true, beq_iff_eq, List.elem_iff] at hc
  obtain ⟨⟨⟨h1, h2⟩, h3⟩, rfl⟩ := hc
  refine .inl ⟨i, h1, h2, h3, o, ho, v, .inl ⟨hw, hr⟩, ?_⟩
  have := K.put (d := o.dst) (by rw [hd]; exact hN) v
  rw [hd] at this ⊢
  exact k _ this
def AllC (p : Nat → Prop) : List Nat → Prop
  | [] => True
  | c :: cs => p c ∧ AllC p cs
theorem allC_mem {p : Nat → Prop} : ∀ {cs : List Nat}, AllC p cs → ∀ c ∈ cs, p c
  | [], _, c, h => by cases h
  | d :: cs, h, c, hc => by
    rcases List.mem_cons.1 hc with rfl | hc
    · exact h.1
    · exact allC_mem h.2 c hc
/-- One of several comes first. -/
theorem R_br (cs : List Nat) (hc : ((rem.all fun i => !robOf f i || !rdy ops rem i) && (rem.filter fun c => !robOf f c && rdy ops rem c) == cs) = true)
    (h : AllC (fun c => wpOp P ops O c (fun a' w' => (needOf f c = true → S w') ∧ wpTr P O ops S (robOf f) (needOf f) R n (rem.erase c) a' w') a w) cs) : wpTr P O ops S (robOf f) (needOf f) R (n + 1) rem a w := by
  simp only [Bool.and_eq_true, beq_iff_eq] at hc
  obtain ⟨h1, rfl⟩ := hc
  refine .inr ⟨fun i hi hr => ?_, fun c hcm hr hrd => allC_mem h c (List.mem_filter.2 ⟨hcm, by simp [hr, hrd]⟩)⟩
  have := List.all_eq_true.1 h1 i hi
  simpa [hr] using this
theorem R_ac (rem' : List Nat) (hc : (rem.erase c == rem') = true) (ho : ops[c]? = some o) (K : Kd D a N l) (hw : Region.wanted o (yielded ops a.tmps) = true) (hd : o.dst = some d) (hN : Nat.blt d N = true) (h : Ac P o a w post)
    (k : ∀ v a' w', post v w' → Kd D a' N ((d, v) :: l) → (needOf f c = true → S w') ∧ wpTr P O ops S (robOf f) (needOf f) R n rem' a' w') : wpOp P ops O c (fun a' w' => (needOf f c = true → S w') ∧ wpTr P O ops S (robOf f) (needOf f) R n (rem.erase c) a' w') a w := by
  obtain rfl : rem.erase c = rem' := by simpa using hc
  unfold wpOp
  simp only [ho, hw, if_true]
  refine .inl (h _ _ fun v w' hp => ?_)
  have := K.put (d := o.dst) (by rw [hd]; exact hN) v
  rw [hd] at this ⊢
  exact k v _ w' hp this
theorem R_a0 (rem' : List Nat) (hc : (rem.erase c == rem') = true) (ho : ops[c]? = some o) (K : Kd D a N l) (hw : Region.wanted o (yielded ops a.tmps) = true) (hd : o.dst = none) (h : Ac P o a w post)
    (k : ∀ v a' w', post v w' → Kd D a' N l → (needOf f c = true → S w') ∧ wpTr P O ops S (robOf f) (needOf f) R n rem' a' w') : wpOp P ops O c (fun a' w' => (needOf f c = true → S w') ∧ wpTr P O ops S (robOf f) (needOf f) R n (rem.erase c) a' w') a w := by
  obtain rfl : rem.erase c = rem' := by simpa using hc
  unfold wpOp
  simp only [ho, hw, if_true]
  refine .inl (h _ _ fun v w' hp => ?_)
  rw [hd]
  exact k v _ w' hp K
theorem X_join {St Rt : Type} {Rel : St → Act → World → Prop} {kk : St → Option Rt} {jf : (St → Option Rt) → Option Rt} {r : Rt} {p : Code} (h : jf kk = some r) (hk : ∀ st a w, Rel st a w → kk st = some r → Q .normal a w)
    (hc : ∀ kk : St → Option Rt, (∀ st a w, Rel st a w → kk st = some r → Q .normal a w) → jf kk = some r → p.wp P Q a w) : p.wp P Q a w := hc kk hk h
theorem R_end (h : R a w) : wpTr P O ops S (robOf f) (needOf f) R 0 [] a w := ⟨rfl, h⟩
end
end Go.Proofs.YtpmnfhifmmfglacDoor

namespace Go.Proofs.YtpmnfhifmmfglacDoor
open Go.RowKit
section
variable {P : Program} {S : World → Prop} {base : Nat} {W w : World} {L : List Ent} {D : List Deferred} {a : Act} {N : Nat} {l : List (Nat × Value)} {o : Oper} {v v' : Value} {x y ix : Operand} {k : IntKind} {m n : Int} {t e t' : TypeId} {g off : Nat} {cs : List Value} {α : Type} {C : Cod α} {xs ys zs : List α} {A B : Option Addr} {c c' : Nat}
/-- A loop of which the rounds are walked one by one. -/
theorem X_rounds {p : Code} {Q : Exit → Act → World → Prop} {w : World} (n : Nat) (h : Code.rounds P p Q n a w) : (Code.loop p).wp P Q a w := wp_loop_rounds n h
theorem X_round {p : Code} {Q : Exit → Act → World → Prop} {w : World} {n : Nat} (h : p.wp P (Exit.then (Code.rounds P p Q n) Q) a w) : Code.rounds P p Q (n + 1) a w := h
end
end Go.Proofs.YtpmnfhifmmfglacDoor

namespace Go.Proofs.YtpmnfhifmmfglacDoor
open Go.RowKit
abbrev I (n : Int) : Value := .int .i64 n
/-- A reading operation's answer, or nothing where its guard bars it. -/
inductive Stp (P : Program) (ops : Array Oper) (S : World → Prop) (D : List Deferred) (N : Nat) (l : List (Nat × Value)) (o : Oper) (v : Value) : Prop where
  | yes (hw : ∀ a, Kd D a N l → Region.wanted o (yielded ops a.tmps) = true) (hr : ∀ a, Kd D a N l → Rd P S a o v)
  | no (hw : ∀ a, Kd D a N l → Region.wanted o (yielded ops a.tmps) = false) (hv : undef = v)
section
variable {P : Program} {base : Nat} {W w : World} {L : List Ent} {S : World → Prop} {D : List Deferred} {a : Act} {N : Nat} {l : List (Nat × Value)} {o : Oper} {v : Value} {post : Value → World → Prop}
  {ops : Array Oper} {Q : Exit → Act → World → Prop} {R : Act → World → Prop} {rest : List Oper} {d : Nat} {f : List Nat}
theorem X_o (K : Kd D a N l) (M : Mem base W w L) (k : ∀ a', Kd D a' N ((d, v) :: l) → wpList P ops Q rest a' w) (hd : o.dst = some d := by exact rfl) (hN : Nat.blt d N = true := by exact rfl)
    (hs : Stp P ops (fun w => Mem base W w L) D N l o v := by
      first
      | exact .no (fun a K => K.no rfl rfl rfl rfl) rfl
      | exact .no (fun a K => K.nou rfl rfl rfl) rfl
      | exact .yes (by first | exact fun a K => want_no rfl | exact fun a K => K.yes rfl rfl rfl) (by
         first
         | exact fun a K => rd_move rfl K rfl
         | exact fun a K => rd_assign rfl K rfl
         | exact fun a K => rd_pickT rfl K rfl rfl
         | exact fun a K => rd_pickF rfl K rfl rfl
         | exact fun a K => rd_nil rfl K rfl
         | exact fun a K => rd_extract rfl K rfl rfl
         | exact fun a K => rd_not rfl K rfl
         | exact fun a K => rd_add rfl K rfl rfl
         | exact fun a K => rd_lss rfl K rfl rfl
         | exact fun a K => rd_sub rfl K rfl rfl
         | exact fun a K => rd_mul rfl K rfl rfl
         | exact fun a K => rd_eql rfl K rfl rfl
         | exact fun a K => rd_neq rfl K rfl rfl
         | exact fun a K => rd_gtr rfl K rfl rfl
         | exact fun a K => rd_leq rfl K rfl rfl
         | exact fun a K => rd_geq rfl K rfl rfl
         | exact fun a K => rd_min rfl K rfl rfl
         | exact fun a K => rd_max rfl K rfl rfl
         | exact fun a K => rd_and rfl K rfl rfl)) : wpList P ops Q (o :: rest) a w := by
  cases hs with
  | yes hw hr => exact X_rd K (hw a K) hd hN (hr a K) M k
  | no hw hv => subst hv; exact X_no K (hw a K) hd hN k
theorem Y_o (M : Mem base W w L) (k : ∀ a', Kd D a' N ((d, v) :: l) → wpList P ops Q rest a' w) (hd : o.dst = some d := by exact rfl) (hN : Nat.blt d N = true := by exact rfl)
    (hs : Stp P ops (fun w => Mem base W w L) D N l o v := by
      first
      | exact .no (fun a K => K.no rfl rfl rfl rfl) rfl
      | exact .no (fun a K => K.nou rfl rfl rfl) rfl
      | exact .yes (by first | exact fun a K => want_no rfl | exact fun a K => K.yes rfl rfl rfl) (by
         first
         | exact fun a K => rd_move rfl K rfl
         | exact fun a K => rd_assign rfl K rfl
         | exact fun a K => rd_pickT rfl K rfl rfl
         | exact fun a K => rd_pickF rfl K rfl rfl
         | exact fun a K => rd_nil rfl K rfl
         | exact fun a K => rd_extract rfl K rfl rfl
         | exact fun a K => rd_not rfl K rfl
         | exact fun a K => rd_add rfl K rfl rfl
         | exact fun a K => rd_lss rfl K rfl rfl
         | exact fun a K => rd_sub rfl K rfl rfl
         | exact fun a K => rd_mul rfl K rfl rfl
         | exact fun a K => rd_eql rfl K rfl rfl
         | exact fun a K => rd_neq rfl K rfl rfl
         | exact fun a K => rd_gtr rfl K rfl rfl
         | exact fun a K => rd_leq rfl K rfl rfl
         | exact fun a K => rd_geq rfl K rfl rfl
         | exact fun a K => rd_min rfl K rfl rfl
         | exact fun a K => rd_max rfl K rfl rfl
         | exact fun a K => rd_and rfl K rfl rfl)) : ∀ a, Kd D a N l → wpList P ops Q (o :: rest) a w := fun a K => X_o K M k hd hN hs
theorem Y_r (hr : ∀ a, Kd D a N l → Rd P (fun w => Mem base W w L) a o v) (M : Mem base W w L) (k : ∀ a', Kd D a' N ((d, v) :: l) → wpList P ops Q rest a' w)
    (hw : ∀ a, Kd D a N l → Region.wanted o (yielded ops a.tmps) = true := by first | exact fun a K => want_no rfl | exact fun a K => K.yes rfl rfl rfl) (hd : o.dst = some d := by exact rfl) (hN : Nat.blt d N = true := by exact rfl) :
    ∀ a, Kd D a N l → wpList P ops Q (o :: rest) a w := fun a K => X_rd K (hw a K) hd hN (hr a K) M k
theorem X_r (K : Kd D a N l) (hr : Rd P (fun w => Mem base W w L) a o v) (M : Mem base W w L) (k : ∀ a', Kd D a' N ((d, v) :: l) → wpList P ops Q rest a' w)
    (hw : ∀ a, Kd D a N l → Region.wanted o (yielded ops a.tmps) = true := by first | exact fun a K => want_no rfl | exact fun a K => K.yes rfl rfl rfl) (hd : o.dst = some d := by exact rfl) (hN : Nat.blt d N = true := by exact rfl) :
    wpList P ops Q (o :: rest) a w := X_rd K (hw a K) hd hN hr M k
theorem X_a (K : Kd D a N l) (h : Ac P o a w post) (k : ∀ v a' w', post v w' → Kd D a' N ((d, v) :: l) → wpList P ops Q rest a' w')
    (hw : ∀ a, Kd D a N l → Region.wanted o (yielded ops a.tmps) = true := by first | exact fun a K => want_no rfl | exact fun a K => K.yes rfl rfl rfl) (hd : o.dst = some d := by exact rfl) (hN : Nat.blt d N = true := by exact rfl) :
    wpList P ops Q (o :: rest) a w := X_ac K (hw a K) hd hN h k
theorem X_b (K : Kd D a N l) (h : Ac P o a w post) (k : ∀ v a' w', post v w' → Kd D a' N l → wpList P ops Q rest a' w')
    (hw : ∀ a, Kd D a N l → Region.wanted o (yielded ops a.tmps) = true := by first | exact fun a K => want_no rfl | exact fun a K => K.yes rfl rfl rfl) (hd : o.dst = none := by exact rfl) :
    wpList P ops Q (o :: rest) a w := X_a0 K (hw a K) hd h k
theorem T_o (K : Kd D a N l) (k : ∀ a', Kd D a' N ((d, v) :: l) → wpTl P ops S R (marked f rest) a' w) (hd : o.dst = some d := by exact rfl) (hN : Nat.blt d N = true := by exact rfl)
    (hs : Stp P ops S D N l o v := by
      first
      | exact .no (fun a K => K.no rfl rfl rfl rfl) rfl
      | exact .no (fun a K => K.nou rfl rfl rfl) rfl
      | exact .yes (by first | exact fun a K => want_no rfl | exact fun a K => K.yes rfl rfl rfl) (by
         first
         | exact fun a K => rd_move rfl K rfl
         | exact fun a K => rd_assign rfl K rfl
         | exact fun a K => rd_pickT rfl K rfl rfl
         | exact fun a K => rd_pickF rfl K rfl rfl
         | exact fun a K => rd_nil rfl K rfl
         | exact fun a K => rd_extract rfl K rfl rfl
         | exact fun a K => rd_not rfl K rfl
         | exact fun a K => rd_add rfl K rfl rfl
         | exact fun a K => rd_lss rfl K rfl rfl
         | exact fun a K => rd_sub rfl K rfl rfl
         | exact fun a K => rd_mul rfl K rfl rfl
         | exact fun a K => rd_eql rfl K rfl rfl
         | exact fun a K => rd_neq rfl K rfl rfl
         | exact fun a K => rd_gtr rfl K rfl rfl
         | exact fun a K => rd_leq rfl K rfl rfl
         | exact fun a K => rd_geq rfl K rfl rfl
         | exact fun a K => rd_min rfl K rfl rfl
         | exact fun a K => rd_max rfl K rfl rfl
         | exact fun a K => rd_and rfl K rfl rfl)) : wpTl P ops S R (marked (0 :: f) (o :: rest)) a w := by
  cases hs with
  | yes hw hr => exact T_rd K (hw a K) hd hN (hr a K) k
  | no hw hv => subst hv; exact T_no K (hw a K) hd hN k
theorem U_o (k : ∀ a', Kd D a' N ((d, v) :: l) → wpTl P ops S R (marked f rest) a' w) (hd : o.dst = some d := by exact rfl) (hN : Nat.blt d N = true := by exact rfl)
    (hs : Stp P ops S D N l o v := by
      first
      | exact .no (fun a K => K.no rfl rfl rfl rfl) rfl
      | exact .no (fun a K => K.nou rfl rfl rfl) rfl
      | exact .yes (by first | exact fun a K => want_no rfl | exact fun a K => K.yes rfl rfl rfl) (by
         first
         | exact fun a K => rd_move rfl K rfl
         | exact fun a K => rd_assign rfl K rfl
         | exact fun a K => rd_pickT rfl K rfl rfl
         | exact fun a K => rd_pickF rfl K rfl rfl
         | exact fun a K => rd_nil rfl K rfl
         | exact fun a K => rd_extract rfl K rfl rfl
         | exact fun a K => rd_not rfl K rfl
         | exact fun a K => rd_add rfl K rfl rfl
         | exact fun a K => rd_lss rfl K rfl rfl
         | exact fun a K => rd_sub rfl K rfl rfl
         | exact fun a K => rd_mul rfl K rfl rfl
         | exact fun a K => rd_eql rfl K rfl rfl
         | exact fun a K => rd_neq rfl K rfl rfl
         | exact fun a K => rd_gtr rfl K rfl rfl
         | exact fun a K => rd_leq rfl K rfl rfl
         | exact fun a K => rd_geq rfl K rfl rfl
         | exact fun a K => rd_min rfl K rfl rfl
         | exact fun a K => rd_max rfl K rfl rfl
         | exact fun a K => rd_and rfl K rfl rfl)) : ∀ a, Kd D a N l → wpTl P ops S R (marked (0 :: f) (o :: rest)) a w := fun a K => T_o K k hd hN hs
theorem U_r (hr : ∀ a, Kd D a N l → Rd P S a o v) (k : ∀ a', Kd D a' N ((d, v) :: l) → wpTl P ops S R (marked f rest) a' w)
    (hw : ∀ a, Kd D a N l → Region.wanted o (yielded ops a.tmps) = true := by first | exact fun a K => want_no rfl | exact fun a K => K.yes rfl rfl rfl) (hd : o.dst = some d := by exact rfl) (hN : Nat.blt d N = true := by exact rfl) :
    ∀ a, Kd D a N l → wpTl P ops S R (marked (0 :: f) (o :: rest)) a w := fun a K => T_rd K (hw a K) hd hN (hr a K) k
theorem T_r (K : Kd D a N l) (hr : Rd P S a o v) (k : ∀ a', Kd D a' N ((d, v) :: l) → wpTl P ops S R (marked f rest) a' w)
    (hw : ∀ a, Kd D a N l → Region.wanted o (yielded ops a.tmps) = true := by first | exact fun a K => want_no rfl | exact fun a K => K.yes rfl rfl rfl) (hd : o.dst = some d := by exact rfl) (hN : Nat.blt d N = true := by exact rfl) :
    wpTl P ops S R (marked (0 :: f) (o :: rest)) a w := T_rd K (hw a K) hd hN hr k
theorem T_a (K : Kd D a N l) (h : Ac P o a w post) (k : ∀ v a' w', post v w' → Kd D a' N ((d, v) :: l) → S w' ∧ wpTl P ops S R (marked f rest) a' w')
    (hw : ∀ a, Kd D a N l → Region.wanted o (yielded ops a.tmps) = true := by first | exact fun a K => want_no rfl | exact fun a K => K.yes rfl rfl rfl) (hd : o.dst = some d := by exact rfl) (hN : Nat.blt d N = true := by exact rfl) :
    wpTl P ops S R (marked (1 :: f) (o :: rest)) a w := T_ac K (hw a K) hd hN h k
theorem T_b (K : Kd D a N l) (h : Ac P o a w post) (k : ∀ v a' w', post v w' → Kd D a' N l → wpTl P ops S R (marked f rest) a' w')
    (hw : ∀ a, Kd D a N l → Region.wanted o (yielded ops a.tmps) = true := by first | exact fun a K => want_no rfl | exact fun a K => K.yes rfl rfl rfl) (hd : o.dst = none := by exact rfl) :
    wpTl P ops S R (marked (2 :: f) (o :: rest)) a w := T_a0z K (hw a K) hd h k
end
end Go.Proofs.YtpmnfhifmmfglacDoor
