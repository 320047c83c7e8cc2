/- Texts of the claim BitsRows, joined: PRefUnp, PCodeB, PRowLaw, D7, D9, DS, Facts, Shelf, HStr, WBits, WRefSameints, WLawBitsbegun. -/
import Derived.Laws.BytesArg
import Derived.Laws.CopyRow
import Derived.Laws.IdiomCopy
import Derived.Laws.Strings2
import Derived.Laws.Strings3
import Derived.Lib.AppendStr
import Derived.Lib.SliceRun
import Derived.LoopN
import Derived.Shelf.Strings.Builder1
import Derived.Shelf.Strings.Count
import Derived.Shelf.Strings.SlTrimAscii
import Derived.Test.YtpmnfhifmmfglabDoorChecked
import Derived.Test.YtpmnfhifmmfglabDoorProg
import Derived.WalkSpells
import Derived.Test.YtpmnfhifmmfglabDoorBitsRowsK1
set_option linter.unusedVariables false
set_option linter.unusedSimpArgs false
set_option linter.unusedSectionVars false
namespace Go.Proofs.YtpmnfhifmmfglabDoor
open Go
theorem and8_fin : ∀ n : Fin 256, andI .u8 ((n.val : Nat) : Int) 1 = ((n.val % 2 : Nat) : Int) := by decide +kernel
theorem shr8 {b k : Nat} (hk : k ≤ 8) : shrI .u8 (b : Int) (k : Int) = ((b / 2 ^ k : Nat) : Int) := by
  unfold shrI
  have : min ((k : Int)).toNat IntKind.u8.bits = k := by
    rw [Int.toNat_natCast]
    exact Nat.min_eq_left hk
  rw [this, show (2 : Int) ^ k = ((2 ^ k : Nat) : Int) by simp, ← Int.ofNat_fdiv]
def let48 (l : List Nat) : List Nat := l.map fun b => 48 + b
theorem let48_app (l m : List Nat) : let48 (l ++ m) = let48 l ++ let48 m := by simp [let48]
theorem let48_chs (l : List Nat) : (let48 l).map UInt8.ofNat = chs l := by unfold let48 chs; rw [List.map_map]; rfl
theorem row_l2 (N : Nat) {s : List UInt8} {i : Nat} (hi : i < s.length) (kk) : ∀ (j fuel : Nat) (out : List Int), j ≤ 8 → out.length + j ≤ 140737488355328 → j < fuel →
    D_darkslideref_Row_l2 N s (i : Int) kk fuel (out, (j : Int) - 1) = kk (out ++ toI (let48 (dig 2 j s[i].toNat)), -1) := by
  intro j
  induction j with
  | zero =>
    intro fuel out _ _ hf
    obtain ⟨fuel, rfl⟩ : ∃ m, fuel = m + 1 := ⟨fuel - 1, by omega⟩
    unfold D_darkslideref_Row_l2
    rw [cF (dF (by omega))]
    simp [dig, let48, toI]
  | succ j ih =>
    intro fuel out hj ho hf
    obtain ⟨fuel, rfl⟩ : ∃ m, fuel = m + 1 := ⟨fuel - 1, by omega⟩
    have hb : s[i].toNat < 256 := s[i].toNat_lt
    have e0 : ((j + 1 : Nat) : Int) - 1 = (j : Int) := by omega
    generalize hbb : s[i].toNat = b at *
    have hlt : b / 2 ^ j < 256 := Nat.lt_of_le_of_lt (Nat.div_le_self _ _) hb
    have e1 : IntKind.u8.wrap (48 + andI .u8 (shrI .u8 (b : Int) (j : Int)) 1) = ((48 + b / 2 ^ j % 2 : Nat) : Int) := by
      have := and8_fin ⟨b / 2 ^ j, hlt⟩
      rw [shr8 (by omega), this, show (48 : Int) + ((b / 2 ^ j % 2 : Nat) : Int) = ((48 + b / 2 ^ j % 2 : Nat) : Int) by omega, u8_nat]
      omega
    have e2 : dig 2 (j + 1) b = [b / 2 ^ j % 2] ++ dig 2 j b := by rw [Nat.add_comm j 1, dig_add]; rfl
    unfold D_darkslideref_Row_l2
    rw [e0, cT (dT (by omega)), idx_nat, List.getElem?_eq_getElem hi, bsome, hbb, nn_nat, bsome, e1, app_eq (by simp; omega), bsome, w64 (x := (j : Int) - 1) (by omega), bsome]
    rw [ih fuel (out ++ [((48 + b / 2 ^ j % 2 : Nat) : Int)]) (by omega) (by simp; omega) (by omega), e2, let48_app, toI_app, List.append_assoc]
    rfl
theorem row_l1 (N : Nat) (hN : 100 ≤ N) {s : List UInt8} (hs : s.length ≤ 16777216) (kk) : ∀ (j k fuel : Nat), k + j = s.length → j < fuel →
    D_darkslideref_Row_l1 N s kk fuel (toI (let48 (dig 2 (8 * k) (byt s k))), (k : Int)) = kk (toI (let48 (dig 2 (8 * s.length) (byt s s.length))), (s.length : Int)) := by
  intro j
  induction j with
  | zero =>
    intro k fuel hk hf
    obtain ⟨fuel, rfl⟩ : ∃ m, fuel = m + 1 := ⟨fuel - 1, by omega⟩
    obtain rfl : k = s.length := by omega
    unfold D_darkslideref_Row_l1
    rw [cF (dF (by omega))]
  | succ j ih =>
    intro k fuel hk hf
    obtain ⟨fuel, rfl⟩ : ∃ m, fuel = m + 1 := ⟨fuel - 1, by omega⟩
    have hlt : k < s.length := by omega
    have hih := ih (k + 1) fuel (by omega) (by omega)
    rw [byt_succ hlt, Nat.mul_add, Nat.mul_one, ← dig_next (show s[k].toNat < 2 ^ 8 from s[k].toNat_lt), let48_app, toI_app] at hih
    have hlen : (toI (let48 (dig 2 (8 * k) (byt s k)))).length = 8 * k := by rw [toI_len]; simp [let48, dig_len]
    unfold D_darkslideref_Row_l1
    rw [cT (dT (by omega))]
    have key := row_l2 N hlt (fun x : List Int × Int => Option.bind (some (IntKind.i64.wrap ((k : Int) + 1))) fun i3 => D_darkslideref_Row_l1 N s kk fuel (x.1, i3)) 8 N (toI (let48 (dig 2 (8 * k) (byt s k)))) (by omega) (by rw [hlen]; omega) (by omega)
    refine Eq.trans key ?_
    dsimp only
    rw [bsome, w64 (x := (k : Int) + 1) (by omega)]
    exact hih
/-- The bits of bytes, as letters. -/
theorem row_eq (N : Nat) {s : List UInt8} (hs : s.length ≤ 16777216) (hN : 100 ≤ N ∧ s.length < N) : D_darkslideref_Row N s = some (chs (dig 2 (8 * s.length) (byt s s.length))) := by
  unfold D_darkslideref_Row
  have hmok : mok 1 (IntKind.i64.wrap (8 * (s.length : Int))) = some () := by unfold mok; rw [w64 (by omega), if_pos (by omega)]
  rw [hmok, bsome]
  have key := row_l1 N hN.1 hs (fun x : List Int × Int => some (toB x.1)) s.length 0 N (by omega) (by omega)
  refine Eq.trans key ?_
  dsimp only
  rw [toB_toI, let48_chs]
theorem value_l1 (N : Nat) {l : List Nat} (h2 : ∀ y ∈ l, y < 2) (hl : l.length ≤ 60) (kk) : ∀ (j k fuel : Nat), k + j = l.length → j < fuel →
    D_darkslideref_Value_l1 N (chs l) kk fuel (((num 2 (l.take k) : Nat) : Int), (k : Int)) = kk (((num 2 l : Nat) : Int), (l.length : Int)) := by
  intro j
  induction j with
  | zero =>
    intro k fuel hk hf
    obtain ⟨fuel, rfl⟩ : ∃ m, fuel = m + 1 := ⟨fuel - 1, by omega⟩
    obtain rfl : k = l.length := by omega
    unfold D_darkslideref_Value_l1
    rw [cF (dF (by rw [chs_len]; omega)), List.take_length]
  | succ j ih =>
    intro k fuel hk hf
    obtain ⟨fuel, rfl⟩ : ∃ m, fuel = m + 1 := ⟨fuel - 1, by omega⟩
    have hlt : k < l.length := by omega
    have hih := ih (k + 1) fuel (by omega) (by omega)
    obtain ⟨g1, g2, g3⟩ := chs_get hlt h2
    have hg : l.getD k 0 = l[k] := by rw [List.getD_eq_getElem?_getD, List.getElem?_eq_getElem hlt]; rfl
    rw [List.take_succ_eq_append_getElem hlt, num_snoc, ← hg] at hih
    have hv : num 2 (l.take k) < 2 ^ 60 := by
      have := num_lt (B := 2) (l.take k) fun y hy => h2 y (List.mem_of_mem_take hy)
      rw [List.length_take, Nat.min_eq_left (by omega)] at this
      exact Nat.lt_of_lt_of_le this (Nat.pow_le_pow_right (by decide) (by omega))
    generalize num 2 (l.take k) = v at *
    generalize l.getD k 0 = b at *
    have e1 : IntKind.u8.wrap (((48 + b : Nat) : Int) - 48) = (b : Int) := by rw [show ((48 + b : Nat) : Int) - 48 = (b : Int) by omega, u8_nat]; omega
    unfold D_darkslideref_Value_l1
    rw [cT (dT (by rw [chs_len]; omega)), g1, bsome, g2, e1, w64 (x := 2 * (v : Int)) (by omega), w64 (x := (b : Int)) (by omega), w64 (x := 2 * (v : Int) + b) (by omega), bsome, w64 (x := (k : Int) + 1) (by omega), bsome, show 2 * (v : Int) + b = ((v * 2 + b : Nat) : Int) by omega]
    exact hih
theorem value_eq {N : Nat} (hN : 100 ≤ N) {l : List Nat} (h2 : ∀ y ∈ l, y < 2) (hl : l.length ≤ 60) : D_darkslideref_Value N (chs l) = some ((num 2 l : Nat) : Int) := by
  unfold D_darkslideref_Value
  exact value_l1 N h2 hl (fun x : Int × Int => some x.1) l.length 0 N (by omega) (by omega)
theorem within2 (N : Nat) (n lo hi : Int) : D_darkslideref_within N n lo hi = some (decide (lo ≤ n ∧ n ≤ hi)) := by
  unfold D_darkslideref_within
  by_cases h1 : lo ≤ n
  · rw [cT (dT h1)]; simp [h1]
  · rw [cF (dF h1)]; simp [h1]
end Go.Proofs.YtpmnfhifmmfglabDoor

namespace Go.Proofs.YtpmnfhifmmfglabDoor
open Go
/-- Is every letter a bit? -/
def isB (b : List UInt8) : Bool := b.all fun c => decide (c = 48 ∨ c = 49)
theorem isB_cnt : ∀ b : List UInt8, b.count 48 + b.count 49 ≤ b.length ∧ (b.count 48 + b.count 49 = b.length ↔ isB b = true)
  | [] => by simp [isB]
  | c :: b => by
    obtain ⟨h1, h2⟩ := isB_cnt b
    have e : isB (c :: b) = (decide (c = 48 ∨ c = 49) && isB b) := rfl
    rw [e, List.count_cons, List.count_cons, List.length_cons]
    by_cases q : c = 48
    · subst q
      have : ((48 : UInt8) == 49) = false := by decide
      rw [this, show decide ((48 : UInt8) = 48 ∨ (48 : UInt8) = 49) = true by decide, Bool.true_and, ← h2, show ((48 : UInt8) == 48) = true by decide]
      constructor
      · simp; omega
      · simp; omega
    · by_cases q2 : c = 49
      · subst q2
        have : ((49 : UInt8) == 48) = false := by decide
        rw [this, show decide ((49 : UInt8) = 48 ∨ (49 : UInt8) = 49) = true by decide, Bool.true_and, ← h2, show ((49 : UInt8) == 49) = true by decide]
        constructor
        · simp; omega
        · simp; omega
      · have q3 : (c == 48) = false := by simpa using q
        have q4 : (c == 49) = false := by simpa using q2
        rw [q3, q4, show decide (c = 48 ∨ c = 49) = false from decide_eq_false (fun h => h.elim q q2), Bool.false_and]
        constructor
        · simp; omega
        · simp; omega
theorem dropW {p : UInt8 → Bool} : ∀ l : List UInt8, l.all p = true → l.dropWhile p = []
  | [], _ => rfl
  | c :: l, h => by
    rw [List.all_cons, Bool.and_eq_true] at h
    rw [List.dropWhile_cons, if_pos h.1]
    exact dropW l h.2
theorem trim_bits {b : List UInt8} (h : isB b = true) : Go.Lib.trimS b [48, 49] = [] := by
  have hp : b.all (fun c => [(48 : UInt8), 49].contains c) = true := by
    refine List.all_eq_true.2 fun c hc => ?_
    have := of_decide_eq_true (List.all_eq_true.1 h c hc)
    rcases this with rfl | rfl <;> decide
  have hr : b.reverse.all (fun c => [(48 : UInt8), 49].contains c) = true := by rw [List.all_reverse]; exact hp
  unfold Go.Lib.trimS Go.Lib.trimRightS
  rw [dropW _ hr]
  rfl
theorem all_eq (N : Nat) {b : List UInt8} (hb : b.length ≤ 16777216) : D_bits_all N b = some (isB b) := by
  have ht : D_strings_Trim N b [48, 49] = some (Go.Lib.trimS b [48, 49]) := by
    unfold D_strings_Trim
    rw [if_pos ⟨by omega, by decide, by decide⟩]
  have h0 : D_strings_Count N b [48] = some ((b.count 48 : Nat) : Int) := rfl
  have h1 : D_strings_Count N b [49] = some ((b.count 49 : Nat) : Int) := rfl
  obtain ⟨c1, c2⟩ := isB_cnt b
  have hw : IntKind.i64.wrap (((b.count 48 : Nat) : Int) + ((b.count 49 : Nat) : Int)) = ((b.count 48 + b.count 49 : Nat) : Int) := by rw [w64 (by omega)]; omega
  unfold D_bits_all
  rw [ht, bsome, h0, bsome, h1, bsome, hw]
  by_cases h : isB b = true
  · rw [trim_bits h, cT (by rfl), h, dT (by have := c2.2 h; omega)]
  · have hne : ¬ (b.count 48 + b.count 49 = b.length) := fun q => h (c2.1 q)
    have hf : isB b = false := by simpa using h
    rw [hf, dF (show ¬ (((b.count 48 + b.count 49 : Nat) : Int) = (b.length : Int)) by omega)]
    cases decide (Go.Lib.trimS b [48, 49] = ([] : List UInt8)) <;> rfl
theorem isRow_l1 (N : Nat) {b : List UInt8} (hb : b.length ≤ 16777216) (kk) : ∀ (j k fuel : Nat), k + j = b.length → j < fuel →
    D_darkslideref_IsRow_l1 N b kk fuel (k : Int) = if isB (b.drop k) = true then kk (b.length : Int) else some false := by
  intro j
  induction j with
  | zero =>
    intro k fuel hk hf
    obtain ⟨fuel, rfl⟩ : ∃ m, fuel = m + 1 := ⟨fuel - 1, by omega⟩
    obtain rfl : k = b.length := by omega
    unfold D_darkslideref_IsRow_l1
    rw [cF (dF (by omega)), List.drop_length]
    rfl
  | succ j ih =>
    intro k fuel hk hf
    obtain ⟨fuel, rfl⟩ : ∃ m, fuel = m + 1 := ⟨fuel - 1, by omega⟩
    have hlt : k < b.length := by omega
    have hih := ih (k + 1) fuel (by omega) (by omega)
    have e : isB (b[k] :: b.drop (k + 1)) = (decide (b[k] = 48 ∨ b[k] = 49) && isB (b.drop (k + 1))) := rfl
    have t48 : ((b[k].toNat : Int) = 48) ↔ b[k] = 48 := by
      constructor
      · intro h; exact UInt8.toNat.inj (by show b[k].toNat = 48; omega)
      · intro h; rw [h]; rfl
    have t49 : ((b[k].toNat : Int) = 49) ↔ b[k] = 49 := by
      constructor
      · intro h; exact UInt8.toNat.inj (by show b[k].toNat = 49; omega)
      · intro h; rw [h]; rfl
    unfold D_darkslideref_IsRow_l1
    rw [cT (dT (by omega)), idx_nat, List.getElem?_eq_getElem hlt, bsome, bsome, w64 (x := (k : Int) + 1) (by omega), bsome, List.drop_eq_getElem_cons hlt, e]
    by_cases q : b[k] = 48
    · rw [cF (by rw [dT (t48.2 q)]; rfl), dT (.inl q), Bool.true_and]; exact hih
    · rw [cT (by rw [dF (fun h => q (t48.1 h))]; rfl)]
      by_cases q2 : b[k] = 49
      · rw [cF (by rw [dT (t49.2 q2)]; rfl), dT (.inr q2), Bool.true_and]; exact hih
      · rw [cT (by rw [dF (fun h => q2 (t49.1 h))]; rfl), dF (fun h => h.elim q q2)]; rfl
theorem isRow_eq (N : Nat) {b : List UInt8} (hb : b.length ≤ 16777216) (hN : b.length < N) : D_darkslideref_IsRow N b = some (isB b) := by
  unfold D_darkslideref_IsRow
  have key := isRow_l1 N hb (fun _ => some true) b.length 0 N (by omega) (by omega)
  rw [List.drop_zero] at key
  refine Eq.trans key ?_
  cases isB b <;> rfl
/-- The bits that letters are. -/
def btsOf (b : List UInt8) : List Nat := b.map fun c => c.toNat - 48
theorem btsOf_lt {b : List UInt8} (h : isB b = true) : ∀ y ∈ btsOf b, y < 2 := fun y hy => by
  obtain ⟨c, hc, rfl⟩ := List.mem_map.1 hy
  rcases of_decide_eq_true (List.all_eq_true.1 h c hc) with rfl | rfl <;> decide
theorem chs_bts {b : List UInt8} (h : isB b = true) : chs (btsOf b) = b := by
  unfold chs btsOf
  rw [List.map_map]
  conv => rhs; rw [← List.map_id b]
  refine List.map_congr_left fun c hc => ?_
  rcases of_decide_eq_true (List.all_eq_true.1 h c hc) with rfl | rfl <;> rfl
theorem or_add8 {h d e : Nat} (he : e < 2 ^ d) (hb : h * 2 ^ d + e < 256) : orI .u8 ((h * 2 ^ d : Nat) : Int) (e : Int) = ((h * 2 ^ d + e : Nat) : Int) := by
  unfold orI
  have hb' : IntKind.u8.bits = 8 := rfl
  have e1 : (BitVec.ofInt IntKind.u8.bits ((h * 2 ^ d : Nat) : Int) ||| BitVec.ofInt IntKind.u8.bits (e : Int)).toNat = h * 2 ^ d + e := by
    rw [BitVec.toNat_or, BitVec.ofInt_natCast, BitVec.ofInt_natCast, BitVec.toNat_ofNat, BitVec.toNat_ofNat, hb', Nat.mod_eq_of_lt (show h * 2 ^ d < 2 ^ 8 by omega), Nat.mod_eq_of_lt (show e < 2 ^ 8 by omega)]
    rw [Nat.mul_comm h, Nat.two_pow_add_eq_or_of_lt he]
  rw [e1, u8_nat, Nat.mod_eq_of_lt hb]
theorem shl8 {b k : Nat} (hk : k ≤ 8) (h : b * 2 ^ k < 256) : shlI .u8 (b : Int) (k : Int) = ((b * 2 ^ k : Nat) : Int) := by
  unfold shlI
  have : min ((k : Int)).toNat IntKind.u8.bits = k := by
    rw [Int.toNat_natCast]
    exact Nat.min_eq_left hk
  rw [this, show (2 : Int) ^ k = ((2 ^ k : Nat) : Int) by simp, ← Int.natCast_mul, u8_nat, Nat.mod_eq_of_lt h]
/-- The first t bits of a byte, moved up. -/
theorem num_part (f : Nat → Nat) : ∀ t r, (∀ q, t ≤ q → f q = 0) → num 2 ((List.range (t + r)).map f) = num 2 ((List.range t).map f) * 2 ^ r
  | t, 0, _ => by simp
  | t, r + 1, h => by
    rw [← Nat.add_assoc, List.range_succ, List.map_append, List.map_singleton, num_snoc, num_part f t r h, h (t + r) (by omega), Nat.add_zero, Nat.pow_succ, Nat.mul_assoc]
theorem gr_set {M k : Nat} {l : List Nat} (hk : k < l.length) (hM : k / 8 < M) :
    (gr M (l.take k)).getD (k / 8) 0 = num 2 ((List.range (k % 8)).map fun t => l.getD (8 * (k / 8) + t) 0) * 2 ^ (8 - k % 8) ∧
    gr M (l.take (k + 1)) = (gr M (l.take k)).set (k / 8) (num 2 ((List.range (k % 8)).map fun t => l.getD (8 * (k / 8) + t) 0) * 2 ^ (8 - k % 8) + l.getD k 0 * 2 ^ (7 - k % 8)) := by
  have hmod : k % 8 < 8 := Nat.mod_lt _ (by decide)
  have hdm : 8 * (k / 8) + k % 8 = k := Nat.div_add_mod k 8
  have get : ∀ n i, (l.take n).getD i 0 = if i < n then l.getD i 0 else 0 := fun n i => by
    rw [List.getD_eq_getElem?_getD, List.getD_eq_getElem?_getD, List.getElem?_take]
    split <;> rfl
  have hval : ∀ n, 8 * (k / 8) ≤ n → n ≤ 8 * (k / 8) + 8 → num 2 ((List.range 8).map fun t => (l.take n).getD (8 * (k / 8) + t) 0) = num 2 ((List.range (n - 8 * (k / 8))).map fun t => l.getD (8 * (k / 8) + t) 0) * 2 ^ (8 - (n - 8 * (k / 8))) := fun n h1 h2 => by
    have := num_part (fun t => (l.take n).getD (8 * (k / 8) + t) 0) (n - 8 * (k / 8)) (8 - (n - 8 * (k / 8))) (fun q hq => by rw [get, if_neg (by omega)])
    rw [show n - 8 * (k / 8) + (8 - (n - 8 * (k / 8))) = 8 by omega] at this
    rw [this]
    congr 2
    refine List.map_congr_left fun t ht => ?_
    have := List.mem_range.1 ht
    rw [get, if_pos (by omega)]
  have hv0 := hval k (by omega) (by omega)
  have hv1 := hval (k + 1) (by omega) (by omega)
  rw [show k - 8 * (k / 8) = k % 8 by omega] at hv0
  rw [show k + 1 - 8 * (k / 8) = k % 8 + 1 by omega, List.range_succ (n := k % 8), List.map_append, List.map_singleton, num_snoc, hdm, Nat.add_mul] at hv1
  have e2 : num 2 ((List.range (k % 8)).map fun t => l.getD (8 * (k / 8) + t) 0) * 2 * 2 ^ (8 - (k % 8 + 1)) = num 2 ((List.range (k % 8)).map fun t => l.getD (8 * (k / 8) + t) 0) * 2 ^ (8 - k % 8) := by
    rw [Nat.mul_assoc, show 8 - k % 8 = 8 - (k % 8 + 1) + 1 by omega, Nat.pow_succ, Nat.mul_comm 2]
  rw [e2, show 8 - (k % 8 + 1) = 7 - k % 8 by omega] at hv1
  have hgl : ∀ n, (gr M (l.take n)).length = M := fun n => by simp [gr]
  have hgg : ∀ n g, g < M → (gr M (l.take n))[g]? = some (num 2 ((List.range 8).map fun t => (l.take n).getD (8 * g + t) 0)) := fun n g hg => by
    unfold gr
    rw [List.getElem?_map, List.getElem?_range hg]; rfl
  constructor
  · rw [List.getD_eq_getElem?_getD, hgg k _ hM, hv0]; rfl
  · apply List.ext_getElem?
    intro g
    by_cases hg : g < M
    · by_cases he : k / 8 = g
      · subst he
        rw [hgg _ _ hM, List.getElem?_set_self (by rw [hgl]; exact hM), hv1]
      · rw [List.getElem?_set_ne he, hgg _ _ hg, hgg _ _ hg]
        congr 2
        refine List.map_congr_left fun t ht => ?_
        have := List.mem_range.1 ht
        rw [get, get]
        by_cases q : 8 * g + t < k
        · rw [if_pos (by omega), if_pos q]
        · rw [if_neg q, if_neg]
          omega
    · rw [List.getElem?_eq_none (by rw [hgl]; omega), List.getElem?_eq_none (by rw [List.length_set, hgl]; omega)]
theorem toI_set (l : List Nat) (i v : Nat) : toI (l.set i v) = (toI l).set i (v : Int) := by simp [toI, List.map_set]
theorem toI_get {l : List Nat} {i : Nat} (h : i < l.length) : idx (toI l) (i : Int) = some ((l.getD i 0 : Nat) : Int) := by
  rw [idx_nat, toI, List.getElem?_map, List.getElem?_eq_getElem h, List.getD_eq_getElem?_getD, List.getElem?_eq_getElem h]; rfl
theorem cbytes_l1 (N : Nat) {l : List Nat} (h2 : ∀ y ∈ l, y < 2) (hl : l.length ≤ 16777216) (kk) : ∀ (j k fuel : Nat), k + j = l.length → j < fuel →
    D_bits_Bytes_l1 N (chs l) kk fuel (toI (gr ((l.length + 7) / 8) (l.take k)), (k : Int)) = kk (toI (gr ((l.length + 7) / 8) l), (l.length : Int)) := by
  intro j
  induction j with
  | zero =>
    intro k fuel hk hf
    obtain ⟨fuel, rfl⟩ : ∃ m, fuel = m + 1 := ⟨fuel - 1, by omega⟩
    obtain rfl : k = l.length := by omega
    unfold D_bits_Bytes_l1
    rw [cF (dF (by rw [chs_len]; omega)), List.take_length]
  | succ j ih =>
    intro k fuel hk hf
    obtain ⟨fuel, rfl⟩ : ∃ m, fuel = m + 1 := ⟨fuel - 1, by omega⟩
    have hlt : k < l.length := by omega
    have hih := ih (k + 1) fuel (by omega) (by omega)
    have hmod : k % 8 < 8 := Nat.mod_lt _ (by decide)
    have hM : k / 8 < (l.length + 7) / 8 := by omega
    obtain ⟨s1, s2⟩ := gr_set (M := (l.length + 7) / 8) hlt hM
    obtain ⟨g1, g2, g3⟩ := chs_get hlt h2
    have hgl : (gr ((l.length + 7) / 8) (l.take k)).length = (l.length + 7) / 8 := by simp [gr]
    have hn : num 2 ((List.range (k % 8)).map fun t => l.getD (8 * (k / 8) + t) 0) < 2 ^ (k % 8) := by
      have := num_lt (B := 2) ((List.range (k % 8)).map fun t => l.getD (8 * (k / 8) + t) 0) fun y hy => by
        obtain ⟨q, _, rfl⟩ := List.mem_map.1 hy
        rw [List.getD_eq_getElem?_getD]
        by_cases hq : 8 * (k / 8) + q < l.length
        · rw [List.getElem?_eq_getElem hq]; exact h2 _ (List.getElem_mem hq)
        · rw [List.getElem?_eq_none (by omega)]; decide
      rwa [List.length_map, List.length_range] at this
    rw [s2] at hih
    have hold := toI_get (l := gr ((l.length + 7) / 8) (l.take k)) (i := k / 8) (by omega)
    rw [s1] at hold
    generalize gr ((l.length + 7) / 8) (l.take k) = G at *
    generalize num 2 ((List.range (k % 8)).map fun t => l.getD (8 * (k / 8) + t) 0) = v at *
    generalize l.getD k 0 = b at *
    have p1 : 2 ^ (8 - k % 8) = 2 * 2 ^ (7 - k % 8) := by rw [show 8 - k % 8 = 7 - k % 8 + 1 by omega, Nat.pow_succ, Nat.mul_comm]
    have p2 : 2 ^ (7 - k % 8) ≤ 128 := Nat.pow_le_pow_right (show 0 < 2 by decide) (show 7 - k % 8 ≤ 7 by omega)
    have p3 : (v + 1) * 2 ^ (8 - k % 8) ≤ 256 := by
      have := Nat.mul_le_mul_right (2 ^ (8 - k % 8)) hn
      rw [← Nat.pow_add, show k % 8 + (8 - k % 8) = 8 by omega] at this
      exact this
    have p0 := Nat.two_pow_pos (7 - k % 8)
    have p4 : b * 2 ^ (7 - k % 8) < 2 ^ (8 - k % 8) := by
      have := Nat.mul_le_mul_right (2 ^ (7 - k % 8)) (show b ≤ 1 by omega)
      omega
    rw [Nat.add_mul, Nat.one_mul] at p3
    have ediv : IntKind.i64.wrap (Int.tdiv (k : Int) 8) = ((k / 8 : Nat) : Int) := by rw [show Int.tdiv (k : Int) 8 = ((k / 8 : Nat) : Int) from rfl, w64 (by omega)]
    have esub : IntKind.i64.wrap (7 - Int.tmod (k : Int) 8) = ((7 - k % 8 : Nat) : Int) := by rw [show Int.tmod (k : Int) 8 = ((k % 8 : Nat) : Int) from rfl, w64 (by omega)]; omega
    have eb : IntKind.u8.wrap (((48 + b : Nat) : Int) - 48) = (b : Int) := by rw [show ((48 + b : Nat) : Int) - 48 = (b : Int) by omega, u8_nat]; omega
    have eor : orI .u8 ((v * 2 ^ (8 - k % 8) : Nat) : Int) (shlI .u8 (b : Int) ((7 - k % 8 : Nat) : Int)) = ((v * 2 ^ (8 - k % 8) + b * 2 ^ (7 - k % 8) : Nat) : Int) := by rw [shl8 (by omega) (by omega), or_add8 p4 (by omega)]
    have hset : setL (toI G) ((k / 8 : Nat) : Int) ((v * 2 ^ (8 - k % 8) + b * 2 ^ (7 - k % 8) : Nat) : Int) = some (toI (G.set (k / 8) (v * 2 ^ (8 - k % 8) + b * 2 ^ (7 - k % 8)))) := by
      unfold setL
      rw [if_pos (by rw [toI_len]; omega), Int.toNat_natCast, toI_set]
    unfold D_bits_Bytes_l1
    rw [cT (dT (by rw [chs_len]; omega)), ediv, bsome, hold, bsome, g1, bsome, g2, esub, nn_nat, bsome, bsome, eb, eor, hset, bsome, w64 (x := (k : Int) + 1) (by omega)]
    exact hih
theorem gr_nil (M : Nat) : gr M [] = List.replicate M 0 := by
  unfold gr
  apply List.ext_getElem?
  intro g
  by_cases h : g < M
  · rw [List.getElem?_map, List.getElem?_range h, List.getElem?_replicate, if_pos h]; rfl
  · rw [List.getElem?_eq_none (by simp; omega), List.getElem?_eq_none (by simp; omega)]
theorem bytes_code (N : Nat) {b : List UInt8} (hb : b.length ≤ 16777216) (hN : b.length < N) : D_bits_Bytes N b = some (if isB b = true then ((gr ((b.length + 7) / 8) (btsOf b)).map UInt8.ofNat, 0) else ([], 1)) := by
  unfold D_bits_Bytes
  rw [all_eq N hb, bsome]
  by_cases h : isB b = true
  rotate_left
  · have hf : isB b = false := by simpa using h
    rw [hf]; rfl
  rw [h, cF (by rfl), if_pos rfl]
  have hlen : (btsOf b).length = b.length := by simp [btsOf]
  have e1 : IntKind.i64.wrap (Int.tdiv (IntKind.i64.wrap ((b.length : Int) + 7)) 8) = (((b.length + 7) / 8 : Nat) : Int) := by
    rw [w64 (x := (b.length : Int) + 7) (by omega), show (b.length : Int) + 7 = ((b.length + 7 : Nat) : Int) by omega, show Int.tdiv ((b.length + 7 : Nat) : Int) 8 = (((b.length + 7) / 8 : Nat) : Int) from rfl, w64 (by omega)]
  rw [e1, bsome, mk_eq (by omega), bsome, Int.toNat_natCast]
  have key := cbytes_l1 N (l := btsOf b) (btsOf_lt h) (by omega) (fun x : List Int × Int => some (toB x.1, (0 : Int))) (btsOf b).length 0 N (by omega) (by omega)
  rw [List.take_zero, gr_nil, chs_bts h, hlen] at key
  have hz : toI (List.replicate ((b.length + 7) / 8) 0) = List.replicate ((b.length + 7) / 8) 0 := by simp [toI]
  rw [hz] at key
  refine Eq.trans key ?_
  dsimp only
  rw [toB_toI]
theorem bytes_doc (N : Nat) {b : List UInt8} (h : isB b = true) (hb : b.length ≤ 16777216) (hN : 100 ≤ N ∧ b.length < N) : D_darkslideref_Bytes N b = some ((gr ((b.length + 7) / 8) (btsOf b)).map UInt8.ofNat) := by
  have hlen : (btsOf b).length = b.length := by simp [btsOf]
  have := bytes_eq N (btsOf b) (btsOf_lt h) (by omega) (by omega)
  rw [chs_bts h, hlen] at this
  exact this
theorem cval_l1 (N : Nat) {l : List Nat} (h2 : ∀ y ∈ l, y < 2) (hl : l.length ≤ 16) (kk) : ∀ (j k fuel : Nat), k + j = l.length → j < fuel →
    D_bits_Value_l1 N (chs l) kk fuel (((num 2 (l.take k) : Nat) : Int), (k : Int)) = kk (((num 2 l : Nat) : Int), (l.length : Int)) := by
  intro j
  induction j with
  | zero =>
    intro k fuel hk hf
    obtain ⟨fuel, rfl⟩ : ∃ m, fuel = m + 1 := ⟨fuel - 1, by omega⟩
    obtain rfl : k = l.length := by omega
    unfold D_bits_Value_l1
    rw [cF (dF (by rw [chs_len]; omega)), List.take_length]
  | succ j ih =>
    intro k fuel hk hf
    obtain ⟨fuel, rfl⟩ : ∃ m, fuel = m + 1 := ⟨fuel - 1, by omega⟩
    have hlt : k < l.length := by omega
    have hih := ih (k + 1) fuel (by omega) (by omega)
    obtain ⟨g1, g2, g3⟩ := chs_get hlt h2
    have hg : l.getD k 0 = l[k] := by rw [List.getD_eq_getElem?_getD, List.getElem?_eq_getElem hlt]; rfl
    rw [List.take_succ_eq_append_getElem hlt, num_snoc, ← hg] at hih
    have hv : num 2 (l.take k) < 65536 := by
      have := num_lt (B := 2) (l.take k) fun y hy => h2 y (List.mem_of_mem_take hy)
      rw [List.length_take, Nat.min_eq_left (by omega)] at this
      exact Nat.lt_of_lt_of_le this (Nat.pow_le_pow_right (show 0 < 2 by decide) (show k ≤ 16 by omega))
    generalize num 2 (l.take k) = v at *
    generalize l.getD k 0 = b at *
    have e1 : IntKind.i64.wrap (andI .u8 ((48 + b : Nat) : Int) 1) = (b : Int) := by
      have := and8_fin ⟨48 + b, by omega⟩
      rw [this, show (48 + b) % 2 = b by omega, w64 (by omega)]
    have e2 : shlI .i64 (v : Int) 1 = ((v * 2 : Nat) : Int) := shl_nat (k := 1) (by decide) (by omega)
    unfold D_bits_Value_l1
    rw [cT (dT (by rw [chs_len]; omega)), g1, bsome, g2, e1, e2, show ((v * 2 : Nat) : Int) + (b : Int) = ((v * 2 + b : Nat) : Int) by omega, w64 (x := ((v * 2 + b : Nat) : Int)) (by omega), bsome, w64 (x := (k : Int) + 1) (by omega)]
    exact hih
theorem value_code (N : Nat) (hN : 100 ≤ N) {b : List UInt8} (hb : b.length ≤ 16777216) : D_bits_Value N b = some (if isB b = true then (if b.length ≤ 16 then (((num 2 (btsOf b) : Nat) : Int), 0) else (0, 3)) else (0, 1)) := by
  unfold D_bits_Value
  rw [all_eq N hb, bsome]
  by_cases h : isB b = true
  rotate_left
  · have hf : isB b = false := by simpa using h
    rw [hf]; rfl
  rw [h, cF (by rfl), if_pos rfl]
  by_cases h3 : b.length ≤ 16
  rotate_left
  · rw [cT (dT (by omega)), if_neg h3]
  rw [cF (dF (by omega)), if_pos h3]
  have hlen : (btsOf b).length = b.length := by simp [btsOf]
  have key := cval_l1 N (l := btsOf b) (btsOf_lt h) (by omega) (fun x : Int × Int => some (x.1, (0 : Int))) (btsOf b).length 0 N (by omega) (by omega)
  rw [chs_bts h] at key
  exact key
theorem value_doc (N : Nat) (hN : 100 ≤ N) {b : List UInt8} (h : isB b = true) (hb : b.length ≤ 16) : D_darkslideref_Value N b = some ((num 2 (btsOf b) : Nat) : Int) := by
  have hlen : (btsOf b).length = b.length := by simp [btsOf]
  have := value_eq hN (l := btsOf b) (btsOf_lt h) (by omega)
  rw [chs_bts h] at this
  exact this
theorem dig_get {T k Y : Nat} (h : k < T) : (dig 2 T Y)[k]? = some (Y / 2 ^ (T - 1 - k) % 2) := by
  have e : dig 2 T Y = dig 2 k (Y / 2 ^ (1 + (T - 1 - k))) ++ ([Y / 2 ^ (T - 1 - k) % 2] ++ dig 2 (T - 1 - k) Y) := by
    conv => lhs; rw [show T = k + (1 + (T - 1 - k)) by omega]
    rw [dig_add, dig_add 2 1]
    rfl
  rw [e, List.getElem?_append_right (by rw [dig_len]; exact Nat.le_refl _), dig_len, Nat.sub_self]
  rfl
def dgSt (size n k : Nat) : List Int := toI (let48 ((dig 2 size n).take k) ++ List.replicate (size - k) 0)
theorem digits_l1 (N : Nat) {size n : Nat} (hs : size ≤ 16) (hn : n < 9223372036854775808) (kk) : ∀ (j k fuel : Nat), k + j = size → j < fuel →
    D_bits_digits_l1 N (n : Int) (size : Int) kk fuel (dgSt size n k, (size : Int), (k : Int)) = kk (dgSt size n size, (size : Int), (size : Int)) := by
  intro j
  induction j with
  | zero =>
    intro k fuel hk hf
    obtain ⟨fuel, rfl⟩ : ∃ m, fuel = m + 1 := ⟨fuel - 1, by omega⟩
    obtain rfl : k = size := by omega
    unfold D_bits_digits_l1
    rw [cF (dF (by omega))]
  | succ j ih =>
    intro k fuel hk hf
    obtain ⟨fuel, rfl⟩ : ∃ m, fuel = m + 1 := ⟨fuel - 1, by omega⟩
    have hlt : k < size := by omega
    have hih := ih (k + 1) fuel (by omega) (by omega)
    have ew : IntKind.i64.wrap (IntKind.i64.wrap ((size : Int) - 1) - (k : Int)) = ((size - 1 - k : Nat) : Int) := by rw [w64 (x := (size : Int) - 1) (by omega), w64 (by omega)]; omega
    have eb : andI .i64 (shrI .i64 (n : Int) ((size - 1 - k : Nat) : Int)) 1 = ((n / 2 ^ (size - 1 - k) % 2 : Nat) : Int) := by
      rw [shr_nat (by omega)]
      exact and_mask (k := 1) (Nat.lt_of_le_of_lt (Nat.div_le_self _ _) hn) (by decide)
    have hg := dig_get (Y := n) hlt
    have hb2 : n / 2 ^ (size - 1 - k) % 2 < 2 := Nat.mod_lt _ (by decide)
    have hl := dig_len 2 size n
    generalize hbv : n / 2 ^ (size - 1 - k) % 2 = b at *
    have hc : idx ([48, 49] : List UInt8) (b : Int) = some (UInt8.ofNat (48 + b)) := by
      rcases (show b = 0 ∨ b = 1 by omega) with rfl | rfl <;> rfl
    have hcn : ((UInt8.ofNat (48 + b)).toNat : Int) = ((48 + b : Nat) : Int) := by rw [UInt8.toNat_ofNat', Nat.mod_eq_of_lt (by omega)]
    have ht : (dig 2 size n).take (k + 1) = (dig 2 size n).take k ++ [b] := by
      rw [List.take_add_one, hg]; rfl
    have hl1 : (let48 ((dig 2 size n).take k)).length = k := by simp [let48, hl]; omega
    have hlen : (dgSt size n k).length = size := by
      unfold dgSt
      rw [toI_len, List.length_append, hl1, List.length_replicate]; omega
    have hget : ∃ e, idx (dgSt size n k) (k : Int) = some e := by rw [idx_nat]; exact ⟨_, List.getElem?_eq_getElem (by omega)⟩
    obtain ⟨e, he⟩ := hget
    have hset : setL (dgSt size n k) (k : Int) ((48 + b : Nat) : Int) = some (dgSt size n (k + 1)) := by
      unfold setL
      rw [if_pos (by omega), Int.toNat_natCast]
      unfold dgSt
      rw [← toI_set, ht, let48_app, show size - k = (size - (k + 1)) + 1 by omega, List.replicate_succ, List.append_assoc]
      congr 2
      rw [List.set_append_right _ _ (by omega), hl1, Nat.sub_self]
      rfl
    unfold D_bits_digits_l1
    rw [cT (dT (by omega)), ew, nn_nat, bsome, eb, hc, bsome, he, bsome, hcn, hset, bsome, w64 (x := (k : Int) + 1) (by omega)]
    exact hih
theorem digits_eq (N : Nat) (hN : 100 ≤ N) {size n : Nat} (hs : size ≤ 16) (hn : n < 9223372036854775808) : D_bits_digits N (n : Int) (size : Int) = some (chs (dig 2 size n)) := by
  unfold D_bits_digits
  rw [mk_eq (by omega), bsome, Int.toNat_natCast]
  have key := digits_l1 N hs hn (fun x : List Int × Int × Int => some (toB x.1)) size 0 N (by omega) (by omega)
  have h0 : dgSt size n 0 = List.replicate size 0 := by unfold dgSt; simp [let48, toI]
  have h1 : dgSt size n size = toI (let48 (dig 2 size n)) := by
    unfold dgSt
    rw [Nat.sub_self, List.take_of_length_le (by rw [dig_len]; exact Nat.le_refl _)]; simp
  rw [h0, h1] at key
  rw [List.length_replicate]
  refine Eq.trans key ?_
  dsimp only
  rw [toB_toI, let48_chs]
def numErr (n size : Int) : Int := if 0 ≤ size ∧ size ≤ 16 then (if 0 ≤ n ∧ n < ((2 ^ size.toNat : Nat) : Int) then 0 else 3) else 3
theorem one_shl {d : Nat} (hd : d ≤ 16) : shlI .i64 1 (d : Int) = ((2 ^ d : Nat) : Int) := by
  have hp := pow_le16 hd
  have := shl_nat (h := 1) (k := d) (by omega) (by omega)
  rw [Nat.one_mul] at this
  exact this
theorem number_code (N : Nat) (hN : 100 ≤ N) (n size : Int) : D_bits_Number N n size = some (if numErr n size = 0 then (chs (dig 2 size.toNat n.toNat), 0) else ([], 3)) := by
  unfold D_bits_Number
  by_cases h1 : size < 0
  · have : numErr n size = 3 := by unfold numErr; rw [if_neg (by omega)]
    rw [cT (dT h1), this]; rfl
  rw [cF (dF h1)]
  by_cases h2 : 16 < size
  · have : numErr n size = 3 := by unfold numErr; rw [if_neg (by omega)]
    rw [cT (dT h2), this]; rfl
  rw [cF (dF h2)]
  obtain ⟨d, rfl⟩ := Int.eq_ofNat_of_zero_le (show 0 ≤ size by omega)
  have hp := pow_le16 (d := d) (by omega)
  by_cases h3 : n < 0
  · have : numErr n d = 3 := by unfold numErr; rw [if_pos (by omega), if_neg (by omega)]
    rw [cT (dT h3), this]; rfl
  rw [cF (dF h3), nn_nat, bsome, one_shl (by omega)]
  by_cases h4 : ((2 ^ d : Nat) : Int) ≤ n
  · have : numErr n d = 3 := by unfold numErr; rw [if_pos (by omega), Int.toNat_natCast, if_neg (by omega)]
    rw [cT (dT h4), this]; rfl
  have hz : numErr n d = 0 := by unfold numErr; rw [if_pos (by omega), Int.toNat_natCast, if_pos (by omega)]
  obtain ⟨m, rfl⟩ := Int.eq_ofNat_of_zero_le (show 0 ≤ n by omega)
  rw [cF (dF h4), digits_eq N hN (by omega) (by omega), bsome, if_pos hz, Int.toNat_natCast, Int.toNat_natCast]
theorem numberError_eq (N : Nat) (n size : Int) : D_darkslideref_NumberError N n size = some (numErr n size) := by
  unfold D_darkslideref_NumberError numErr
  rw [within2, bsome]
  by_cases h1 : 0 ≤ size ∧ size ≤ 16
  rotate_left
  · rw [cT (by rw [dF h1]; rfl), if_neg h1]
  rw [cF (by rw [dT h1]; rfl), if_pos h1]
  obtain ⟨d, rfl⟩ := Int.eq_ofNat_of_zero_le h1.1
  have hp := pow_le16 (d := d) (by omega)
  have hp0 := Nat.two_pow_pos d
  rw [nn_nat, bsome, one_shl (by omega), w64 (x := ((2 ^ d : Nat) : Int) - 1) (by omega), within2, bsome, Int.toNat_natCast]
  by_cases h2 : 0 ≤ n ∧ n ≤ ((2 ^ d : Nat) : Int) - 1
  · rw [cF (by rw [dT h2]; rfl), if_pos (by omega)]
  · rw [cT (by rw [dF h2]; rfl), if_neg (by omega)]
theorem number_doc (N : Nat) (hN : 100 ≤ N) {n size : Int} (h : numErr n size = 0) : D_darkslideref_Number N n size = some (chs (dig 2 size.toNat n.toNat)) := by
  unfold numErr at h
  by_cases h1 : 0 ≤ size ∧ size ≤ 16
  rotate_left
  · rw [if_neg h1] at h; cases h
  rw [if_pos h1] at h
  obtain ⟨d, rfl⟩ := Int.eq_ofNat_of_zero_le h1.1
  have hp := pow_le16 (d := d) (by omega)
  by_cases h2 : 0 ≤ n ∧ n < ((2 ^ (d : Int).toNat : Nat) : Int)
  rotate_left
  · rw [if_neg h2] at h; cases h
  rw [Int.toNat_natCast] at h2
  obtain ⟨m, rfl⟩ := Int.eq_ofNat_of_zero_le h2.1
  rw [Int.toNat_natCast, Int.toNat_natCast]
  exact number_eq hN (by omega) (by omega)
theorem bits_l1 (N : Nat) (hN : 100 ≤ N) {s : List UInt8} (hs : s.length ≤ 16777216) (kk) : ∀ (j k fuel : Nat), k + j = s.length → j < fuel →
    D_bits_Bits_l1 N s kk fuel (chs (dig 2 (8 * k) (byt s k)), (k : Int)) = kk (chs (dig 2 (8 * s.length) (byt s s.length)), (s.length : Int)) := by
  intro j
  induction j with
  | zero =>
    intro k fuel hk hf
    obtain ⟨fuel, rfl⟩ : ∃ m, fuel = m + 1 := ⟨fuel - 1, by omega⟩
    obtain rfl : k = s.length := by omega
    unfold D_bits_Bits_l1
    rw [cF (dF (by omega))]
  | succ j ih =>
    intro k fuel hk hf
    obtain ⟨fuel, rfl⟩ : ∃ m, fuel = m + 1 := ⟨fuel - 1, by omega⟩
    have hlt : k < s.length := by omega
    have hb : s[k].toNat < 256 := s[k].toNat_lt
    have hih := ih (k + 1) fuel (by omega) (by omega)
    rw [byt_succ hlt, Nat.mul_add, Nat.mul_one, ← dig_next (show s[k].toNat < 2 ^ 8 from hb), chs_app] at hih
    have hd : D_bits_digits N (s[k].toNat : Int) 8 = some (chs (dig 2 8 s[k].toNat)) := digits_eq N hN (size := 8) (by decide) (by omega)
    have hbw : bwr (chs (dig 2 (8 * k) (byt s k))) (chs (dig 2 8 s[k].toNat)) = some (chs (dig 2 (8 * k) (byt s k)) ++ chs (dig 2 8 s[k].toNat)) := by
      unfold bwr
      rw [if_pos (by rw [chs_len, chs_len, dig_len, dig_len]; omega)]
    unfold D_bits_Bits_l1
    rw [cT (dT (by omega)), idx_nat, List.getElem?_eq_getElem hlt, bsome, w64 (x := (s[k].toNat : Int)) (by omega), hd, bsome, hbw, bsome, w64 (x := (k : Int) + 1) (by omega)]
    exact hih
theorem bits_eq (N : Nat) {s : List UInt8} (hs : s.length ≤ 16777216) (hN : 100 ≤ N ∧ s.length < N) : D_bits_Bits N s = some (chs (dig 2 (8 * s.length) (byt s s.length))) := by
  unfold D_bits_Bits
  exact bits_l1 N hN.1 hs (fun x : List UInt8 × Int => some x.1) s.length 0 N (by omega) (by omega)
end Go.Proofs.YtpmnfhifmmfglabDoor

namespace Go.Proofs.YtpmnfhifmmfglabDoor
open Go
theorem bitsBegun_far : D_darkslidelaw_bitsBegun 2000000 = some true := by kernel_rfl
theorem bitsRows_true (s b : List UInt8) (n size : Int) (hs : s.length ≤ 1048576) (hb : b.length ≤ 1048576) : D_darkslidelaw_BitsRows 2000000 s b n size = some true := by
  unfold D_darkslidelaw_BitsRows D_darkslidelaw_BitsRows_j1 D_darkslidelaw_BitsRows_j2 D_darkslidelaw_BitsRows_j3 D_darkslidelaw_BitsRows_j4
  rw [bytes_code 2000000 (by omega) (by omega), bsome, isRow_eq 2000000 (by omega) (by omega), bsome, value_code 2000000 (by omega) (by omega), number_code 2000000 (by omega), numberError_eq, bitsBegun_far, bits_eq 2000000 (by omega) (by omega), row_eq 2000000 (by omega) (by omega)]
  have hne : ¬ numErr n size = 0 → numErr n size = 3 := fun h => by
    unfold numErr at h ⊢
    split
    · split
      · rename_i h1 h2; rw [if_pos h1, if_pos h2] at h; exact absurd rfl h
      · rfl
    · rfl
  have hnd := fun h => number_doc 2000000 (by omega) (n := n) (size := size) h
  by_cases hB : isB b = true
  · have hbd := bytes_doc 2000000 hB (by omega) (by omega)
    rw [hB, cT rfl, hbd, bsome]
    by_cases h16 : b.length ≤ 16
    · have hvd := value_doc 2000000 (by omega) hB h16
      rw [cT (dT (by omega)), hvd, bsome, if_pos rfl, if_pos rfl, if_pos h16]
      by_cases hz : numErr n size = 0
      · simp [hz, hnd hz]
      · simp [hz, hne hz]
    · rw [cF (dF (by omega)), if_pos rfl, if_pos rfl, if_neg h16]
      by_cases hz : numErr n size = 0
      · simp [hz, hnd hz]
      · simp [hz, hne hz]
  · have hf : isB b = false := by simpa using hB
    simp only [hf, Bool.false_eq_true, if_false]
    rw [cF rfl]
    by_cases hz : numErr n size = 0
    · simp [hz, hnd hz]
    · simp [hz, hne hz]
end Go.Proofs.YtpmnfhifmmfglabDoor

namespace Go.Proofs.YtpmnfhifmmfglabDoor
open Go.RowKit
section
variable {P : Program} {ops : Array Oper} {Q : Exit → Act → World → Prop} {S : World → Prop} {rob need : Nat → Bool} {R : Act → World → Prop}
def rdy (ops : Array Oper) (rem : List Nat) (i : Nat) : Bool := rem.all fun j => !waits ops i j
def wpTr (P : Program) (ops : Array Oper) (S : World → Prop) (rob need : Nat → Bool) (R : Act → World → Prop) : Nat → List Nat → Act → World → Prop
  | 0, rem, a, w => rem = [] ∧ R a w
  | n + 1, rem, a, w =>
    (∃ i ∈ rem, rob i = true ∧ rdy ops rem i = true ∧ ∃ o, ops[i]? = some o ∧ ∃ v, YldS P ops S o v a ∧ wpTr P ops S rob need R n (rem.erase i) (a.put o.dst v) w) ∨
    ((∀ i ∈ rem, rob i = true → rdy ops rem i = false) ∧ ∀ c ∈ rem, rob c = false → rdy ops rem c = true → wpOp P ops NoOut c (fun a' w' => (need c = true → S w') ∧ wpTr P ops S rob need R n (rem.erase c) a' w') a w)
def trPair (ops : Array Oper) (rob : Nat → Bool) (i j : Nat) : Bool :=
  match ops[i]?, ops[j]? with
  | some oi, some oj => waits ops i j || ((!rob i || oi.apart ops oj) && (!rob j || oj.apart ops oi))
  | _, _ => false
def trOK (ops : Array Oper) (rob need : Nat → Bool) : Bool :=
  Region.noSelect ops && txtBack ops && ((List.range ops.size).all fun i => (List.range i).all fun j => trPair ops rob i j) &&
  (List.range ops.size).all fun i => rob i || need i || !freeOf ops rob i
theorem rdy_erase {rem : List Nat} {i k : Nat} (h : rdy ops rem i = true) : rdy ops (rem.erase k) i = true := by
  unfold rdy at *
  rw [List.all_eq_true] at *
  exact fun j hj => h j (List.mem_of_mem_erase hj)
theorem rdy_waits {rem : List Nat} {i j : Nat} (h : rdy ops rem i = true) (hj : j ∈ rem) : waits ops i j = false := by
  unfold rdy at h
  rw [List.all_eq_true] at h
  simpa using h j hj
theorem tr_pull {i : Nat} {oi : Oper} (hi : ops[i]? = some oi) (hr : rob i = true) (hsel : ∀ (j : Nat) (o : Oper) cs b, ops[j]? = some o → o.op ≠ .select cs b)
    (hpair : ∀ j k oj ok, j ≠ k → ops[j]? = some oj → ops[k]? = some ok → waits ops j k = false → waits ops k j = false → (rob j = true → oj.apart ops ok = true)) :
    ∀ (n : Nat) (rem : List Nat) (a : Act) (w : World), i ∈ rem → rdy ops rem i = true → wpTr P ops S rob need R (n + 1) rem a w → ∃ v, YldS P ops S oi v a ∧ wpTr P ops S rob need R n (rem.erase i) (a.put oi.dst v) w := by
  intro n
  induction n with
  | zero =>
    intro rem a w him hrd h
    rcases h with ⟨i0, hi0, hr0, hd0, o0, ho0, u, hu, h⟩ | ⟨hno, _⟩
    · obtain ⟨hnil, hR⟩ := h
      have : i0 = i := by
        by_cases e : i0 = i
        · exact e
        · have : i ∈ rem.erase i0 := (List.mem_erase_of_ne (fun h => e h.symm)).2 him
          rw [hnil] at this; cases this
      subst this
      obtain rfl : o0 = oi := Option.some.inj (ho0.symm.trans hi)
      exact ⟨u, hu, hnil, hR⟩
    · rw [hno i him hr] at hrd; cases hrd
  | succ n ih =>
    intro rem a w him hrd h
    rcases h with ⟨i0, hi0, hr0, hd0, o0, ho0, u, hu, h⟩ | ⟨hno, _⟩
    · by_cases e : i0 = i
      · subst e
        obtain rfl : o0 = oi := Option.some.inj (ho0.symm.trans hi)
        exact ⟨u, hu, h⟩
      · have him' : i ∈ rem.erase i0 := (List.mem_erase_of_ne (fun h => e h.symm)).2 him
        obtain ⟨v, hv, h⟩ := ih _ _ _ him' (rdy_erase hrd) h
        have w1 := rdy_waits hrd hi0
        have w2 := rdy_waits hd0 him
        have ap1 := hpair i i0 oi o0 (fun h => e h.symm) hi ho0 w1 w2 hr
        have ap2 := hpair i0 i o0 oi e ho0 hi w2 w1 hr0
        obtain ⟨p1, p2, p3⟩ := Oper.apart_spec ap1
        obtain ⟨q1, q2, q3⟩ := Oper.apart_spec ap2
        have hv' : YldS P ops S oi v a := hv.same (execOp_put oi (fun cs b => hsel i oi cs b hi) a o0.dst u p3).symm (wanted_put oi a o0.dst u p3).symm
        refine ⟨v, hv', .inl ⟨i0, (List.mem_erase_of_ne e).2 hi0, hr0, rdy_erase hd0, o0, ho0, u, ?_, ?_⟩⟩
        · exact hu.same (execOp_put o0 (fun cs b => hsel i0 o0 cs b ho0) a oi.dst v q3) (wanted_put o0 a oi.dst v q3)
        · rw [List.erase_comm, Act.put_comm a v u p2]; exact h
    · rw [hno i him hr] at hrd; cases hrd
theorem tr_push {c : Nat} {oc : Oper} (hc : ops[c]? = some oc) (hrc : rob c = false) (hsel : ∀ (j : Nat) (o : Oper) cs b, ops[j]? = some o → o.op ≠ .select cs b)
    (hpair : ∀ j k oj ok, j ≠ k → ops[j]? = some oj → ops[k]? = some ok → waits ops j k = false → waits ops k j = false → (rob j = true → oj.apart ops ok = true)) :
    ∀ (n : Nat) (rem : List Nat) (a : Act) (w : World), c ∈ rem → rdy ops rem c = true → wpTr P ops S rob need R (n + 1) rem a w → wpOp P ops NoOut c (fun a' w' => (need c = true → S w') ∧ wpTr P ops S rob need R n (rem.erase c) a' w') a w := by
  intro n
  induction n with
  | zero =>
    intro rem a w hcm hrd h
    rcases h with ⟨i0, hi0, hr0, hd0, o0, ho0, u, hu, h⟩ | ⟨_, h⟩
    · obtain ⟨hnil, hR⟩ := h
      have e : i0 ≠ c := fun e => by subst e; rw [hrc] at hr0; cases hr0
      have : c ∈ rem.erase i0 := (List.mem_erase_of_ne (fun h => e h.symm)).2 hcm
      rw [hnil] at this; cases this
    · exact h c hcm hrc hrd
  | succ n ih =>
    intro rem a w hcm hrd h
    rcases h with ⟨i0, hi0, hr0, hd0, o0, ho0, u, hu, h⟩ | ⟨_, h⟩
    · have e : i0 ≠ c := fun e => by subst e; rw [hrc] at hr0; cases hr0
      have hcm' : c ∈ rem.erase i0 := (List.mem_erase_of_ne (fun h => e h.symm)).2 hcm
      have h2 := ih _ _ _ hcm' (rdy_erase hrd) h
      have w1 := rdy_waits hrd hi0
      have w2 := rdy_waits hd0 hcm
      have ap := hpair i0 c o0 oc e ho0 hc w2 w1 hr0
      have h3 := wpOp_ahead hc ap (fun cs b => hsel i0 o0 cs b ho0) (fun cs b => hsel c oc cs b hc) hu h2
      refine wpOp_mono ?_ h3
      rintro a' w' ⟨hy, hn, hk⟩
      refine ⟨hn, .inl ⟨i0, (List.mem_erase_of_ne e).2 hi0, hr0, rdy_erase hd0, o0, ho0, u, hy, ?_⟩⟩
      rw [List.erase_comm]; exact hk
    · exact h c hcm hrc hrd
theorem filter_ne_erase {l : List Nat} (hl : l.Nodup) (i : Nat) : l.filter (· != i) = l.erase i := by
  rw [List.Nodup.erase_eq_filter hl]
theorem wpAny_of_tr (hok : trOK ops rob need = true) : ∀ (fuel : Nat) (listed : Array Bool) (a : Act) (w : World), listed.size = ops.size → Closed ops listed → (remOf ops listed).length = fuel →
    (∀ r ∈ remOf ops listed, rob r = true → S w) → wpTr P ops S rob need (Q .normal) fuel (remOf ops listed) a w → wpAny P .any ops Q fuel listed a w := by
  simp only [trOK, Bool.and_eq_true] at hok
  obtain ⟨⟨⟨hsel0, hback⟩, hpair0⟩, hneed⟩ := hok
  have hsel := Region.noSelect_spec hsel0
  have hp : ∀ i < ops.size, ∀ j < i, trPair ops rob i j = true := fun i hi j hj => List.all_eq_true.1 (List.all_eq_true.1 hpair0 i (List.mem_range.2 hi)) j (List.mem_range.2 hj)
  have hpair : ∀ j k oj ok, j ≠ k → ops[j]? = some oj → ops[k]? = some ok → waits ops j k = false → waits ops k j = false → (rob j = true → oj.apart ops ok = true) := by
    intro j k oj ok hjk hj hk w1 w2 hr
    have hjl := (Array.getElem?_eq_some_iff.1 hj).1
    have hkl := (Array.getElem?_eq_some_iff.1 hk).1
    rcases Nat.lt_or_gt_of_ne hjk with hlt | hlt
    · have h := hp k hkl j hlt
      unfold trPair at h
      simp only [hj, hk, w2, Bool.false_or, Bool.and_eq_true, Bool.or_eq_true, Bool.not_eq_true'] at h
      rcases h.2 with h0 | h0
      · rw [hr] at h0; cases h0
      · exact h0
    · have h := hp j hjl k hlt
      unfold trPair at h
      simp only [hj, hk, w1, Bool.false_or, Bool.and_eq_true, Bool.or_eq_true, Bool.not_eq_true'] at h
      rcases h.1 with h0 | h0
      · rw [hr] at h0; cases h0
      · exact h0
  have hbk : ∀ i o, ops[i]? = some o → ∀ e ∈ o.after, Region.binds .any e = true → e.on < i := fun i o ho e he hb => by
    have hi : i < ops.size := (Array.getElem?_eq_some_iff.1 ho).1
    have h := List.all_eq_true.1 hback i (List.mem_range.2 hi)
    simp only [ho] at h
    have h2 := Array.all_eq_true_iff_forall_mem.1 h e he
    simpa [hb] using h2
  have hnd : ∀ i < ops.size, rob i = false → ∀ r < ops.size, rob r = true → waits ops i r = false → need i = true := fun i hi hri r hr hrr hw => by
    have h := List.all_eq_true.1 hneed i (List.mem_range.2 hi)
    simp only [hri, Bool.false_or, Bool.or_eq_true, Bool.not_eq_true'] at h
    refine h.resolve_right fun h0 => ?_
    have : freeOf ops rob i = true := by
      refine List.any_eq_true.2 ⟨r, List.mem_range.2 hr, ?_⟩
      have : r ≠ i := fun e => by subst e; rw [hri] at hrr; cases hrr
      simp [hrr, hw, this]
    rw [this] at h0
    cases h0
  intro fuel
  induction fuel with
  | zero =>
    intro listed a w hs hc hlen _ h
    have hnil : remOf ops listed = [] := List.eq_nil_of_length_eq_zero hlen
    obtain ⟨_, h⟩ := h
    refine ⟨?_, h⟩
    refine List.eq_nil_iff_forall_not_mem.2 fun i hi => ?_
    obtain ⟨h0, o, ho, _⟩ := mem_ready.1 hi
    have : i ∈ remOf ops listed := mem_remOf.2 ⟨(Array.getElem?_eq_some_iff.1 ho).1, h0⟩
    rw [hnil] at this
    cases this
  | succ fuel ih =>
    intro listed a w hs hc hlen hS h
    refine ⟨fun h0 => ?_, fun i hi => ?_⟩
    · exfalso
      match hr : remOf ops listed, hlen with
      | i0 :: rest, _ =>
        have hm0 : i0 ∈ remOf ops listed := by rw [hr]; exact List.mem_cons_self ..
        obtain ⟨hlt, hun⟩ := mem_remOf.1 hm0
        have hsorted := remOf_sorted (ops := ops) listed
        rw [hr, List.pairwise_cons] at hsorted
        have : i0 ∈ Region.ready .any ops listed := by
          refine mem_ready.2 ⟨hun, ops[i0], Array.getElem?_eq_getElem hlt, fun e he hb => ?_⟩
          have hlt2 := hbk i0 _ (Array.getElem?_eq_getElem hlt) e he hb
          cases hl : listed.getD e.on false with
          | true => rfl
          | false =>
            have hm : e.on ∈ remOf ops listed := mem_remOf.2 ⟨by omega, by rw [listed_eq (by omega)]; exact hl⟩
            rw [hr] at hm
            rcases List.mem_cons.1 hm with hm | hm
            · omega
            · have := hsorted.1 _ hm; omega
        rw [h0] at this
        cases this
    · obtain ⟨hun, oi, hoi, hall⟩ := mem_ready.1 hi
      have hilt : i < ops.size := (Array.getElem?_eq_some_iff.1 hoi).1
      have him : i ∈ remOf ops listed := mem_remOf.2 ⟨hilt, hun⟩
      have hnodup : (remOf ops listed).Nodup := (remOf_sorted (ops := ops) listed).imp fun h => Nat.ne_of_lt h
      have hrem' : remOf ops (listed.setIfInBounds i true) = (remOf ops listed).erase i := by rw [remOf_set hs hilt, filter_ne_erase hnodup]
      have hlen' : (remOf ops (listed.setIfInBounds i true)).length = fuel := by
        rw [hrem', List.length_erase_of_mem him]; omega
      have hs' : (listed.setIfInBounds i true).size = ops.size := by simpa using hs
      have hc' : Closed ops (listed.setIfInBounds i true) := by
        intro k hk j hj
        by_cases hik : i = k
        · subst hik; exact getD_set_true (ready_waits hi hj)
        · rw [getD_set_ne false hik] at hk; exact getD_set_true (hc k hk j hj)
      have hrd : rdy ops (remOf ops listed) i = true := by
        unfold rdy
        rw [List.all_eq_true]
        intro j hj
        obtain ⟨h1, h2⟩ := mem_remOf.1 hj
        cases hw : waits ops i j with
        | false => rfl
        | true =>
          have := ready_waits hi hw
          rw [← listed_eq (by omega), h2] at this; cases this
      cases hri : rob i with
      | true =>
        have hSw : S w := hS i him hri
        obtain ⟨v, hv, hrest⟩ := tr_pull hoi hri hsel hpair fuel _ a w him hrd h
        refine hv.run hoi hSw (ih _ _ _ hs' hc' hlen' (fun _ _ _ => hSw) (by rw [hrem']; exact hrest))
      | false =>
        have h2 := tr_push hoi hri hsel hpair fuel _ a w him hrd h
        refine wpOp_out (wpOp_mono ?_ h2)
        rintro a' w' ⟨hn, hk⟩
        refine ih _ _ _ hs' hc' hlen' ?_ (by rw [hrem']; exact hk)
        intro r hr hrr
        rw [hrem'] at hr
        have hrm := List.mem_of_mem_erase hr
        exact hn (hnd i hilt hri r (mem_remOf.1 hrm).1 hrr (rdy_waits hrd hrm))
theorem wp_region_tr {id : Nat} {a : Act} {w : World} {l : List Oper} (S : World → Prop) (f : List Nat) (n : Nat) (rem : List Nat) (hm : P.follows .mixedOrders = true) (hok : trOK l.toArray (robOf f) (needOf f) = true)
    (hl : List.range l.toArray.size = rem) (hn : rem.length = n) (hS : S w.drew) (h : wpTr P l.toArray S (robOf f) (needOf f) (Q .normal) n rem a w.drew) : (Code.region id l.toArray true).wp P Q a w := by
  refine wp_region_any hm ?_
  have hrem : remOf l.toArray (Array.replicate l.toArray.size false) = List.range l.toArray.size := by
    unfold remOf
    refine List.filter_eq_self.2 fun i hi => ?_
    have := List.mem_range.1 hi
    simp at this
    simp [this]
  refine wpAny_of_tr hok l.toArray.size (Array.replicate l.toArray.size false) a _ (by simp) ?_ (by rw [hrem]; simp) (fun _ _ _ => hS) ?_
  · intro i hi
    rw [getD_replicate_f] at hi
    cases hi
  · rw [hrem, hl]
    have : l.toArray.size = n := by rw [← hn, ← hl]; simp
    rw [this]; exact h
variable {D : List Deferred} {a : Act} {w : World} {N : Nat} {l : List (Nat × Value)} {o : Oper} {v : Value} {post : Value → World → Prop} {d i c n : Nat} {rem rem' : List Nat} {f : List Nat}
theorem R_rd (i : Nat) (rem' : List Nat) (hc : (rem.elem i && robOf f i && rdy ops rem i && rem.erase i == rem') = true) (ho : ops[i]? = some o) (K : Kd D a N l) (hw : Region.wanted o (yielded ops a.tmps) = true) (hd : o.dst = some d) (hN : Nat.blt d N = true) (hr : Rd P S a o v)
    (k : ∀ a', Kd D a' N ((d, v) :: l) → wpTr P ops S (robOf f) (needOf f) R n rem' a' w) : wpTr P ops S (robOf f) (needOf f) R (n + 1) rem a w := by
  simp only [Bool.and_eq_true, beq_iff_eq, List.elem_iff] at hc
  obtain ⟨⟨⟨h1, h2⟩, h3⟩, rfl⟩ := hc
  refine .inl ⟨i, h1, h2, h3, o, ho, v, .inl ⟨hw, hr⟩, ?_⟩
  have := K.put (d := o.dst) (by rw [hd]; exact hN) v
  rw [hd] at this ⊢
  exact k _ this
def AllC (p : Nat → Prop) : List Nat → Prop
  | [] => True
  | c :: cs => p c ∧ AllC p cs
theorem allC_mem {p : Nat → Prop} : ∀ {cs : List Nat}, AllC p cs → ∀ c ∈ cs, p c
  | [], _, c, h => by cases h
  | d :: cs, h, c, hc => by
    rcases List.mem_cons.1 hc with rfl | hc
    · exact h.1
    · exact allC_mem h.2 c hc
/-- One of several comes first. -/
theorem R_br (cs : List Nat) (hc : ((rem.all fun i => !robOf f i || !rdy ops rem i) && (rem.filter fun c => !robOf f c && rdy ops rem c) == cs) = true)
    (h : AllC (fun c => wpOp P ops NoOut c (fun a' w' => (needOf f c = true → S w') ∧ wpTr P ops S (robOf f) (needOf f) R n (rem.erase c) a' w') a w) cs) : wpTr P ops S (robOf f) (needOf f) R (n + 1) rem a w := by
  simp only [Bool.and_eq_true, beq_iff_eq] at hc
  obtain ⟨h1, rfl⟩ := hc
  refine .inr ⟨fun i hi hr => ?_, fun c hcm hr hrd => allC_mem h c (List.mem_filter.2 ⟨hcm, by simp [hr, hrd]⟩)⟩
  have := List.all_eq_true.1 h1 i hi
  simpa [hr] using this
theorem R_ac (rem' : List Nat) (hc : (rem.erase c == rem') = true) (ho : ops[c]? = some o) (K : Kd D a N l) (hw : Region.wanted o (yielded ops a.tmps) = true) (hd : o.dst = some d) (hN : Nat.blt d N = true) (h : Ac P o a w post)
    (k : ∀ v a' w', post v w' → Kd D a' N ((d, v) :: l) → (needOf f c = true → S w') ∧ wpTr P ops S (robOf f) (needOf f) R n rem' a' w') : wpOp P ops NoOut c (fun a' w' => (needOf f c = true → S w') ∧ wpTr P ops S (robOf f) (needOf f) R n (rem.erase c) a' w') a w := by
  obtain rfl : rem.erase c = rem' := by simpa using hc
  unfold wpOp
  simp only [ho, hw, if_true]
  refine .inl (h _ _ fun v w' hp => ?_)
  have := K.put (d := o.dst) (by rw [hd]; exact hN) v
  rw [hd] at this ⊢
  exact k v _ w' hp this
theorem X_join {St Rt : Type} {Rel : St → Act → World → Prop} {kk : St → Option Rt} {jf : (St → Option Rt) → Option Rt} {r : Rt} {p : Code} (h : jf kk = some r) (hk : ∀ st a w, Rel st a w → kk st = some r → Q .normal a w)
    (hc : ∀ kk : St → Option Rt, (∀ st a w, Rel st a w → kk st = some r → Q .normal a w) → jf kk = some r → p.wp P Q a w) : p.wp P Q a w := hc kk hk h
theorem R_end (h : R a w) : wpTr P ops S (robOf f) (needOf f) R 0 [] a w := ⟨rfl, h⟩
end
end Go.Proofs.YtpmnfhifmmfglabDoor

namespace Go.Proofs.YtpmnfhifmmfglabDoor
open Go.RowKit
abbrev I (n : Int) : Value := .int .i64 n
/-- A reading operation's answer, or nothing where its guard bars it. -/
inductive Stp (P : Program) (ops : Array Oper) (S : World → Prop) (D : List Deferred) (N : Nat) (l : List (Nat × Value)) (o : Oper) (v : Value) : Prop where
  | yes (hw : ∀ a, Kd D a N l → Region.wanted o (yielded ops a.tmps) = true) (hr : ∀ a, Kd D a N l → Rd P S a o v)
  | no (hw : ∀ a, Kd D a N l → Region.wanted o (yielded ops a.tmps) = false) (hv : undef = v)
section
variable {P : Program} {base : Nat} {W w : World} {L : List Ent} {S : World → Prop} {D : List Deferred} {a : Act} {N : Nat} {l : List (Nat × Value)} {o : Oper} {v : Value} {post : Value → World → Prop}
  {ops : Array Oper} {Q : Exit → Act → World → Prop} {R : Act → World → Prop} {rest : List Oper} {d : Nat} {f : List Nat}
theorem X_o (K : Kd D a N l) (M : Mem base W w L) (k : ∀ a', Kd D a' N ((d, v) :: l) → wpList P ops Q rest a' w) (hd : o.dst = some d := by exact rfl) (hN : Nat.blt d N = true := by exact rfl)
    (hs : Stp P ops (fun w => Mem base W w L) D N l o v := by
      first
      | exact .no (fun a K => K.no rfl rfl rfl rfl) rfl
      | exact .no (fun a K => K.nou rfl rfl rfl) rfl
      | exact .yes (by first | exact fun a K => want_no rfl | exact fun a K => K.yes rfl rfl rfl) (by
         first
         | exact fun a K => rd_move rfl K rfl
         | exact fun a K => rd_assign rfl K rfl
         | exact fun a K => rd_pickT rfl K rfl rfl
         | exact fun a K => rd_pickF rfl K rfl rfl
         | exact fun a K => rd_nil rfl K rfl
         | exact fun a K => rd_extract rfl K rfl rfl
         | exact fun a K => rd_not rfl K rfl
         | exact fun a K => rd_add rfl K rfl rfl
         | exact fun a K => rd_lss rfl K rfl rfl
         | exact fun a K => rd_sub rfl K rfl rfl
         | exact fun a K => rd_mul rfl K rfl rfl
         | exact fun a K => rd_eql rfl K rfl rfl
         | exact fun a K => rd_neq rfl K rfl rfl
         | exact fun a K => rd_gtr rfl K rfl rfl
         | exact fun a K => rd_leq rfl K rfl rfl
         | exact fun a K => rd_geq rfl K rfl rfl
         | exact fun a K => rd_min rfl K rfl rfl
         | exact fun a K => rd_max rfl K rfl rfl
         | exact fun a K => rd_and rfl K rfl rfl)) : wpList P ops Q (o :: rest) a w := by
  cases hs with
  | yes hw hr => exact X_rd K (hw a K) hd hN (hr a K) M k
  | no hw hv => subst hv; exact X_no K (hw a K) hd hN k
theorem Y_o (M : Mem base W w L) (k : ∀ a', Kd D a' N ((d, v) :: l) → wpList P ops Q rest a' w) (hd : o.dst = some d := by exact rfl) (hN : Nat.blt d N = true := by exact rfl)
    (hs : Stp P ops (fun w => Mem base W w L) D N l o v := by
      first
      | exact .no (fun a K => K.no rfl rfl rfl rfl) rfl
      | exact .no (fun a K => K.nou rfl rfl rfl) rfl
      | exact .yes (by first | exact fun a K => want_no rfl | exact fun a K => K.yes rfl rfl rfl) (by
         first
         | exact fun a K => rd_move rfl K rfl
         | exact fun a K => rd_assign rfl K rfl
         | exact fun a K => rd_pickT rfl K rfl rfl
         | exact fun a K => rd_pickF rfl K rfl rfl
         | exact fun a K => rd_nil rfl K rfl
         | exact fun a K => rd_extract rfl K rfl rfl
         | exact fun a K => rd_not rfl K rfl
         | exact fun a K => rd_add rfl K rfl rfl
         | exact fun a K => rd_lss rfl K rfl rfl
         | exact fun a K => rd_sub rfl K rfl rfl
         | exact fun a K => rd_mul rfl K rfl rfl
         | exact fun a K => rd_eql rfl K rfl rfl
         | exact fun a K => rd_neq rfl K rfl rfl
         | exact fun a K => rd_gtr rfl K rfl rfl
         | exact fun a K => rd_leq rfl K rfl rfl
         | exact fun a K => rd_geq rfl K rfl rfl
         | exact fun a K => rd_min rfl K rfl rfl
         | exact fun a K => rd_max rfl K rfl rfl
         | exact fun a K => rd_and rfl K rfl rfl)) : ∀ a, Kd D a N l → wpList P ops Q (o :: rest) a w := fun a K => X_o K M k hd hN hs
theorem Y_r (hr : ∀ a, Kd D a N l → Rd P (fun w => Mem base W w L) a o v) (M : Mem base W w L) (k : ∀ a', Kd D a' N ((d, v) :: l) → wpList P ops Q rest a' w)
    (hw : ∀ a, Kd D a N l → Region.wanted o (yielded ops a.tmps) = true := by first | exact fun a K => want_no rfl | exact fun a K => K.yes rfl rfl rfl) (hd : o.dst = some d := by exact rfl) (hN : Nat.blt d N = true := by exact rfl) :
    ∀ a, Kd D a N l → wpList P ops Q (o :: rest) a w := fun a K => X_rd K (hw a K) hd hN (hr a K) M k
theorem X_r (K : Kd D a N l) (hr : Rd P (fun w => Mem base W w L) a o v) (M : Mem base W w L) (k : ∀ a', Kd D a' N ((d, v) :: l) → wpList P ops Q rest a' w)
    (hw : ∀ a, Kd D a N l → Region.wanted o (yielded ops a.tmps) = true := by first | exact fun a K => want_no rfl | exact fun a K => K.yes rfl rfl rfl) (hd : o.dst = some d := by exact rfl) (hN : Nat.blt d N = true := by exact rfl) :
    wpList P ops Q (o :: rest) a w := X_rd K (hw a K) hd hN hr M k
theorem X_a (K : Kd D a N l) (h : Ac P o a w post) (k : ∀ v a' w', post v w' → Kd D a' N ((d, v) :: l) → wpList P ops Q rest a' w')
    (hw : ∀ a, Kd D a N l → Region.wanted o (yielded ops a.tmps) = true := by first | exact fun a K => want_no rfl | exact fun a K => K.yes rfl rfl rfl) (hd : o.dst = some d := by exact rfl) (hN : Nat.blt d N = true := by exact rfl) :
    wpList P ops Q (o :: rest) a w := X_ac K (hw a K) hd hN h k
theorem X_b (K : Kd D a N l) (h : Ac P o a w post) (k : ∀ v a' w', post v w' → Kd D a' N l → wpList P ops Q rest a' w')
    (hw : ∀ a, Kd D a N l → Region.wanted o (yielded ops a.tmps) = true := by first | exact fun a K => want_no rfl | exact fun a K => K.yes rfl rfl rfl) (hd : o.dst = none := by exact rfl) :
    wpList P ops Q (o :: rest) a w := X_a0 K (hw a K) hd h k
theorem T_o (K : Kd D a N l) (k : ∀ a', Kd D a' N ((d, v) :: l) → wpTl P ops S R (marked f rest) a' w) (hd : o.dst = some d := by exact rfl) (hN : Nat.blt d N = true := by exact rfl)
    (hs : Stp P ops S D N l o v := by
      first
      | exact .no (fun a K => K.no rfl rfl rfl rfl) rfl
      | exact .no (fun a K => K.nou rfl rfl rfl) rfl
      | exact .yes (by first | exact fun a K => want_no rfl | exact fun a K => K.yes rfl rfl rfl) (by
         first
         | exact fun a K => rd_move rfl K rfl
         | exact fun a K => rd_assign rfl K rfl
         | exact fun a K => rd_pickT rfl K rfl rfl
         | exact fun a K => rd_pickF rfl K rfl rfl
         | exact fun a K => rd_nil rfl K rfl
         | exact fun a K => rd_extract rfl K rfl rfl
         | exact fun a K => rd_not rfl K rfl
         | exact fun a K => rd_add rfl K rfl rfl
         | exact fun a K => rd_lss rfl K rfl rfl
         | exact fun a K => rd_sub rfl K rfl rfl
         | exact fun a K => rd_mul rfl K rfl rfl
         | exact fun a K => rd_eql rfl K rfl rfl
         | exact fun a K => rd_neq rfl K rfl rfl
         | exact fun a K => rd_gtr rfl K rfl rfl
         | exact fun a K => rd_leq rfl K rfl rfl
         | exact fun a K => rd_geq rfl K rfl rfl
         | exact fun a K => rd_min rfl K rfl rfl
         | exact fun a K => rd_max rfl K rfl rfl
         | exact fun a K => rd_and rfl K rfl rfl)) : wpTl P ops S R (marked (0 :: f) (o :: rest)) a w := by
  cases hs with
  | yes hw hr => exact T_rd K (hw a K) hd hN (hr a K) k
  | no hw hv => subst hv; exact T_no K (hw a K) hd hN k
theorem U_o (k : ∀ a', Kd D a' N ((d, v) :: l) → wpTl P ops S R (marked f rest) a' w) (hd : o.dst = some d := by exact rfl) (hN : Nat.blt d N = true := by exact rfl)
    (hs : Stp P ops S D N l o v := by
      first
      | exact .no (fun a K => K.no rfl rfl rfl rfl) rfl
      | exact .no (fun a K => K.nou rfl rfl rfl) rfl
      | exact .yes (by first | exact fun a K => want_no rfl | exact fun a K => K.yes rfl rfl rfl) (by
         first
         | exact fun a K => rd_move rfl K rfl
         | exact fun a K => rd_assign rfl K rfl
         | exact fun a K => rd_pickT rfl K rfl rfl
         | exact fun a K => rd_pickF rfl K rfl rfl
         | exact fun a K => rd_nil rfl K rfl
         | exact fun a K => rd_extract rfl K rfl rfl
         | exact fun a K => rd_not rfl K rfl
         | exact fun a K => rd_add rfl K rfl rfl
         | exact fun a K => rd_lss rfl K rfl rfl
         | exact fun a K => rd_sub rfl K rfl rfl
         | exact fun a K => rd_mul rfl K rfl rfl
         | exact fun a K => rd_eql rfl K rfl rfl
         | exact fun a K => rd_neq rfl K rfl rfl
         | exact fun a K => rd_gtr rfl K rfl rfl
         | exact fun a K => rd_leq rfl K rfl rfl
         | exact fun a K => rd_geq rfl K rfl rfl
         | exact fun a K => rd_min rfl K rfl rfl
         | exact fun a K => rd_max rfl K rfl rfl
         | exact fun a K => rd_and rfl K rfl rfl)) : ∀ a, Kd D a N l → wpTl P ops S R (marked (0 :: f) (o :: rest)) a w := fun a K => T_o K k hd hN hs
theorem U_r (hr : ∀ a, Kd D a N l → Rd P S a o v) (k : ∀ a', Kd D a' N ((d, v) :: l) → wpTl P ops S R (marked f rest) a' w)
    (hw : ∀ a, Kd D a N l → Region.wanted o (yielded ops a.tmps) = true := by first | exact fun a K => want_no rfl | exact fun a K => K.yes rfl rfl rfl) (hd : o.dst = some d := by exact rfl) (hN : Nat.blt d N = true := by exact rfl) :
    ∀ a, Kd D a N l → wpTl P ops S R (marked (0 :: f) (o :: rest)) a w := fun a K => T_rd K (hw a K) hd hN (hr a K) k
theorem T_r (K : Kd D a N l) (hr : Rd P S a o v) (k : ∀ a', Kd D a' N ((d, v) :: l) → wpTl P ops S R (marked f rest) a' w)
    (hw : ∀ a, Kd D a N l → Region.wanted o (yielded ops a.tmps) = true := by first | exact fun a K => want_no rfl | exact fun a K => K.yes rfl rfl rfl) (hd : o.dst = some d := by exact rfl) (hN : Nat.blt d N = true := by exact rfl) :
    wpTl P ops S R (marked (0 :: f) (o :: rest)) a w := T_rd K (hw a K) hd hN hr k
theorem T_b (K : Kd D a N l) (h : Ac P o a w post) (k : ∀ v a' w', post v w' → Kd D a' N l → wpTl P ops S R (marked f rest) a' w')
    (hw : ∀ a, Kd D a N l → Region.wanted o (yielded ops a.tmps) = true := by first | exact fun a K => want_no rfl | exact fun a K => K.yes rfl rfl rfl) (hd : o.dst = none := by exact rfl) :
    wpTl P ops S R (marked (2 :: f) (o :: rest)) a w := T_a0z K (hw a K) hd h k
end
end Go.Proofs.YtpmnfhifmmfglabDoor

namespace Go.Proofs.YtpmnfhifmmfglabDoor
open Go.RowKit
theorem bs_size (l : List UInt8) : (bs l).size = l.length := by simp [bs, ByteArray.size]
theorem bs_toList (l : List UInt8) : (bs l).toList = l := ByteArray.toList_mk l
theorem bs_append (l m : List UInt8) : bs l ++ bs m = bs (l ++ m) := by
  apply ByteArray.ext
  simp [bs, ByteArray.data_append]
section
variable {P : Program} {base : Nat} {W w : World} {L : List Ent} {S : World → Prop} {D : List Deferred} {a : Act} {N : Nat} {l : List (Nat × Value)} {o : Oper} {x y ix : Operand} {t t' e : TypeId} {m n p q : Int} {k k' : IntKind}
  {xs ys zs : List UInt8} {A : Option Addr} {c : Nat} {ns : List Int}
theorem rd_lenT (ho : o.op = .call { callee := .builtin .len, args := #[x], argTypes := #[t] }) (h : P.underlying t = some .string) (K : Kd D a N l) (hx : evo l x = some (.string (bs xs))) : Rd P S a o (.int .i64 xs.length) := by
  have := rd_lenS (P := P) (S := S) ho h K hx
  rw [bs_size] at this
  exact this
theorem rd_ixT (ho : o.op = .index t x ix) (ht : P.underlying t = some .string) (K : Kd D a N l) (hx : evo l x = some (.string (bs xs))) (hi : evo l ix = some (.int k n)) {b : UInt8} (he : idx xs n = some b) : Rd P S a o (.int .u8 (b.toNat : Int)) :=
  rd_ixS ho ht K hx hi he
theorem rd_addS (ho : o.op = .binOp .add t x y t') (K : Kd D a N l) (hx : evo l x = some (.string (bs xs))) (hy : evo l y = some (.string (bs ys))) (hz : addS xs ys = some zs) : Rd P S a o (.string (bs zs)) := by
  obtain ⟨rfl, h⟩ := addS_spec hz
  refine rd_bin ho K hx hy fun w => ?_
  have h1 := bs_size xs
  have h2 := bs_size ys
  simp [eqGuard, binOp_string_add, Op.stringOp, bs_append]
  omega
theorem rd_eqlS (ho : o.op = .binOp .eql t x y t') (K : Kd D a N l) (hx : evo l x = some (.string (bs xs))) (hy : evo l y = some (.string (bs ys))) : Rd P S a o (.bool (decide (xs = ys))) :=
  rd_bin ho K hx hy fun w => by
    have e : (xs == ys) = decide (xs = ys) := by rw [Bool.eq_iff_iff]; simp
    rw [Sem.run_bind]; simp [eqGuard, binOp_string_eql, bs_toList, e]
theorem rd_convBS {b : Nat} (ho : o.op = .convert t t' x) (ht : slT P t e 1 b = true) (he : P.underlying e = some (.int .u8)) (hd : P.underlying t' = some .string) (K : Kd D a N l) (hx : evo l x = some (.slice A ns.length c)) (hb : ∀ w, S w → SL w (cI .u8) A ns) : Rd P S a o (.string (bs (toB ns))) := fun w hS => by
  obtain ⟨hu, _⟩ := slT_spec ht
  unfold execOp
  simp only [ho, K.ev hx]
  have key : (convert t t' (.slice A ns.length c)).run P w = .ok (.string (bs (toB ns))) w := by
    by_cases h0 : 0 < ns.length
    · obtain ⟨b, off, rfl, hc⟩ := hb w hS h0
      refine run_convert_bytes_arg w t e hu he b off ns.length c ns rfl (fun i hi => ?_) t' hd
      refine hc i _ ?_
      have := Cod.all_get (cI .u8) ns i 0 ns[i] (.int .u8 ns[i]) (List.getElem?_eq_getElem hi) rfl
      rw [List.getD_eq_getElem?_getD, List.getElem?_eq_getElem hi]
      have h1 : (cI .u8).size = 1 := rfl
      rw [h1, Nat.mul_one, Nat.add_zero] at this
      exact this
    · have hn : ns = [] := List.eq_nil_of_length_eq_zero (by omega)
      subst hn
      cases A with
      | none => exact run_convert_bytes_nil w t e hu he _ _ t' hd
      | some ad =>
        rw [run_convert_bytes_string w t t' e (some ad) _ c hu he hd]
        exact run_bytesToString w ad 0 c [] (run_loadCells_list (P := P) w ad [] (fun j v hj => by simp at hj))
  simp [key]
theorem ac_convBS {b : Nat} (ho : o.op = .convert t t' x) (ht : slT P t e 1 b = true) (he : P.underlying e = some (.int .u8)) (hd : P.underlying t' = some .string) (K : Kd D a N l) (hx : evo l x = some (.slice A ns.length c)) (M : Mem base W w L) (R : SL w (cI .u8) A ns) :
    Ac P o a w fun v w' => v = .string (bs (toB ns)) ∧ Mem base W w' L :=
  ac_val (rd_convBS (S := fun w' => w' = w) ho ht he hd K hx (fun w' hw => hw ▸ R) w rfl) ⟨rfl, M⟩
end
end Go.Proofs.YtpmnfhifmmfglabDoor

namespace Go.Proofs.YtpmnfhifmmfglabDoor
open Go.RowKit
theorem sc3 : scT Tryd.prog 3 = true := by kernel_rfl
theorem z3 : zeroT Tryd.prog 3 = some [.int .i64 0] := by kernel_rfl
theorem ik3 : Tryd.prog.underlying 3 = some (.int .i64) := by kernel_rfl
theorem z4 : zeroT Tryd.prog 4 = some [.bool false] := by kernel_rfl
theorem sc5 : scT Tryd.prog 5 = true := by kernel_rfl
theorem z5 : zeroT Tryd.prog 5 = some [.int .u8 0] := by kernel_rfl
theorem ik5 : Tryd.prog.underlying 5 = some (.int .u8) := by kernel_rfl
theorem sz5 : (Tryd.prog.info? 5).map (·.size) = some 1 := by kernel_rfl
theorem z9 : zeroT Tryd.prog 9 = some [.string (bs ([] : List UInt8))] := by kernel_rfl
theorem st9 : Tryd.prog.underlying 9 = some .string := by kernel_rfl
theorem z20 : zeroT Tryd.prog 20 = some [.nilIface] := by kernel_rfl
theorem z21 : zeroT Tryd.prog 21 = some [.int .i32 0] := by kernel_rfl
theorem sl35 : slT Tryd.prog 35 3 1 8 = true := by kernel_rfl
theorem un35 : ∃ e, Tryd.prog.underlying 35 = some (.slice e) := ⟨_, (slT_spec sl35).1⟩
theorem z37 : zeroT Tryd.prog 37 = some [.nilFunc] := by kernel_rfl
theorem z46 : zeroT Tryd.prog 46 = some [.nilFunc] := by kernel_rfl
theorem sl50 : slT Tryd.prog 50 5 1 1 = true := by kernel_rfl
theorem un50 : ∃ e, Tryd.prog.underlying 50 = some (.slice e) := ⟨_, (slT_spec sl50).1⟩
theorem z51 : zeroT Tryd.prog 51 = some [.int .u64 0] := by kernel_rfl
theorem z75 : zeroT Tryd.prog 75 = some [.nilFunc] := by kernel_rfl
theorem z105 : zeroT Tryd.prog 105 = some [] := by kernel_rfl
theorem fok7 : FnOK Tryd.prog 7 = true := by kernel_rfl
theorem fok8 : FnOK Tryd.prog 8 = true := by kernel_rfl
theorem fok9 : FnOK Tryd.prog 9 = true := by kernel_rfl
theorem fok10 : FnOK Tryd.prog 10 = true := by kernel_rfl
theorem fok11 : FnOK Tryd.prog 11 = true := by kernel_rfl
theorem fok12 : FnOK Tryd.prog 12 = true := by kernel_rfl
theorem fok13 : FnOK Tryd.prog 13 = true := by kernel_rfl
theorem fok14 : FnOK Tryd.prog 14 = true := by kernel_rfl
theorem fok15 : FnOK Tryd.prog 15 = true := by kernel_rfl
theorem fok16 : FnOK Tryd.prog 16 = true := by kernel_rfl
theorem fok17 : FnOK Tryd.prog 17 = true := by kernel_rfl
theorem fok18 : FnOK Tryd.prog 18 = true := by kernel_rfl
theorem fok21 : FnOK Tryd.prog 21 = true := by kernel_rfl
theorem fok23 : FnOK Tryd.prog 23 = true := by kernel_rfl
theorem fok30 : FnOK Tryd.prog 30 = true := by kernel_rfl
theorem fok31 : FnOK Tryd.prog 31 = true := by kernel_rfl
theorem fok32 : FnOK Tryd.prog 32 = true := by kernel_rfl
theorem fok33 : FnOK Tryd.prog 33 = true := by kernel_rfl
theorem fok34 : FnOK Tryd.prog 34 = true := by kernel_rfl
theorem fok35 : FnOK Tryd.prog 35 = true := by kernel_rfl
theorem fok42 : FnOK Tryd.prog 42 = true := by kernel_rfl
theorem fok43 : FnOK Tryd.prog 43 = true := by kernel_rfl
end Go.Proofs.YtpmnfhifmmfglabDoor

namespace Go.Proofs.YtpmnfhifmmfglabDoor
open Go.Shelf Go.RowKit
def lays160_ren : Go.Shelf.Ren := ⟨fun | 160 => 42 | 232 => 49 | 231 => 48 | 227 => 50 | 234 => 52 | 233 => 51 | 236 => 54 | 235 => 53 | 228 => 61 | 271 => 64 | 151 => 63 | 197 => 62 | 120 => 69 | 152 => 68 | 260 => 67 | 137 => 75 | 119 => 76 | 224 => 72 | 225 => 71 | 217 => 70 | 266 => 77 | n => n, fun | 9 => 9 | 4 => 4 | 3 => 3 | 5 => 5 | 117 => 78 | 116 => 77 | 0 => 0 | 124 => 81 | 21 => 21 | 105 => 88 | 46 => 51 | 119 => 93 | 139 => 96 | 138 => 95 | n => n, fun | 3 => 1 | 4 => 2 | n => n⟩
theorem lays160 : Go.Proofs.Lays.n160 Tryd.prog lays160_ren := {
  mixed := by kernel_rfl
  f119 := Tryd.func76.trans (congrArg some (by kernel_rfl))
  f120 := Tryd.func69.trans (congrArg some (by kernel_rfl))
  f137 := Tryd.func75.trans (congrArg some (by kernel_rfl))
  f151 := Tryd.func63.trans (congrArg some (by kernel_rfl))
  f152 := Tryd.func68.trans (congrArg some (by kernel_rfl))
  f160 := Tryd.func42.trans (congrArg some (by kernel_rfl))
  f197 := Tryd.func62.trans (congrArg some (by kernel_rfl))
  f217 := Tryd.func70.trans (congrArg some (by kernel_rfl))
  f224 := Tryd.func72.trans (congrArg some (by kernel_rfl))
  f225 := Tryd.func71.trans (congrArg some (by kernel_rfl))
  f227 := Tryd.func50.trans (congrArg some (by kernel_rfl))
  f228 := Tryd.func61.trans (congrArg some (by kernel_rfl))
  f231 := Tryd.func48.trans (congrArg some (by kernel_rfl))
  f232 := Tryd.func49.trans (congrArg some (by kernel_rfl))
  f233 := Tryd.func51.trans (congrArg some (by kernel_rfl))
  f234 := Tryd.func52.trans (congrArg some (by kernel_rfl))
  f235 := Tryd.func53.trans (congrArg some (by kernel_rfl))
  f236 := Tryd.func54.trans (congrArg some (by kernel_rfl))
  f260 := Tryd.func67.trans (congrArg some (by kernel_rfl))
  f266 := Tryd.func77.trans (congrArg some (by kernel_rfl))
  f271 := Tryd.func64.trans (congrArg some (by kernel_rfl))
  t0 := Tryd.underlying0
  a0 := Tryd.isAgg0
  z0 := Tryd.sizeOf0
  v0 := Tryd.zeroValue0
  t3 := Tryd.underlying3
  a3 := Tryd.isAgg3
  z3 := Tryd.sizeOf3
  v3 := Tryd.zeroValue3
  t4 := Tryd.underlying4
  a4 := Tryd.isAgg4
  z4 := Tryd.sizeOf4
  v4 := Tryd.zeroValue4
  t5 := Tryd.underlying5
  a5 := Tryd.isAgg5
  z5 := Tryd.sizeOf5
  v5 := Tryd.zeroValue5
  t9 := Tryd.underlying9
  a9 := Tryd.isAgg9
  z9 := Tryd.sizeOf9
  v9 := Tryd.zeroValue9
  t21 := Tryd.underlying21
  a21 := Tryd.isAgg21
  z21 := Tryd.sizeOf21
  v21 := Tryd.zeroValue21
  t46 := Tryd.underlying51
  a46 := Tryd.isAgg51
  z46 := Tryd.sizeOf51
  v46 := Tryd.zeroValue51
  t105 := Tryd.underlying88
  a105 := Tryd.isAgg88
  z105 := Tryd.sizeOf88
  v105 := Tryd.zeroValue88
  t116 := Tryd.underlying77
  a116 := Tryd.isAgg77
  z116 := Tryd.sizeOf77
  t117 := Tryd.underlying78
  a117 := Tryd.isAgg78
  z117 := Tryd.sizeOf78
  v117 := Tryd.zeroValue78
  t119 := Tryd.underlying93
  a119 := Tryd.isAgg93
  z119 := Tryd.sizeOf93
  t124 := Tryd.underlying81
  a124 := Tryd.isAgg81
  z124 := Tryd.sizeOf81
  v124 := Tryd.zeroValue81
  t138 := Tryd.underlying95
  a138 := Tryd.isAgg95
  z138 := Tryd.sizeOf95
  v138 := Tryd.zeroValue95
  t139 := Tryd.underlying96
  a139 := Tryd.isAgg96
  z139 := Tryd.sizeOf96
  v139 := Tryd.zeroValue96
  g3 := by kernel_rfl
  g4 := by kernel_rfl }
def lays138_ren : Go.Shelf.Ren := ⟨fun | 138 => 43 | 195 => 55 | 218 => 56 | 143 => 57 | 219 => 65 | 217 => 70 | 225 => 71 | 224 => 72 | 267 => 73 | 266 => 77 | 314 => 78 | n => n, fun | 9 => 9 | 3 => 3 | 4 => 4 | 5 => 5 | 0 => 0 | 46 => 51 | 146 => 99 | 51 => 98 | n => n, fun | 1 => 0 | n => n⟩
theorem lays138 : Go.Proofs.Lays.n138 Tryd.prog lays138_ren := {
  mixed := by kernel_rfl
  f138 := Tryd.func43.trans (congrArg some (by kernel_rfl))
  f143 := Tryd.func57.trans (congrArg some (by kernel_rfl))
  f195 := Tryd.func55.trans (congrArg some (by kernel_rfl))
  f217 := Tryd.func70.trans (congrArg some (by kernel_rfl))
  f218 := Tryd.func56.trans (congrArg some (by kernel_rfl))
  f219 := Tryd.func65.trans (congrArg some (by kernel_rfl))
  f224 := Tryd.func72.trans (congrArg some (by kernel_rfl))
  f225 := Tryd.func71.trans (congrArg some (by kernel_rfl))
  f266 := Tryd.func77.trans (congrArg some (by kernel_rfl))
  f267 := Tryd.func73.trans (congrArg some (by kernel_rfl))
  f314 := Tryd.func78.trans (congrArg some (by kernel_rfl))
  t0 := Tryd.underlying0
  a0 := Tryd.isAgg0
  z0 := Tryd.sizeOf0
  v0 := Tryd.zeroValue0
  t3 := Tryd.underlying3
  a3 := Tryd.isAgg3
  z3 := Tryd.sizeOf3
  v3 := Tryd.zeroValue3
  t4 := Tryd.underlying4
  a4 := Tryd.isAgg4
  z4 := Tryd.sizeOf4
  v4 := Tryd.zeroValue4
  t5 := Tryd.underlying5
  a5 := Tryd.isAgg5
  z5 := Tryd.sizeOf5
  v5 := Tryd.zeroValue5
  t9 := Tryd.underlying9
  a9 := Tryd.isAgg9
  z9 := Tryd.sizeOf9
  v9 := Tryd.zeroValue9
  t46 := Tryd.underlying51
  a46 := Tryd.isAgg51
  z46 := Tryd.sizeOf51
  v46 := Tryd.zeroValue51
  t51 := Tryd.underlying98
  a51 := Tryd.isAgg98
  z51 := Tryd.sizeOf98
  v51 := Tryd.zeroValue98
  t146 := Tryd.underlying99
  a146 := Tryd.isAgg99
  z146 := Tryd.sizeOf99
  v146 := Tryd.zeroValue99
  g1 := by kernel_rfl }
def lays169_ren : Go.Shelf.Ren := ⟨fun | 169 => 34 | n => n, fun | 70 => 53 | 9 => 9 | 0 => 0 | 72 => 55 | 37 => 50 | 127 => 70 | 3 => 3 | 5 => 5 | n => n, fun | n => n⟩
theorem lays169 : Go.Proofs.Lays.n169 Tryd.prog lays169_ren := {
  mixed := by kernel_rfl
  f169 := Tryd.func34.trans (congrArg some (by kernel_rfl))
  t0 := Tryd.underlying0
  a0 := Tryd.isAgg0
  z0 := Tryd.sizeOf0
  v0 := Tryd.zeroValue0
  t3 := Tryd.underlying3
  a3 := Tryd.isAgg3
  z3 := Tryd.sizeOf3
  v3 := Tryd.zeroValue3
  t9 := Tryd.underlying9
  a9 := Tryd.isAgg9
  z9 := Tryd.sizeOf9
  v9 := Tryd.zeroValue9
  t37 := Tryd.underlying50
  a37 := Tryd.isAgg50
  z37 := Tryd.sizeOf50
  v37 := Tryd.zeroValue50
  t70 := Tryd.underlying53
  a70 := Tryd.isAgg53
  z70 := Tryd.sizeOf53
  v70 := Tryd.zeroValue53
  t72 := Tryd.underlying55
  a72 := Tryd.isAgg55
  z72 := Tryd.sizeOf55
  v72 := Tryd.zeroValue55
  t127 := Tryd.underlying70
  a127 := Tryd.isAgg70
  z127 := Tryd.sizeOf70
  v127 := Tryd.zeroValue70 }
def lays166_ren : Go.Shelf.Ren := ⟨fun | 166 => 33 | 240 => 44 | 276 => 58 | 169 => 34 | n => n, fun | 0 => 0 | 3 => 3 | 4 => 4 | 5 => 5 | 9 => 9 | 20 => 20 | 37 => 50 | 70 => 53 | 72 => 55 | 75 => 57 | 80 => 60 | 164 => 83 | 127 => 70 | n => n, fun | n => n⟩
theorem lays166 : Go.Proofs.Lays.n166 Tryd.prog lays166_ren := {
  mixed := by kernel_rfl
  f166 := Tryd.func33.trans (congrArg some (by kernel_rfl))
  f240 := Tryd.func44.trans (congrArg some (by kernel_rfl))
  f276 := Tryd.func58.trans (congrArg some (by kernel_rfl))
  t0 := Tryd.underlying0
  a0 := Tryd.isAgg0
  z0 := Tryd.sizeOf0
  v0 := Tryd.zeroValue0
  t3 := Tryd.underlying3
  a3 := Tryd.isAgg3
  z3 := Tryd.sizeOf3
  v3 := Tryd.zeroValue3
  t4 := Tryd.underlying4
  a4 := Tryd.isAgg4
  z4 := Tryd.sizeOf4
  v4 := Tryd.zeroValue4
  t9 := Tryd.underlying9
  a9 := Tryd.isAgg9
  z9 := Tryd.sizeOf9
  v9 := Tryd.zeroValue9
  t20 := Tryd.underlying20
  a20 := Tryd.isAgg20
  z20 := Tryd.sizeOf20
  v20 := Tryd.zeroValue20
  t37 := Tryd.underlying50
  a37 := Tryd.isAgg50
  z37 := Tryd.sizeOf50
  v37 := Tryd.zeroValue50
  t70 := Tryd.underlying53
  a70 := Tryd.isAgg53
  z70 := Tryd.sizeOf53
  v70 := Tryd.zeroValue53
  t72 := Tryd.underlying55
  a72 := Tryd.isAgg55
  z72 := Tryd.sizeOf55
  v72 := Tryd.zeroValue55
  t75 := Tryd.underlying57
  a75 := Tryd.isAgg57
  z75 := Tryd.sizeOf57
  v75 := Tryd.zeroValue57
  t164 := Tryd.underlying83
  a164 := Tryd.isAgg83
  z164 := Tryd.sizeOf83
  v164 := Tryd.zeroValue83 }
theorem Builder_Extra_166 : Builder.Extra Tryd.prog lays166_ren where
  sizeBuilder := by kernel_rfl
  liesBuilder := by kernel_rfl
  t5 := Tryd.underlying5
  a5 := Tryd.isAgg5
  z5 := Tryd.sizeOf5
  v5 := Tryd.zeroValue5
  infoByte := by kernel_rfl
  cellsByte := by kernel_rfl
  sizeByte := by kernel_rfl
  neB5 := by decide
theorem Builder_Extra_169 : Builder.Extra Tryd.prog lays169_ren where
  sizeBuilder := by kernel_rfl
  liesBuilder := by kernel_rfl
  t5 := Tryd.underlying5
  a5 := Tryd.isAgg5
  z5 := Tryd.sizeOf5
  v5 := Tryd.zeroValue5
  infoByte := by kernel_rfl
  cellsByte := by kernel_rfl
  sizeByte := by kernel_rfl
  neB5 := by decide
theorem Builder_WriteString (B b : Nat) (bs : List Value) (s : ByteArray) (w : World) (h : Lib.IsBuilder 55 5 B b bs w) (hlen : bs.length + s.size ≤ 140737488355328) (hBw : B ≤ w.heap.size) :
    Calls Tryd.prog 33 #[.pointer (some ⟨b, 0, none⟩), .string s] w fun e w' => e = .returned (.tuple #[.int .i64 s.size, .nilIface]) ∧ (Lib.BuilderAt 55 5 B b (.pointer (some ⟨b, 0, none⟩)) (bs ++ Lib.strCells s) w' ∧ Below B w w') := Any.Builder_WriteString lays166 Builder_Extra_166 B b bs s w h hlen hBw
theorem Builder_String (B b : Nat) (l : List UInt8) (w : World) (h : Lib.IsBuilder 55 5 B b (Lib.byteCells l) w) (hBw : B ≤ w.heap.size) :
    Calls Tryd.prog 34 #[.pointer (some ⟨b, 0, none⟩)] w fun e w' => e = .returned (.string ⟨l.toArray⟩) ∧ Below B w w' := Any.Builder_String_any lays169 Builder_Extra_169 B b l w h hBw
end Go.Proofs.YtpmnfhifmmfglabDoor

namespace Go.Proofs.YtpmnfhifmmfglabDoor
open Go.RowKit Go.Shelf
theorem W_strings_Trim (N : Nat) (s cutset : List UInt8) (w0 : World) (r : List UInt8) (h : D_strings_Trim N s cutset = some r) :
    Calls Tryd.prog 42 #[.string (bs s), .string (bs cutset)] w0 fun e w' => ∃ v, e = .returned v ∧ v = .string (bs r) ∧ Mem w0.heap.size w0 w' [] := by
  unfold D_strings_Trim at h
  split at h
  · rename_i hc
    cases h
    obtain ⟨h1, h2, h3⟩ := hc
    refine (Any.strings_Trim_laid lays160 (by kernel_rfl) (bs s) (bs cutset) w0 (by rw [bs_size]; exact h1) (by rw [bs_size]; exact h2) (fun j b hb => ?_)).mono ?_
    · exact of_decide_eq_true (List.all_eq_true.1 h3 b (List.mem_of_getElem? hb))
    · rintro e w' ⟨rfl, hb⟩
      exact ⟨_, rfl, rfl, Mem.fin0 hb⟩
  · cases h
theorem W_strings_Count (N : Nat) (s substr : List UInt8) (w0 : World) (r : Int) (h : D_strings_Count N s substr = some r) :
    Calls Tryd.prog 43 #[.string (bs s), .string (bs substr)] w0 fun e w' => ∃ v, e = .returned v ∧ v = .int .i64 r ∧ Mem w0.heap.size w0 w' [] := by
  unfold D_strings_Count at h
  split at h
  · rename_i c
    cases h
    refine (Any.strings_Count_one lays138 (bs s) c w0).mono ?_
    rintro e w' ⟨rfl, rfl⟩
    exact ⟨_, rfl, rfl, Mem.start w'⟩
  · cases h
theorem own_keep {B : Nat} {e : TypeId} {k : Nat} {v : Value} {n : Nat} {xs : List Value} {w w' : World} (h : w.ownsRow B e k v n xs) (hb : Below w.heap.size w w') : w'.ownsRow B e k v n xs := by
  obtain ⟨h1, h2⟩ := h
  refine ⟨h1, ?_⟩
  rcases h2 with h2 | ⟨g, cap, cur, q1, q2, q3, q4⟩
  · exact .inl h2
  · exact .inr ⟨g, cap, cur, q1, q2, (hb.block g (Array.getElem?_eq_some_iff.1 q3).1).trans q3, q4⟩
theorem bld_keep {T e : TypeId} {B b : Nat} {bs : List Value} {w w' : World} (h : Lib.IsBuilder T e B b bs w) (hb : Below w.heap.size w w') : Lib.IsBuilder T e B b bs w' := by
  have one : ∀ p, Lib.BuilderAt T e B b p bs w → Lib.BuilderAt T e B b p bs w' := fun p h => by
    have hlt := h.lt
    obtain ⟨h1, v, h2, h3, h4⟩ := h
    exact ⟨h1, v, (hb.block b hlt).trans h2, own_keep h3 hb, h4⟩
  rcases h with h | h
  · exact .inl (one _ h)
  · exact .inr (one _ h)
theorem bld_new {T e : TypeId} {base g : Nat} {w : World} (hb : base ≤ g) (h : Blk w g T #[.pointer none, .slice none 0 0]) : Lib.IsBuilder T e base g [] w := by
  refine .inl ⟨hb, .slice none 0 0, h, World.ownsRow_nil _ _ _ _, by simp [Value.ownBlock]⟩
theorem fin_trans {base : Nat} {W w w' : World} (M : Mem base W w []) (hbase : base = W.heap.size) (hb : Below base w w') : Mem base W w' [] := by
  subst hbase
  exact Mem.fin0 (M.low.trans hb)
theorem cells_app (xs ys : List UInt8) : Lib.byteCells xs ++ Lib.strCells (bs ys) = Lib.byteCells (xs ++ ys) := by
  show xs.map _ ++ ys.map _ = (xs ++ ys).map _
  rw [List.map_append]
theorem W_bld_write {base g : Nat} {w : World} {b d b2 : List UInt8} (hB : Lib.IsBuilder 55 5 base g (Lib.byteCells b) w) (hw : bwr b d = some b2) (hs : base ≤ w.heap.size) :
    Calls Tryd.prog 33 #[.pointer (some ⟨g, 0, none⟩), .string (bs d)] w fun e w' => ∃ v, e = .returned v ∧ Lib.IsBuilder 55 5 base g (Lib.byteCells b2) w' ∧ Below base w w' := by
  obtain ⟨rfl, hl⟩ := bwr_spec hw
  refine (Builder_WriteString base g (Lib.byteCells b) (bs d) w hB (by rw [Lib.byteCells_length, bs_size]; exact hl) hs).mono ?_
  rintro e w' ⟨rfl, h1, h2⟩
  exact ⟨_, rfl, .inr (cells_app b d ▸ h1), h2⟩
theorem W_bld_string {base g : Nat} {w : World} {b : List UInt8} (hB : Lib.IsBuilder 55 5 base g (Lib.byteCells b) w) (hs : base ≤ w.heap.size) :
    Calls Tryd.prog 34 #[.pointer (some ⟨g, 0, none⟩)] w fun e w' => ∃ v, e = .returned v ∧ v = .string (bs b) ∧ Below base w w' := by
  refine (Builder_String base g b w hB hs).mono ?_
  rintro e w' ⟨rfl, h2⟩
  exact ⟨_, rfl, rfl, h2⟩
end Go.Proofs.YtpmnfhifmmfglabDoor

namespace Go.Proofs.YtpmnfhifmmfglabDoor
open Go.RowKit
set_option maxRecDepth 100000 in
set_option maxHeartbeats 4000000 in
theorem W_bits_all (N : Nat) (b : List UInt8) (w0 : World)  (r : Bool) (h : D_bits_all N b = some r) :
    Calls Tryd.prog 30 #[.string (bs b)] w0 fun e w' => ∃ v, e = .returned v ∧ v = .bool r ∧ Mem w0.heap.size w0 w' [] := by
  refine X_enter Tryd.func30 rfl Tryd.ntmps30 rfl ?_
  intro a K
  have M := Mem.start w0
  have K : Kn a 16 [(0, .string (bs b))] := K
  unfold D_bits_all at h
  refine wp_seq (X_reg ?_)
  refine X_o K M ?_; clear K; intro a K
  refine wpList_nil (then_n (wp_seq (X_reg ?_)))
  refine X_o K M ?_; clear K; intro a K
  obtain ⟨r2, h_r2, h⟩ := obind h
  refine X_a K (ac_call (vs := [.string (bs b), .string (bs ([48, 49] : List UInt8))]) (cap := []) rfl fok42 K rfl rfl (W_strings_Trim N b ([48, 49] : List UInt8) _  r2 h_r2)) ?_
  have M0 := M; clear K M; rintro _ a w ⟨rfl, M⟩ K
  replace M := M0.call M; clear M0
  refine X_r K (rd_eqlS rfl K rfl rfl) M ?_; clear K
  refine Y_o M ?_; intro a K
  rcases Bool.eq_false_or_eq_true (decide (r2 = ([] : List UInt8))) with hb | hb
  · have h := ctrue hb h
    have K := K.reb (s := 6) rfl hb
    refine X_o K M ?_; clear K; intro a K
    obtain ⟨r3, h_r3, h⟩ := obind h
    refine X_a K (ac_call (vs := [.string (bs b), .string (bs ([48] : List UInt8))]) (cap := []) rfl fok43 K rfl rfl (W_strings_Count N b ([48] : List UInt8) _  r3 h_r3)) ?_
    have M0 := M; clear K M; rintro _ a w ⟨rfl, M⟩ K
    replace M := M0.call M; clear M0
    refine X_o K M ?_; clear K; intro a K
    obtain ⟨r4, h_r4, h⟩ := obind h
    refine X_a K (ac_call (vs := [.string (bs b), .string (bs ([49] : List UInt8))]) (cap := []) rfl fok43 K rfl rfl (W_strings_Count N b ([49] : List UInt8) _  r4 h_r4)) ?_
    have M0 := M; clear K M; rintro _ a w ⟨rfl, M⟩ K
    replace M := M0.call M; clear M0
    refine X_o K M ?_; clear K
    refine Y_o M ?_
    refine Y_r (fun _ K => rd_lenT rfl st9 K rfl) M ?_
    iterate 3 (refine Y_o M ?_)
    intro a K
    refine wpList_nil (then_n (wp_ret ?_))
    cases h
    exact ret1 K rfl (res_tmp K rfl) ⟨_, rfl, rfl, ((M).pick [] (by decide))⟩
  have h := cfalse hb h
  have K := K.reb (s := 6) rfl hb
  refine X_o K M ?_; clear K
  iterate 9 (refine Y_o M ?_)
  intro a K
  refine wpList_nil (then_n (wp_ret ?_))
  cases h
  exact ret1 K rfl (res_tmp K rfl) ⟨_, rfl, rfl, ((M).pick [] (by decide))⟩
set_option maxRecDepth 100000 in
set_option maxHeartbeats 4000000 in
theorem W_bits_Bytes (N : Nat) (b : List UInt8) (w0 : World)  (r : List UInt8 × Int) (h : D_bits_Bytes N b = some r) :
    Calls Tryd.prog 7 #[.string (bs b)] w0 fun e w' => ∃ v, e = .returned v ∧ v = .tuple #[.string (bs r.1), I r.2] ∧ Mem w0.heap.size w0 w' [] := by
  refine X_enter Tryd.func7 rfl Tryd.ntmps7 rfl ?_
  intro a K
  have M := Mem.start w0
  have K : Kn a 37 [(0, .string (bs b))] := K
  unfold D_bits_Bytes at h
  refine wp_seq (X_reg ?_)
  refine X_o K M ?_; clear K
  refine Y_o M ?_; intro a K
  refine wpList_nil (then_n (wp_seq (wp_seq (X_reg ?_))))
  refine X_o K M ?_; clear K; intro a K
  obtain ⟨r2, h_r2, h⟩ := obind h
  refine X_a K (ac_call (vs := [.string (bs b)]) (cap := []) rfl fok30 K rfl rfl (W_bits_all N b _  r2 h_r2)) ?_
  have M0 := M; clear K M; rintro _ a w ⟨rfl, M⟩ K
  replace M := M0.call M; clear M0
  refine X_o K M ?_; clear K; intro a K
  refine wpList_nil (then_n ?_)
  refine X_cond K rfl (fun hb => ?_) (fun hb => ?_)
  · have h := ctrue hb h
    refine wp_seq (X_reg ?_)
    refine X_o K M ?_; clear K
    refine Y_o M ?_; intro a K
    refine wpList_nil (then_n (wp_ret (then_r ?_)))
    cases h
    exact ret2 K rfl (res_tmp K rfl) (res_tmp K rfl) ⟨_, rfl, rfl, ((M).pick [] (by decide))⟩
  have h := cfalse hb h
  refine wp_skip (then_n (wp_seq (X_reg ?_)))
  refine X_o K M ?_; clear K
  refine Y_r (fun _ K => rd_lenT rfl st9 K rfl) M ?_
  refine Y_o M ?_
  obtain ⟨x2, hx, h⟩ := olet h
  refine Y_r (fun _ K => rdi hx (rd_quo rfl K rfl rfl (by decide))) M ?_; intro a K
  obtain ⟨l2, h_l2, h⟩ := obind h
  refine X_a K (ac_make (C := (cI .u8)) (z := 0) rfl sl50 rfl z5 rfl K rfl rfl M h_l2) ?_
  clear K M; rintro _ a w ⟨A, c, rfl, M⟩ K
  refine X_o K M ?_; clear K; intro a K
  refine wpList_nil (then_n (wp_seq (wp_seq (X_reg ?_))))
  refine X_o K M ?_; clear K
  refine Y_r (fun _ K => rd_lenT rfl st9 K rfl) M ?_
  refine Y_o M ?_; intro a K
  refine wpList_nil (then_n (wp_block ?_))
  refine X_lp (id := 0) (Rel := fun (⟨l3, i⟩ : List Int × Int) a w => ∃ (A2 : Option Addr) (c2 : Nat), Kn a 37 [(0, .string (bs b)), (4, .slice A2 l3.length c2), (15, I (b.length : Int)), (16, I i)] ∧ Mem w0.heap.size w0 w [.row 5 1 A2 l3.length c2 ((cI .u8).all l3)]) h (fun _ _ => rfl) ⟨A, c, K.pick [0,4,15,16], M.pick [0] (by decide)⟩ ?_ ?_
  · clear K M h
    rintro ⟨l6, i2⟩ a w ⟨A3, c3, K, M⟩ h
    try dsimp only at h
    refine inb_e ?_
    refine then_n (wp_seq (X_reg ?_))
    refine X_o K M ?_; clear K
    refine Y_r (fun _ K => rd_convBS rfl sl50 ik5 st9 K rfl (inR (C := (cI .u8)) 0 rfl rfl)) M ?_
    iterate 2 (refine Y_o M ?_)
    intro a K
    refine wpList_nil (then_n (wp_ret ?_))
    cases h
    exact ret2 K rfl (res_tmp K rfl) (res_tmp K rfl) ⟨_, rfl, rfl, ((M).pick [] (by decide))⟩
  clear K M h
  rintro kk fuel ⟨l3, i⟩ a w hk1 ⟨A2, c2, K, M⟩ h
  unfold D_bits_Bytes_l1 at h
  refine wp_seq (X_reg ?_)
  refine X_o K M ?_; clear K; intro a K
  refine wpList_nil (then_n (wp_seq ?_))
  refine X_cond K rfl (fun hb => ?_) (fun hb => ?_)
  · have h := ctrue hb h
    refine wp_skip (then_n (wp_seq (wp_block (wp_seq (X_reg ?_)))))
    refine X_o K M ?_; clear K
    refine Y_o M ?_; intro a K
    refine wpList_nil (then_n ?_)
    refine wp_region_tl (fun w => Mem _ _ w _) [0,0,0,0,0,0,0,0,0,0,0,0,0,0,0,2] (by kernel_rfl) (by kernel_rfl) M.drew ?_
    replace M := M.drew
    refine T_o K ?_; clear K
    refine U_o ?_
    obtain ⟨x4, hx, h⟩ := olet h
    refine U_r (fun _ K => rdi hx (rd_quo rfl K rfl rfl (by decide))) ?_
    obtain ⟨e3, h_e3, h⟩ := obind h
    refine U_r (fun _ K => rd_ix rfl sl50 K rfl rfl (inR (C := (cI .u8)) 0 rfl rfl) h_e3) ?_
    refine U_r (fun _ K => rd_elC rfl sc5 K rfl rfl (inR (C := (cI .u8)) 0 rfl rfl) h_e3 rfl) ?_
    iterate 2 (refine U_o ?_)
    obtain ⟨b3, h_b3, h⟩ := obind h
    refine U_r (fun _ K => rd_ixT rfl st9 K rfl rfl h_b3) ?_
    iterate 2 (refine U_o ?_)
    refine U_r (fun _ K => rd_rem rfl K rfl rfl (by decide)) ?_
    refine U_o ?_; intro a K
    obtain ⟨_, h0, h⟩ := obind h
    have h0 := nn_spec h0
    refine T_r K (rd_shl rfl K rfl rfl h0) ?_; clear K
    refine U_r (fun _ K => rd_or rfl K rfl rfl) ?_
    obtain ⟨e4, h_e4, h⟩ := obind h
    refine U_r (fun _ K => rd_ix rfl sl50 K rfl rfl (inR (C := (cI .u8)) 0 rfl rfl) h_e4) ?_; intro a K
    obtain ⟨l5, h_l5, h⟩ := obind h
    refine T_b K (ac_rowset (el := orI .u8 e3 (shlI .u8 (IntKind.u8.wrap ((b3.toNat : Int) - 48)) (IntKind.i64.wrap (7 - (Int.tmod i 8))))) rfl sz5 rfl rfl K rfl rfl rfl 0 M rfl h_l5) ?_
    have M0 := M; clear K M; rintro _ a w M K
    have hl := setL_len h_l5
    try rw [hl] at M
    try rw [hl] at K
    clear hl
    clear M0
    refine T_end ?_
    refine inb_n (then_n (X_reg ?_))
    refine X_o K M ?_; clear K
    refine Y_o M ?_; intro a K
    refine wpList_nil ?_
    exact then_n ⟨(l5, IntKind.i64.wrap (i + 1)), ⟨A2, c2, K.pick [0,4,15,16], M.pick [0] (by decide)⟩, h⟩
  have h := cfalse hb h
  refine wp_exit ?_
  refine then_e ?_
  exact then_e (hk1 (l3, i) _ _ ⟨A2, c2, K.pick [0,4,15,16], M.pick [0] (by decide)⟩ h)
set_option maxRecDepth 100000 in
set_option maxHeartbeats 4000000 in
theorem W_bits_Value (N : Nat) (b : List UInt8) (w0 : World)  (r : Int × Int) (h : D_bits_Value N b = some r) :
    Calls Tryd.prog 11 #[.string (bs b)] w0 fun e w' => ∃ v, e = .returned v ∧ v = .tuple #[I r.1, I r.2] ∧ Mem w0.heap.size w0 w' [] := by
  refine X_enter Tryd.func11 rfl Tryd.ntmps11 rfl ?_
  intro a K
  have M := Mem.start w0
  have K : Kn a 27 [(0, .string (bs b))] := K
  unfold D_bits_Value at h
  refine wp_seq (X_reg ?_)
  refine X_o K M ?_; clear K
  refine Y_o M ?_; intro a K
  refine wpList_nil (then_n (wp_seq (wp_seq (X_reg ?_))))
  refine X_o K M ?_; clear K; intro a K
  obtain ⟨r2, h_r2, h⟩ := obind h
  refine X_a K (ac_call (vs := [.string (bs b)]) (cap := []) rfl fok30 K rfl rfl (W_bits_all N b _  r2 h_r2)) ?_
  have M0 := M; clear K M; rintro _ a w ⟨rfl, M⟩ K
  replace M := M0.call M; clear M0
  refine X_o K M ?_; clear K; intro a K
  refine wpList_nil (then_n ?_)
  refine X_cond K rfl (fun hb => ?_) (fun hb => ?_)
  · have h := ctrue hb h
    refine wp_seq (X_reg ?_)
    refine X_o K M ?_; clear K
    refine Y_o M ?_; intro a K
    refine wpList_nil (then_n (wp_ret (then_r ?_)))
    cases h
    exact ret2 K rfl (res_tmp K rfl) (res_tmp K rfl) ⟨_, rfl, rfl, ((M).pick [] (by decide))⟩
  have h := cfalse hb h
  refine wp_skip (then_n (wp_seq (wp_seq (X_reg ?_))))
  refine X_o K M ?_; clear K
  refine Y_r (fun _ K => rd_lenT rfl st9 K rfl) M ?_
  refine Y_o M ?_; intro a K
  refine wpList_nil (then_n ?_)
  refine X_cond K rfl (fun hb => ?_) (fun hb => ?_)
  · have h := ctrue hb h
    refine wp_seq (X_reg ?_)
    refine X_o K M ?_; clear K
    refine Y_o M ?_; intro a K
    refine wpList_nil (then_n (wp_ret (then_r ?_)))
    cases h
    exact ret2 K rfl (res_tmp K rfl) (res_tmp K rfl) ⟨_, rfl, rfl, ((M).pick [] (by decide))⟩
  have h := cfalse hb h
  refine wp_skip (then_n (wp_seq (X_reg ?_)))
  refine X_o K M ?_; clear K; intro a K
  refine wpList_nil (then_n (wp_seq (wp_seq (X_reg ?_))))
  refine X_o K M ?_; clear K
  refine Y_r (fun _ K => rd_lenT rfl st9 K rfl) M ?_
  refine Y_o M ?_; intro a K
  refine wpList_nil (then_n (wp_block ?_))
  refine X_lp (id := 0) (Rel := fun (⟨n, i⟩ : Int × Int) a w => Kn a 27 [(0, .string (bs b)), (4, I n), (13, I (b.length : Int)), (14, I i)] ∧ Mem w0.heap.size w0 w []) h (fun _ _ => rfl) ⟨K.pick [0,4,13,14], M.pick [] (by decide)⟩ ?_ ?_
  · clear K M h
    rintro ⟨n4, i2⟩ a w ⟨K, M⟩ h
    try dsimp only at h
    refine inb_e ?_
    refine then_n (wp_seq (X_reg ?_))
    refine X_o K M ?_; clear K
    iterate 2 (refine Y_o M ?_)
    intro a K
    refine wpList_nil (then_n (wp_ret ?_))
    cases h
    exact ret2 K rfl (res_tmp K rfl) (res_tmp K rfl) ⟨_, rfl, rfl, ((M).pick [] (by decide))⟩
  clear K M h
  rintro kk fuel ⟨n, i⟩ a w hk1 ⟨K, M⟩ h
  unfold D_bits_Value_l1 at h
  refine wp_seq (X_reg ?_)
  refine X_o K M ?_; clear K; intro a K
  refine wpList_nil (then_n (wp_seq ?_))
  refine X_cond K rfl (fun hb => ?_) (fun hb => ?_)
  · have h := ctrue hb h
    refine wp_skip (then_n (wp_seq (wp_block (wp_seq (X_reg ?_)))))
    refine X_o K M ?_; clear K
    refine Y_o M ?_; intro a K
    refine wpList_nil (then_n (X_reg ?_))
    refine X_o K M ?_; clear K
    refine Y_r (fun _ K => rd_shl rfl K rfl rfl (by decide)) M ?_
    iterate 2 (refine Y_o M ?_)
    obtain ⟨b3, h_b3, h⟩ := obind h
    refine Y_r (fun _ K => rd_ixT rfl st9 K rfl rfl h_b3) M ?_
    refine Y_o M ?_
    refine Y_r (fun _ K => rd_conv rfl rfl ik3 K rfl) M ?_
    refine Y_o M ?_
    obtain ⟨n3, hx, h⟩ := olet h
    refine Y_r (fun _ K => rdi hx (rd_assign rfl K rfl)) M ?_; intro a K
    refine wpList_nil (inb_n (then_n (X_reg ?_)))
    refine X_o K M ?_; clear K
    refine Y_o M ?_; intro a K
    refine wpList_nil ?_
    exact then_n ⟨(n3, IntKind.i64.wrap (i + 1)), ⟨K.pick [0,4,13,14], M.pick [] (by decide)⟩, h⟩
  have h := cfalse hb h
  refine wp_exit ?_
  refine then_e ?_
  exact then_e (hk1 (n, i) _ _ ⟨K.pick [0,4,13,14], M.pick [] (by decide)⟩ h)
set_option maxRecDepth 100000 in
set_option maxHeartbeats 4000000 in
theorem W_bits_digits (N : Nat) (n : Int) (size : Int) (w0 : World)  (r : List UInt8) (h : D_bits_digits N n size = some r) :
    Calls Tryd.prog 31 #[I n, I size] w0 fun e w' => ∃ v, e = .returned v ∧ v = .string (bs r) ∧ Mem w0.heap.size w0 w' [] := by
  refine X_enter Tryd.func31 rfl Tryd.ntmps31 rfl ?_
  intro a K
  have M := Mem.start w0
  have K : Kn a 28 [(0, I n), (1, I size)] := K
  unfold D_bits_digits at h
  refine wp_seq (X_reg ?_)
  refine X_o K M ?_; clear K; intro a K
  refine wpList_nil (then_n (wp_seq (X_reg ?_)))
  refine X_o K M ?_; clear K; intro a K
  obtain ⟨l2, h_l2, h⟩ := obind h
  refine X_a K (ac_make (C := (cI .u8)) (z := 0) rfl sl50 rfl z5 rfl K rfl rfl M h_l2) ?_
  clear K M; rintro _ a w ⟨A, c, rfl, M⟩ K
  refine X_o K M ?_; clear K; intro a K
  refine wpList_nil (then_n (wp_seq (wp_seq (X_reg ?_))))
  refine X_o K M ?_; clear K
  refine Y_r (fun _ K => rd_len rfl un50 K rfl) M ?_
  refine Y_o M ?_; intro a K
  refine wpList_nil (then_n (wp_block ?_))
  refine X_lp (id := 0) (Rel := fun (⟨l3, i, i2⟩ : List Int × Int × Int) a w => ∃ (A2 : Option Addr) (c2 : Nat), Kn a 28 [(0, I n), (1, I size), (5, .slice A2 l3.length c2), (10, I i), (11, I i2)] ∧ Mem w0.heap.size w0 w [.row 5 1 A2 l3.length c2 ((cI .u8).all l3)]) h (fun _ _ => rfl) ⟨A, c, K.pick [0,1,5,10,11], M.pick [0] (by decide)⟩ ?_ ?_
  · clear K M h
    rintro ⟨l6, i3, i4⟩ a w ⟨A3, c3, K, M⟩ h
    try dsimp only at h
    refine inb_e ?_
    refine then_n (wp_seq (X_reg ?_))
    refine X_o K M ?_; clear K
    refine Y_r (fun _ K => rd_convBS rfl sl50 ik5 st9 K rfl (inR (C := (cI .u8)) 0 rfl rfl)) M ?_
    refine Y_o M ?_; intro a K
    refine wpList_nil (then_n (wp_ret ?_))
    cases h
    exact ret1 K rfl (res_tmp K rfl) ⟨_, rfl, rfl, ((M).pick [] (by decide))⟩
  clear K M h
  rintro kk fuel ⟨l3, i, i2⟩ a w hk1 ⟨A2, c2, K, M⟩ h
  unfold D_bits_digits_l1 at h
  refine wp_seq (X_reg ?_)
  refine X_o K M ?_; clear K; intro a K
  refine wpList_nil (then_n (wp_seq ?_))
  refine X_cond K rfl (fun hb => ?_) (fun hb => ?_)
  · have h := ctrue hb h
    refine wp_skip (then_n (wp_seq (wp_block (wp_seq (X_reg ?_)))))
    refine X_o K M ?_; clear K
    refine Y_o M ?_; intro a K
    refine wpList_nil (then_n (X_reg ?_))
    refine X_o K M ?_; clear K
    iterate 6 (refine Y_o M ?_)
    intro a K
    obtain ⟨_, h0, h⟩ := obind h
    have h0 := nn_spec h0
    refine X_r K (rd_shr rfl K rfl rfl h0) M ?_; clear K
    refine Y_o M ?_
    obtain ⟨b2, h_b2, h⟩ := obind h
    refine Y_r (fun _ K => rd_ixT rfl st9 K rfl rfl h_b2) M ?_
    obtain ⟨e2, h_e2, h⟩ := obind h
    refine Y_r (fun _ K => rd_ix rfl sl50 K rfl rfl (inR (C := (cI .u8)) 0 rfl rfl) h_e2) M ?_; intro a K
    obtain ⟨l5, h_l5, h⟩ := obind h
    refine X_b K (ac_rowset (el := (b2.toNat : Int)) rfl sz5 rfl rfl K rfl rfl rfl 0 M rfl h_l5) ?_
    have M0 := M; clear K M; rintro _ a w M K
    have hl := setL_len h_l5
    try rw [hl] at M
    try rw [hl] at K
    clear hl
    clear M0
    refine wpList_nil (inb_n (then_n (X_reg ?_)))
    refine X_o K M ?_; clear K
    refine Y_o M ?_; intro a K
    refine wpList_nil ?_
    exact then_n ⟨(l5, i, IntKind.i64.wrap (i2 + 1)), ⟨A2, c2, K.pick [0,1,5,10,11], M.pick [0] (by decide)⟩, h⟩
  have h := cfalse hb h
  refine wp_exit ?_
  refine then_e ?_
  exact then_e (hk1 (l3, i, i2) _ _ ⟨A2, c2, K.pick [0,1,5,10,11], M.pick [0] (by decide)⟩ h)
set_option maxRecDepth 100000 in
set_option maxHeartbeats 4000000 in
theorem W_bits_Number (N : Nat) (n : Int) (size : Int) (w0 : World)  (r : List UInt8 × Int) (h : D_bits_Number N n size = some r) :
    Calls Tryd.prog 12 #[I n, I size] w0 fun e w' => ∃ v, e = .returned v ∧ v = .tuple #[.string (bs r.1), I r.2] ∧ Mem w0.heap.size w0 w' [] := by
  refine X_enter Tryd.func12 rfl Tryd.ntmps12 rfl ?_
  intro a K
  have M := Mem.start w0
  have K : Kn a 25 [(0, I n), (1, I size)] := K
  unfold D_bits_Number at h
  refine wp_seq (X_reg ?_)
  refine X_o K M ?_; clear K
  refine Y_o M ?_; intro a K
  refine wpList_nil (then_n (wp_seq (wp_seq (X_reg ?_))))
  refine X_o K M ?_; clear K
  iterate 2 (refine Y_o M ?_)
  intro a K
  rcases Bool.eq_false_or_eq_true (decide (size < 0)) with hb | hb
  · have h := ctrue hb h
    have K := K.reb (s := 8) rfl hb
    refine X_o K M ?_; clear K
    iterate 12 (refine Y_o M ?_)
    intro a K
    refine wpList_nil (then_n ?_)
    refine X_condT K rfl ?_
    refine wp_seq (X_reg ?_)
    refine X_o K M ?_; clear K
    refine Y_o M ?_; intro a K
    refine wpList_nil (then_n (wp_ret (then_r ?_)))
    cases h
    exact ret2 K rfl (res_tmp K rfl) (res_tmp K rfl) ⟨_, rfl, rfl, ((M).pick [] (by decide))⟩
  have h := cfalse hb h
  have K := K.reb (s := 8) rfl hb
  refine X_o K M ?_; clear K
  iterate 3 (refine Y_o M ?_)
  intro a K
  rcases Bool.eq_false_or_eq_true (decide (16 < size)) with hb | hb
  · have h := ctrue hb h
    have K := K.reb (s := 12) rfl hb
    refine X_o K M ?_; clear K
    iterate 8 (refine Y_o M ?_)
    intro a K
    refine wpList_nil (then_n ?_)
    refine X_condT K rfl ?_
    refine wp_seq (X_reg ?_)
    refine X_o K M ?_; clear K
    refine Y_o M ?_; intro a K
    refine wpList_nil (then_n (wp_ret (then_r ?_)))
    cases h
    exact ret2 K rfl (res_tmp K rfl) (res_tmp K rfl) ⟨_, rfl, rfl, ((M).pick [] (by decide))⟩
  have h := cfalse hb h
  have K := K.reb (s := 12) rfl hb
  refine X_o K M ?_; clear K
  iterate 3 (refine Y_o M ?_)
  intro a K
  rcases Bool.eq_false_or_eq_true (decide (n < 0)) with hb | hb
  · have h := ctrue hb h
    have K := K.reb (s := 16) rfl hb
    refine X_o K M ?_; clear K
    iterate 4 (refine Y_o M ?_)
    intro a K
    refine wpList_nil (then_n ?_)
    refine X_condT K rfl ?_
    refine wp_seq (X_reg ?_)
    refine X_o K M ?_; clear K
    refine Y_o M ?_; intro a K
    refine wpList_nil (then_n (wp_ret (then_r ?_)))
    cases h
    exact ret2 K rfl (res_tmp K rfl) (res_tmp K rfl) ⟨_, rfl, rfl, ((M).pick [] (by decide))⟩
  have h := cfalse hb h
  have K := K.reb (s := 16) rfl hb
  refine X_o K M ?_; clear K
  refine Y_o M ?_; intro a K
  obtain ⟨_, h0, h⟩ := obind h
  have h0 := nn_spec h0
  refine X_r K (rd_shl rfl K rfl rfl h0) M ?_; clear K
  iterate 2 (refine Y_o M ?_)
  intro a K
  refine wpList_nil (then_n ?_)
  refine X_cond K rfl (fun hb => ?_) (fun hb => ?_)
  · have h := ctrue hb h
    refine wp_seq (X_reg ?_)
    refine X_o K M ?_; clear K
    refine Y_o M ?_; intro a K
    refine wpList_nil (then_n (wp_ret (then_r ?_)))
    cases h
    exact ret2 K rfl (res_tmp K rfl) (res_tmp K rfl) ⟨_, rfl, rfl, ((M).pick [] (by decide))⟩
  have h := cfalse hb h
  refine wp_skip (then_n (wp_seq (X_reg ?_)))
  refine X_o K M ?_; clear K
  refine Y_o M ?_; intro a K
  obtain ⟨r2, h_r2, h⟩ := obind h
  refine X_a K (ac_call (vs := [I n, I size]) (cap := []) rfl fok31 K rfl rfl (W_bits_digits N n size _  r2 h_r2)) ?_
  have M0 := M; clear K M; rintro _ a w ⟨rfl, M⟩ K
  replace M := M0.call M; clear M0
  refine X_o K M ?_; clear K
  refine Y_o M ?_; intro a K
  refine wpList_nil (then_n (wp_ret ?_))
  cases h
  exact ret2 K rfl (res_tmp K rfl) (res_tmp K rfl) ⟨_, rfl, rfl, ((M).pick [] (by decide))⟩
set_option maxRecDepth 100000 in
set_option maxHeartbeats 4000000 in
theorem W_bits_depths (N : Nat) (n : Int) (w0 : World)  (r : Bool) (h : D_bits_depths N n = some r) :
    Calls Tryd.prog 35 #[I n] w0 fun e w' => ∃ v, e = .returned v ∧ v = .bool r ∧ Mem w0.heap.size w0 w' [] := by
  refine X_enter Tryd.func35 rfl Tryd.ntmps35 rfl ?_
  intro a K
  have M := Mem.start w0
  have K : Kn a 9 [(0, I n)] := K
  unfold D_bits_depths at h
  refine wp_seq (X_reg ?_)
  refine X_o K M ?_; clear K; intro a K
  refine wpList_nil (then_n (wp_seq (X_reg ?_)))
  refine X_o K M ?_; clear K
  iterate 2 (refine Y_o M ?_)
  intro a K
  rcases Bool.eq_false_or_eq_true (decide (1 ≤ n)) with hb | hb
  · have h := ctrue hb h
    have K := K.reb (s := 5) rfl hb
    refine X_o K M ?_; clear K
    iterate 3 (refine Y_o M ?_)
    intro a K
    refine wpList_nil (then_n (wp_ret ?_))
    cases h
    exact ret1 K rfl (res_tmp K rfl) ⟨_, rfl, rfl, ((M).pick [] (by decide))⟩
  have h := cfalse hb h
  have K := K.reb (s := 5) rfl hb
  refine X_o K M ?_; clear K
  iterate 3 (refine Y_o M ?_)
  intro a K
  refine wpList_nil (then_n (wp_ret ?_))
  cases h
  exact ret1 K rfl (res_tmp K rfl) ⟨_, rfl, rfl, ((M).pick [] (by decide))⟩
set_option maxRecDepth 100000 in
set_option maxHeartbeats 4000000 in
theorem W_bits_Pack (N : Nat) (d : List Int) (A_d : Option Addr) (c_d : Nat) (o : Int) (w0 : World) (R_d : SL w0 (cI .i64) A_d d) (C_d : d.length ≤ c_d) (r : List UInt8 × Int) (h : D_bits_Pack N d o = some r) :
    Calls Tryd.prog 18 #[.slice A_d d.length c_d, I o] w0 fun e w' => ∃ v, e = .returned v ∧ v = .tuple #[.string (bs r.1), I r.2] ∧ Mem w0.heap.size w0 w' [] := by
  refine X_enter Tryd.func18 rfl Tryd.ntmps18 rfl ?_
  intro a K
  have M := Mem.start w0
  have K : Kn a 75 [(0, .slice A_d d.length c_d), (1, I o)] := K
  unfold D_bits_Pack at h
  refine wp_seq (X_reg ?_)
  refine X_o K M ?_; clear K
  refine Y_o M ?_; intro a K
  refine wpList_nil (then_n (wp_seq (wp_seq (X_reg ?_))))
  refine X_o K M ?_; clear K; intro a K
  obtain ⟨r2, h_r2, h⟩ := obind h
  refine X_a K (ac_call (vs := [I o]) (cap := []) rfl fok35 K rfl rfl (W_bits_depths N o _  r2 h_r2)) ?_
  have M0 := M; clear K M; rintro _ a w ⟨rfl, M⟩ K
  replace M := M0.call M; clear M0
  refine X_o K M ?_; clear K; intro a K
  refine wpList_nil (then_n ?_)
  refine X_cond K rfl (fun hb => ?_) (fun hb => ?_)
  · have h := ctrue hb h
    refine wp_seq (X_reg ?_)
    refine X_o K M ?_; clear K
    refine Y_o M ?_; intro a K
    refine wpList_nil (then_n (wp_ret (then_r ?_)))
    cases h
    exact ret2 K rfl (res_tmp K rfl) (res_tmp K rfl) ⟨_, rfl, rfl, ((M).pick [] (by decide))⟩
  have h := cfalse hb h
  refine wp_skip (then_n (wp_seq (wp_seq (X_reg ?_))))
  refine X_o K M ?_; clear K
  refine Y_r (fun _ K => rd_len rfl un35 K rfl) M ?_
  refine Y_o M ?_; intro a K
  refine wpList_nil (then_n ?_)
  refine X_cond K rfl (fun hb => ?_) (fun hb => ?_)
  · have h := ctrue hb h
    refine wp_seq (X_reg ?_)
    refine X_o K M ?_; clear K
    refine Y_o M ?_; intro a K
    refine wpList_nil (then_n (wp_ret (then_r ?_)))
    cases h
    exact ret2 K rfl (res_tmp K rfl) (res_tmp K rfl) ⟨_, rfl, rfl, ((M).pick [] (by decide))⟩
  have h := cfalse hb h
  refine wp_skip (then_n (wp_seq (X_reg ?_)))
  refine X_o K M ?_; clear K
  refine Y_r (fun _ K => rd_len rfl un35 K rfl) M ?_
  iterate 3 (refine Y_o M ?_)
  refine Y_r (fun _ K => rd_quo rfl K rfl rfl (by decide)) M ?_; intro a K
  obtain ⟨_, h0, h⟩ := obind h
  have h0 := mok_spec h0
  refine X_a K (ac_make0 (C := (cI .u8)) rfl sl50 rfl (by rw [z5]; rfl) rfl K rfl rfl M h0) ?_
  clear K M; rintro _ a w ⟨A, c, rfl, M⟩ K
  refine X_o K M ?_; clear K; intro a K
  refine wpList_nil (then_n (wp_seq (X_reg ?_)))
  refine X_o K M ?_; clear K
  refine Y_o M ?_; intro a K
  refine wpList_nil (then_n (wp_seq (wp_seq (X_reg ?_))))
  refine X_o K M ?_; clear K
  refine Y_r (fun _ K => rd_len rfl un35 K rfl) M ?_
  refine Y_o M ?_; intro a K
  refine wpList_nil (then_n (wp_block ?_))
  refine X_lp (id := 0) (Rel := fun (⟨l2, i, i2, i3⟩ : List Int × Int × Int × Int) a w => ∃ (A2 : Option Addr) (c2 : Nat), Kn a 75 [(1, I o), (6, .slice A2 l2.length c2), (7, I i), (8, I i2), (24, .slice A_d d.length c_d), (25, I (d.length : Int)), (26, I i3)] ∧ Mem w0.heap.size w0 w [.row 5 1 A2 l2.length c2 ((cI .u8).all l2)]) h (fun _ _ => rfl) ⟨A, c, K.pick [1,6,7,8,24,25,26], M.pick [0] (by decide)⟩ ?_ ?_
  · clear K M h
    rintro ⟨l9, i7, i8, i9⟩ a w ⟨A9, c9, K, M⟩ h
    try dsimp only at h
    refine inb_e ?_
    refine then_n (wp_seq (wp_seq (X_reg ?_)))
    refine X_o K M ?_; clear K
    refine Y_o M ?_; intro a K
    refine wpList_nil (then_n ?_)
    refine X_cond K rfl (fun hb => ?_) (fun hb => ?_)
    · have h := ctrue hb h
      refine X_reg ?_
      refine X_o K M ?_; clear K
      iterate 3 (refine Y_o M ?_)
      intro a K
      obtain ⟨_, h0, h⟩ := obind h
      have h0 := nn_spec h0
      refine X_r K (rd_shl rfl K rfl rfl h0) M ?_; clear K
      refine Y_r (fun _ K => rd_conv rfl rfl ik5 K rfl) M ?_; intro a K
      refine X_a K (ac_bslice rfl sl50 z5 K (vs := [(0, .int .u8 (IntKind.u8.wrap (shlI .i64 i7 (IntKind.i64.wrap (8 - i8)))))]) (cs := [.int .u8 (IntKind.u8.wrap (shlI .i64 i7 (IntKind.i64.wrap (8 - i8))))]) rfl (by kernel_rfl) rfl rfl M) ?_
      have M0 := M; clear K M; rintro _ a w ⟨gs4, rfl, M⟩ K
      replace M := M.asRow 0 rfl (cI .u8) ([IntKind.u8.wrap (shlI .i64 i7 (IntKind.i64.wrap (8 - i8)))] : List Int) (n := 1) rfl rfl rfl
      clear M0
      obtain ⟨l10, h_l10, h⟩ := obind h
      refine X_a K (ac_app (C := (cI .u8)) (xs := l9) (ys := ([IntKind.u8.wrap (shlI .i64 i7 (IntKind.i64.wrap (8 - i8)))] : List Int)) rfl sl50 rfl z5 rfl rfl K rfl rfl 1 M rfl ((inR (C := (cI .u8)) 0 rfl rfl) _ M) h_l10) ?_
      clear K M; rintro _ a w ⟨A10, c10, rfl, M⟩ K
      refine X_o K M ?_; clear K; intro a K
      refine wpList_nil (then_n (wp_seq (X_reg ?_)))
      refine X_o K M ?_; clear K
      refine Y_r (fun _ K => rd_convBS rfl sl50 ik5 st9 K rfl (inR (C := (cI .u8)) 1 rfl rfl)) M ?_
      iterate 2 (refine Y_o M ?_)
      intro a K
      refine wpList_nil (then_n (wp_ret ?_))
      cases h
      exact ret2 K rfl (res_tmp K rfl) (res_tmp K rfl) ⟨_, rfl, rfl, ((M).pick [] (by decide))⟩
    have h := cfalse hb h
    refine wp_skip (then_n (wp_seq (X_reg ?_)))
    refine X_o K M ?_; clear K
    refine Y_r (fun _ K => rd_convBS rfl sl50 ik5 st9 K rfl (inR (C := (cI .u8)) 0 rfl rfl)) M ?_
    iterate 2 (refine Y_o M ?_)
    intro a K
    refine wpList_nil (then_n (wp_ret ?_))
    cases h
    exact ret2 K rfl (res_tmp K rfl) (res_tmp K rfl) ⟨_, rfl, rfl, ((M).pick [] (by decide))⟩
  clear K M h
  rintro kk fuel ⟨l2, i, i2, i3⟩ a w hk1 ⟨A2, c2, K, M⟩ h
  unfold D_bits_Pack_l1 at h
  refine wp_seq (X_reg ?_)
  refine X_o K M ?_; clear K; intro a K
  refine wpList_nil (then_n (wp_seq ?_))
  refine X_cond K rfl (fun hb => ?_) (fun hb => ?_)
  · have h := ctrue hb h
    refine wp_skip (then_n (wp_seq (wp_block (wp_seq (X_reg ?_)))))
    obtain ⟨e2, h_e2, h⟩ := obind h
    refine X_r K (rd_ix rfl sl35 K rfl rfl (inA R_d) h_e2) M ?_; clear K
    refine Y_r (fun _ K => rd_elC rfl sc3 K rfl rfl (inA R_d) h_e2 rfl) M ?_
    refine Y_o M ?_; intro a K
    refine wpList_nil (then_n (wp_seq (wp_seq (X_reg ?_))))
    refine X_o K M ?_; clear K
    iterate 2 (refine Y_o M ?_)
    intro a K
    rcases Bool.eq_false_or_eq_true (decide (e2 < 0)) with hb | hb
    · have h := ctrue hb h
      have K := K.reb (s := 32) rfl hb
      refine X_o K M ?_; clear K
      iterate 4 (refine Y_o M ?_)
      intro a K
      refine wpList_nil (then_n ?_)
      refine X_condT K rfl ?_
      refine wp_seq (X_reg ?_)
      refine X_o K M ?_; clear K
      refine Y_o M ?_; intro a K
      refine wpList_nil (then_n (wp_ret (then_r (inb_r (then_r (then_r (inb_r (then_r ?_))))))))
      cases h
      exact ret2 K rfl (res_tmp K rfl) (res_tmp K rfl) ⟨_, rfl, rfl, ((M).pick [] (by decide))⟩
    have h := cfalse hb h
    have K := K.reb (s := 32) rfl hb
    refine X_o K M ?_; clear K
    refine Y_o M ?_; intro a K
    obtain ⟨_, h0, h⟩ := obind h
    have h0 := nn_spec h0
    refine X_r K (rd_shl rfl K rfl rfl h0) M ?_; clear K
    iterate 2 (refine Y_o M ?_)
    intro a K
    refine wpList_nil (then_n ?_)
    refine X_cond K rfl (fun hb => ?_) (fun hb => ?_)
    · have h := ctrue hb h
      refine wp_seq (X_reg ?_)
      refine X_o K M ?_; clear K
      refine Y_o M ?_; intro a K
      refine wpList_nil (then_n (wp_ret (then_r (inb_r (then_r (then_r (inb_r (then_r ?_))))))))
      cases h
      exact ret2 K rfl (res_tmp K rfl) (res_tmp K rfl) ⟨_, rfl, rfl, ((M).pick [] (by decide))⟩
    have h := cfalse hb h
    refine wp_skip (then_n (wp_seq (X_reg ?_)))
    refine X_o K M ?_; clear K
    refine Y_o M ?_; intro a K
    obtain ⟨_, h0, h⟩ := obind h
    have h0 := nn_spec h0
    refine X_r K (rd_shl rfl K rfl rfl h0) M ?_; clear K
    refine Y_o M ?_
    refine Y_r (fun _ K => rd_or rfl K rfl rfl) M ?_
    iterate 3 (refine Y_o M ?_)
    obtain ⟨x6, hx, h⟩ := olet h
    refine Y_r (fun _ K => rdi hx (rd_assign rfl K rfl)) M ?_
    obtain ⟨x7, hx, h⟩ := olet h
    refine Y_r (fun _ K => rdi hx (rd_assign rfl K rfl)) M ?_; intro a K
    refine wpList_nil (then_n (wp_seq (wp_block ?_)))
    refine X_lp (id := 2) (Rel := fun (⟨l5, i5⟩ : List Int × Int) a w => ∃ (A5 : Option Addr) (c5 : Nat), Kn a 75 [(1, I o), (6, .slice A5 l5.length c5), (7, I x6), (8, I i5), (24, .slice A_d d.length c_d), (25, I (d.length : Int)), (26, I i3), (33, I e2), (34, I o), (35, I (shlI .i64 1 o)), (36, .bool (decide ((shlI .i64 1 o) ≤ e2)))] ∧ Mem w0.heap.size w0 w [.row 5 1 A5 l5.length c5 ((cI .u8).all l5)]) h (fun _ _ => rfl) ⟨A2, c2, K.pick [1,6,7,8,24,25,26,33,34,35,36], M.pick [0] (by decide)⟩ ?_ ?_
    · clear K M h
      rintro ⟨l8, i6⟩ a w ⟨A8, c8, K, M⟩ h
      try dsimp only at h
      refine inb_e ?_
      refine then_n (X_reg ?_)
      refine X_o K M ?_; clear K
      refine Y_o M ?_; intro a K
      obtain ⟨_, h0, h⟩ := obind h
      have h0 := nn_spec h0
      refine X_r K (rd_shl rfl K rfl rfl h0) M ?_; clear K
      iterate 2 (refine Y_o M ?_)
      obtain ⟨x10, hx, h⟩ := olet h
      refine Y_r (fun _ K => rdi hx (rd_assign rfl K rfl)) M ?_; intro a K
      refine wpList_nil (inb_n (then_n (X_reg ?_)))
      refine X_o K M ?_; clear K
      refine Y_o M ?_; intro a K
      refine wpList_nil ?_
      exact then_n ⟨(l8, x10, i6, IntKind.i64.wrap (i3 + 1)), ⟨A8, c8, K.pick [1,6,7,8,24,25,26], M.pick [0] (by decide)⟩, h⟩
    clear K M h
    rintro kk fuel ⟨l5, i5⟩ a w hk2 ⟨A5, c5, K, M⟩ h
    unfold D_bits_Pack_l2 at h
    refine wp_seq (wp_seq (X_reg ?_))
    refine X_o K M ?_; clear K
    refine Y_o M ?_; intro a K
    refine wpList_nil (then_n ?_)
    refine X_cond K rfl (fun hb => ?_) (fun hb => ?_)
    · have h := ctrue hb h
      refine wp_skip (then_n (wp_block (wp_seq (X_reg ?_))))
      refine X_o K M ?_; clear K
      refine Y_o M ?_
      obtain ⟨x9, hx, h⟩ := olet h
      refine Y_r (fun _ K => rdi hx (rd_assign rfl K rfl)) M ?_; intro a K
      refine wpList_nil (then_n (X_reg ?_))
      refine X_o K M ?_; clear K
      iterate 2 (refine Y_o M ?_)
      intro a K
      obtain ⟨_, h0, h⟩ := obind h
      have h0 := nn_spec h0
      refine X_r K (rd_shr rfl K rfl rfl h0) M ?_; clear K
      refine Y_r (fun _ K => rd_conv rfl rfl ik5 K rfl) M ?_; intro a K
      refine X_a K (ac_bslice rfl sl50 z5 K (vs := [(0, .int .u8 (IntKind.u8.wrap (shrI .i64 x6 x9)))]) (cs := [.int .u8 (IntKind.u8.wrap (shrI .i64 x6 x9))]) rfl (by kernel_rfl) rfl rfl M) ?_
      have M0 := M; clear K M; rintro _ a w ⟨gs3, rfl, M⟩ K
      replace M := M.asRow 0 rfl (cI .u8) ([IntKind.u8.wrap (shrI .i64 x6 x9)] : List Int) (n := 1) rfl rfl rfl
      clear M0
      obtain ⟨l7, h_l7, h⟩ := obind h
      refine X_a K (ac_app (C := (cI .u8)) (xs := l5) (ys := ([IntKind.u8.wrap (shrI .i64 x6 x9)] : List Int)) rfl sl50 rfl z5 rfl rfl K rfl rfl 1 M rfl ((inR (C := (cI .u8)) 0 rfl rfl) _ M) h_l7) ?_
      clear K M; rintro _ a w ⟨A7, c7, rfl, M⟩ K
      refine X_o K M ?_; clear K; intro a K
      refine wpList_nil (inb_n ?_)
      exact then_n ⟨(l7, x9), ⟨A7, c7, K.pick [1,6,7,8,24,25,26,33,34,35,36], M.pick [1] (by decide)⟩, h⟩
    have h := cfalse hb h
    refine wp_exit ?_
    refine then_e ?_
    exact then_e (hk2 (l5, i5) _ _ ⟨A5, c5, K.pick [1,6,7,8,24,25,26,33,34,35,36], M.pick [0] (by decide)⟩ h)
  have h := cfalse hb h
  refine wp_exit ?_
  refine then_e ?_
  exact then_e (hk1 (l2, i, i2, i3) _ _ ⟨A2, c2, K.pick [1,6,7,8,24,25,26], M.pick [0] (by decide)⟩ h)
set_option maxRecDepth 100000 in
set_option maxHeartbeats 4000000 in
theorem W_bits_Unpack (N : Nat) (d : List UInt8) (o : Int) (p2 : Int) (w0 : World)  (r : List Int × Int) (h : D_bits_Unpack N d o p2 = some r) :
    Calls Tryd.prog 21 #[.string (bs d), I o, I p2] w0 fun e w' => ∃ v, e = .returned v ∧ ∃ A0 c0, v = .tuple #[.slice A0 r.1.length c0, I r.2] ∧ Mem w0.heap.size w0 w' [.row 3 1 A0 r.1.length c0 ((cI .i64).all r.1)] := by
  refine X_enter Tryd.func21 rfl Tryd.ntmps21 rfl ?_
  intro a K
  have M := Mem.start w0
  have K : Kn a 70 [(0, .string (bs d)), (1, I o), (2, I p2)] := K
  unfold D_bits_Unpack at h
  refine wp_seq (X_reg ?_)
  refine X_o K M ?_; clear K
  refine Y_o M ?_; intro a K
  refine wpList_nil (then_n (wp_seq (wp_seq (X_reg ?_))))
  refine X_o K M ?_; clear K; intro a K
  obtain ⟨r2, h_r2, h⟩ := obind h
  refine X_a K (ac_call (vs := [I o]) (cap := []) rfl fok35 K rfl rfl (W_bits_depths N o _  r2 h_r2)) ?_
  have M0 := M; clear K M; rintro _ a w ⟨rfl, M⟩ K
  replace M := M0.call M; clear M0
  refine X_o K M ?_; clear K
  refine Y_o M ?_; intro a K
  rcases Bool.eq_false_or_eq_true (!(r2)) with hb | hb
  · have h := ctrue hb h
    have K := K.reb (s := 15) rfl hb
    refine X_o K M ?_; clear K
    iterate 2 (refine Y_o M ?_)
    intro a K
    refine wpList_nil (then_n ?_)
    refine X_condT K rfl ?_
    refine wp_seq (X_reg ?_)
    refine X_o K M ?_; clear K
    refine Y_o M ?_; intro a K
    refine wpList_nil (then_n (wp_ret (then_r ?_)))
    cases h
    exact ret2 K rfl (res_tmp K rfl) (res_tmp K rfl) ⟨_, rfl, _, _, rfl, (((Mem.nilrow 3 1 (cI .i64) M)).pick [0] (by decide))⟩
  have h := cfalse hb h
  have K := K.reb (s := 15) rfl hb
  refine X_o K M ?_; clear K
  iterate 2 (refine Y_o M ?_)
  intro a K
  refine wpList_nil (then_n ?_)
  refine X_cond K rfl (fun hb => ?_) (fun hb => ?_)
  · have h := ctrue hb h
    refine wp_seq (X_reg ?_)
    refine X_o K M ?_; clear K
    refine Y_o M ?_; intro a K
    refine wpList_nil (then_n (wp_ret (then_r ?_)))
    cases h
    exact ret2 K rfl (res_tmp K rfl) (res_tmp K rfl) ⟨_, rfl, _, _, rfl, (((Mem.nilrow 3 1 (cI .i64) M)).pick [0] (by decide))⟩
  have h := cfalse hb h
  refine wp_skip (then_n (wp_seq (wp_seq (X_reg ?_))))
  refine X_o K M ?_; clear K
  refine Y_o M ?_; intro a K
  refine wpList_nil (then_n ?_)
  refine X_cond K rfl (fun hb => ?_) (fun hb => ?_)
  · have h := ctrue hb h
    refine wp_seq (X_reg ?_)
    refine X_o K M ?_; clear K
    refine Y_o M ?_; intro a K
    refine wpList_nil (then_n (wp_ret (then_r ?_)))
    cases h
    exact ret2 K rfl (res_tmp K rfl) (res_tmp K rfl) ⟨_, rfl, _, _, rfl, (((Mem.nilrow 3 1 (cI .i64) M)).pick [0] (by decide))⟩
  have h := cfalse hb h
  refine wp_skip (then_n (wp_seq (wp_seq (X_reg ?_))))
  refine X_o K M ?_; clear K
  refine Y_r (fun _ K => rd_lenT rfl st9 K rfl) M ?_
  iterate 4 (refine Y_o M ?_)
  refine Y_r (fun _ K => rd_quo rfl K rfl rfl (by decide)) M ?_
  refine Y_o M ?_; intro a K
  refine wpList_nil (then_n ?_)
  refine X_cond K rfl (fun hb => ?_) (fun hb => ?_)
  · have h := ctrue hb h
    refine wp_seq (X_reg ?_)
    refine X_o K M ?_; clear K
    refine Y_o M ?_; intro a K
    refine wpList_nil (then_n (wp_ret (then_r ?_)))
    cases h
    exact ret2 K rfl (res_tmp K rfl) (res_tmp K rfl) ⟨_, rfl, _, _, rfl, (((Mem.nilrow 3 1 (cI .i64) M)).pick [0] (by decide))⟩
  have h := cfalse hb h
  refine wp_skip (then_n (wp_seq (X_reg ?_)))
  refine X_o K M ?_; clear K; intro a K
  refine wpList_nil (then_n (wp_seq (X_reg ?_)))
  refine X_o K M ?_; clear K
  refine Y_o M ?_; intro a K
  refine wpList_nil (then_n (wp_seq (wp_seq (X_reg ?_))))
  refine X_o K M ?_; clear K
  refine Y_r (fun _ K => rd_lenT rfl st9 K rfl) M ?_
  refine Y_o M ?_; intro a K
  refine wpList_nil (then_n (wp_block ?_))
  replace M := Mem.nilrow 3 1 (cI .i64) M
  refine X_lp (id := 0) (Rel := fun (⟨l5, i3, i4, i5⟩ : List Int × Int × Int × Int) a w => ∃ (A4 : Option Addr) (c4 : Nat), Kn a 70 [(0, .string (bs d)), (1, I o), (2, I p2), (8, .slice A4 l5.length c4), (9, I i3), (10, I i4), (30, I (d.length : Int)), (31, I i5)] ∧ Mem w0.heap.size w0 w [.row 3 1 A4 l5.length c4 ((cI .i64).all l5)]) h (fun _ _ => rfl) ⟨none, 0, K.pick [0,1,2,8,9,10,30,31], M.pick [0] (by decide)⟩ ?_ ?_
  · clear K M h
    rintro ⟨l12, i12, i13, i14⟩ a w ⟨A11, c11, K, M⟩ h
    try dsimp only at h
    refine inb_e ?_
    refine then_n (wp_seq (wp_seq (X_reg ?_)))
    refine X_o K M ?_; clear K
    refine Y_o M ?_; intro a K
    refine wpList_nil (then_n ?_)
    refine X_cond K rfl (fun hb => ?_) (fun hb => ?_)
    · have h := ctrue hb h
      refine wp_seq (X_reg ?_)
      refine X_o K M ?_; clear K
      refine Y_o M ?_; intro a K
      refine wpList_nil (then_n (wp_ret (then_r ?_)))
      cases h
      exact ret2 K rfl (res_tmp K rfl) (res_tmp K rfl) ⟨_, rfl, _, _, rfl, (((Mem.nilrow 3 1 (cI .i64) M)).pick [0] (by decide))⟩
    have h := cfalse hb h
    refine wp_skip (then_n (wp_seq (X_reg ?_)))
    refine X_o K M ?_; clear K
    iterate 2 (refine Y_o M ?_)
    intro a K
    refine wpList_nil (then_n (wp_ret ?_))
    cases h
    exact ret2 K rfl (res_tmp K rfl) (res_tmp K rfl) ⟨_, rfl, _, _, rfl, ((M).pick [0] (by decide))⟩
  clear K M h
  rintro kk fuel ⟨l5, i3, i4, i5⟩ a w hk1 ⟨A4, c4, K, M⟩ h
  unfold D_bits_Unpack_l1 at h
  refine wp_seq (X_reg ?_)
  refine X_o K M ?_; clear K; intro a K
  refine wpList_nil (then_n (wp_seq ?_))
  refine X_cond K rfl (fun hb => ?_) (fun hb => ?_)
  · have h := ctrue hb h
    refine wp_skip (then_n (wp_seq (wp_block (wp_seq (X_reg ?_)))))
    refine X_o K M ?_; clear K
    refine Y_o M ?_; intro a K
    refine wpList_nil (then_n (wp_seq (X_reg ?_)))
    refine X_o K M ?_; clear K
    refine Y_r (fun _ K => rd_shl rfl K rfl rfl (by decide)) M ?_
    iterate 2 (refine Y_o M ?_)
    obtain ⟨b3, h_b3, h⟩ := obind h
    refine Y_r (fun _ K => rd_ixT rfl st9 K rfl rfl h_b3) M ?_
    refine Y_r (fun _ K => rd_conv rfl rfl ik3 K rfl) M ?_
    refine Y_r (fun _ K => rd_or rfl K rfl rfl) M ?_
    iterate 2 (refine Y_o M ?_)
    obtain ⟨x12, hx, h⟩ := olet h
    refine Y_r (fun _ K => rdi hx (rd_assign rfl K rfl)) M ?_
    obtain ⟨x13, hx, h⟩ := olet h
    refine Y_r (fun _ K => rdi hx (rd_assign rfl K rfl)) M ?_; intro a K
    refine wpList_nil (then_n (wp_block ?_))
    refine X_lp (id := 2) (Rel := fun (⟨l8, i8, i9⟩ : List Int × Int × Int) a w => ∃ (A7 : Option Addr) (c7 : Nat), Kn a 70 [(0, .string (bs d)), (1, I o), (2, I p2), (8, .slice A7 l8.length c7), (9, I i8), (10, I i9), (30, I (d.length : Int)), (31, I i5)] ∧ Mem w0.heap.size w0 w [.row 3 1 A7 l8.length c7 ((cI .i64).all l8)]) h (fun _ _ => rfl) ⟨A4, c4, K.pick [0,1,2,8,9,10,30,31], M.pick [0] (by decide)⟩ ?_ ?_
    · clear K M h
      rintro ⟨l11, i10, i11⟩ a w ⟨A10, c10, K, M⟩ h
      try dsimp only at h
      refine inb_e ?_
      refine inb_n (then_n (X_reg ?_))
      refine X_o K M ?_; clear K
      refine Y_o M ?_; intro a K
      refine wpList_nil ?_
      exact then_n ⟨(l11, i10, i11, IntKind.i64.wrap (i5 + 1)), ⟨A10, c10, K.pick [0,1,2,8,9,10,30,31], M.pick [0] (by decide)⟩, h⟩
    clear K M h
    rintro kk fuel ⟨l8, i8, i9⟩ a w hk2 ⟨A7, c7, K, M⟩ h
    unfold D_bits_Unpack_l2 at h
    refine wp_seq (wp_seq (X_reg ?_))
    refine X_o K M ?_; clear K
    iterate 3 (refine Y_o M ?_)
    intro a K
    rcases Bool.eq_false_or_eq_true (decide (o ≤ i9)) with hb | hb
    · have h := ctrue hb h
      have K := K.reb (s := 46) rfl hb
      refine X_o K M ?_; clear K
      refine Y_r (fun _ K => rd_len rfl un35 K rfl) M ?_
      iterate 3 (refine Y_o M ?_)
      intro a K
      refine wpList_nil (then_n ?_)
      refine X_cond K rfl (fun hb => ?_) (fun hb => ?_)
      · have h := ctrue hb h
        refine wp_skip (then_n (wp_block (wp_seq (X_reg ?_))))
        refine X_o K M ?_; clear K
        iterate 2 (refine Y_o M ?_)
        obtain ⟨x16, hx, h⟩ := olet h
        refine Y_r (fun _ K => rdi hx (rd_assign rfl K rfl)) M ?_; intro a K
        refine wpList_nil (then_n (wp_seq (X_reg ?_)))
        refine X_o K M ?_; clear K
        iterate 2 (refine Y_o M ?_)
        intro a K
        obtain ⟨_, h0, h⟩ := obind h
        have h0 := nn_spec h0
        refine X_r K (rd_shr rfl K rfl rfl h0) M ?_; clear K; intro a K
        refine X_a K (ac_bslice rfl sl35 z3 K (vs := [(0, I (shrI .i64 i8 x16))]) (cs := [I (shrI .i64 i8 x16)]) rfl (by kernel_rfl) rfl rfl M) ?_
        have M0 := M; clear K M; rintro _ a w ⟨gs5, rfl, M⟩ K
        replace M := M.asRow 0 rfl (cI .i64) ([shrI .i64 i8 x16] : List Int) (n := 1) rfl rfl rfl
        clear M0
        obtain ⟨l10, h_l10, h⟩ := obind h
        refine X_a K (ac_app (C := (cI .i64)) (xs := l8) (ys := ([shrI .i64 i8 x16] : List Int)) rfl sl35 rfl z3 rfl rfl K rfl rfl 1 M rfl ((inR (C := (cI .i64)) 0 rfl rfl) _ M) h_l10) ?_
        clear K M; rintro _ a w ⟨A9, c9, rfl, M⟩ K
        refine X_o K M ?_; clear K; intro a K
        refine wpList_nil (then_n (X_reg ?_))
        refine X_o K M ?_; clear K
        refine Y_o M ?_; intro a K
        obtain ⟨_, h0, h⟩ := obind h
        have h0 := nn_spec h0
        refine X_r K (rd_shl rfl K rfl rfl h0) M ?_; clear K
        iterate 2 (refine Y_o M ?_)
        obtain ⟨x17, hx, h⟩ := olet h
        refine Y_r (fun _ K => rdi hx (rd_assign rfl K rfl)) M ?_; intro a K
        refine wpList_nil (inb_n ?_)
        exact then_n ⟨(l10, x17, x16), ⟨A9, c9, K.pick [0,1,2,8,9,10,30,31], M.pick [1] (by decide)⟩, h⟩
      have h := cfalse hb h
      refine wp_exit ?_
      refine then_e ?_
      exact then_e (hk2 (l8, i8, i9) _ _ ⟨A7, c7, K.pick [0,1,2,8,9,10,30,31], M.pick [0] (by decide)⟩ h)
    have h := cfalse hb h
    have K := K.reb (s := 46) rfl hb
    refine X_o K M ?_; clear K
    iterate 4 (refine Y_o M ?_)
    intro a K
    refine wpList_nil (then_n ?_)
    refine X_condF K rfl ?_
    refine wp_exit ?_
    refine then_e ?_
    exact then_e (hk2 (l8, i8, i9) _ _ ⟨A7, c7, K.pick [0,1,2,8,9,10,30,31], M.pick [0] (by decide)⟩ h)
  have h := cfalse hb h
  refine wp_exit ?_
  refine then_e ?_
  exact then_e (hk1 (l5, i3, i4, i5) _ _ ⟨A4, c4, K.pick [0,1,2,8,9,10,30,31], M.pick [0] (by decide)⟩ h)
set_option maxRecDepth 100000 in
set_option maxHeartbeats 4000000 in
theorem W_bits_Bits (N : Nat) (s : List UInt8) (w0 : World) (r : List UInt8) (h : D_bits_Bits N s = some r) :
    Calls Tryd.prog 16 #[.string (bs s)] w0 fun e w' => ∃ v, e = .returned v ∧ v = .string (bs r) ∧ Mem w0.heap.size w0 w' [] := by
  refine X_enter Tryd.func16 rfl Tryd.ntmps16 rfl ?_
  intro a K
  have M := Mem.start w0
  have K : Kn a 18 [(0, .string (bs s))] := K
  unfold D_bits_Bits at h
  refine wp_seq (X_reg ?_)
  refine X_o K M ?_; clear K; intro a K
  refine wpList_nil (then_n (wp_seq (X_reg ?_)))
  refine X_a K (ac_alloc rfl (show zeroT Tryd.prog 55 = some [.pointer none, .slice none 0 0] by kernel_rfl) M) ?_
  clear K M; rintro _ a w ⟨g, rfl, M⟩ K
  have hB := bld_new (e := 5) (M.up 0 _ g rfl rfl) (M.has 0 _ rfl)
  replace M := M.pick [] (by decide)
  refine wpList_nil (then_n (wp_seq (wp_seq (X_reg ?_))))
  refine X_o K M ?_; clear K; intro a K
  refine wpList_nil (then_n (wp_block ?_))
  refine X_lp (id := 0) (Rel := fun (⟨b, i⟩ : List UInt8 × Int) a w => (Kn a 18 [(0, .string (bs s)), (3, .pointer (some ⟨g, 0, none⟩)), (4, I i)] ∧ Mem w0.heap.size w0 w []) ∧ Lib.IsBuilder 55 5 w0.heap.size g (Lib.byteCells b) w) h (fun _ _ => rfl) ⟨⟨K.pick [0,3,4], M.pick [] (by decide)⟩, hB⟩ ?_ ?_
  · clear K M h hB
    rintro ⟨b, i⟩ a w ⟨⟨K, M⟩, hB⟩ h
    try dsimp only at h
    refine inb_e ?_
    refine then_n (wp_seq (X_reg ?_))
    refine X_a K (ac_call (vs := [.pointer (some ⟨g, 0, none⟩)]) (cap := []) rfl fok34 K rfl rfl (W_bld_string hB M.sz)) ?_
    have M0 := M; clear K M; rintro _ a w ⟨rfl, hb⟩ K
    have M := fin_trans M0 rfl hb; clear M0
    refine X_o K M ?_; clear K; intro a K
    refine wpList_nil (then_n (wp_ret ?_))
    cases h
    exact ret1 K rfl (res_tmp K rfl) ⟨_, rfl, rfl, ((M).pick [] (by decide))⟩
  clear K M h hB
  rintro kk fuel ⟨b, i⟩ a w hk1 ⟨⟨K, M⟩, hB⟩ h
  unfold D_bits_Bits_l1 at h
  refine wp_seq (wp_seq (X_reg ?_))
  refine X_o K M ?_; clear K
  refine Y_o M ?_
  refine Y_r (fun _ K => rd_lenT rfl st9 K rfl) M ?_
  refine Y_o M ?_; intro a K
  refine wpList_nil (then_n ?_)
  refine X_cond K rfl (fun hb => ?_) (fun hb => ?_)
  · have h := ctrue hb h
    refine wp_skip (then_n (wp_seq (wp_block (X_reg ?_))))
    refine X_o K M ?_; clear K
    refine Y_o M ?_
    obtain ⟨c, h_c, h⟩ := obind h
    refine Y_r (fun _ K => rd_ixT rfl st9 K rfl rfl h_c) M ?_
    refine Y_r (fun _ K => rd_conv rfl rfl ik3 K rfl) M ?_; intro a K
    obtain ⟨d, h_d, h⟩ := obind h
    refine X_a K (ac_call (vs := [I (IntKind.i64.wrap (c.toNat : Int)), I 8]) (cap := []) rfl fok31 K rfl rfl (W_bits_digits N (IntKind.i64.wrap (c.toNat : Int)) 8 _ d h_d)) ?_
    have M0 := M; clear K M; rintro _ a w ⟨rfl, M⟩ K
    replace hB := bld_keep hB M.low
    replace M := M0.call M; clear M0
    obtain ⟨b2, h_b2, h⟩ := obind h
    refine X_a K (ac_call (vs := [.pointer (some ⟨g, 0, none⟩), .string (bs d)]) (cap := []) rfl fok33 K rfl rfl (W_bld_write hB h_b2 M.sz)) ?_
    have M0 := M; clear K M hB; rintro _ a w ⟨hB, hb2⟩ K
    have M := fin_trans M0 rfl hb2; clear M0
    refine wpList_nil (inb_n (then_n (X_reg ?_)))
    refine X_o K M ?_; clear K
    iterate 2 (refine Y_o M ?_)
    intro a K
    refine wpList_nil ?_
    exact then_n ⟨(b2, IntKind.i64.wrap (i + 1)), ⟨⟨K.pick [0,3,4], M.pick [] (by decide)⟩, hB⟩, h⟩
  have h := cfalse hb h
  refine wp_exit ?_
  refine then_e ?_
  exact then_e (hk1 (b, i) _ _ ⟨⟨K.pick [0,3,4], M.pick [] (by decide)⟩, hB⟩ h)
end Go.Proofs.YtpmnfhifmmfglabDoor

namespace Go.Proofs.YtpmnfhifmmfglabDoor
open Go.RowKit
set_option maxRecDepth 100000 in
set_option maxHeartbeats 4000000 in
theorem W_darkslideref_SameInts (N : Nat) (a2 : List Int) (A_a2 : Option Addr) (c_a2 : Nat) (b : List Int) (A_b : Option Addr) (c_b : Nat) (w0 : World) (R_a2 : SL w0 (cI .i64) A_a2 a2) (C_a2 : a2.length ≤ c_a2) (R_b : SL w0 (cI .i64) A_b b) (C_b : b.length ≤ c_b) (r : Bool) (h : D_darkslideref_SameInts N a2 b = some r) :
    Calls Tryd.prog 23 #[.slice A_a2 a2.length c_a2, .slice A_b b.length c_b] w0 fun e w' => ∃ v, e = .returned v ∧ v = .bool r ∧ Mem w0.heap.size w0 w' [] := by
  refine X_enter Tryd.func23 rfl Tryd.ntmps23 rfl ?_
  intro a K
  have M := Mem.start w0
  have K : Kn a 26 [(0, .slice A_a2 a2.length c_a2), (1, .slice A_b b.length c_b)] := K
  unfold D_darkslideref_SameInts at h
  refine wp_seq (X_reg ?_)
  refine X_o K M ?_; clear K; intro a K
  refine wpList_nil (then_n (wp_seq (wp_seq (X_reg ?_))))
  refine X_o K M ?_; clear K
  refine Y_r (fun _ K => rd_len rfl un35 K rfl) M ?_
  refine Y_o M ?_
  refine Y_r (fun _ K => rd_len rfl un35 K rfl) M ?_
  refine Y_o M ?_; intro a K
  refine wpList_nil (then_n ?_)
  refine X_cond K rfl (fun hb => ?_) (fun hb => ?_)
  · have h := ctrue hb h
    refine wp_seq (X_reg ?_)
    refine X_o K M ?_; clear K; intro a K
    refine wpList_nil (then_n (wp_ret (then_r ?_)))
    cases h
    exact ret1 K rfl (res_tmp K rfl) ⟨_, rfl, rfl, ((M).pick [] (by decide))⟩
  have h := cfalse hb h
  refine wp_skip (then_n (wp_seq (wp_seq (X_reg ?_))))
  refine X_o K M ?_; clear K; intro a K
  refine wpList_nil (then_n (wp_block ?_))
  refine X_lp (id := 0) (Rel := fun (i : Int) a w => Kn a 26 [(0, .slice A_a2 a2.length c_a2), (1, .slice A_b b.length c_b), (5, I i)] ∧ Mem w0.heap.size w0 w []) h (fun _ _ => rfl) ⟨K.pick [0,1,5], M.pick [] (by decide)⟩ ?_ ?_
  · clear K M h
    rintro i4 a w ⟨K, M⟩ h
    try dsimp only at h
    refine inb_e ?_
    refine then_n (wp_seq (X_reg ?_))
    refine X_o K M ?_; clear K; intro a K
    refine wpList_nil (then_n (wp_ret ?_))
    cases h
    exact ret1 K rfl (res_tmp K rfl) ⟨_, rfl, rfl, ((M).pick [] (by decide))⟩
  clear K M h
  rintro kk fuel i a w hk1 ⟨K, M⟩ h
  unfold D_darkslideref_SameInts_l1 at h
  refine wp_seq (wp_seq (X_reg ?_))
  refine X_o K M ?_; clear K
  refine Y_o M ?_
  refine Y_r (fun _ K => rd_len rfl un35 K rfl) M ?_
  refine Y_o M ?_; intro a K
  refine wpList_nil (then_n ?_)
  refine X_cond K rfl (fun hb => ?_) (fun hb => ?_)
  · have h := ctrue hb h
    refine wp_skip (then_n (wp_seq (wp_block (wp_seq ?_))))
    refine wp_region_tl (fun w => Mem _ _ w _) [0,0,0,0,0,0,0,0,0] (by kernel_rfl) (by kernel_rfl) M.drew ?_
    replace M := M.drew
    refine T_o K ?_; clear K
    refine U_o ?_
    obtain ⟨e3, h_e3, h⟩ := obind h
    refine U_r (fun _ K => rd_ix rfl sl35 K rfl rfl (inA R_a2) h_e3) ?_
    refine U_r (fun _ K => rd_elC rfl sc3 K rfl rfl (inA R_a2) h_e3 rfl) ?_
    iterate 2 (refine U_o ?_)
    obtain ⟨e4, h_e4, h⟩ := obind h
    refine U_r (fun _ K => rd_ix rfl sl35 K rfl rfl (inA R_b) h_e4) ?_
    refine U_r (fun _ K => rd_elC rfl sc3 K rfl rfl (inA R_b) h_e4 rfl) ?_
    refine U_o ?_; intro a K
    refine T_end ?_
    refine then_n ?_
    refine X_cond K rfl (fun hb => ?_) (fun hb => ?_)
    · have h := ctrue hb h
      refine wp_seq (X_reg ?_)
      refine X_o K M ?_; clear K; intro a K
      refine wpList_nil (then_n (wp_ret (inb_r (then_r (then_r (inb_r (then_r ?_)))))))
      cases h
      exact ret1 K rfl (res_tmp K rfl) ⟨_, rfl, rfl, ((M).pick [] (by decide))⟩
    have h := cfalse hb h
    refine wp_skip (inb_n (then_n (X_reg ?_)))
    refine X_o K M ?_; clear K
    refine Y_o M ?_
    obtain ⟨i3, hx, h⟩ := olet h
    refine Y_r (fun _ K => rdi hx (rd_assign rfl K rfl)) M ?_; intro a K
    refine wpList_nil ?_
    exact then_n ⟨i3, ⟨K.pick [0,1,5], M.pick [] (by decide)⟩, h⟩
  have h := cfalse hb h
  refine wp_exit ?_
  refine then_e ?_
  exact then_e (hk1 i _ _ ⟨K.pick [0,1,5], M.pick [] (by decide)⟩ h)
end Go.Proofs.YtpmnfhifmmfglabDoor

namespace Go.Proofs.YtpmnfhifmmfglabDoor
open Go.RowKit
set_option maxRecDepth 100000 in
set_option maxHeartbeats 4000000 in
theorem W_darkslidelaw_bitsBegun (N : Nat)  (w0 : World)  (r : Bool) (h : D_darkslidelaw_bitsBegun N  = some r) :
    Calls Tryd.prog 15 #[] w0 fun e w' => ∃ v, e = .returned v ∧ v = .bool r ∧ Mem w0.heap.size w0 w' [] := by
  refine X_enter Tryd.func15 rfl Tryd.ntmps15 rfl ?_
  intro a K
  have M := Mem.start w0
  have K : Kn a 76 [] := K
  unfold D_darkslidelaw_bitsBegun at h
  refine wp_seq (X_reg ?_)
  refine X_o K M ?_; clear K; intro a K
  refine wpList_nil (then_n (wp_seq (X_reg ?_)))
  refine X_a K (ac_bslice rfl sl35 z3 K (vs := [(0, I 1), (1, I 2), (2, I 3)]) (cs := [I 1, I 2, I 3]) rfl (by kernel_rfl) rfl rfl M) ?_
  have M0 := M; clear K M; rintro _ a w ⟨gs, rfl, M⟩ K
  replace M := M.asRow 0 rfl (cI .i64) ([1, 2, 3] : List Int) (n := 3) rfl rfl rfl
  clear M0
  obtain ⟨r2, h_r2, h⟩ := obind h
  refine X_a K (ac_call (vs := [.slice (some ⟨gs, 0, none⟩) ([1, 2, 3] : List Int).length 3, I 3]) (cap := []) rfl fok18 K rfl rfl (W_bits_Pack N ([1, 2, 3] : List Int) (some ⟨gs, 0, none⟩) 3 3 _ ((inR (C := (cI .i64)) 0 rfl rfl) _ M) (M.cap 0 rfl) r2 h_r2)) ?_
  have M0 := M; clear K M; rintro _ a w ⟨rfl, M⟩ K
  replace M := M0.call M; clear M0
  refine X_o K M ?_; clear K
  iterate 4 (refine Y_o M ?_)
  intro a K
  refine wpList_nil (then_n (wp_seq (X_reg ?_)))
  refine X_o K M ?_; clear K; intro a K
  obtain ⟨r3, h_r3, h⟩ := obind h
  refine X_a K (ac_call (vs := [.string (bs r2.1), I 3, I 3]) (cap := []) rfl fok21 K rfl rfl (W_bits_Unpack N r2.1 3 3 _  r3 h_r3)) ?_
  have M0 := M; clear K M; rintro _ a w ⟨A, c, rfl, M⟩ K
  replace M := M0.call M; clear M0
  refine X_o K M ?_; clear K
  iterate 4 (refine Y_o M ?_)
  intro a K
  refine wpList_nil (then_n (wp_seq (X_reg ?_)))
  obtain ⟨r4, h_r4, h⟩ := obind h
  refine X_a K (ac_call (vs := [.string (bs ([48, 49, 49, 48, 48, 48, 48, 49, 48, 49] : List UInt8))]) (cap := []) rfl fok7 K rfl rfl (W_bits_Bytes N ([48, 49, 49, 48, 48, 48, 48, 49, 48, 49] : List UInt8) _  r4 h_r4)) ?_
  have M0 := M; clear K M; rintro _ a w ⟨rfl, M⟩ K
  replace M := M0.call M; clear M0
  refine X_o K M ?_; clear K
  iterate 4 (refine Y_o M ?_)
  intro a K
  refine wpList_nil (then_n (wp_seq (X_reg ?_)))
  obtain ⟨r5, h_r5, h⟩ := obind h
  refine X_a K (ac_call (vs := [.string (bs ([49, 48, 49] : List UInt8))]) (cap := []) rfl fok11 K rfl rfl (W_bits_Value N ([49, 48, 49] : List UInt8) _  r5 h_r5)) ?_
  have M0 := M; clear K M; rintro _ a w ⟨rfl, M⟩ K
  replace M := M0.call M; clear M0
  refine X_o K M ?_; clear K
  iterate 4 (refine Y_o M ?_)
  intro a K
  refine wpList_nil (then_n (wp_seq (X_reg ?_)))
  obtain ⟨r6, h_r6, h⟩ := obind h
  refine X_a K (ac_call (vs := [I 5, I 4]) (cap := []) rfl fok12 K rfl rfl (W_bits_Number N 5 4 _  r6 h_r6)) ?_
  have M0 := M; clear K M; rintro _ a w ⟨rfl, M⟩ K
  replace M := M0.call M; clear M0
  refine X_o K M ?_; clear K
  iterate 4 (refine Y_o M ?_)
  intro a K
  refine wpList_nil (then_n (wp_seq (X_reg ?_)))
  refine X_o K M ?_; clear K
  iterate 2 (refine Y_o M ?_)
  intro a K
  rcases Bool.eq_false_or_eq_true (decide (r2.2 = 0)) with hb | hb
  · have h := ctrue hb h
    have K := K.reb (s := 35) rfl hb
    refine X_o K M ?_; clear K
    iterate 3 (refine Y_o M ?_)
    intro a K
    rcases Bool.eq_false_or_eq_true (decide (r3.2 = 0)) with hb | hb
    · have h := ctrue hb h
      have K := K.reb (s := 39) rfl hb
      refine X_o K M ?_; clear K
      iterate 3 (refine Y_o M ?_)
      intro a K
      rcases Bool.eq_false_or_eq_true (decide (r4.2 = 0)) with hb | hb
      · have h := ctrue hb h
        have K := K.reb (s := 43) rfl hb
        refine X_o K M ?_; clear K
        iterate 3 (refine Y_o M ?_)
        intro a K
        rcases Bool.eq_false_or_eq_true (decide (r5.2 = 0)) with hb | hb
        · have h := ctrue hb h
          have K := K.reb (s := 47) rfl hb
          refine X_o K M ?_; clear K
          iterate 3 (refine Y_o M ?_)
          intro a K
          rcases Bool.eq_false_or_eq_true (decide (r6.2 = 0)) with hb | hb
          · have h := ctrue hb h
            have K := K.reb (s := 51) rfl hb
            refine X_o K M ?_; clear K
            refine Y_r (fun _ K => rd_eqlS rfl K rfl rfl) M ?_
            iterate 2 (refine Y_o M ?_)
            intro a K
            rcases Bool.eq_false_or_eq_true (decide (r2.1 = ([41, 128] : List UInt8))) with hb | hb
            · have h := ctrue hb h
              have K := K.reb (s := 55) rfl hb
              refine X_o K M ?_; clear K; intro a K
              refine X_a K (ac_bslice rfl sl35 z3 K (vs := [(0, I 1), (1, I 2), (2, I 3)]) (cs := [I 1, I 2, I 3]) rfl (by kernel_rfl) rfl rfl M) ?_
              have M0 := M; clear K M; rintro _ a w ⟨gs2, rfl, M⟩ K
              replace M := M.asRow 0 rfl (cI .i64) ([1, 2, 3] : List Int) (n := 3) rfl rfl rfl
              clear M0
              obtain ⟨r7, h_r7, h⟩ := obind h
              refine X_a K (ac_call (vs := [.slice A r3.1.length c, .slice (some ⟨gs2, 0, none⟩) ([1, 2, 3] : List Int).length 3]) (cap := []) rfl fok23 K rfl rfl (W_darkslideref_SameInts N r3.1 A c ([1, 2, 3] : List Int) (some ⟨gs2, 0, none⟩) 3 _ ((inR (C := (cI .i64)) 1 rfl rfl) _ M) (M.cap 1 rfl) ((inR (C := (cI .i64)) 0 rfl rfl) _ M) (M.cap 0 rfl) r7 h_r7)) ?_
              have M0 := M; clear K M; rintro _ a w ⟨rfl, M⟩ K
              replace M := M0.call M; clear M0
              refine X_o K M ?_; clear K
              refine Y_o M ?_; intro a K
              rcases Bool.eq_false_or_eq_true (r7) with hb | hb
              · have h := ctrue hb h
                have K := K.reb (s := 60) rfl hb
                refine X_o K M ?_; clear K
                refine Y_r (fun _ K => rd_eqlS rfl K rfl rfl) M ?_
                iterate 2 (refine Y_o M ?_)
                intro a K
                rcases Bool.eq_false_or_eq_true (decide (r4.1 = ([97, 64] : List UInt8))) with hb | hb
                · have h := ctrue hb h
                  have K := K.reb (s := 64) rfl hb
                  refine X_o K M ?_; clear K
                  iterate 3 (refine Y_o M ?_)
                  intro a K
                  rcases Bool.eq_false_or_eq_true (decide (r5.1 = 5)) with hb | hb
                  · have h := ctrue hb h
                    have K := K.reb (s := 68) rfl hb
                    refine X_o K M ?_; clear K
                    refine Y_r (fun _ K => rd_eqlS rfl K rfl rfl) M ?_
                    iterate 2 (refine Y_o M ?_)
                    intro a K
                    rcases Bool.eq_false_or_eq_true (decide (r6.1 = ([48, 49, 48, 49] : List UInt8))) with hb | hb
                    · have h := ctrue hb h
                      have K := K.reb (s := 72) rfl hb
                      obtain ⟨r8, h_r8, h⟩ := obind h
                      refine X_a K (ac_call (vs := [.string (bs ([97] : List UInt8))]) (cap := []) rfl fok16 K rfl rfl (W_bits_Bits N ([97] : List UInt8) _  r8 h_r8)) ?_
                      have M0 := M; clear K M; rintro _ a w ⟨rfl, M⟩ K
                      replace M := M0.call M; clear M0
                      refine X_r K (rd_eqlS rfl K rfl rfl) M ?_; clear K
                      iterate 2 (refine Y_o M ?_)
                      intro a K
                      refine wpList_nil (then_n (wp_ret ?_))
                      cases h
                      exact ret1 K rfl (res_tmp K rfl) ⟨_, rfl, rfl, ((M).pick [] (by decide))⟩
                    have h := cfalse hb h
                    have K := K.reb (s := 72) rfl hb
                    refine X_o K M ?_; clear K
                    iterate 3 (refine Y_o M ?_)
                    intro a K
                    refine wpList_nil (then_n (wp_ret ?_))
                    cases h
                    exact ret1 K rfl (res_tmp K rfl) ⟨_, rfl, rfl, ((M).pick [] (by decide))⟩
                  have h := cfalse hb h
                  have K := K.reb (s := 68) rfl hb
                  refine X_o K M ?_; clear K
                  iterate 7 (refine Y_o M ?_)
                  intro a K
                  refine wpList_nil (then_n (wp_ret ?_))
                  cases h
                  exact ret1 K rfl (res_tmp K rfl) ⟨_, rfl, rfl, ((M).pick [] (by decide))⟩
                have h := cfalse hb h
                have K := K.reb (s := 64) rfl hb
                refine X_o K M ?_; clear K
                iterate 11 (refine Y_o M ?_)
                intro a K
                refine wpList_nil (then_n (wp_ret ?_))
                cases h
                exact ret1 K rfl (res_tmp K rfl) ⟨_, rfl, rfl, ((M).pick [] (by decide))⟩
              have h := cfalse hb h
              have K := K.reb (s := 60) rfl hb
              refine X_o K M ?_; clear K
              iterate 15 (refine Y_o M ?_)
              intro a K
              refine wpList_nil (then_n (wp_ret ?_))
              cases h
              exact ret1 K rfl (res_tmp K rfl) ⟨_, rfl, rfl, ((M).pick [] (by decide))⟩
            have h := cfalse hb h
            have K := K.reb (s := 55) rfl hb
            refine X_o K M ?_; clear K
            iterate 20 (refine Y_o M ?_)
            intro a K
            refine wpList_nil (then_n (wp_ret ?_))
            cases h
            exact ret1 K rfl (res_tmp K rfl) ⟨_, rfl, rfl, ((M).pick [] (by decide))⟩
          have h := cfalse hb h
          have K := K.reb (s := 51) rfl hb
          refine X_o K M ?_; clear K
          iterate 24 (refine Y_o M ?_)
          intro a K
          refine wpList_nil (then_n (wp_ret ?_))
          cases h
          exact ret1 K rfl (res_tmp K rfl) ⟨_, rfl, rfl, ((M).pick [] (by decide))⟩
        have h := cfalse hb h
        have K := K.reb (s := 47) rfl hb
        refine X_o K M ?_; clear K
        iterate 28 (refine Y_o M ?_)
        intro a K
        refine wpList_nil (then_n (wp_ret ?_))
        cases h
        exact ret1 K rfl (res_tmp K rfl) ⟨_, rfl, rfl, ((M).pick [] (by decide))⟩
      have h := cfalse hb h
      have K := K.reb (s := 43) rfl hb
      refine X_o K M ?_; clear K
      iterate 32 (refine Y_o M ?_)
      intro a K
      refine wpList_nil (then_n (wp_ret ?_))
      cases h
      exact ret1 K rfl (res_tmp K rfl) ⟨_, rfl, rfl, ((M).pick [] (by decide))⟩
    have h := cfalse hb h
    have K := K.reb (s := 39) rfl hb
    refine X_o K M ?_; clear K
    iterate 36 (refine Y_o M ?_)
    intro a K
    refine wpList_nil (then_n (wp_ret ?_))
    cases h
    exact ret1 K rfl (res_tmp K rfl) ⟨_, rfl, rfl, ((M).pick [] (by decide))⟩
  have h := cfalse hb h
  have K := K.reb (s := 35) rfl hb
  refine X_o K M ?_; clear K
  iterate 40 (refine Y_o M ?_)
  intro a K
  refine wpList_nil (then_n (wp_ret ?_))
  cases h
  exact ret1 K rfl (res_tmp K rfl) ⟨_, rfl, rfl, ((M).pick [] (by decide))⟩
end Go.Proofs.YtpmnfhifmmfglabDoor
