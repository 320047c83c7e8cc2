/- Texts of the claim CodeWords, joined: PBitsB, PRefBits, PRefUnp, PCodeB, PCodeC, PCodeW, PCodeV, PCodeX, PCodeWL, D7, D8, D9, DS, DB, Facts, Shelf, HStr, HBld, WBits, WCmp. -/
import Derived.Laws.BytesArg
import Derived.Laws.CopyRow
import Derived.Laws.IdiomCopy
import Derived.Laws.Strings2
import Derived.Laws.Strings3
import Derived.Lib.AppendStr
import Derived.Lib.SliceRun
import Derived.LoopN
import Derived.Maps.OwnSet
import Derived.Shelf.Strings.Builder1
import Derived.Shelf.Strings.Count
import Derived.Shelf.Strings.SlTrimAscii
import Derived.Test.YtpmnfhifmmfglabDoorChecked
import Derived.Test.YtpmnfhifmmfglabDoorProg
import Derived.WalkSpells
import Derived.WideMake
import Derived.Test.YtpmnfhifmmfglabDoorCodeWordsK1
set_option linter.unusedVariables false
set_option linter.unusedSimpArgs false
set_option linter.unusedSectionVars false
namespace Go.Proofs.YtpmnfhifmmfglabDoor
open Go
theorem toNat_ofNat (s : List UInt8) : (s.map UInt8.toNat).map UInt8.ofNat = s := by
  rw [List.map_map]
  conv => rhs; rw [← List.map_id s]
  refine List.map_congr_left fun y _ => ?_
  simp
theorem toI_toNat (l : List Nat) : (toI l).map Int.toNat = l := by
  unfold toI
  rw [List.map_map]
  conv => rhs; rw [← List.map_id l]
  exact List.map_congr_left fun y _ => rfl
theorem toNat_toI {l : List Int} (h : ∀ y ∈ l, 0 ≤ y) : toI (l.map Int.toNat) = l := by
  unfold toI
  rw [List.map_map]
  conv => rhs; rw [← List.map_id l]
  refine List.map_congr_left fun y hy => ?_
  have := h y hy
  show ((y.toNat : Nat) : Int) = y
  omega
end Go.Proofs.YtpmnfhifmmfglabDoor

namespace Go.Proofs.YtpmnfhifmmfglabDoor
open Go
/-- Bits as letters. -/
def chs (l : List Nat) : List UInt8 := l.map fun b => UInt8.ofNat (48 + b)
theorem chs_len (l : List Nat) : (chs l).length = l.length := by simp [chs]
theorem chs_app (l m : List Nat) : chs (l ++ m) = chs l ++ chs m := by simp [chs]
theorem num_r (N : Nat) : ∀ (k fu n : Nat), k < fu → k ≤ 16 → n < 9223372036854775808 → D_darkslideref_Number_r N fu (n : Int) (k : Int) = some (chs (dig 2 k n)) := by
  intro k
  induction k with
  | zero =>
    intro fu n hf _ _
    obtain ⟨fu, rfl⟩ : ∃ m, fu = m + 1 := ⟨fu - 1, by omega⟩
    unfold D_darkslideref_Number_r
    rw [cT (by rfl)]; rfl
  | succ k ih =>
    intro fu n hf hk hn
    obtain ⟨fu, rfl⟩ : ∃ m, fu = m + 1 := ⟨fu - 1, by omega⟩
    have e1 : IntKind.i64.wrap (Int.tdiv (n : Int) 2) = ((n / 2 : Nat) : Int) := by rw [show Int.tdiv (n : Int) 2 = ((n / 2 : Nat) : Int) from rfl, w64 (by omega)]
    have e2 : IntKind.i64.wrap (((k + 1 : Nat) : Int) - 1) = (k : Int) := by rw [w64 (by omega)]; omega
    have e3 : IntKind.u8.wrap (48 + IntKind.u8.wrap (Int.tmod (n : Int) 2)) = ((48 + n % 2 : Nat) : Int) := by
      rw [show Int.tmod (n : Int) 2 = ((n % 2 : Nat) : Int) from rfl, u8_nat, show (48 : Int) + ((n % 2 % 256 : Nat) : Int) = ((48 + n % 2 % 256 : Nat) : Int) by omega, u8_nat]
      omega
    unfold D_darkslideref_Number_r
    rw [cF (dF (by omega)), e1, e2, ih fu (n / 2) (by omega) (by omega) (by omega), bsome, e3]
    have hl : (chs (dig 2 k (n / 2))).length = k := by rw [chs_len, dig_len]
    have ha : addS (chs (dig 2 k (n / 2))) (toB [((48 + n % 2 : Nat) : Int)]) = some (chs (dig 2 (k + 1) n)) := by
      unfold addS
      rw [if_pos (by rw [hl]; simp [toB]; omega)]
      show some (_ ++ _) = some (chs (dig 2 k (n / 2) ++ [n % 2]))
      rw [chs_app]
      rfl
    rw [ha, bsome]
theorem number_eq {N : Nat} (hN : 100 ≤ N) {n k : Nat} (hk : k ≤ 16) (hn : n < 9223372036854775808) : D_darkslideref_Number N (n : Int) (k : Int) = some (chs (dig 2 k n)) := num_r N k N n (by omega) hk hn
end Go.Proofs.YtpmnfhifmmfglabDoor

namespace Go.Proofs.YtpmnfhifmmfglabDoor
open Go
def let48 (l : List Nat) : List Nat := l.map fun b => 48 + b
theorem let48_app (l m : List Nat) : let48 (l ++ m) = let48 l ++ let48 m := by simp [let48]
theorem let48_chs (l : List Nat) : (let48 l).map UInt8.ofNat = chs l := by unfold let48 chs; rw [List.map_map]; rfl
theorem within2 (N : Nat) (n lo hi : Int) : D_darkslideref_within N n lo hi = some (decide (lo ≤ n ∧ n ≤ hi)) := by
  unfold D_darkslideref_within
  by_cases h1 : lo ≤ n
  · rw [cT (dT h1)]; simp [h1]
  · rw [cF (dF h1)]; simp [h1]
end Go.Proofs.YtpmnfhifmmfglabDoor

namespace Go.Proofs.YtpmnfhifmmfglabDoor
open Go
theorem toI_set (l : List Nat) (i v : Nat) : toI (l.set i v) = (toI l).set i (v : Int) := by simp [toI, List.map_set]
theorem toI_get {l : List Nat} {i : Nat} (h : i < l.length) : idx (toI l) (i : Int) = some ((l.getD i 0 : Nat) : Int) := by
  rw [idx_nat, toI, List.getElem?_map, List.getElem?_eq_getElem h, List.getD_eq_getElem?_getD, List.getElem?_eq_getElem h]; rfl
theorem dig_get {T k Y : Nat} (h : k < T) : (dig 2 T Y)[k]? = some (Y / 2 ^ (T - 1 - k) % 2) := by
  have e : dig 2 T Y = dig 2 k (Y / 2 ^ (1 + (T - 1 - k))) ++ ([Y / 2 ^ (T - 1 - k) % 2] ++ dig 2 (T - 1 - k) Y) := by
    conv => lhs; rw [show T = k + (1 + (T - 1 - k)) by omega]
    rw [dig_add, dig_add 2 1]
    rfl
  rw [e, List.getElem?_append_right (by rw [dig_len]; exact Nat.le_refl _), dig_len, Nat.sub_self]
  rfl
def dgSt (size n k : Nat) : List Int := toI (let48 ((dig 2 size n).take k) ++ List.replicate (size - k) 0)
theorem digits_l1 (N : Nat) {size n : Nat} (hs : size ≤ 16) (hn : n < 9223372036854775808) (kk) : ∀ (j k fuel : Nat), k + j = size → j < fuel →
    D_bits_digits_l1 N (n : Int) (size : Int) kk fuel (dgSt size n k, (size : Int), (k : Int)) = kk (dgSt size n size, (size : Int), (size : Int)) := by
  intro j
  induction j with
  | zero =>
    intro k fuel hk hf
    obtain ⟨fuel, rfl⟩ : ∃ m, fuel = m + 1 := ⟨fuel - 1, by omega⟩
    obtain rfl : k = size := by omega
    unfold D_bits_digits_l1
    rw [cF (dF (by omega))]
  | succ j ih =>
    intro k fuel hk hf
    obtain ⟨fuel, rfl⟩ : ∃ m, fuel = m + 1 := ⟨fuel - 1, by omega⟩
    have hlt : k < size := by omega
    have hih := ih (k + 1) fuel (by omega) (by omega)
    have ew : IntKind.i64.wrap (IntKind.i64.wrap ((size : Int) - 1) - (k : Int)) = ((size - 1 - k : Nat) : Int) := by rw [w64 (x := (size : Int) - 1) (by omega), w64 (by omega)]; omega
    have eb : andI .i64 (shrI .i64 (n : Int) ((size - 1 - k : Nat) : Int)) 1 = ((n / 2 ^ (size - 1 - k) % 2 : Nat) : Int) := by
      rw [shr_nat (by omega)]
      exact and_mask (k := 1) (Nat.lt_of_le_of_lt (Nat.div_le_self _ _) hn) (by decide)
    have hg := dig_get (Y := n) hlt
    have hb2 : n / 2 ^ (size - 1 - k) % 2 < 2 := Nat.mod_lt _ (by decide)
    have hl := dig_len 2 size n
    generalize hbv : n / 2 ^ (size - 1 - k) % 2 = b at *
    have hc : idx ([48, 49] : List UInt8) (b : Int) = some (UInt8.ofNat (48 + b)) := by
      rcases (show b = 0 ∨ b = 1 by omega) with rfl | rfl <;> rfl
    have hcn : ((UInt8.ofNat (48 + b)).toNat : Int) = ((48 + b : Nat) : Int) := by rw [UInt8.toNat_ofNat', Nat.mod_eq_of_lt (by omega)]
    have ht : (dig 2 size n).take (k + 1) = (dig 2 size n).take k ++ [b] := by
      rw [List.take_add_one, hg]; rfl
    have hl1 : (let48 ((dig 2 size n).take k)).length = k := by simp [let48, hl]; omega
    have hlen : (dgSt size n k).length = size := by
      unfold dgSt
      rw [toI_len, List.length_append, hl1, List.length_replicate]; omega
    have hget : ∃ e, idx (dgSt size n k) (k : Int) = some e := by rw [idx_nat]; exact ⟨_, List.getElem?_eq_getElem (by omega)⟩
    obtain ⟨e, he⟩ := hget
    have hset : setL (dgSt size n k) (k : Int) ((48 + b : Nat) : Int) = some (dgSt size n (k + 1)) := by
      unfold setL
      rw [if_pos (by omega), Int.toNat_natCast]
      unfold dgSt
      rw [← toI_set, ht, let48_app, show size - k = (size - (k + 1)) + 1 by omega, List.replicate_succ, List.append_assoc]
      congr 2
      rw [List.set_append_right _ _ (by omega), hl1, Nat.sub_self]
      rfl
    unfold D_bits_digits_l1
    rw [cT (dT (by omega)), ew, nn_nat, bsome, eb, hc, bsome, he, bsome, hcn, hset, bsome, w64 (x := (k : Int) + 1) (by omega)]
    exact hih
theorem digits_eq (N : Nat) (hN : 100 ≤ N) {size n : Nat} (hs : size ≤ 16) (hn : n < 9223372036854775808) : D_bits_digits N (n : Int) (size : Int) = some (chs (dig 2 size n)) := by
  unfold D_bits_digits
  rw [mk_eq (by omega), bsome, Int.toNat_natCast]
  have key := digits_l1 N hs hn (fun x : List Int × Int × Int => some (toB x.1)) size 0 N (by omega) (by omega)
  have h0 : dgSt size n 0 = List.replicate size 0 := by unfold dgSt; simp [let48, toI]
  have h1 : dgSt size n size = toI (let48 (dig 2 size n)) := by
    unfold dgSt
    rw [Nat.sub_self, List.take_of_length_le (by rw [dig_len]; exact Nat.le_refl _)]; simp
  rw [h0, h1] at key
  rw [List.length_replicate]
  refine Eq.trans key ?_
  dsimp only
  rw [toB_toI, let48_chs]
def numErr (n size : Int) : Int := if 0 ≤ size ∧ size ≤ 16 then (if 0 ≤ n ∧ n < ((2 ^ size.toNat : Nat) : Int) then 0 else 3) else 3
theorem one_shl {d : Nat} (hd : d ≤ 16) : shlI .i64 1 (d : Int) = ((2 ^ d : Nat) : Int) := by
  have hp := pow_le16 hd
  have := shl_nat (h := 1) (k := d) (by omega) (by omega)
  rw [Nat.one_mul] at this
  exact this
theorem number_code (N : Nat) (hN : 100 ≤ N) (n size : Int) : D_bits_Number N n size = some (if numErr n size = 0 then (chs (dig 2 size.toNat n.toNat), 0) else ([], 3)) := by
  unfold D_bits_Number
  by_cases h1 : size < 0
  · have : numErr n size = 3 := by unfold numErr; rw [if_neg (by omega)]
    rw [cT (dT h1), this]; rfl
  rw [cF (dF h1)]
  by_cases h2 : 16 < size
  · have : numErr n size = 3 := by unfold numErr; rw [if_neg (by omega)]
    rw [cT (dT h2), this]; rfl
  rw [cF (dF h2)]
  obtain ⟨d, rfl⟩ := Int.eq_ofNat_of_zero_le (show 0 ≤ size by omega)
  have hp := pow_le16 (d := d) (by omega)
  by_cases h3 : n < 0
  · have : numErr n d = 3 := by unfold numErr; rw [if_pos (by omega), if_neg (by omega)]
    rw [cT (dT h3), this]; rfl
  rw [cF (dF h3), nn_nat, bsome, one_shl (by omega)]
  by_cases h4 : ((2 ^ d : Nat) : Int) ≤ n
  · have : numErr n d = 3 := by unfold numErr; rw [if_pos (by omega), Int.toNat_natCast, if_neg (by omega)]
    rw [cT (dT h4), this]; rfl
  have hz : numErr n d = 0 := by unfold numErr; rw [if_pos (by omega), Int.toNat_natCast, if_pos (by omega)]
  obtain ⟨m, rfl⟩ := Int.eq_ofNat_of_zero_le (show 0 ≤ n by omega)
  rw [cF (dF h4), digits_eq N hN (by omega) (by omega), bsome, if_pos hz, Int.toNat_natCast, Int.toNat_natCast]
end Go.Proofs.YtpmnfhifmmfglabDoor

namespace Go.Proofs.YtpmnfhifmmfglabDoor
open Go
/-- What a word of n bits takes of the room. -/
def rm (n : Nat) : Nat := if 0 < n then 2 ^ (15 - n) else 0
theorem rm_le (n : Nat) : rm n ≤ 16384 := by
  unfold rm
  split
  · exact Nat.le_trans (Nat.pow_le_pow_right (by decide) (show 15 - n ≤ 14 by omega)) (by decide)
  · omega
def sumK (l : List Int) : Nat := (l.map fun e => rm e.toNat).sum
theorem sumK_cons (e : Int) (l : List Int) : sumK (e :: l) = rm e.toNat + sumK l := by simp [sumK]
def lenOK (e : Int) : Bool := decide (0 ≤ e ∧ e ≤ 15)
def chkErr (l : List Int) : Int := if l.length < 1 ∨ 17 < l.length then 2 else if l.all lenOK = true then (if sumK l = 0 ∨ 32768 < sumK l then 1 else 0) else 3
theorem rm_pos {e : Int} (h : 0 < e) (h2 : e ≤ 15) : shlI .i64 1 (IntKind.i64.wrap (15 - e)) = ((rm e.toNat : Nat) : Int) ∧ nn (IntKind.i64.wrap (15 - e)) = some () := by
  have h0 : IntKind.i64.wrap (15 - e) = ((15 - e.toNat : Nat) : Int) := by rw [w64 (by omega)]; omega
  rw [h0, one_shl (by omega), nn_nat, rm, if_pos (by omega)]
  exact ⟨rfl, rfl⟩
theorem check_l1 (N : Nat) {l : List Int} (hl : l.length ≤ 17) (kk) : ∀ (j k fuel : Nat) (room : Int), k + j = l.length → j < fuel → -1000000 - 16384 * (k : Int) ≤ room ∧ room ≤ 1000000 →
    D_code_Check_l1 N l kk fuel (room, (k : Int)) = if (l.drop k).all lenOK = true then kk (room - (sumK (l.drop k) : Nat), (l.length : Int)) else some 3 := by
  intro j
  induction j with
  | zero =>
    intro k fuel room hk hf hr
    obtain ⟨fuel, rfl⟩ : ∃ m, fuel = m + 1 := ⟨fuel - 1, by omega⟩
    obtain rfl : k = l.length := by omega
    unfold D_code_Check_l1
    rw [cF (dF (by omega)), List.drop_length, if_pos (by rfl), show sumK ([] : List Int) = 0 by rfl]
    simp
  | succ j ih =>
    intro k fuel room hk hf hr
    obtain ⟨fuel, rfl⟩ : ∃ m, fuel = m + 1 := ⟨fuel - 1, by omega⟩
    have hlt : k < l.length := by omega
    have hnx : IntKind.i64.wrap ((k : Int) + 1) = ((k + 1 : Nat) : Int) := by rw [w64 (by omega)]; rfl
    rw [List.drop_eq_getElem_cons hlt, List.all_cons, sumK_cons]
    unfold D_code_Check_l1
    rw [cT (dT (by omega)), idx_nat, List.getElem?_eq_getElem hlt, bsome]
    by_cases h0 : l[k] < 0
    · rw [cT (dT h0), if_neg]
      rw [show lenOK l[k] = false from dF (by omega)]; simp
    · rw [cF (dF h0)]
      by_cases h1 : 15 < l[k]
      · rw [cT (dT h1), if_neg]
        rw [show lenOK l[k] = false from dF (by omega)]; simp
      · rw [cF (dF h1), show lenOK l[k] = true from dT (by omega), Bool.true_and]
        by_cases h2 : 0 < l[k]
        · obtain ⟨e1, e2⟩ := rm_pos h2 (by omega)
          have hr2 := rm_le l[k].toNat
          rw [cT (dT h2), e2, bsome, bsome, e1, w64 (x := room - _) (by omega), hnx, ih (k + 1) fuel _ (by omega) (by omega) (by omega)]
          congr 2
          rw [Prod.mk.injEq]; exact ⟨by omega, rfl⟩
        · rw [cF (dF h2), hnx, ih (k + 1) fuel _ (by omega) (by omega) (by omega), show rm l[k].toNat = 0 by rw [rm, if_neg (by omega)], Nat.zero_add]
theorem check_code (N : Nat) (hN : 100 ≤ N) (l : List Int) : D_code_Check N l = some (chkErr l) := by
  unfold D_code_Check chkErr
  by_cases h1 : l.length < 1
  · rw [cT (dT (by omega)), if_pos (.inl h1)]
  rw [cF (dF (by omega))]
  by_cases h2 : 17 < l.length
  · rw [cT (dT (by omega)), if_pos (.inr h2)]
  rw [cF (dF (by omega)), if_neg (by omega)]
  have key := check_l1 N (l := l) (by omega) (fun (room4, i2) => cond (decide (room4 < 0)) (some 1) (cond (decide (room4 = 32768)) (some 1) (some 0))) l.length 0 N 32768 (by omega) (by omega) (by omega)
  rw [List.drop_zero] at key
  refine Eq.trans key ?_
  by_cases h3 : l.all lenOK = true
  · rw [if_pos h3, if_pos h3]
    dsimp only
    by_cases h4 : 32768 < sumK l
    · rw [cT (dT (by omega)), if_pos (.inr h4)]
    · rw [cF (dF (by omega))]
      by_cases h5 : sumK l = 0
      · rw [cT (dT (by omega)), if_pos (.inl h5)]
      · rw [cF (dF (by omega)), if_neg (by omega)]
  · rw [if_neg h3, if_neg h3]
theorem checkDoc_l1 (N : Nat) {l : List Int} (hl : l.length ≤ 17) (kk) : ∀ (j k fuel : Nat) (sum : Nat) (used : Bool), k + j = l.length → j < fuel → sum ≤ 1000000 + 16384 * k →
    D_darkslideref_CheckCode_l1 N l kk fuel ((sum : Int), used, (k : Int)) = if (l.drop k).all lenOK = true then kk (((sum + sumK (l.drop k) : Nat) : Int), used || decide (0 < sumK (l.drop k)), (l.length : Int)) else some 3 := by
  intro j
  induction j with
  | zero =>
    intro k fuel sum used hk hf hr
    obtain ⟨fuel, rfl⟩ : ∃ m, fuel = m + 1 := ⟨fuel - 1, by omega⟩
    obtain rfl : k = l.length := by omega
    unfold D_darkslideref_CheckCode_l1
    rw [cF (dF (by omega)), List.drop_length, if_pos (by rfl), show sumK ([] : List Int) = 0 by rfl]
    simp
  | succ j ih =>
    intro k fuel sum used hk hf hr
    obtain ⟨fuel, rfl⟩ : ∃ m, fuel = m + 1 := ⟨fuel - 1, by omega⟩
    have hlt : k < l.length := by omega
    have hnx : IntKind.i64.wrap ((k : Int) + 1) = ((k + 1 : Nat) : Int) := by rw [w64 (by omega)]; rfl
    rw [List.drop_eq_getElem_cons hlt, List.all_cons, sumK_cons]
    unfold D_darkslideref_CheckCode_l1
    rw [cT (dT (by omega)), idx_nat, List.getElem?_eq_getElem hlt, bsome, within2, bsome]
    by_cases h0 : 0 ≤ l[k] ∧ l[k] ≤ 15
    · rw [show lenOK l[k] = true from dT h0, cF (by rw [dT h0]; rfl), bsome, Bool.true_and]
      by_cases h2 : 0 < l[k]
      · obtain ⟨e1, e2⟩ := rm_pos h2 (by omega)
        have hr2 := rm_le l[k].toNat
        have hpos : 0 < rm l[k].toNat := by rw [rm, if_pos (by omega)]; exact Nat.two_pow_pos _
        rw [cT (dT h2), bsome, e2, bsome, bsome, e1, hnx, bsome, w64 (x := (sum : Int) + _) (by omega), show ((sum : Int) + (rm l[k].toNat : Nat)) = ((sum + rm l[k].toNat : Nat) : Int) by omega, ih (k + 1) fuel _ _ (by omega) (by omega) (by omega)]
        rw [Bool.true_or, dT (show 0 < rm l[k].toNat + sumK (l.drop (k + 1)) by omega), Bool.or_true, Nat.add_assoc]
      · rw [cF (dF h2), hnx, bsome, ih (k + 1) fuel _ _ (by omega) (by omega) (by omega), show rm l[k].toNat = 0 by rw [rm, if_neg (by omega)], Nat.zero_add]
    · rw [show lenOK l[k] = false from dF h0, cT (by rw [dF h0]; rfl), if_neg (by simp)]
theorem check_doc (N : Nat) (hN : 100 ≤ N) (l : List Int) : D_darkslideref_CheckCode N l = some (chkErr l) := by
  unfold D_darkslideref_CheckCode chkErr
  rw [within2, bsome]
  by_cases h1 : l.length < 1 ∨ 17 < l.length
  · rw [cT (by rw [dF (by omega)]; rfl), if_pos h1]
  rw [cF (by rw [dT (by omega)]; rfl), if_neg h1]
  have key := checkDoc_l1 N (l := l) (by omega) (fun (sum4, used2, i6) => cond (!(used2)) (some 1) (cond (decide (32768 < sum4)) (some 1) (some 0))) l.length 0 N 0 false (by omega) (by omega) (by omega)
  rw [List.drop_zero] at key
  refine Eq.trans key ?_
  by_cases h3 : l.all lenOK = true
  · rw [if_pos h3, if_pos h3]
    dsimp only
    rw [Bool.false_or]
    by_cases h5 : sumK l = 0
    · rw [cT (by rw [dF (by omega)]; rfl), if_pos (.inl h5)]
    · rw [cF (by rw [dT (by omega)]; rfl)]
      by_cases h4 : 32768 < sumK l
      · rw [cT (dT (by omega)), if_pos (.inr h4)]
      · rw [cF (dF (by omega)), if_neg (by omega)]
  · rw [if_neg h3, if_neg h3]
end Go.Proofs.YtpmnfhifmmfglabDoor

namespace Go.Proofs.YtpmnfhifmmfglabDoor
open Go
/-- How long the i-th word is. -/
def ky (ns : List Nat) (i : Nat) : Nat := ns.getD i 0
def tot (ns : List Nat) (o : List Nat) : Nat := (o.map fun i => 2 ^ (15 - ky ns i)).sum
def wrd (S n : Nat) : List UInt8 := chs (dig 2 n (S / 2 ^ (15 - n)))
def stp (ns : List Nat) (st : List (List UInt8) × Nat) (i : Nat) : List (List UInt8) × Nat := (st.1.set i (wrd st.2 (ky ns i)), st.2 + 2 ^ (15 - ky ns i))
theorem tot_nil (ns : List Nat) : tot ns [] = 0 := rfl
theorem tot_cons (ns : List Nat) (i : Nat) (o : List Nat) : tot ns (i :: o) = 2 ^ (15 - ky ns i) + tot ns o := by simp [tot]
theorem tot_app (ns : List Nat) (o p : List Nat) : tot ns (o ++ p) = tot ns o + tot ns p := by simp [tot]
theorem stp_len (ns : List Nat) : ∀ (o : List Nat) (st : List (List UInt8) × Nat), (o.foldl (stp ns) st).1.length = st.1.length
  | [], _ => rfl
  | i :: o, st => by rw [List.foldl_cons, stp_len ns o]; simp [stp]
theorem stp_snd (ns : List Nat) : ∀ (o : List Nat) (st : List (List UInt8) × Nat), (o.foldl (stp ns) st).2 = st.2 + tot ns o
  | [], _ => rfl
  | i :: o, st => by rw [List.foldl_cons, stp_snd ns o, tot_cons]; simp [stp]; omega
section
variable {ns : List Nat} (hn : ∀ n ∈ ns, n ≤ 15) (hl : ns.length ≤ 17)
theorem ky_get {i : Nat} (h : i < ns.length) : idx (toI ns) (i : Int) = some ((ky ns i : Nat) : Int) := toI_get h
include hn in
theorem ky_le (i : Nat) : ky ns i ≤ 15 := by
  unfold ky
  rw [List.getD_eq_getElem?_getD]
  by_cases h : i < ns.length
  · rw [List.getElem?_eq_getElem h]; exact hn _ (List.getElem_mem h)
  · rw [List.getElem?_eq_none (by omega)]; exact Nat.zero_le _
theorem pow15 (n : Nat) : 2 ^ (15 - n) ≤ 32768 := Nat.le_trans (Nat.pow_le_pow_right (by decide) (show 15 - n ≤ 15 by omega)) (by decide)
include hn hl in
theorem words_l4 (N : Nat) (hN : 100 ≤ N) (o : List Nat) (ho : ∀ i ∈ o, i < ns.length) (hol : o.length ≤ 17) (kk) : ∀ (j k fuel : Nat) (out : List (List UInt8)) (S : Nat), k + j = o.length → j < fuel → out.length = ns.length → S + tot ns (o.drop k) ≤ 32768 →
    D_code_Words_l4 N (toI ns) (toI o) kk fuel (out, (S : Int), (k : Int)) = kk (((o.drop k).foldl (stp ns) (out, S)).1, ((S + tot ns (o.drop k) : Nat) : Int), (o.length : Int)) := by
  intro j
  induction j with
  | zero =>
    intro k fuel out S hk hf hout hS
    obtain ⟨fuel, rfl⟩ : ∃ m, fuel = m + 1 := ⟨fuel - 1, by omega⟩
    obtain rfl : k = o.length := by omega
    unfold D_code_Words_l4
    rw [cF (dF (by rw [toI_len]; omega)), List.drop_length]; rfl
  | succ j ih =>
    intro k fuel out S hk hf hout hS
    obtain ⟨fuel, rfl⟩ : ∃ m, fuel = m + 1 := ⟨fuel - 1, by omega⟩
    have hlt : k < o.length := by omega
    have hi : o[k] < ns.length := ho _ (List.getElem_mem hlt)
    have hk15 := ky_le hn o[k]
    rw [List.drop_eq_getElem_cons hlt, tot_cons] at hS ⊢
    have hp := pow15 (ky ns o[k])
    have hp0 := Nat.two_pow_pos (15 - ky ns o[k])
    have h15 : IntKind.i64.wrap (15 - (ky ns o[k] : Nat)) = ((15 - ky ns o[k] : Nat) : Int) := by rw [w64 (by omega)]; omega
    have hget : idx (toI o) (k : Int) = some ((o[k] : Nat) : Int) := by rw [toI_get hlt, List.getD_eq_getElem?_getD, List.getElem?_eq_getElem hlt]; rfl
    have hnum : numErr ((S / 2 ^ (15 - ky ns o[k]) : Nat) : Int) ((ky ns o[k] : Nat) : Int) = 0 := by
      have : S / 2 ^ (15 - ky ns o[k]) < 2 ^ ky ns o[k] := by
        refine Nat.div_lt_of_lt_mul ?_
        rw [← Nat.pow_add, show 15 - ky ns o[k] + ky ns o[k] = 15 by omega]
        show S < 32768
        omega
      unfold numErr
      rw [if_pos (by omega), Int.toNat_natCast, if_pos ⟨Int.natCast_nonneg _, Int.ofNat_lt.2 this⟩]
    have hset : ∀ v, setL out (o[k] : Int) v = some (out.set o[k] v) := fun v => by rw [setL_eq (by omega), Int.toNat_natCast]
    have hio : ∃ e, idx out (o[k] : Int) = some e := by rw [idx_nat]; exact ⟨_, List.getElem?_eq_getElem (by omega)⟩
    obtain ⟨e, he⟩ := hio
    have hnx : IntKind.i64.wrap ((k : Int) + 1) = ((k + 1 : Nat) : Int) := by rw [w64 (by omega)]; rfl
    have hih := ih (k + 1) fuel (out.set o[k] (wrd S (ky ns o[k]))) (S + 2 ^ (15 - ky ns o[k])) (by omega) (by omega) (by rw [List.length_set]; exact hout) (by omega)
    unfold D_code_Words_l4
    rw [cT (dT (by rw [toI_len]; omega)), hget, bsome, ky_get hi, bsome, h15, nn_nat, bsome, bsome, shr_nat (by omega), number_code N hN, if_pos hnum, bsome, he, bsome, hset, bsome, bsome, h15, nn_nat, bsome, one_shl (by omega), w64 (x := (S : Int) + _) (by omega), bsome, hnx, Int.toNat_natCast, Int.toNat_natCast, show (S : Int) + ((2 ^ (15 - ky ns o[k]) : Nat) : Int) = ((S + 2 ^ (15 - ky ns o[k]) : Nat) : Int) by omega]
    refine Eq.trans hih ?_
    rw [List.foldl_cons, Nat.add_assoc]
    rfl
def pos (ns : List Nat) (i : Nat) : Bool := decide (0 < ky ns i)
include hl in
theorem words_l1 (N : Nat) (kk) : ∀ (j k fuel : Nat) (A : List Nat), k + j = ns.length → j < fuel → A.length ≤ k →
    D_code_Words_l1 N (toI ns) kk fuel (toI A, (k : Int)) = kk (toI (A ++ (List.range' k j).filter (pos ns)), (ns.length : Int)) := by
  intro j
  induction j with
  | zero =>
    intro k fuel A hk hf hA
    obtain ⟨fuel, rfl⟩ : ∃ m, fuel = m + 1 := ⟨fuel - 1, by omega⟩
    obtain rfl : k = ns.length := by omega
    unfold D_code_Words_l1
    rw [cF (dF (by rw [toI_len]; omega))]; simp
  | succ j ih =>
    intro k fuel A hk hf hA
    obtain ⟨fuel, rfl⟩ : ∃ m, fuel = m + 1 := ⟨fuel - 1, by omega⟩
    have hlt : k < ns.length := by omega
    have hnx : IntKind.i64.wrap ((k : Int) + 1) = ((k + 1 : Nat) : Int) := by rw [w64 (by omega)]; rfl
    unfold D_code_Words_l1
    rw [cT (dT (by rw [toI_len]; omega)), ky_get hlt, bsome, List.range'_succ]
    by_cases h : 0 < ky ns k
    · have happ : app 8 (toI A) ([(k : Int)] : List Int) = some (toI (A ++ [k])) := by
        rw [app_eq (by rw [toI_len]; simp; omega), toI_app]; rfl
      rw [cT (dT (by omega)), happ, bsome, hnx, ih (k + 1) fuel _ (by omega) (by omega) (by simp; omega), List.filter_cons, if_pos (show pos ns k = true from dT h), List.append_assoc]
      rfl
    · rw [cF (dF (by omega)), hnx, ih (k + 1) fuel _ (by omega) (by omega) (by omega), List.filter_cons, if_neg (by rw [show pos ns k = false from dF h]; simp)]
def inw (f : Nat → Nat) (x : Nat) : List Nat → List Nat → List Nat
  | [], B => x :: B
  | y :: A, B => if f x < f y then inw f x A (y :: B) else (y :: A).reverse ++ x :: B
theorem inw_app (f : Nat → Nat) (x : Nat) : ∀ A B C, inw f x A (B ++ C) = inw f x A B ++ C
  | [], B, C => rfl
  | y :: A, B, C => by
    unfold inw
    split
    · rw [← List.cons_append, inw_app f x A]
    · simp
theorem inw_len (f : Nat → Nat) (x : Nat) : ∀ A B, (inw f x A B).length = A.length + B.length + 1
  | [], B => by simp [inw]
  | y :: A, B => by
    unfold inw
    split
    · rw [inw_len f x A]; simp; omega
    · simp; omega
theorem inw_spec (f : Nat → Nat) (x : Nat) (A1 : List Nat) (h1 : ∀ y ∈ A1, f y ≤ f x) : ∀ (R : List Nat) (B : List Nat), (∀ y ∈ R, f x < f y) → inw f x (R ++ A1.reverse) B = A1 ++ x :: (R.reverse ++ B)
  | [], B, _ => by
    rcases hA : A1.reverse with _ | ⟨y, A⟩
    · have : A1 = [] := by simpa using hA
      subst this; rfl
    · have hy : f y ≤ f x := h1 y (by rw [← List.mem_reverse, hA]; simp)
      rw [List.nil_append]
      unfold inw
      rw [if_neg (by omega), ← hA, List.reverse_reverse]; rfl
  | y :: R, B, h => by
    have hy := h y (by simp)
    show inw f x (y :: (R ++ A1.reverse)) B = _
    unfold inw
    rw [if_pos hy, inw_spec f x A1 h1 R (y :: B) (fun z hz => h z (by simp [hz]))]
    simp
theorem cmp_eq (N : Nat) {a b : Nat} (ha : a < ns.length) (hb : b < ns.length) : D_code_Words_1 N (a : Int) (b : Int) (toI ns) = some (if ky ns a < ky ns b then -1 else if ky ns b < ky ns a then 1 else 0) := by
  unfold D_code_Words_1
  rw [ky_get ha, bsome, ky_get hb, bsome]
  unfold D_cmp_Compare_int D_cmp_isNaN_int
  rw [bsome, bsome, cF (by simp), cF (by simp)]
  by_cases h1 : ky ns a < ky ns b
  · rw [cT (dT (by omega)), if_pos h1]; rfl
  · rw [cF (dF (by omega)), if_neg h1]
    by_cases h2 : ky ns b < ky ns a
    · rw [cT (dT (by omega)), if_pos h2]; rfl
    · rw [cF (dF (by omega)), if_neg h2]; rfl
theorem toI_at {A : List Nat} {i x : Nat} (h : A[i]? = some x) : idx (toI A) (i : Int) = some (x : Int) := by
  rw [idx_nat, toI, List.getElem?_map, h]; rfl
theorem words_l3 (N : Nat) (kk : List Int × Int → Option (List (List UInt8) × Int)) (r) (x : Nat) (hx : x < ns.length) : ∀ (A B : List Nat) (fuel : Nat), (∀ y ∈ A, y < ns.length) → A.length ≤ 1000 → A.length < fuel → (∀ j, kk (toI (inw (ky ns) x A B), j) = r) →
    D_code_Words_l3 N (toI ns) kk fuel (toI (A.reverse ++ x :: B), (A.length : Int)) = r := by
  intro A
  induction A with
  | nil =>
    intro B fuel hA hA2 hf hk
    obtain ⟨fuel, rfl⟩ : ∃ m, fuel = m + 1 := ⟨fuel - 1, by simp at hf; omega⟩
    unfold D_code_Words_l3
    rw [cF (dF (by simp))]
    exact hk _
  | cons y A ih =>
    intro B fuel hA hA2 hf hk
    simp only [List.length_cons] at hf hA2
    obtain ⟨fuel, rfl⟩ : ∃ m, fuel = m + 1 := ⟨fuel - 1, by omega⟩
    have hy : y < ns.length := hA y (by simp)
    have g1 : ∀ u v : Nat, (A.reverse ++ u :: v :: B)[A.length]? = some u := fun u v => by rw [List.getElem?_append_right (by simp)]; simp
    have g2 : ∀ u v : Nat, (A.reverse ++ u :: v :: B)[A.length + 1]? = some v := fun u v => by rw [List.getElem?_append_right (by simp)]; simp
    have eq : (y :: A).reverse ++ x :: B = A.reverse ++ y :: x :: B := by simp
    have hm1 : IntKind.i64.wrap (((A.length + 1 : Nat) : Int) - 1) = (A.length : Int) := by rw [w64 (by omega)]; omega
    rw [List.length_cons, eq]
    unfold D_code_Words_l3
    rw [cT (dT (by omega)), toI_at (g2 y x), bsome, hm1, toI_at (g1 y x), bsome, cmp_eq N hx hy, bsome]
    unfold inw at hk
    by_cases h : ky ns x < ky ns y
    · rw [if_pos h] at hk
      have s1 : setL (toI (A.reverse ++ y :: x :: B)) (((A.length + 1 : Nat) : Int)) ((y : Nat) : Int) = some (toI (A.reverse ++ y :: y :: B)) := by
        rw [setL_eq (by rw [toI_len]; simp; omega), Int.toNat_natCast, ← toI_set]
        congr 2
        rw [List.set_append, if_neg (by simp)]; simp
      have s2 : setL (toI (A.reverse ++ y :: y :: B)) ((A.length : Nat) : Int) ((x : Nat) : Int) = some (toI (A.reverse ++ x :: y :: B)) := by
        rw [setL_eq (by rw [toI_len]; simp; omega), Int.toNat_natCast, ← toI_set]
        congr 2
        rw [List.set_append, if_neg (by simp)]; simp
      rw [if_pos h, cT (by decide), bsome, bsome, bsome, s1, bsome, toI_at (g1 y y), bsome, s2, bsome, bsome]
      exact ih (y :: B) fuel (fun z hz => hA z (by simp [hz])) (by omega) (by omega) hk
    · rw [if_neg h] at hk
      rw [if_neg h, cF (by split <;> decide), ← eq]
      exact hk _
def srt (f : Nat → Nat) (o : List Nat) : List Nat := o.foldl (fun A x => inw f x A.reverse []) []
theorem srt_snoc (f : Nat → Nat) (o : List Nat) (x : Nat) : srt f (o ++ [x]) = inw f x (srt f o).reverse [] := by simp [srt]
theorem srt_len (f : Nat → Nat) (o : List Nat) : (srt f o).length = o.length := by
  have : ∀ (o A : List Nat), (o.foldl (fun A x => inw f x A.reverse []) A).length = A.length + o.length := by
    intro o
    induction o with
    | nil => intro A; rfl
    | cons x o ih => intro A; rw [List.foldl_cons, ih, inw_len]; simp; omega
  rw [srt, this]; simp
end
end Go.Proofs.YtpmnfhifmmfglabDoor

namespace Go.Proofs.YtpmnfhifmmfglabDoor
open Go
section
variable {ns : List Nat} (hn : ∀ n ∈ ns, n ≤ 15) (hl : ns.length ≤ 17)
theorem words_l2 (N : Nat) (hN : 100 ≤ N) (kk : List Int × Int × Int → Option (List (List UInt8) × Int)) (r) {o : List Nat} (ho : ∀ i ∈ o, i < ns.length) (hol : o.length ≤ 17) (hk : ∀ b j, kk (toI (srt (ky ns) o), b, j) = r) : ∀ (j k fuel : Nat), k + j = o.length → j < fuel →
    D_code_Words_l2 N (toI ns) kk fuel (toI (srt (ky ns) (o.take k) ++ o.drop k), (o.length : Int), (k : Int)) = r := by
  intro j
  induction j with
  | zero =>
    intro k fuel hkj hf
    obtain ⟨fuel, rfl⟩ : ∃ m, fuel = m + 1 := ⟨fuel - 1, by omega⟩
    obtain rfl : k = o.length := by omega
    unfold D_code_Words_l2
    rw [cF (dF (by omega)), List.take_length, List.drop_length, List.append_nil]
    exact hk _ _
  | succ j ih =>
    intro k fuel hkj hf
    obtain ⟨fuel, rfl⟩ : ∃ m, fuel = m + 1 := ⟨fuel - 1, by omega⟩
    have hlt : k < o.length := by omega
    have hnx : IntKind.i64.wrap ((k : Int) + 1) = ((k + 1 : Nat) : Int) := by rw [w64 (by omega)]; rfl
    have hih := ih (k + 1) fuel (by omega) (by omega)
    have htk : o.take (k + 1) = o.take k ++ [o[k]] := by rw [List.take_add_one, List.getElem?_eq_getElem hlt]; rfl
    rw [htk, srt_snoc] at hih
    have hlen : (srt (ky ns) (o.take k)).length = k := by rw [srt_len, List.length_take]; omega
    have hmem : ∀ y ∈ srt (ky ns) (o.take k), y < ns.length := fun y hy => by
      refine ho y (List.mem_of_mem_take (i := k) ?_)
      have key : ∀ (p A : List Nat), (∀ z ∈ A, z ∈ o.take k) → (∀ z ∈ p, z ∈ o.take k) → ∀ z ∈ p.foldl (fun A x => inw (ky ns) x A.reverse []) A, z ∈ o.take k := by
        intro p
        induction p with
        | nil => intro A hA _ z hz; exact hA z hz
        | cons x p ihp =>
          intro A hA hp z hz
          rw [List.foldl_cons] at hz
          refine ihp _ ?_ (fun z hz => hp z (by simp [hz])) z hz
          intro u hu
          have sub : ∀ (R B : List Nat), ∀ z ∈ inw (ky ns) x R B, z ∈ R ∨ z = x ∨ z ∈ B := by
            intro R
            induction R with
            | nil => intro B z hz; simp [inw] at hz; rcases hz with rfl | hz; exact .inr (.inl rfl); exact .inr (.inr hz)
            | cons q R ihR =>
              intro B z hz
              unfold inw at hz
              split at hz
              · rcases ihR _ z hz with h | h | h
                · exact .inl (by simp [h])
                · exact .inr (.inl h)
                · rcases List.mem_cons.1 h with rfl | h
                  · exact .inl (by simp)
                  · exact .inr (.inr h)
              · simp at hz
                rcases hz with h | h | h | h
                · exact .inl (by simp [h])
                · exact .inl (by simp [h])
                · exact .inr (.inl h)
                · exact .inr (.inr h)
          rcases sub _ _ u hu with h | h | h
          · exact hA u (by simpa using h)
          · subst h; exact hp u (by simp)
          · cases h
      exact key (o.take k) [] (fun z hz => by cases hz) (fun z hz => hz) y hy
    unfold D_code_Words_l2
    rw [cT (dT (by omega)), List.drop_eq_getElem_cons hlt]
    have h3 := words_l3 (ns := ns) N (fun (l22, j9) => Option.bind (some (IntKind.i64.wrap ((k : Int) + 1))) fun i6 => D_code_Words_l2 N (toI ns) kk fuel (l22, (o.length : Int), i6)) r o[k] (ho _ (List.getElem_mem hlt)) (srt (ky ns) (o.take k)).reverse (o.drop (k + 1)) N (fun y hy => hmem y (by simpa using hy)) (by simp; omega) (by simp; omega) (fun q => by
      show (Option.bind (some (IntKind.i64.wrap ((k : Int) + 1))) fun i6 => D_code_Words_l2 N (toI ns) kk fuel (toI (inw (ky ns) o[k] (srt (ky ns) (o.take k)).reverse (o.drop (k + 1))), (o.length : Int), i6)) = r
      rw [hnx, bsome]
      have e := inw_app (ky ns) o[k] (srt (ky ns) (o.take k)).reverse [] (o.drop (k + 1))
      rw [List.nil_append] at e
      rw [e]
      exact hih)
    rw [List.reverse_reverse, List.length_reverse, hlen] at h3
    exact h3
def ordL (f : Nat → Nat) (o : List Nat) : List Nat := (List.range' 1 15).flatMap fun s => o.filter fun i => decide (f i = s)
theorem ordL_snoc (f : Nat → Nat) (o : List Nat) {x : Nat} (hx : 1 ≤ f x ∧ f x ≤ 15) : ∃ A1 A2, ordL f o = A1 ++ A2 ∧ ordL f (o ++ [x]) = A1 ++ x :: A2 ∧ (∀ y ∈ A1, f y ≤ f x) ∧ ∀ y ∈ A2, f x < f y := by
  have hsp : List.range' 1 15 = List.range' 1 (f x - 1) ++ (f x :: List.range' (f x + 1) (15 - f x)) := by
    have h1 : List.range' 1 (f x - 1) ++ List.range' (1 + (f x - 1)) (15 - (f x - 1)) = List.range' 1 15 := by
      have := List.range'_append (s := 1) (m := f x - 1) (n := 15 - (f x - 1)) (step := 1)
      rw [Nat.one_mul] at this
      rw [this]; congr 1; omega
    rw [← h1, show 1 + (f x - 1) = f x by omega, show 15 - (f x - 1) = (15 - f x) + 1 by omega, List.range'_succ]
  have hne : ∀ L : List Nat, (∀ s ∈ L, s ≠ f x) → (L.flatMap fun s => (o ++ [x]).filter fun i => decide (f i = s)) = L.flatMap fun s => o.filter fun i => decide (f i = s) := by
    intro L hL
    induction L with
    | nil => rfl
    | cons s L ih =>
      rw [List.flatMap_cons, List.flatMap_cons, ih (fun s hs => hL s (by simp [hs])), List.filter_append]
      congr 1
      rw [List.filter_cons, if_neg (by simpa using fun h => hL s (by simp) h.symm)]; simp
  refine ⟨((List.range' 1 (f x - 1)).flatMap fun s => o.filter fun i => decide (f i = s)) ++ o.filter (fun i => decide (f i = f x)), (List.range' (f x + 1) (15 - f x)).flatMap (fun s => o.filter fun i => decide (f i = s)), ?_, ?_, ?_, ?_⟩
  · unfold ordL; rw [hsp, List.flatMap_append, List.flatMap_cons, List.append_assoc]
  · unfold ordL
    rw [hsp, List.flatMap_append, List.flatMap_cons, hne _ (fun s hs => by have := (List.mem_range'_1.1 hs); omega), hne _ (fun s hs => by have := (List.mem_range'_1.1 hs); omega), List.filter_append, List.filter_cons, if_pos (by simp)]
    simp
  · intro y hy
    rcases List.mem_append.1 hy with h | h
    · obtain ⟨s, hs, h⟩ := List.mem_flatMap.1 h
      have h1 := List.mem_range'_1.1 hs
      have h2 := (List.mem_filter.1 h).2
      simp at h2
      omega
    · have h2 := (List.mem_filter.1 h).2
      simp at h2
      omega
  · intro y hy
    obtain ⟨s, hs, h⟩ := List.mem_flatMap.1 hy
    have h1 := List.mem_range'_1.1 hs
    have h2 := (List.mem_filter.1 h).2
    simp at h2
    omega
theorem take_ind {P : List Nat → Prop} (o : List Nat) (h0 : P []) (hs : ∀ k (hk : k < o.length), P (o.take k) → P (o.take k ++ [o[k]])) : P o := by
  have : ∀ k, k ≤ o.length → P (o.take k) := by
    intro k
    induction k with
    | zero => intro _; exact h0
    | succ k ih =>
      intro hk
      have := hs k (by omega) (ih (by omega))
      rwa [show o.take k ++ [o[k]] = o.take (k + 1) by rw [List.take_add_one, List.getElem?_eq_getElem (by omega)]; rfl] at this
  have := this o.length (Nat.le_refl _)
  rwa [List.take_length] at this
theorem ordL_nil (f : Nat → Nat) : ordL f [] = [] := by
  unfold ordL
  rw [List.flatMap_eq_nil_iff]
  intro s _; rfl
theorem srt_ord (f : Nat → Nat) (o : List Nat) (ho : ∀ x ∈ o, 1 ≤ f x ∧ f x ≤ 15) : srt f o = ordL f o := by
  refine take_ind (P := fun p => srt f p = ordL f p) o ?_ fun k hk ih => ?_
  · show ([] : List Nat) = _
    unfold ordL
    rw [eq_comm, List.flatMap_eq_nil_iff]
    intro s _; rfl
  · obtain ⟨A1, A2, h1, h2, h3, h4⟩ := ordL_snoc f (o.take k) (ho _ (List.getElem_mem hk))
    have := inw_spec f o[k] A1 h3 A2.reverse [] (fun y hy => h4 y (by simpa using hy))
    show srt f (o.take k ++ [o[k]]) = ordL f (o.take k ++ [o[k]])
    rw [srt_snoc, h2, show srt f (o.take k) = ordL f (o.take k) from ih, h1, List.reverse_append, this]
    simp
theorem tot_ord (o : List Nat) (ho : ∀ x ∈ o, 1 ≤ ky ns x ∧ ky ns x ≤ 15) : tot ns (ordL (ky ns) o) = tot ns o := by
  refine take_ind (P := fun p => tot ns (ordL (ky ns) p) = tot ns p) o ?_ fun k hk ih => ?_
  · show tot ns (ordL (ky ns) []) = tot ns []
    rw [ordL_nil]
  · obtain ⟨A1, A2, h1, h2, h3, h4⟩ := ordL_snoc (ky ns) (o.take k) (ho _ (List.getElem_mem hk))
    have ih' : tot ns (ordL (ky ns) (o.take k)) = tot ns (o.take k) := ih
    show tot ns (ordL (ky ns) (o.take k ++ [o[k]])) = tot ns (o.take k ++ [o[k]])
    rw [h2, tot_app, tot_cons, tot_app, ← ih', h1, tot_app, tot_cons, tot_nil]
    omega
/-- The numbers that have a word, from k on. -/
def ups (ns : List Nat) (k j : Nat) : List Nat := (List.range' k j).filter (pos ns)
theorem sumK_ups : ∀ (j k : Nat), k + j = ns.length → sumK ((toI ns).drop k) = tot ns (ups ns k j) := by
  intro j
  induction j with
  | zero =>
    intro k hk
    rw [List.drop_eq_nil_iff.2 (by rw [toI_len]; omega)]; rfl
  | succ j ih =>
    intro k hk
    have hlt : k < (toI ns).length := by rw [toI_len]; omega
    have hv : (toI ns)[k].toNat = ky ns k := by
      have := toI_get (l := ns) (i := k) (by omega)
      rw [idx_nat, List.getElem?_eq_getElem hlt] at this
      rw [Option.some.inj this, Int.toNat_natCast]; rfl
    rw [List.drop_eq_getElem_cons hlt, sumK_cons, ih (k + 1) (by omega), hv]
    unfold ups
    rw [List.range'_succ, List.filter_cons]
    by_cases h : 0 < ky ns k
    · rw [if_pos (show pos ns k = true from dT h), tot_cons, rm, if_pos h]
    · rw [if_neg (by rw [show pos ns k = false from dF h]; simp), rm, if_neg h, Nat.zero_add]
theorem ord_ups (k j : Nat) : ordL (ky ns) (ups ns k j) = ordL (ky ns) (List.range' k j) := by
  unfold ordL ups
  have : ∀ L : List Nat, (∀ s ∈ L, 1 ≤ s) → (L.flatMap fun s => ((List.range' k j).filter (pos ns)).filter fun i => decide (ky ns i = s)) = L.flatMap fun s => (List.range' k j).filter fun i => decide (ky ns i = s) := by
    intro L hL
    induction L with
    | nil => rfl
    | cons s L ih =>
      rw [List.flatMap_cons, List.flatMap_cons, ih (fun s hs => hL s (by simp [hs])), List.filter_filter]
      congr 1
      refine List.filter_congr fun i _ => ?_
      have := hL s (by simp)
      unfold pos
      by_cases h : ky ns i = s
      · rw [dT h, dT (by omega)]; rfl
      · rw [dF h]; rfl
  exact this _ fun s hs => (List.mem_range'_1.1 hs).1
theorem ups_mem {k j i : Nat} (h : i ∈ ups ns k j) : k ≤ i ∧ i < k + j ∧ 0 < ky ns i := by
  obtain ⟨h1, h2⟩ := List.mem_filter.1 h
  have := List.mem_range'_1.1 h1
  exact ⟨this.1, this.2, of_decide_eq_true h2⟩
/-- The words. -/
def wordsL (ns : List Nat) : List (List UInt8) := ((ordL (ky ns) (List.range' 0 ns.length)).foldl (stp ns) (List.replicate ns.length [], 0)).1
end
end Go.Proofs.YtpmnfhifmmfglabDoor

namespace Go.Proofs.YtpmnfhifmmfglabDoor
open Go
section
variable {ns : List Nat} (hn : ∀ n ∈ ns, n ≤ 15) (hl : ns.length ≤ 17)
include hn hl in
/-- A round of the document's loop, for one size. -/
theorem wof_l2 (N : Nat) (hN : 100 ≤ N) {size : Nat} (hs : 1 ≤ size ∧ size ≤ 15) (kk : List (List UInt8) × Int × Int × Int → Option (List (List UInt8))) (r) : ∀ (j k fuel : Nat) (out : List (List UInt8)) (S nx la : Nat), k + j = ns.length → j < fuel → out.length = ns.length → la ≤ size → S = nx * 2 ^ (15 - la) → S + tot ns ((List.range' k j).filter fun i => decide (ky ns i = size)) ≤ 32768 →
    (∀ nx' la' : Nat, la' ≤ size → ∀ i' : Int, (((List.range' k j).filter fun i => decide (ky ns i = size)).foldl (stp ns) (out, S)).2 = nx' * 2 ^ (15 - la') → kk ((((List.range' k j).filter fun i => decide (ky ns i = size)).foldl (stp ns) (out, S)).1, (nx' : Int), (la' : Int), i') = r) →
    D_darkslideref_WordsOf_l2 N (toI ns) (size : Int) kk fuel (out, (nx : Int), (la : Int), (k : Int)) = r := by
  intro j
  induction j with
  | zero =>
    intro k fuel out S nx la hk hf hout hla hS hT hkk
    obtain ⟨fuel, rfl⟩ : ∃ m, fuel = m + 1 := ⟨fuel - 1, by omega⟩
    unfold D_darkslideref_WordsOf_l2
    rw [cF (dF (by rw [toI_len]; omega))]
    exact hkk nx la hla _ hS
  | succ j ih =>
    intro k fuel out S nx la hk hf hout hla hS hT hkk
    obtain ⟨fuel, rfl⟩ : ∃ m, fuel = m + 1 := ⟨fuel - 1, by omega⟩
    have hlt : k < ns.length := by omega
    have hnx : IntKind.i64.wrap ((k : Int) + 1) = ((k + 1 : Nat) : Int) := by rw [w64 (by omega)]; rfl
    unfold D_darkslideref_WordsOf_l2
    rw [cT (dT (by rw [toI_len]; omega)), ky_get hlt, bsome]
    rw [List.range'_succ, List.filter_cons] at hT hkk
    by_cases h : ky ns k = size
    · rw [if_pos (dT h)] at hT hkk
      rw [tot_cons, h] at hT
      rw [List.foldl_cons] at hkk
      have hp0 := Nat.two_pow_pos (15 - size)
      have hpw : 2 ^ (15 - la) = 2 ^ (size - la) * 2 ^ (15 - size) := by rw [← Nat.pow_add]; congr 1; omega
      have hdiv : S / 2 ^ (15 - size) = nx * 2 ^ (size - la) := by
        rw [hS, hpw, ← Nat.mul_assoc, Nat.mul_div_cancel _ hp0]
      have hle : nx * 2 ^ (size - la) ≤ 32768 := by rw [← hdiv]; exact Nat.le_trans (Nat.div_le_self _ _) (by omega)
      have hsub : IntKind.i64.wrap ((size : Int) - (la : Int)) = ((size - la : Nat) : Int) := by rw [w64 (by omega)]; omega
      have hio : ∃ e, idx out (k : Int) = some e := by rw [idx_nat]; exact ⟨_, List.getElem?_eq_getElem (by omega)⟩
      obtain ⟨e, he⟩ := hio
      have hset : ∀ v, setL out (k : Int) v = some (out.set k v) := fun v => by rw [setL_eq (by omega), Int.toNat_natCast]
      rw [cF (by rw [dT (by omega)]; rfl), hsub, nn_nat, bsome, shl_nat (by omega) (by omega), bsome, number_eq hN (by omega) (by omega), bsome, he, bsome, hset, bsome, w64 (x := ((nx * 2 ^ (size - la) : Nat) : Int) + 1) (by omega), bsome, hnx, bsome]
      have hw : wrd S size = chs (dig 2 size (nx * 2 ^ (size - la))) := by unfold wrd; rw [hdiv]
      have hst : stp ns (out, S) k = (out.set k (chs (dig 2 size (nx * 2 ^ (size - la)))), S + 2 ^ (15 - size)) := by unfold stp; rw [h, hw]
      rw [hst] at hkk
      refine ih (k + 1) fuel _ (S + 2 ^ (15 - size)) (nx * 2 ^ (size - la) + 1) size (by omega) (by omega) (by rw [List.length_set]; exact hout) (Nat.le_refl _) ?_ (by omega) hkk
      rw [Nat.add_mul, Nat.one_mul, hS, hpw, Nat.mul_assoc]
    · rw [if_neg (by rw [dF h]; simp)] at hT hkk
      rw [cT (by rw [dF (by omega)]; rfl), hnx, bsome]
      exact ih (k + 1) fuel out S nx la (by omega) (by omega) hout hla hS hT hkk
include hn hl in
theorem wof_l1 (N : Nat) (hN : 100 ≤ N) (kk : List (List UInt8) × Int × Int × Int → Option (List (List UInt8))) (r) : ∀ (j s fuel : Nat) (out : List (List UInt8)) (S nx la : Nat), s + j = 16 → 1 ≤ s → j < fuel → out.length = ns.length → la < s → S = nx * 2 ^ (15 - la) → S + tot ns ((List.range' s j).flatMap fun s => (List.range' 0 ns.length).filter fun i => decide (ky ns i = s)) ≤ 32768 →
    (∀ a b c, kk ((((List.range' s j).flatMap fun s => (List.range' 0 ns.length).filter fun i => decide (ky ns i = s)).foldl (stp ns) (out, S)).1, a, b, c) = r) →
    D_darkslideref_WordsOf_l1 N (toI ns) kk fuel (out, (nx : Int), (la : Int), (s : Int)) = r := by
  intro j
  induction j with
  | zero =>
    intro s fuel out S nx la hk h1 hf hout hla hS hT hkk
    obtain ⟨fuel, rfl⟩ : ∃ m, fuel = m + 1 := ⟨fuel - 1, by omega⟩
    unfold D_darkslideref_WordsOf_l1
    rw [cF (dF (by omega))]
    exact hkk _ _ _
  | succ j ih =>
    intro s fuel out S nx la hk h1 hf hout hla hS hT hkk
    obtain ⟨fuel, rfl⟩ : ∃ m, fuel = m + 1 := ⟨fuel - 1, by omega⟩
    unfold D_darkslideref_WordsOf_l1
    rw [cT (dT (by omega))]
    rw [List.range'_succ, List.flatMap_cons] at hT hkk
    rw [tot_app] at hT
    refine wof_l2 hn hl N hN (size := s) (by omega) _ r ns.length 0 N out S nx la (by omega) (by omega) hout (by omega) hS (by omega) fun nx' la' hla' i' hS' => ?_
    dsimp only
    rw [w64 (x := (s : Int) + 1) (by omega), bsome, show (s : Int) + 1 = ((s + 1 : Nat) : Int) by rfl]
    have h2 := stp_snd ns ((List.range' 0 ns.length).filter fun i => decide (ky ns i = s)) (out, S)
    have h3 := stp_len ns ((List.range' 0 ns.length).filter fun i => decide (ky ns i = s)) (out, S)
    refine ih (s + 1) fuel _ _ nx' la' (by omega) (by omega) (by omega) (h3.trans hout) (by omega) (h2.symm.trans hS') (by show S + _ + _ ≤ _; omega) fun a b c => ?_
    have := hkk a b c
    rw [List.foldl_append] at this
    rw [← this]
    congr 3
    rw [← h2]
include hn hl in
theorem words_doc (N : Nat) (hN : 100 ≤ N) (hK : tot ns (ups ns 0 ns.length) ≤ 32768) : D_darkslideref_WordsOf N (toI ns) = some (wordsL ns) := by
  unfold D_darkslideref_WordsOf
  rw [toI_len, bsome, mk_eq (by omega), bsome, Int.toNat_natCast]
  have ht : tot ns (ordL (ky ns) (List.range' 0 ns.length)) ≤ 32768 := by
    rw [← ord_ups, tot_ord]
    · exact hK
    · intro x hx
      exact ⟨(ups_mem hx).2.2, ky_le hn x⟩
  exact wof_l1 hn hl N hN _ _ 15 1 N (List.replicate ns.length []) 0 0 0 (by omega) (by omega) (by omega) (by simp) (by omega) (by omega) (by rw [Nat.zero_add]; exact ht) (fun a b c => rfl)
include hn hl in
theorem words_run (N : Nat) (hN : 100 ≤ N) (hK : tot ns (ups ns 0 ns.length) ≤ 32768) (hP : 0 < tot ns (ups ns 0 ns.length)) (hc : chkErr (toI ns) = 0) : D_code_Words N (toI ns) = some (wordsL ns, 0) := by
  unfold D_code_Words
  have hups : ∀ x ∈ ups ns 0 ns.length, 1 ≤ ky ns x ∧ ky ns x ≤ 15 := fun x hx => ⟨(ups_mem hx).2.2, ky_le hn x⟩
  have hlen : (ups ns 0 ns.length).length ≤ 17 := by
    unfold ups
    refine Nat.le_trans (List.length_filter_le _ _) ?_
    rw [List.length_range']; exact hl
  have hmem : ∀ i ∈ ups ns 0 ns.length, i < ns.length := fun i hi => by have := (ups_mem hi).2.1; omega
  rw [check_code N hN, hc, bsome, cF (by decide)]
  have h1 := words_l1 (ns := ns) hl N (fun (l6, i2) =>
    cond (decide (20 ≤ (l6.length : Int))) none (
    Option.bind (some (IntKind.i64.wrap (0 + 1))) fun i3 =>
    D_code_Words_l2 N (toI ns) (fun (l23, b2, i7) =>
    Option.bind (sameL l6 l23) fun _ =>
    cond (decide (20 < (l23.length : Int))) none (
    Option.bind (sameL l6 l23) fun _ =>
    Option.bind (sameL l6 l23) fun _ =>
    Option.bind (some (((toI ns).length : Int))) fun x2 =>
    Option.bind (mk 16 x2 (([] : List UInt8) : List UInt8)) fun l24 =>
    D_code_Words_l4 N (toI ns) l23 (fun (l28, i10, i11) =>
    some (l28, 0)) N (l24, 0, 0))) N (l6, (l6.length : Int), i3))) ns.length 0 N [] (by omega) (by omega) (by simp)
  refine Eq.trans h1 ?_
  rw [List.nil_append]
  dsimp only
  rw [show (List.range' 0 ns.length).filter (pos ns) = ups ns 0 ns.length from rfl, cF (dF (by rw [toI_len]; omega)), show IntKind.i64.wrap (0 + 1) = ((1 : Nat) : Int) by decide, bsome, show ((toI (ups ns 0 ns.length)).length : Int) = ((ups ns 0 ns.length).length : Int) by rw [toI_len]]
  have hsrt := srt_ord (ky ns) (ups ns 0 ns.length) hups
  have hsl := srt_len (ky ns) (ups ns 0 ns.length)
  have hfin : ∀ b j : Int, (fun (x : List Int × Int × Int) => (match x with
    | (l23, b2, i7) => Option.bind (sameL (toI (ups ns 0 ns.length)) l23) fun _ =>
    cond (decide (20 < (l23.length : Int))) none (
    Option.bind (sameL (toI (ups ns 0 ns.length)) l23) fun _ =>
    Option.bind (sameL (toI (ups ns 0 ns.length)) l23) fun _ =>
    Option.bind (some (((toI ns).length : Int))) fun x2 =>
    Option.bind (mk 16 x2 (([] : List UInt8) : List UInt8)) fun l24 =>
    D_code_Words_l4 N (toI ns) l23 (fun (l28, i10, i11) =>
    some (l28, (0 : Int))) N (l24, 0, 0)) : Option (List (List UInt8) × Int))) (toI (srt (ky ns) (ups ns 0 ns.length)), b, j) = some (wordsL ns, 0) := by
    intro b j
    have hsame : sameL (toI (ups ns 0 ns.length)) (toI (srt (ky ns) (ups ns 0 ns.length))) = some () := by
      unfold sameL
      rw [if_pos (by rw [toI_len, toI_len, hsl])]
    dsimp only
    rw [hsame, bsome, cF (dF (by rw [toI_len, hsl]; omega)), bsome, bsome, toI_len, bsome, mk_eq (by omega), bsome, Int.toNat_natCast, hsrt]
    have ht : tot ns (ordL (ky ns) (ups ns 0 ns.length)) ≤ 32768 := by rw [tot_ord _ hups]; exact hK
    have hom : ∀ i ∈ ordL (ky ns) (ups ns 0 ns.length), i < ns.length := fun i hi => by
      obtain ⟨s, _, h⟩ := List.mem_flatMap.1 hi
      exact hmem i (List.mem_filter.1 h).1
    have hol : (ordL (ky ns) (ups ns 0 ns.length)).length ≤ 17 := by rw [← hsrt, hsl]; exact hlen
    have h4 := words_l4 hn hl N hN (ordL (ky ns) (ups ns 0 ns.length)) hom hol (fun (l28, i10, i11) => some (l28, (0 : Int))) (ordL (ky ns) (ups ns 0 ns.length)).length 0 N (List.replicate ns.length []) 0 (by omega) (by omega) (by simp) (by rw [List.drop_zero, Nat.zero_add]; exact ht)
    refine Eq.trans h4 ?_
    rw [List.drop_zero, ord_ups]
    rfl
  by_cases h0 : (ups ns 0 ns.length).length = 0
  · rw [List.eq_nil_of_length_eq_zero h0, tot_nil] at hP
    omega
  · have h2 := fun kk hk => words_l2 (ns := ns) N hN kk (some (wordsL ns, 0)) hmem hlen hk ((ups ns 0 ns.length).length - 1) 1 N (by omega) (by omega)
    have htk : srt (ky ns) ((ups ns 0 ns.length).take 1) ++ (ups ns 0 ns.length).drop 1 = ups ns 0 ns.length := by
      rcases hu : ups ns 0 ns.length with _ | ⟨x, u⟩
      · rw [hu] at h0; exact absurd rfl h0
      · rfl
    simp only [htk] at h2
    refine h2 _ ?_
    exact hfin
end
/-- What a code's words are, whatever it is handed. -/
theorem chk_ok {l : List Int} (h : chkErr l = 0) : ∃ ns : List Nat, l = toI ns ∧ (∀ n ∈ ns, n ≤ 15) ∧ 1 ≤ ns.length ∧ ns.length ≤ 17 ∧ tot ns (ups ns 0 ns.length) ≤ 32768 ∧ 0 < tot ns (ups ns 0 ns.length) := by
  unfold chkErr at h
  split at h
  · cases h
  rename_i h1
  split at h
  rotate_left
  · cases h
  rename_i h2
  split at h
  · cases h
  rename_i h3
  have hall : ∀ e ∈ l, 0 ≤ e ∧ e ≤ 15 := fun e he => of_decide_eq_true (List.all_eq_true.1 h2 e he)
  have he : toI (l.map Int.toNat) = l := toNat_toI fun e h => (hall e h).1
  have hs := sumK_ups (ns := l.map Int.toNat) (l.map Int.toNat).length 0 (by omega)
  rw [he, List.drop_zero] at hs
  refine ⟨l.map Int.toNat, he.symm, ?_, by simp; omega, by simp; omega, by omega, by omega⟩
  intro n hn
  obtain ⟨e, h, rfl⟩ := List.mem_map.1 hn
  have := hall e h
  omega
def wordsOf (l : List Int) : List (List UInt8) := if chkErr l = 0 then wordsL (l.map Int.toNat) else []
theorem words_code (N : Nat) (hN : 100 ≤ N) (l : List Int) : D_code_Words N l = some (wordsOf l, chkErr l) := by
  unfold wordsOf
  by_cases h : chkErr l = 0
  · obtain ⟨ns, rfl, h1, h2, h3, h4, h5⟩ := chk_ok h
    rw [if_pos h, words_run h1 h3 N hN h4 h5 h, toI_toNat, h]
  · rw [if_neg h]
    unfold D_code_Words
    rw [check_code N hN, bsome, cT (by rw [dF h]; rfl)]
theorem wordsOf_doc (N : Nat) (hN : 100 ≤ N) {l : List Int} (h : chkErr l = 0) : D_darkslideref_WordsOf N l = some (wordsOf l) := by
  unfold wordsOf
  obtain ⟨ns, rfl, h1, h2, h3, h4, h5⟩ := chk_ok h
  rw [if_pos h, words_doc h1 h3 N hN h4, toI_toNat]
theorem wordsOf_len {l : List Int} (h : chkErr l = 0) : (wordsOf l).length = l.length := by
  unfold wordsOf wordsL
  rw [if_pos h, stp_len, List.length_replicate, List.length_map]
end Go.Proofs.YtpmnfhifmmfglabDoor

namespace Go.Proofs.YtpmnfhifmmfglabDoor
open Go
theorem sameTexts_l1 (N : Nat) {a : List (List UInt8)} (hl : a.length ≤ 1000000) (kk : Int → Option Bool) (hk : ∀ i, kk i = some true) : ∀ (j k fuel : Nat), k + j = a.length → j < fuel → D_darkslidelaw_sameTexts_l1 N a a kk fuel (k : Int) = some true := by
  intro j
  induction j with
  | zero =>
    intro k fuel hkj hf
    obtain ⟨fuel, rfl⟩ : ∃ m, fuel = m + 1 := ⟨fuel - 1, by omega⟩
    unfold D_darkslidelaw_sameTexts_l1
    rw [cF (dF (by omega))]
    exact hk _
  | succ j ih =>
    intro k fuel hkj hf
    obtain ⟨fuel, rfl⟩ : ∃ m, fuel = m + 1 := ⟨fuel - 1, by omega⟩
    have hlt : k < a.length := by omega
    unfold D_darkslidelaw_sameTexts_l1
    rw [cT (dT (by omega)), idx_nat, List.getElem?_eq_getElem hlt, bsome, bsome, cF (by rw [dT rfl]; rfl), w64 (x := (k : Int) + 1) (by omega), bsome]
    exact ih (k + 1) fuel (by omega) (by omega)
theorem sameTexts_eq (N : Nat) {a : List (List UInt8)} (hl : a.length ≤ 1000000) (hN : a.length < N) : D_darkslidelaw_sameTexts N a a = some true := by
  unfold D_darkslidelaw_sameTexts
  rw [cF (by rw [dT rfl]; rfl)]
  exact sameTexts_l1 N hl _ (fun _ => rfl) a.length 0 N (by omega) (by omega)
theorem codeBegun_eq : D_darkslidelaw_codeBegun 5000 = some true := by kernel_rfl
theorem codeWords_true (l : List Int) : D_darkslidelaw_CodeWords 5000 l = some true := by
  unfold D_darkslidelaw_CodeWords
  rw [words_code 5000 (by decide), bsome, check_doc 5000 (by decide), bsome]
  by_cases h : chkErr l = 0
  · have hlen := wordsOf_len h
    obtain ⟨ns, hns, _, _, h17, _⟩ := chk_ok h
    have h17' : l.length ≤ 17 := by rw [hns, toI_len]; exact h17
    rw [cT (dT h), wordsOf_doc 5000 (by decide) h, bsome, codeBegun_eq, bsome, cT rfl, check_code 5000 (by decide), bsome, cT (dT rfl), cT (dT rfl)]
    dsimp only
    rw [sameTexts_eq 5000 (by omega) (by omega)]
    rfl
  · have hw : wordsOf l = [] := by unfold wordsOf; rw [if_neg h]
    rw [cF (dF h), codeBegun_eq, bsome, cT rfl, check_code 5000 (by decide), bsome, cT (dT rfl), cT (dT rfl)]
    dsimp only
    rw [hw, sameTexts_eq 5000 (by simp) (by simp)]
    rfl
end Go.Proofs.YtpmnfhifmmfglabDoor

namespace Go.Proofs.YtpmnfhifmmfglabDoor
open Go.RowKit
section
variable {P : Program} {ops : Array Oper} {Q : Exit → Act → World → Prop} {S : World → Prop} {rob need : Nat → Bool} {R : Act → World → Prop}
def rdy (ops : Array Oper) (rem : List Nat) (i : Nat) : Bool := rem.all fun j => !waits ops i j
def wpTr (P : Program) (ops : Array Oper) (S : World → Prop) (rob need : Nat → Bool) (R : Act → World → Prop) : Nat → List Nat → Act → World → Prop
  | 0, rem, a, w => rem = [] ∧ R a w
  | n + 1, rem, a, w =>
    (∃ i ∈ rem, rob i = true ∧ rdy ops rem i = true ∧ ∃ o, ops[i]? = some o ∧ ∃ v, YldS P ops S o v a ∧ wpTr P ops S rob need R n (rem.erase i) (a.put o.dst v) w) ∨
    ((∀ i ∈ rem, rob i = true → rdy ops rem i = false) ∧ ∀ c ∈ rem, rob c = false → rdy ops rem c = true → wpOp P ops NoOut c (fun a' w' => (need c = true → S w') ∧ wpTr P ops S rob need R n (rem.erase c) a' w') a w)
def trPair (ops : Array Oper) (rob : Nat → Bool) (i j : Nat) : Bool :=
  match ops[i]?, ops[j]? with
  | some oi, some oj => waits ops i j || ((!rob i || oi.apart ops oj) && (!rob j || oj.apart ops oi))
  | _, _ => false
def trOK (ops : Array Oper) (rob need : Nat → Bool) : Bool :=
  Region.noSelect ops && txtBack ops && ((List.range ops.size).all fun i => (List.range i).all fun j => trPair ops rob i j) &&
  (List.range ops.size).all fun i => rob i || need i || !freeOf ops rob i
theorem rdy_erase {rem : List Nat} {i k : Nat} (h : rdy ops rem i = true) : rdy ops (rem.erase k) i = true := by
  unfold rdy at *
  rw [List.all_eq_true] at *
  exact fun j hj => h j (List.mem_of_mem_erase hj)
theorem rdy_waits {rem : List Nat} {i j : Nat} (h : rdy ops rem i = true) (hj : j ∈ rem) : waits ops i j = false := by
  unfold rdy at h
  rw [List.all_eq_true] at h
  simpa using h j hj
theorem tr_pull {i : Nat} {oi : Oper} (hi : ops[i]? = some oi) (hr : rob i = true) (hsel : ∀ (j : Nat) (o : Oper) cs b, ops[j]? = some o → o.op ≠ .select cs b)
    (hpair : ∀ j k oj ok, j ≠ k → ops[j]? = some oj → ops[k]? = some ok → waits ops j k = false → waits ops k j = false → (rob j = true → oj.apart ops ok = true)) :
    ∀ (n : Nat) (rem : List Nat) (a : Act) (w : World), i ∈ rem → rdy ops rem i = true → wpTr P ops S rob need R (n + 1) rem a w → ∃ v, YldS P ops S oi v a ∧ wpTr P ops S rob need R n (rem.erase i) (a.put oi.dst v) w := by
  intro n
  induction n with
  | zero =>
    intro rem a w him hrd h
    rcases h with ⟨i0, hi0, hr0, hd0, o0, ho0, u, hu, h⟩ | ⟨hno, _⟩
    · obtain ⟨hnil, hR⟩ := h
      have : i0 = i := by
        by_cases e : i0 = i
        · exact e
        · have : i ∈ rem.erase i0 := (List.mem_erase_of_ne (fun h => e h.symm)).2 him
          rw [hnil] at this; cases this
      subst this
      obtain rfl : o0 = oi := Option.some.inj (ho0.symm.trans hi)
      exact ⟨u, hu, hnil, hR⟩
    · rw [hno i him hr] at hrd; cases hrd
  | succ n ih =>
    intro rem a w him hrd h
    rcases h with ⟨i0, hi0, hr0, hd0, o0, ho0, u, hu, h⟩ | ⟨hno, _⟩
    · by_cases e : i0 = i
      · subst e
        obtain rfl : o0 = oi := Option.some.inj (ho0.symm.trans hi)
        exact ⟨u, hu, h⟩
      · have him' : i ∈ rem.erase i0 := (List.mem_erase_of_ne (fun h => e h.symm)).2 him
        obtain ⟨v, hv, h⟩ := ih _ _ _ him' (rdy_erase hrd) h
        have w1 := rdy_waits hrd hi0
        have w2 := rdy_waits hd0 him
        have ap1 := hpair i i0 oi o0 (fun h => e h.symm) hi ho0 w1 w2 hr
        have ap2 := hpair i0 i o0 oi e ho0 hi w2 w1 hr0
        obtain ⟨p1, p2, p3⟩ := Oper.apart_spec ap1
        obtain ⟨q1, q2, q3⟩ := Oper.apart_spec ap2
        have hv' : YldS P ops S oi v a := hv.same (execOp_put oi (fun cs b => hsel i oi cs b hi) a o0.dst u p3).symm (wanted_put oi a o0.dst u p3).symm
        refine ⟨v, hv', .inl ⟨i0, (List.mem_erase_of_ne e).2 hi0, hr0, rdy_erase hd0, o0, ho0, u, ?_, ?_⟩⟩
        · exact hu.same (execOp_put o0 (fun cs b => hsel i0 o0 cs b ho0) a oi.dst v q3) (wanted_put o0 a oi.dst v q3)
        · rw [List.erase_comm, Act.put_comm a v u p2]; exact h
    · rw [hno i him hr] at hrd; cases hrd
theorem tr_push {c : Nat} {oc : Oper} (hc : ops[c]? = some oc) (hrc : rob c = false) (hsel : ∀ (j : Nat) (o : Oper) cs b, ops[j]? = some o → o.op ≠ .select cs b)
    (hpair : ∀ j k oj ok, j ≠ k → ops[j]? = some oj → ops[k]? = some ok → waits ops j k = false → waits ops k j = false → (rob j = true → oj.apart ops ok = true)) :
    ∀ (n : Nat) (rem : List Nat) (a : Act) (w : World), c ∈ rem → rdy ops rem c = true → wpTr P ops S rob need R (n + 1) rem a w → wpOp P ops NoOut c (fun a' w' => (need c = true → S w') ∧ wpTr P ops S rob need R n (rem.erase c) a' w') a w := by
  intro n
  induction n with
  | zero =>
    intro rem a w hcm hrd h
    rcases h with ⟨i0, hi0, hr0, hd0, o0, ho0, u, hu, h⟩ | ⟨_, h⟩
    · obtain ⟨hnil, hR⟩ := h
      have e : i0 ≠ c := fun e => by subst e; rw [hrc] at hr0; cases hr0
      have : c ∈ rem.erase i0 := (List.mem_erase_of_ne (fun h => e h.symm)).2 hcm
      rw [hnil] at this; cases this
    · exact h c hcm hrc hrd
  | succ n ih =>
    intro rem a w hcm hrd h
    rcases h with ⟨i0, hi0, hr0, hd0, o0, ho0, u, hu, h⟩ | ⟨_, h⟩
    · have e : i0 ≠ c := fun e => by subst e; rw [hrc] at hr0; cases hr0
      have hcm' : c ∈ rem.erase i0 := (List.mem_erase_of_ne (fun h => e h.symm)).2 hcm
      have h2 := ih _ _ _ hcm' (rdy_erase hrd) h
      have w1 := rdy_waits hrd hi0
      have w2 := rdy_waits hd0 hcm
      have ap := hpair i0 c o0 oc e ho0 hc w2 w1 hr0
      have h3 := wpOp_ahead hc ap (fun cs b => hsel i0 o0 cs b ho0) (fun cs b => hsel c oc cs b hc) hu h2
      refine wpOp_mono ?_ h3
      rintro a' w' ⟨hy, hn, hk⟩
      refine ⟨hn, .inl ⟨i0, (List.mem_erase_of_ne e).2 hi0, hr0, rdy_erase hd0, o0, ho0, u, hy, ?_⟩⟩
      rw [List.erase_comm]; exact hk
    · exact h c hcm hrc hrd
theorem filter_ne_erase {l : List Nat} (hl : l.Nodup) (i : Nat) : l.filter (· != i) = l.erase i := by
  rw [List.Nodup.erase_eq_filter hl]
theorem wpAny_of_tr (hok : trOK ops rob need = true) : ∀ (fuel : Nat) (listed : Array Bool) (a : Act) (w : World), listed.size = ops.size → Closed ops listed → (remOf ops listed).length = fuel →
    (∀ r ∈ remOf ops listed, rob r = true → S w) → wpTr P ops S rob need (Q .normal) fuel (remOf ops listed) a w → wpAny P .any ops Q fuel listed a w := by
  simp only [trOK, Bool.and_eq_true] at hok
  obtain ⟨⟨⟨hsel0, hback⟩, hpair0⟩, hneed⟩ := hok
  have hsel := Region.noSelect_spec hsel0
  have hp : ∀ i < ops.size, ∀ j < i, trPair ops rob i j = true := fun i hi j hj => List.all_eq_true.1 (List.all_eq_true.1 hpair0 i (List.mem_range.2 hi)) j (List.mem_range.2 hj)
  have hpair : ∀ j k oj ok, j ≠ k → ops[j]? = some oj → ops[k]? = some ok → waits ops j k = false → waits ops k j = false → (rob j = true → oj.apart ops ok = true) := by
    intro j k oj ok hjk hj hk w1 w2 hr
    have hjl := (Array.getElem?_eq_some_iff.1 hj).1
    have hkl := (Array.getElem?_eq_some_iff.1 hk).1
    rcases Nat.lt_or_gt_of_ne hjk with hlt | hlt
    · have h := hp k hkl j hlt
      unfold trPair at h
      simp only [hj, hk, w2, Bool.false_or, Bool.and_eq_true, Bool.or_eq_true, Bool.not_eq_true'] at h
      rcases h.2 with h0 | h0
      · rw [hr] at h0; cases h0
      · exact h0
    · have h := hp j hjl k hlt
      unfold trPair at h
      simp only [hj, hk, w1, Bool.false_or, Bool.and_eq_true, Bool.or_eq_true, Bool.not_eq_true'] at h
      rcases h.1 with h0 | h0
      · rw [hr] at h0; cases h0
      · exact h0
  have hbk : ∀ i o, ops[i]? = some o → ∀ e ∈ o.after, Region.binds .any e = true → e.on < i := fun i o ho e he hb => by
    have hi : i < ops.size := (Array.getElem?_eq_some_iff.1 ho).1
    have h := List.all_eq_true.1 hback i (List.mem_range.2 hi)
    simp only [ho] at h
    have h2 := Array.all_eq_true_iff_forall_mem.1 h e he
    simpa [hb] using h2
  have hnd : ∀ i < ops.size, rob i = false → ∀ r < ops.size, rob r = true → waits ops i r = false → need i = true := fun i hi hri r hr hrr hw => by
    have h := List.all_eq_true.1 hneed i (List.mem_range.2 hi)
    simp only [hri, Bool.false_or, Bool.or_eq_true, Bool.not_eq_true'] at h
    refine h.resolve_right fun h0 => ?_
    have : freeOf ops rob i = true := by
      refine List.any_eq_true.2 ⟨r, List.mem_range.2 hr, ?_⟩
      have : r ≠ i := fun e => by subst e; rw [hri] at hrr; cases hrr
      simp [hrr, hw, this]
    rw [this] at h0
    cases h0
  intro fuel
  induction fuel with
  | zero =>
    intro listed a w hs hc hlen _ h
    have hnil : remOf ops listed = [] := List.eq_nil_of_length_eq_zero hlen
    obtain ⟨_, h⟩ := h
    refine ⟨?_, h⟩
    refine List.eq_nil_iff_forall_not_mem.2 fun i hi => ?_
    obtain ⟨h0, o, ho, _⟩ := mem_ready.1 hi
    have : i ∈ remOf ops listed := mem_remOf.2 ⟨(Array.getElem?_eq_some_iff.1 ho).1, h0⟩
    rw [hnil] at this
    cases this
  | succ fuel ih =>
    intro listed a w hs hc hlen hS h
    refine ⟨fun h0 => ?_, fun i hi => ?_⟩
    · exfalso
      match hr : remOf ops listed, hlen with
      | i0 :: rest, _ =>
        have hm0 : i0 ∈ remOf ops listed := by rw [hr]; exact List.mem_cons_self ..
        obtain ⟨hlt, hun⟩ := mem_remOf.1 hm0
        have hsorted := remOf_sorted (ops := ops) listed
        rw [hr, List.pairwise_cons] at hsorted
        have : i0 ∈ Region.ready .any ops listed := by
          refine mem_ready.2 ⟨hun, ops[i0], Array.getElem?_eq_getElem hlt, fun e he hb => ?_⟩
          have hlt2 := hbk i0 _ (Array.getElem?_eq_getElem hlt) e he hb
          cases hl : listed.getD e.on false with
          | true => rfl
          | false =>
            have hm : e.on ∈ remOf ops listed := mem_remOf.2 ⟨by omega, by rw [listed_eq (by omega)]; exact hl⟩
            rw [hr] at hm
            rcases List.mem_cons.1 hm with hm | hm
            · omega
            · have := hsorted.1 _ hm; omega
        rw [h0] at this
        cases this
    · obtain ⟨hun, oi, hoi, hall⟩ := mem_ready.1 hi
      have hilt : i < ops.size := (Array.getElem?_eq_some_iff.1 hoi).1
      have him : i ∈ remOf ops listed := mem_remOf.2 ⟨hilt, hun⟩
      have hnodup : (remOf ops listed).Nodup := (remOf_sorted (ops := ops) listed).imp fun h => Nat.ne_of_lt h
      have hrem' : remOf ops (listed.setIfInBounds i true) = (remOf ops listed).erase i := by rw [remOf_set hs hilt, filter_ne_erase hnodup]
      have hlen' : (remOf ops (listed.setIfInBounds i true)).length = fuel := by
        rw [hrem', List.length_erase_of_mem him]; omega
      have hs' : (listed.setIfInBounds i true).size = ops.size := by simpa using hs
      have hc' : Closed ops (listed.setIfInBounds i true) := by
        intro k hk j hj
        by_cases hik : i = k
        · subst hik; exact getD_set_true (ready_waits hi hj)
        · rw [getD_set_ne false hik] at hk; exact getD_set_true (hc k hk j hj)
      have hrd : rdy ops (remOf ops listed) i = true := by
        unfold rdy
        rw [List.all_eq_true]
        intro j hj
        obtain ⟨h1, h2⟩ := mem_remOf.1 hj
        cases hw : waits ops i j with
        | false => rfl
        | true =>
          have := ready_waits hi hw
          rw [← listed_eq (by omega), h2] at this; cases this
      cases hri : rob i with
      | true =>
        have hSw : S w := hS i him hri
        obtain ⟨v, hv, hrest⟩ := tr_pull hoi hri hsel hpair fuel _ a w him hrd h
        refine hv.run hoi hSw (ih _ _ _ hs' hc' hlen' (fun _ _ _ => hSw) (by rw [hrem']; exact hrest))
      | false =>
        have h2 := tr_push hoi hri hsel hpair fuel _ a w him hrd h
        refine wpOp_out (wpOp_mono ?_ h2)
        rintro a' w' ⟨hn, hk⟩
        refine ih _ _ _ hs' hc' hlen' ?_ (by rw [hrem']; exact hk)
        intro r hr hrr
        rw [hrem'] at hr
        have hrm := List.mem_of_mem_erase hr
        exact hn (hnd i hilt hri r (mem_remOf.1 hrm).1 hrr (rdy_waits hrd hrm))
theorem wp_region_tr {id : Nat} {a : Act} {w : World} {l : List Oper} (S : World → Prop) (f : List Nat) (n : Nat) (rem : List Nat) (hm : P.follows .mixedOrders = true) (hok : trOK l.toArray (robOf f) (needOf f) = true)
    (hl : List.range l.toArray.size = rem) (hn : rem.length = n) (hS : S w.drew) (h : wpTr P l.toArray S (robOf f) (needOf f) (Q .normal) n rem a w.drew) : (Code.region id l.toArray true).wp P Q a w := by
  refine wp_region_any hm ?_
  have hrem : remOf l.toArray (Array.replicate l.toArray.size false) = List.range l.toArray.size := by
    unfold remOf
    refine List.filter_eq_self.2 fun i hi => ?_
    have := List.mem_range.1 hi
    simp at this
    simp [this]
  refine wpAny_of_tr hok l.toArray.size (Array.replicate l.toArray.size false) a _ (by simp) ?_ (by rw [hrem]; simp) (fun _ _ _ => hS) ?_
  · intro i hi
    rw [getD_replicate_f] at hi
    cases hi
  · rw [hrem, hl]
    have : l.toArray.size = n := by rw [← hn, ← hl]; simp
    rw [this]; exact h
variable {D : List Deferred} {a : Act} {w : World} {N : Nat} {l : List (Nat × Value)} {o : Oper} {v : Value} {post : Value → World → Prop} {d i c n : Nat} {rem rem' : List Nat} {f : List Nat}
theorem R_rd (i : Nat) (rem' : List Nat) (hc : (rem.elem i && robOf f i && rdy ops rem i && rem.erase i == rem') = true) (ho : ops[i]? = some o) (K : Kd D a N l) (hw : Region.wanted o (yielded ops a.tmps) = true) (hd : o.dst = some d) (hN : Nat.blt d N = true) (hr : Rd P S a o v)
    (k : ∀ a', Kd D a' N ((d, v) :: l) → wpTr P ops S (robOf f) (needOf f) R n rem' a' w) : wpTr P ops S (robOf f) (needOf f) R (n + 1) rem a w := by
  simp only [Bool.and_eq_true, beq_iff_eq, List.elem_iff] at hc
  obtain ⟨⟨⟨h1, h2⟩, h3⟩, rfl⟩ := hc
  refine .inl ⟨i, h1, h2, h3, o, ho, v, .inl ⟨hw, hr⟩, ?_⟩
  have := K.put (d := o.dst) (by rw [hd]; exact hN) v
  rw [hd] at this ⊢
  exact k _ this
def AllC (p : Nat → Prop) : List Nat → Prop
  | [] => True
  | c :: cs => p c ∧ AllC p cs
theorem allC_mem {p : Nat → Prop} : ∀ {cs : List Nat}, AllC p cs → ∀ c ∈ cs, p c
  | [], _, c, h => by cases h
  | d :: cs, h, c, hc => by
    rcases List.mem_cons.1 hc with rfl | hc
    · exact h.1
    · exact allC_mem h.2 c hc
/-- One of several comes first. -/
theorem R_br (cs : List Nat) (hc : ((rem.all fun i => !robOf f i || !rdy ops rem i) && (rem.filter fun c => !robOf f c && rdy ops rem c) == cs) = true)
    (h : AllC (fun c => wpOp P ops NoOut c (fun a' w' => (needOf f c = true → S w') ∧ wpTr P ops S (robOf f) (needOf f) R n (rem.erase c) a' w') a w) cs) : wpTr P ops S (robOf f) (needOf f) R (n + 1) rem a w := by
  simp only [Bool.and_eq_true, beq_iff_eq] at hc
  obtain ⟨h1, rfl⟩ := hc
  refine .inr ⟨fun i hi hr => ?_, fun c hcm hr hrd => allC_mem h c (List.mem_filter.2 ⟨hcm, by simp [hr, hrd]⟩)⟩
  have := List.all_eq_true.1 h1 i hi
  simpa [hr] using this
theorem R_ac (rem' : List Nat) (hc : (rem.erase c == rem') = true) (ho : ops[c]? = some o) (K : Kd D a N l) (hw : Region.wanted o (yielded ops a.tmps) = true) (hd : o.dst = some d) (hN : Nat.blt d N = true) (h : Ac P o a w post)
    (k : ∀ v a' w', post v w' → Kd D a' N ((d, v) :: l) → (needOf f c = true → S w') ∧ wpTr P ops S (robOf f) (needOf f) R n rem' a' w') : wpOp P ops NoOut c (fun a' w' => (needOf f c = true → S w') ∧ wpTr P ops S (robOf f) (needOf f) R n (rem.erase c) a' w') a w := by
  obtain rfl : rem.erase c = rem' := by simpa using hc
  unfold wpOp
  simp only [ho, hw, if_true]
  refine .inl (h _ _ fun v w' hp => ?_)
  have := K.put (d := o.dst) (by rw [hd]; exact hN) v
  rw [hd] at this ⊢
  exact k v _ w' hp this
theorem R_a0 (rem' : List Nat) (hc : (rem.erase c == rem') = true) (ho : ops[c]? = some o) (K : Kd D a N l) (hw : Region.wanted o (yielded ops a.tmps) = true) (hd : o.dst = none) (h : Ac P o a w post)
    (k : ∀ v a' w', post v w' → Kd D a' N l → (needOf f c = true → S w') ∧ wpTr P ops S (robOf f) (needOf f) R n rem' a' w') : wpOp P ops NoOut c (fun a' w' => (needOf f c = true → S w') ∧ wpTr P ops S (robOf f) (needOf f) R n (rem.erase c) a' w') a w := by
  obtain rfl : rem.erase c = rem' := by simpa using hc
  unfold wpOp
  simp only [ho, hw, if_true]
  refine .inl (h _ _ fun v w' hp => ?_)
  rw [hd]
  exact k v _ w' hp K
theorem R_end (h : R a w) : wpTr P ops S (robOf f) (needOf f) R 0 [] a w := ⟨rfl, h⟩
end
end Go.Proofs.YtpmnfhifmmfglabDoor

namespace Go.Proofs.YtpmnfhifmmfglabDoor
open Go.RowKit
section
variable {P : Program} {S : World → Prop} {base : Nat} {W w : World} {L : List Ent} {D : List Deferred} {a : Act} {N : Nat} {l : List (Nat × Value)} {o : Oper} {v v' : Value} {x y ix : Operand} {k : IntKind} {m n : Int} {t e t' : TypeId} {g off : Nat} {cs : List Value} {α : Type} {C : Cod α} {xs ys zs : List α} {A B : Option Addr} {c c' : Nat}
/-- A loop of which the rounds are walked one by one. -/
theorem X_rounds {p : Code} {Q : Exit → Act → World → Prop} {w : World} (n : Nat) (h : Code.rounds P p Q n a w) : (Code.loop p).wp P Q a w := wp_loop_rounds n h
theorem X_round {p : Code} {Q : Exit → Act → World → Prop} {w : World} {n : Nat} (h : p.wp P (Exit.then (Code.rounds P p Q n) Q) a w) : Code.rounds P p Q (n + 1) a w := h
end
end Go.Proofs.YtpmnfhifmmfglabDoor

namespace Go.Proofs.YtpmnfhifmmfglabDoor
open Go.RowKit
abbrev I (n : Int) : Value := .int .i64 n
/-- A reading operation's answer, or nothing where its guard bars it. -/
inductive Stp (P : Program) (ops : Array Oper) (S : World → Prop) (D : List Deferred) (N : Nat) (l : List (Nat × Value)) (o : Oper) (v : Value) : Prop where
  | yes (hw : ∀ a, Kd D a N l → Region.wanted o (yielded ops a.tmps) = true) (hr : ∀ a, Kd D a N l → Rd P S a o v)
  | no (hw : ∀ a, Kd D a N l → Region.wanted o (yielded ops a.tmps) = false) (hv : undef = v)
section
variable {P : Program} {base : Nat} {W w : World} {L : List Ent} {S : World → Prop} {D : List Deferred} {a : Act} {N : Nat} {l : List (Nat × Value)} {o : Oper} {v : Value} {post : Value → World → Prop}
  {ops : Array Oper} {Q : Exit → Act → World → Prop} {R : Act → World → Prop} {rest : List Oper} {d : Nat} {f : List Nat}
theorem X_o (K : Kd D a N l) (M : Mem base W w L) (k : ∀ a', Kd D a' N ((d, v) :: l) → wpList P ops Q rest a' w) (hd : o.dst = some d := by exact rfl) (hN : Nat.blt d N = true := by exact rfl)
    (hs : Stp P ops (fun w => Mem base W w L) D N l o v := by
      first
      | exact .no (fun a K => K.no rfl rfl rfl rfl) rfl
      | exact .no (fun a K => K.nou rfl rfl rfl) rfl
      | exact .yes (by first | exact fun a K => want_no rfl | exact fun a K => K.yes rfl rfl rfl) (by
         first
         | exact fun a K => rd_move rfl K rfl
         | exact fun a K => rd_assign rfl K rfl
         | exact fun a K => rd_pickT rfl K rfl rfl
         | exact fun a K => rd_pickF rfl K rfl rfl
         | exact fun a K => rd_nil rfl K rfl
         | exact fun a K => rd_extract rfl K rfl rfl
         | exact fun a K => rd_not rfl K rfl
         | exact fun a K => rd_add rfl K rfl rfl
         | exact fun a K => rd_lss rfl K rfl rfl
         | exact fun a K => rd_sub rfl K rfl rfl
         | exact fun a K => rd_mul rfl K rfl rfl
         | exact fun a K => rd_eql rfl K rfl rfl
         | exact fun a K => rd_neq rfl K rfl rfl
         | exact fun a K => rd_gtr rfl K rfl rfl
         | exact fun a K => rd_leq rfl K rfl rfl
         | exact fun a K => rd_geq rfl K rfl rfl
         | exact fun a K => rd_min rfl K rfl rfl
         | exact fun a K => rd_max rfl K rfl rfl
         | exact fun a K => rd_and rfl K rfl rfl)) : wpList P ops Q (o :: rest) a w := by
  cases hs with
  | yes hw hr => exact X_rd K (hw a K) hd hN (hr a K) M k
  | no hw hv => subst hv; exact X_no K (hw a K) hd hN k
theorem Y_o (M : Mem base W w L) (k : ∀ a', Kd D a' N ((d, v) :: l) → wpList P ops Q rest a' w) (hd : o.dst = some d := by exact rfl) (hN : Nat.blt d N = true := by exact rfl)
    (hs : Stp P ops (fun w => Mem base W w L) D N l o v := by
      first
      | exact .no (fun a K => K.no rfl rfl rfl rfl) rfl
      | exact .no (fun a K => K.nou rfl rfl rfl) rfl
      | exact .yes (by first | exact fun a K => want_no rfl | exact fun a K => K.yes rfl rfl rfl) (by
         first
         | exact fun a K => rd_move rfl K rfl
         | exact fun a K => rd_assign rfl K rfl
         | exact fun a K => rd_pickT rfl K rfl rfl
         | exact fun a K => rd_pickF rfl K rfl rfl
         | exact fun a K => rd_nil rfl K rfl
         | exact fun a K => rd_extract rfl K rfl rfl
         | exact fun a K => rd_not rfl K rfl
         | exact fun a K => rd_add rfl K rfl rfl
         | exact fun a K => rd_lss rfl K rfl rfl
         | exact fun a K => rd_sub rfl K rfl rfl
         | exact fun a K => rd_mul rfl K rfl rfl
         | exact fun a K => rd_eql rfl K rfl rfl
         | exact fun a K => rd_neq rfl K rfl rfl
         | exact fun a K => rd_gtr rfl K rfl rfl
         | exact fun a K => rd_leq rfl K rfl rfl
         | exact fun a K => rd_geq rfl K rfl rfl
         | exact fun a K => rd_min rfl K rfl rfl
         | exact fun a K => rd_max rfl K rfl rfl
         | exact fun a K => rd_and rfl K rfl rfl)) : ∀ a, Kd D a N l → wpList P ops Q (o :: rest) a w := fun a K => X_o K M k hd hN hs
theorem Y_r (hr : ∀ a, Kd D a N l → Rd P (fun w => Mem base W w L) a o v) (M : Mem base W w L) (k : ∀ a', Kd D a' N ((d, v) :: l) → wpList P ops Q rest a' w)
    (hw : ∀ a, Kd D a N l → Region.wanted o (yielded ops a.tmps) = true := by first | exact fun a K => want_no rfl | exact fun a K => K.yes rfl rfl rfl) (hd : o.dst = some d := by exact rfl) (hN : Nat.blt d N = true := by exact rfl) :
    ∀ a, Kd D a N l → wpList P ops Q (o :: rest) a w := fun a K => X_rd K (hw a K) hd hN (hr a K) M k
theorem X_r (K : Kd D a N l) (hr : Rd P (fun w => Mem base W w L) a o v) (M : Mem base W w L) (k : ∀ a', Kd D a' N ((d, v) :: l) → wpList P ops Q rest a' w)
    (hw : ∀ a, Kd D a N l → Region.wanted o (yielded ops a.tmps) = true := by first | exact fun a K => want_no rfl | exact fun a K => K.yes rfl rfl rfl) (hd : o.dst = some d := by exact rfl) (hN : Nat.blt d N = true := by exact rfl) :
    wpList P ops Q (o :: rest) a w := X_rd K (hw a K) hd hN hr M k
theorem X_a (K : Kd D a N l) (h : Ac P o a w post) (k : ∀ v a' w', post v w' → Kd D a' N ((d, v) :: l) → wpList P ops Q rest a' w')
    (hw : ∀ a, Kd D a N l → Region.wanted o (yielded ops a.tmps) = true := by first | exact fun a K => want_no rfl | exact fun a K => K.yes rfl rfl rfl) (hd : o.dst = some d := by exact rfl) (hN : Nat.blt d N = true := by exact rfl) :
    wpList P ops Q (o :: rest) a w := X_ac K (hw a K) hd hN h k
theorem X_b (K : Kd D a N l) (h : Ac P o a w post) (k : ∀ v a' w', post v w' → Kd D a' N l → wpList P ops Q rest a' w')
    (hw : ∀ a, Kd D a N l → Region.wanted o (yielded ops a.tmps) = true := by first | exact fun a K => want_no rfl | exact fun a K => K.yes rfl rfl rfl) (hd : o.dst = none := by exact rfl) :
    wpList P ops Q (o :: rest) a w := X_a0 K (hw a K) hd h k
theorem T_o (K : Kd D a N l) (k : ∀ a', Kd D a' N ((d, v) :: l) → wpTl P ops S R (marked f rest) a' w) (hd : o.dst = some d := by exact rfl) (hN : Nat.blt d N = true := by exact rfl)
    (hs : Stp P ops S D N l o v := by
      first
      | exact .no (fun a K => K.no rfl rfl rfl rfl) rfl
      | exact .no (fun a K => K.nou rfl rfl rfl) rfl
      | exact .yes (by first | exact fun a K => want_no rfl | exact fun a K => K.yes rfl rfl rfl) (by
         first
         | exact fun a K => rd_move rfl K rfl
         | exact fun a K => rd_assign rfl K rfl
         | exact fun a K => rd_pickT rfl K rfl rfl
         | exact fun a K => rd_pickF rfl K rfl rfl
         | exact fun a K => rd_nil rfl K rfl
         | exact fun a K => rd_extract rfl K rfl rfl
         | exact fun a K => rd_not rfl K rfl
         | exact fun a K => rd_add rfl K rfl rfl
         | exact fun a K => rd_lss rfl K rfl rfl
         | exact fun a K => rd_sub rfl K rfl rfl
         | exact fun a K => rd_mul rfl K rfl rfl
         | exact fun a K => rd_eql rfl K rfl rfl
         | exact fun a K => rd_neq rfl K rfl rfl
         | exact fun a K => rd_gtr rfl K rfl rfl
         | exact fun a K => rd_leq rfl K rfl rfl
         | exact fun a K => rd_geq rfl K rfl rfl
         | exact fun a K => rd_min rfl K rfl rfl
         | exact fun a K => rd_max rfl K rfl rfl
         | exact fun a K => rd_and rfl K rfl rfl)) : wpTl P ops S R (marked (0 :: f) (o :: rest)) a w := by
  cases hs with
  | yes hw hr => exact T_rd K (hw a K) hd hN (hr a K) k
  | no hw hv => subst hv; exact T_no K (hw a K) hd hN k
theorem U_o (k : ∀ a', Kd D a' N ((d, v) :: l) → wpTl P ops S R (marked f rest) a' w) (hd : o.dst = some d := by exact rfl) (hN : Nat.blt d N = true := by exact rfl)
    (hs : Stp P ops S D N l o v := by
      first
      | exact .no (fun a K => K.no rfl rfl rfl rfl) rfl
      | exact .no (fun a K => K.nou rfl rfl rfl) rfl
      | exact .yes (by first | exact fun a K => want_no rfl | exact fun a K => K.yes rfl rfl rfl) (by
         first
         | exact fun a K => rd_move rfl K rfl
         | exact fun a K => rd_assign rfl K rfl
         | exact fun a K => rd_pickT rfl K rfl rfl
         | exact fun a K => rd_pickF rfl K rfl rfl
         | exact fun a K => rd_nil rfl K rfl
         | exact fun a K => rd_extract rfl K rfl rfl
         | exact fun a K => rd_not rfl K rfl
         | exact fun a K => rd_add rfl K rfl rfl
         | exact fun a K => rd_lss rfl K rfl rfl
         | exact fun a K => rd_sub rfl K rfl rfl
         | exact fun a K => rd_mul rfl K rfl rfl
         | exact fun a K => rd_eql rfl K rfl rfl
         | exact fun a K => rd_neq rfl K rfl rfl
         | exact fun a K => rd_gtr rfl K rfl rfl
         | exact fun a K => rd_leq rfl K rfl rfl
         | exact fun a K => rd_geq rfl K rfl rfl
         | exact fun a K => rd_min rfl K rfl rfl
         | exact fun a K => rd_max rfl K rfl rfl
         | exact fun a K => rd_and rfl K rfl rfl)) : ∀ a, Kd D a N l → wpTl P ops S R (marked (0 :: f) (o :: rest)) a w := fun a K => T_o K k hd hN hs
theorem U_r (hr : ∀ a, Kd D a N l → Rd P S a o v) (k : ∀ a', Kd D a' N ((d, v) :: l) → wpTl P ops S R (marked f rest) a' w)
    (hw : ∀ a, Kd D a N l → Region.wanted o (yielded ops a.tmps) = true := by first | exact fun a K => want_no rfl | exact fun a K => K.yes rfl rfl rfl) (hd : o.dst = some d := by exact rfl) (hN : Nat.blt d N = true := by exact rfl) :
    ∀ a, Kd D a N l → wpTl P ops S R (marked (0 :: f) (o :: rest)) a w := fun a K => T_rd K (hw a K) hd hN (hr a K) k
theorem T_r (K : Kd D a N l) (hr : Rd P S a o v) (k : ∀ a', Kd D a' N ((d, v) :: l) → wpTl P ops S R (marked f rest) a' w)
    (hw : ∀ a, Kd D a N l → Region.wanted o (yielded ops a.tmps) = true := by first | exact fun a K => want_no rfl | exact fun a K => K.yes rfl rfl rfl) (hd : o.dst = some d := by exact rfl) (hN : Nat.blt d N = true := by exact rfl) :
    wpTl P ops S R (marked (0 :: f) (o :: rest)) a w := T_rd K (hw a K) hd hN hr k
theorem T_a (K : Kd D a N l) (h : Ac P o a w post) (k : ∀ v a' w', post v w' → Kd D a' N ((d, v) :: l) → S w' ∧ wpTl P ops S R (marked f rest) a' w')
    (hw : ∀ a, Kd D a N l → Region.wanted o (yielded ops a.tmps) = true := by first | exact fun a K => want_no rfl | exact fun a K => K.yes rfl rfl rfl) (hd : o.dst = some d := by exact rfl) (hN : Nat.blt d N = true := by exact rfl) :
    wpTl P ops S R (marked (1 :: f) (o :: rest)) a w := T_ac K (hw a K) hd hN h k
theorem T_b (K : Kd D a N l) (h : Ac P o a w post) (k : ∀ v a' w', post v w' → Kd D a' N l → wpTl P ops S R (marked f rest) a' w')
    (hw : ∀ a, Kd D a N l → Region.wanted o (yielded ops a.tmps) = true := by first | exact fun a K => want_no rfl | exact fun a K => K.yes rfl rfl rfl) (hd : o.dst = none := by exact rfl) :
    wpTl P ops S R (marked (2 :: f) (o :: rest)) a w := T_a0z K (hw a K) hd h k
end
end Go.Proofs.YtpmnfhifmmfglabDoor

namespace Go.Proofs.YtpmnfhifmmfglabDoor
open Go.RowKit
theorem bs_size (l : List UInt8) : (bs l).size = l.length := by simp [bs, ByteArray.size]
theorem bs_toList (l : List UInt8) : (bs l).toList = l := ByteArray.toList_mk l
theorem bs_append (l m : List UInt8) : bs l ++ bs m = bs (l ++ m) := by
  apply ByteArray.ext
  simp [bs, ByteArray.data_append]
section
variable {P : Program} {base : Nat} {W w : World} {L : List Ent} {S : World → Prop} {D : List Deferred} {a : Act} {N : Nat} {l : List (Nat × Value)} {o : Oper} {x y ix : Operand} {t t' e : TypeId} {m n p q : Int} {k k' : IntKind}
  {xs ys zs : List UInt8} {A : Option Addr} {c : Nat} {ns : List Int}
theorem rd_lenT (ho : o.op = .call { callee := .builtin .len, args := #[x], argTypes := #[t] }) (h : P.underlying t = some .string) (K : Kd D a N l) (hx : evo l x = some (.string (bs xs))) : Rd P S a o (.int .i64 xs.length) := by
  have := rd_lenS (P := P) (S := S) ho h K hx
  rw [bs_size] at this
  exact this
theorem rd_ixT (ho : o.op = .index t x ix) (ht : P.underlying t = some .string) (K : Kd D a N l) (hx : evo l x = some (.string (bs xs))) (hi : evo l ix = some (.int k n)) {b : UInt8} (he : idx xs n = some b) : Rd P S a o (.int .u8 (b.toNat : Int)) :=
  rd_ixS ho ht K hx hi he
theorem rd_addS (ho : o.op = .binOp .add t x y t') (K : Kd D a N l) (hx : evo l x = some (.string (bs xs))) (hy : evo l y = some (.string (bs ys))) (hz : addS xs ys = some zs) : Rd P S a o (.string (bs zs)) := by
  obtain ⟨rfl, h⟩ := addS_spec hz
  refine rd_bin ho K hx hy fun w => ?_
  have h1 := bs_size xs
  have h2 := bs_size ys
  simp [eqGuard, binOp_string_add, Op.stringOp, bs_append]
  omega
theorem rd_eqlS (ho : o.op = .binOp .eql t x y t') (K : Kd D a N l) (hx : evo l x = some (.string (bs xs))) (hy : evo l y = some (.string (bs ys))) : Rd P S a o (.bool (decide (xs = ys))) :=
  rd_bin ho K hx hy fun w => by
    have e : (xs == ys) = decide (xs = ys) := by rw [Bool.eq_iff_iff]; simp
    rw [Sem.run_bind]; simp [eqGuard, binOp_string_eql, bs_toList, e]
theorem rd_neqS (ho : o.op = .binOp .neq t x y t') (K : Kd D a N l) (hx : evo l x = some (.string (bs xs))) (hy : evo l y = some (.string (bs ys))) : Rd P S a o (.bool (!decide (xs = ys))) :=
  rd_bin ho K hx hy fun w => by
    have e : (xs == ys) = decide (xs = ys) := by rw [Bool.eq_iff_iff]; simp
    rw [Sem.run_bind]; simp [eqGuard, binOp_string_neq, bs_toList, e]
theorem rd_convBS {b : Nat} (ho : o.op = .convert t t' x) (ht : slT P t e 1 b = true) (he : P.underlying e = some (.int .u8)) (hd : P.underlying t' = some .string) (K : Kd D a N l) (hx : evo l x = some (.slice A ns.length c)) (hb : ∀ w, S w → SL w (cI .u8) A ns) : Rd P S a o (.string (bs (toB ns))) := fun w hS => by
  obtain ⟨hu, _⟩ := slT_spec ht
  unfold execOp
  simp only [ho, K.ev hx]
  have key : (convert t t' (.slice A ns.length c)).run P w = .ok (.string (bs (toB ns))) w := by
    by_cases h0 : 0 < ns.length
    · obtain ⟨b, off, rfl, hc⟩ := hb w hS h0
      refine run_convert_bytes_arg w t e hu he b off ns.length c ns rfl (fun i hi => ?_) t' hd
      refine hc i _ ?_
      have := Cod.all_get (cI .u8) ns i 0 ns[i] (.int .u8 ns[i]) (List.getElem?_eq_getElem hi) rfl
      rw [List.getD_eq_getElem?_getD, List.getElem?_eq_getElem hi]
      have h1 : (cI .u8).size = 1 := rfl
      rw [h1, Nat.mul_one, Nat.add_zero] at this
      exact this
    · have hn : ns = [] := List.eq_nil_of_length_eq_zero (by omega)
      subst hn
      cases A with
      | none => exact run_convert_bytes_nil w t e hu he _ _ t' hd
      | some ad =>
        rw [run_convert_bytes_string w t t' e (some ad) _ c hu he hd]
        exact run_bytesToString w ad 0 c [] (run_loadCells_list (P := P) w ad [] (fun j v hj => by simp at hj))
  simp [key]
theorem ac_convBS {b : Nat} (ho : o.op = .convert t t' x) (ht : slT P t e 1 b = true) (he : P.underlying e = some (.int .u8)) (hd : P.underlying t' = some .string) (K : Kd D a N l) (hx : evo l x = some (.slice A ns.length c)) (M : Mem base W w L) (R : SL w (cI .u8) A ns) :
    Ac P o a w fun v w' => v = .string (bs (toB ns)) ∧ Mem base W w' L :=
  ac_val (rd_convBS (S := fun w' => w' = w) ho ht he hd K hx (fun w' hw => hw ▸ R) w rfl) ⟨rfl, M⟩
theorem rd_sliceS {lo hi : Option Operand} (ho : o.op = .slice t x lo hi none) (ht : P.underlying t = some .string) (K : Kd D a N l) (hx : evo l x = some (.string (bs xs)))
    (hlo : (match lo with | some z => evo l z = some (.int k p) | none => p = 0)) (hhi : (match hi with | some z => evo l z = some (.int k' q) | none => q = xs.length)) (hy : sli xs p q = some ys) : Rd P S a o (.string (bs ys)) := fun w _ => by
  obtain ⟨h0, h1, h2, rfl⟩ := sli_spec hy
  have hs : ((bs xs).size : Int) = xs.length := by rw [bs_size]
  have hex : (bs xs).extract p.toNat q.toNat = bs ((xs.take q.toNat).drop p.toNat) := by
    rw [show bs xs = ByteArray.mk xs.toArray from rfl, ByteArray.extract_mk, List.drop_take]; rfl
  have hS : ∀ a b c, (Instr.sliceAt t (.string (bs xs)) a b c).run P w = (Instr.slice t (.string (bs xs)) a b c).run P w := fun a b c => by rw [run_sliceAt_string w t _ a b c ht]
  unfold execOp
  cases lo with
  | none =>
    simp only at hlo; subst hlo
    cases hi with
    | none =>
      simp only at hhi; subst hhi
      have := run_slice_string_all (P := P) w t (bs xs) ht
      rw [bs_size] at this
      rw [Int.toNat_zero, Int.toNat_natCast] at hex
      rw [hex] at this
      simp only [ho, K.ev hx, Sem.run_bind, Option.map, hS, this]
      simp
    | some z =>
      simp only at hhi
      have := run_slice_string_to_if (P := P) w t (bs xs) k' q ht
      rw [if_pos ⟨by omega, by omega⟩] at this
      rw [Int.toNat_zero] at hex
      rw [hex] at this
      simp only [ho, K.ev hx, K.ev hhi, Sem.run_bind, Option.map, hS, this]
      simp
  | some z =>
    simp only at hlo
    cases hi with
    | none =>
      simp only at hhi; subst hhi
      have := run_slice_string_from_if (P := P) w t (bs xs) k p ht
      rw [if_pos ⟨by omega, by omega⟩, bs_size] at this
      rw [Int.toNat_natCast] at hex
      rw [hex] at this
      simp only [ho, K.ev hx, K.ev hlo, Sem.run_bind, Option.map, hS, this]
      simp
    | some z2 =>
      simp only at hhi
      have := run_slice_string (P := P) w t (bs xs) k k' p q ht h0 h1 (by omega)
      rw [hex] at this
      simp only [ho, K.ev hx, K.ev hlo, K.ev hhi, Sem.run_bind, Option.map, hS, this]
      simp
theorem ofB_cells (s : List UInt8) : Lib.strCells (bs s) = (cI .u8).all (ofB s) := by
  show s.map (fun b => Value.int .u8 b.toNat) = _
  induction s with
  | nil => rfl
  | cons x s ih =>
    show _ = (cI .u8).enc (x.toNat : Int) ++ (cI .u8).all (ofB s)
    rw [List.map_cons, ih]; rfl
theorem ofB_len (s : List UInt8) : (ofB s).length = s.length := by simp [ofB]
theorem app_place {i : TypeInfo} {v v' : Value} {n : Nat} {vs : List Value} {w' : World} (s : ByteArray) (ht : P.underlying t = some (.slice e)) (hu : P.underlying t' = some .string) (hi : P.info? e = some i) (hz : i.zero = some (.int .u8 0)) (hsize : i.size = 1) (hby : i.bytes = 1)
    (hown : w.ownsRow 0 e 1 v n vs) (hb : n + s.size ≤ 140737488355328) (ty : TypeId) (hr : (Builtin.append_ #[t, t'] ty #[v, .string s]).run P w = .ok v' w') (h0 : v ≠ .slice none 0 0 ∨ 0 < s.size) : v'.ownBlock = v.ownBlock ∨ v'.ownBlock = some w.heap.size := by
  have hxl : vs.length = n := by simpa using hown.1
  rcases hown.2 with ⟨rfl, rfl⟩ | ⟨g, cap, cur, rfl, hbg, hg, hnc, hcm, hcs, htake⟩
  · have hm : 0 < s.size := by
      rcases h0 with h0 | h0
      · exact absurd rfl h0
      · exact h0
    have := run_append_nil_string (P := P) w t t' ty e i (.int .u8 0) ht hu hi hz s (by omega) (by omega) (by rw [hby]; omega)
    rw [hr] at this
    injection this with h1 _
    right; rw [h1]; rfl
  · by_cases hroom : n + s.size ≤ cap
    · have := Lib.run_append_room_string (P := P) w t t' ty e i ht hu hi hsize g n cap cur hg s hroom (by omega)
      rw [hr] at this
      injection this with h1 _
      left; rw [h1]; rfl
    · have holds : ∀ j u, vs[j]? = some u → w.cell? ((⟨g, 0, none⟩ : Addr).add j) = some u := hown.cells (g := g) rfl
      have := Lib.run_append_grow_string (P := P) w t t' ty e i (.int .u8 0) ht hu hi hz ⟨g, 0, none⟩ n cap vs (by rw [hsize]; simpa using hxl) holds s (by omega) (by omega) (by rw [hby]; exact growslice_fits (by omega) (by omega))
      rw [hr] at this
      injection this with h1 _
      right; rw [h1]; rfl
theorem ac_appS {zs : List Int} (ho : o.op = .call { callee := .builtin .append, args := #[x, y], argTypes := #[t, t'] }) (ht : slT P t e 1 1 = true) (hu : P.underlying t' = some .string) (hz : (P.info? e).bind (·.zero) = some (.int .u8 0)) (K : Kd D a N l)
    (hx : evo l x = some (.slice A ns.length c)) (hy : evo l y = some (.string (bs ys))) (i : Nat) (M : Mem base W w L) (hi : L[i]? = some (.row e 1 A ns.length c ((cI .u8).all ns))) (hlen : app 1 ns (ofB ys) = some zs) :
    Ac P o a w fun v w' => ∃ A' c'', v = .slice A' zs.length c'' ∧ Mem base W w' (L.set i (.row e 1 A' zs.length c'' ((cI .u8).all zs))) := by
  obtain ⟨rfl, hbytes⟩ := app_spec hlen
  rw [ofB_len] at hbytes
  obtain ⟨hsl, inf, hinf, hsz, hby⟩ := slT_spec ht
  have hzz : inf.zero = some (.int .u8 0) := by rw [hinf] at hz; exact hz
  have hown := M.has i _ hi
  have hsize : (bs ys).size = ys.length := bs_size ys
  have hb2 : ns.length + (bs ys).size ≤ 140737488355328 := by rw [hsize]; omega
  obtain ⟨v', w', hr, h2, h3, h4⟩ := Lib.run_append_own_string (P := P) w 0 t t' o.type e inf hsl hu hinf hzz hsz hby (.slice A ns.length c) ns.length ((cI .u8).all ns) hown (bs ys) (by simp only [maxLen]; omega) hb2 (Nat.zero_le _)
  rw [ofB_cells, hsize, ← Cod.all_append] at h2
  by_cases h0 : (Value.slice A ns.length c) = .slice none 0 0 ∧ ys = []
  · obtain ⟨h00, rfl⟩ := h0
    injection h00 with e1 e2 e3
    subst e1 e3
    have hns : ns = [] := List.eq_nil_of_length_eq_zero e2
    subst hns
    have hr2 : (Builtin.append_ #[t, t'] o.type #[.slice none ([] : List Int).length 0, .string (bs [])]).run P w = .ok (.slice none 0 0) w := by
      have hf := Lib.run_firstCells_string (P := P) w 1 (bs [])
      have hm : (bs []).size = 0 := rfl
      rw [hm] at hf
      simp [Builtin.append_, run_underlying hsl, run_underlying hu, sizeOf, typeInfo, hinf, hsz, Builtin.lenOf, hm, hf]
    refine ac_val (v := .slice none 0 0) (w' := w) ?_ ⟨none, 0, rfl, ?_⟩
    · unfold execOp
      simp only [ho, resolve, invoke, builtin, Sem.run_bind, Sem.run_pure, Result.andThen_ok, List.map_toArray, List.map_cons, List.map_nil, K.ev hx, K.ev hy]
      rw [hr2]; rfl
    · have : L.set i (.row e 1 none (([] : List Int) ++ ofB []).length 0 ((cI .u8).all ([] ++ ofB []))) = L := by
        obtain ⟨hlt, he⟩ := List.getElem?_eq_some_iff.1 hi
        exact he ▸ List.set_getElem_self hlt
      rw [this]; exact M
  have hne : (Value.slice A ns.length c) ≠ .slice none 0 0 ∨ 0 < (bs ys).size := by
    by_cases hy0 : ys = []
    · left; exact fun e => h0 ⟨e, hy0⟩
    · right; rw [hsize]; exact List.length_pos_iff.2 hy0
  have hpl := app_place (bs ys) hsl hu hinf hzz hsz hby hown hb2 o.type hr hne
  have hv' : v' ≠ .slice none 0 0 := fun e => by
    obtain ⟨q1, q2⟩ := h4.1 e
    rw [hsize] at q2
    exact h0 ⟨q1, List.eq_nil_of_length_eq_zero q2⟩
  rcases h2.2 with ⟨e1, _⟩ | ⟨g, cap, cur, rfl, _⟩
  · exact absurd e1 hv'
  refine ac_val (v := .slice (some ⟨g, 0, none⟩) (ns.length + ys.length) cap) (w' := w') ?_ ⟨some ⟨g, 0, none⟩, cap, by rw [List.length_append, ofB_len], ?_⟩
  · unfold execOp
    simp only [ho, resolve, invoke, builtin, Sem.run_bind, Sem.run_pure, Result.andThen_ok, List.map_toArray, List.map_cons, List.map_nil, K.ev hx, K.ev hy]
    rw [hr]; rfl
  · have h3' : w.grownBy w' (A.map (·.block)) := by
      cases A with
      | none => exact h3
      | some ad => exact h3
    rw [List.length_append, ofB_len]
    refine M.grown i hi h3' h2 ?_
    rcases hpl with hpl | hpl
    · left
      cases A with
      | none => simp [Value.ownBlock] at hpl
      | some ad => simpa [Value.ownBlock] using hpl.symm
    · right
      simp [Value.ownBlock] at hpl
      omega
end
end Go.Proofs.YtpmnfhifmmfglabDoor

namespace Go.Proofs.YtpmnfhifmmfglabDoor
open Go.RowKit Go.WideMaps
section
variable {P : Program} {base : Nat} {W w : World} {L : List Ent} {S : World → Prop} {D : List Deferred} {a : Act} {N : Nat} {l : List (Nat × Value)} {o : Oper} {x y z : Operand} {t k e T : TypeId} {g n c : Nat} {A : Option Addr}
  {m m' : List (List UInt8 × Int)} {s : List UInt8} {r : Int × Bool} {v : Int}
theorem Mem.swap {e e' : Ent} (M : Mem base W w L) (i : Nat) (hi : L[i]? = some e) (h : Ent.holds w e') (hf : e'.foot = e.foot) : Mem base W w (L.set i e') :=
  M.turn0 i hi (Below.refl _ _) h (fun _ _ _ => rfl) (fun g hg => .inl (hf ▸ hg)) M.oth
theorem Mem.asBld (e : TypeId) (M : Mem base W w (.blk g T [.pointer none, .slice none 0 0] :: L)) : Mem base W w (.row e 1 none ([] : List UInt8).length 0 ((cI .u8).all (ofB ([] : List UInt8))) :: .bld g T none ([] : List UInt8).length 0 :: L) :=
  Mem.nilrow e 1 (cI .u8) (M.swap 0 rfl (show Ent.holds w (.bld g T none 0 0) from ⟨none, .inl rfl, M.has 0 _ rfl⟩) rfl)
theorem Mem.unBld (M : Mem base W w L) (i : Nat) (hi : L[i]? = some (.blk g T [.pointer (some ⟨g, 0, none⟩), .slice A n c])) : Mem base W w (L.set i (.bld g T A n c)) :=
  M.swap i hi (show Ent.holds w (.bld g T A n c) from ⟨_, .inr rfl, M.has i _ hi⟩) rfl
theorem Mem.builder {b : List UInt8} (M : Mem base W w (.bld g T A b.length c :: .row e 1 A b.length c ((cI .u8).all (ofB b)) :: L)) : Lib.IsBuilder T e base g (Lib.byteCells b) w := by
  obtain ⟨p, hp, hb⟩ := M.has 0 _ rfl
  have hrow : w.ownsRow 0 e 1 (.slice A b.length c) b.length ((cI .u8).all (ofB b)) := M.has 1 _ rfl
  rw [← ofB_cells] at hrow
  have hup := M.up 0 _ g rfl rfl
  have hat : Lib.BuilderAt T e base g (.pointer p) (Lib.byteCells b) w := by
    refine ⟨hup, .slice A b.length c, hb, ?_, ?_⟩
    · rw [Lib.byteCells_length]
      obtain ⟨h1, h2⟩ := hrow
      refine ⟨h1, ?_⟩
      rcases h2 with h2 | ⟨g', cap, cur, q1, q2, q3⟩
      · exact .inl h2
      · refine .inr ⟨g', cap, cur, q1, ?_, q3⟩
        injection q1 with q1 _ _
        exact M.up 1 _ g' rfl (by simp [Ent.foot, q1])
    · intro h
      cases A with
      | none => simp [Value.ownBlock] at h
      | some ad =>
        have h' : ad.block = g := by simpa [Value.ownBlock] using h
        have := M.one 0 1 _ _ g rfl rfl rfl (by simp [Ent.foot, h'])
        omega
  rcases hp with rfl | rfl
  · exact .inl hat
  · exact .inr hat
theorem rd_ixP {α : Type} {C : Cod α} {xs : List α} {el : α} {b s' : Nat} {i : Int} {kk : IntKind} {w' : World} (ho : o.op = .indexAddr t x y) (ht : slT P t e s' b = true) (K : Kd D a N l) (hx : evo l x = some (.slice A xs.length c)) (hi : evo l y = some (.int kk i)) (hb : SL w' C A xs) (he : idx xs i = some el) : Rd P S a o (.pointer (some ((adr A).add (i.toNat * s')))) := fun w hS => by
  obtain ⟨hu, inf, hinf, hs, _⟩ := slT_spec ht
  obtain ⟨h0, hlt, hel⟩ := idx_spec he
  obtain ⟨b', o', hA, hc⟩ := hb (by omega)
  have h1 : i < xs.length := by omega
  unfold execOp
  subst hA
  simp [ho, K.ev hx, K.ev hi, Instr.indexAt, asIntOf, run_underlying hu, sizeOf, typeInfo, hinf, hs, h0, h1, adr]
theorem R_rdA {ops : Array Oper} {f : List Nat} {d cc n' : Nat} {u : Value} {R : Act → World → Prop} {rem : List Nat} (rem' : List Nat) (hc : (rem.erase cc == rem') = true) (ho : ops[cc]? = some o) (K : Kd D a N l) (hw : Region.wanted o (yielded ops a.tmps) = true) (hd : o.dst = some d) (hN : Nat.blt d N = true)
    (hr : Rd P (fun w => Mem base W w L) a o u) (M : Mem base W w L) (k : ∀ a', Kd D a' N ((d, u) :: l) → (needOf f cc = true → S w) ∧ wpTr P ops S (robOf f) (needOf f) R n' rem' a' w) :
    wpOp P ops NoOut cc (fun a' w' => (needOf f cc = true → S w') ∧ wpTr P ops S (robOf f) (needOf f) R n' (rem.erase cc) a' w') a w :=
  R_ac rem' hc ho K hw hd hN (post := fun v' w' => v' = u ∧ w' = w) (ac_val (hr w M) ⟨rfl, rfl⟩) fun v' a' w' hp K' => by obtain ⟨rfl, rfl⟩ := hp; exact k a' K'
theorem inS (i : Nat) (h : L[i]? = some (.smp P k e g m)) : ∀ w, Mem base W w L → SMap P k e w g m := fun _ M => M.has i _ h
theorem SMap.new (w : World) : SMap P k e (w.alloc (.map #[] 0)) w.heap.size [] := ⟨.map [], World.ownsMap_made w P k _, fun s => ⟨rfl, fun z => rfl⟩⟩
theorem ac_makeMap (ho : o.op = .makeMap t none) (k e : TypeId) (M : Mem base W w L) : Ac P o a w fun v w' => ∃ g, v = .map (some g) ∧ Mem base W w' (.smp P k e g [] :: L) := by
  refine ac_val (v := .map (some w.heap.size)) (w' := w.alloc (.map #[] 0)) ?_ ⟨_, rfl, ?_⟩
  · unfold execOp
    simp [ho, run_makeMap_plain]
  · refine (M.below ((Below.refl _ _).alloc (Nat.le_refl _) _)).cons (show Ent.holds _ (.smp P k e w.heap.size []) from SMap.new w) fun g hg => ?_
    simp [Ent.foot] at hg
    subst hg
    exact ⟨M.sz, fun i e' h he => by have := M.feet i e' _ h he; omega⟩
theorem rd_look (ho : o.op = .lookup t x y true) (ht : P.underlying t = some (.map k e)) (hk : P.underlying k = some .string) (he : P.underlying e = some (.int .i64)) (hz : (P.info? e).bind (·.zero) = some (.int .i64 0)) (K : Kd D a N l)
    (hx : evo l x = some (.map (some g))) (hy : evo l y = some (.string (bs s))) (hM : ∀ w, S w → SMap P k e w g m) (hl : mlook m s = some r) : Rd P S a o (.tuple #[.int .i64 r.1, .bool r.2]) := fun w hS => by
  obtain ⟨rfl, hs⟩ := mlook_spec hl
  obtain ⟨D, hown, hD⟩ := hM w hS
  have hz : ∀ w, (zeroValue e).run P w = .ok (.int .i64 0) w := fun w => by
    simp only [Option.bind_eq_some_iff] at hz
    obtain ⟨inf, hinf, hz0⟩ := hz
    simp [zeroValue, typeInfo, hinf, hz0]
  have hkey : keyOf P k (.string (bs s)) = some (.string s) := keyOf_string_mk hk (by rw [bs_size]; unfold maxLen; omega)
  obtain ⟨v, ps, hrun, hv⟩ := hown.look_ok (Maps.string_keyed hk) ht (hz w) (plainElem_int he (by decide)) hkey
  obtain ⟨c, rfl, hc, _⟩ := plainElem_int_inv he hv
  obtain ⟨h1, h2⟩ := hD s
  simp only [Prod.mk.injEq] at hc
  have hcc : c = (mget m s).getD 0 := by
    have h3 := h2 (.lit (.int .i64 0))
    rw [hc.1] at h3
    cases hm : mget m s with
    | none => rw [hm] at h3; simp at h3; simp [h3]
    | some q => rw [hm] at h3; simp at h3; simp [h3]
  subst hcc
  rw [h1] at hrun
  unfold execOp
  simp [ho, K.ev hx, K.ev hy, hrun]
theorem ac_mapSet (ho : o.op = .mapUpdate t x y z) (ht : P.underlying t = some (.map k e)) (hk : P.underlying k = some .string) (he : P.underlying e = some (.int .i64)) (K : Kd D a N l)
    (hx : evo l x = some (.map (some g))) (hy : evo l y = some (.string (bs s))) (hv : evo l z = some (.int .i64 v)) (i : Nat) (M : Mem W.heap.size W w L) (hi : L[i]? = some (.smp P k e g m)) (hp : mput m s v = some m') :
    Ac P o a w fun _ w' => Mem W.heap.size W w' (L.set i (.smp P k e g m')) := by
  obtain ⟨rfl, h1, h2, h3, h4⟩ := mput_spec hp
  obtain ⟨D, hown, hD⟩ := M.has i _ hi
  have hkey : keyOf P k (.string (bs s)) = some (.string s) := keyOf_string_mk hk (by rw [bs_size]; unfold maxLen; omega)
  obtain ⟨w', hrun, hown', hg⟩ := hown.update (Maps.string_keyed hk) ht (by unfold maxLen; omega) hkey (plainElem_int he (WalkArith.wf_i64 ⟨h3, h4⟩))
  refine ac_skip (w' := w') ?_ (M.turnS rfl i hi ((Below.refl _ w).grown hg M.sz fun k hk => M.up i _ k hi (by cases hk; rfl)) (show Ent.holds w' (.smp P k e g ((s, v) :: m)) from ⟨_, hown', fun s' => ?_⟩) (fun j hj hne => hg.block j hj fun h => hne (by cases h; rfl)) (fun g' hg' => .inl hg'))
  · unfold execOp
    simp [ho, K.ev hx, K.ev hy, K.ev hv, hrun]
  · have hkl : WideAt.IsKeyLit (.string s) := trivial
    by_cases hs : s = s'
    · subst hs
      refine ⟨?_, fun z => ?_⟩
      · rw [Maps.has_put_same hown.isMap hkl]; simp [mget]
      · rw [Maps.atKey_put_same hown.isMap hkl]; simp [mget]
    · have hne : (Lit.string s' : Lit) ≠ .string s := fun h => hs (by injection h with h; exact h.symm)
      obtain ⟨q1, q2⟩ := hD s'
      refine ⟨?_, fun z => ?_⟩
      · rw [Maps.has_put_other hne, q1]; simp [mget, hs]
      · rw [Maps.atKey_put_other hne, q2]; simp [mget, hs]
end
end Go.Proofs.YtpmnfhifmmfglabDoor

namespace Go.Proofs.YtpmnfhifmmfglabDoor
open Go.RowKit
theorem z2 : zeroT Tryd.prog 2 = some [.int .i64 0] := by kernel_rfl
theorem sc3 : scT Tryd.prog 3 = true := by kernel_rfl
theorem z3 : zeroT Tryd.prog 3 = some [.int .i64 0] := by kernel_rfl
theorem zi3 : (Tryd.prog.info? 3).bind (·.zero) = some (.int .i64 0) := by kernel_rfl
theorem ik3 : Tryd.prog.underlying 3 = some (.int .i64) := by kernel_rfl
theorem sz3 : (Tryd.prog.info? 3).map (·.size) = some 1 := by kernel_rfl
theorem z4 : zeroT Tryd.prog 4 = some [.bool false] := by kernel_rfl
theorem sc5 : scT Tryd.prog 5 = true := by kernel_rfl
theorem z5 : zeroT Tryd.prog 5 = some [.int .u8 0] := by kernel_rfl
theorem ik5 : Tryd.prog.underlying 5 = some (.int .u8) := by kernel_rfl
theorem zu5 : (Tryd.prog.info? 5).bind (·.zero) = some (.int .u8 0) := by kernel_rfl
theorem sz5 : (Tryd.prog.info? 5).map (·.size) = some 1 := by kernel_rfl
theorem sc9 : scT Tryd.prog 9 = true := by kernel_rfl
theorem z9 : zeroT Tryd.prog 9 = some [.string (bs ([] : List UInt8))] := by kernel_rfl
theorem st9 : Tryd.prog.underlying 9 = some .string := by kernel_rfl
theorem sz9 : (Tryd.prog.info? 9).map (·.size) = some 1 := by kernel_rfl
theorem z20 : zeroT Tryd.prog 20 = some [.nilIface] := by kernel_rfl
theorem z21 : zeroT Tryd.prog 21 = some [.int .i32 0] := by kernel_rfl
theorem sc35 : scT Tryd.prog 35 = true := by kernel_rfl
theorem sl35 : slT Tryd.prog 35 3 1 8 = true := by kernel_rfl
theorem un35 : ∃ e, Tryd.prog.underlying 35 = some (.slice e) := ⟨_, (slT_spec sl35).1⟩
theorem z37 : zeroT Tryd.prog 37 = some [.nilFunc] := by kernel_rfl
theorem sl43 : slT Tryd.prog 43 9 1 16 = true := by kernel_rfl
theorem un43 : ∃ e, Tryd.prog.underlying 43 = some (.slice e) := ⟨_, (slT_spec sl43).1⟩
theorem z46 : zeroT Tryd.prog 46 = some [.nilFunc] := by kernel_rfl
theorem sc50 : scT Tryd.prog 50 = true := by kernel_rfl
theorem sl50 : slT Tryd.prog 50 5 1 1 = true := by kernel_rfl
theorem un50 : ∃ e, Tryd.prog.underlying 50 = some (.slice e) := ⟨_, (slT_spec sl50).1⟩
theorem z51 : zeroT Tryd.prog 51 = some [.int .u64 0] := by kernel_rfl
theorem mp72 : Tryd.prog.underlying 72 = some (.map 9 3) := by kernel_rfl
theorem z75 : zeroT Tryd.prog 75 = some [.nilFunc] := by kernel_rfl
theorem z105 : zeroT Tryd.prog 105 = some [] := by kernel_rfl
theorem fok7 : FnOK Tryd.prog 7 = true := by kernel_rfl
theorem fok12 : FnOK Tryd.prog 12 = true := by kernel_rfl
theorem fok14 : FnOK Tryd.prog 14 = true := by kernel_rfl
theorem fok23 : FnOK Tryd.prog 23 = true := by kernel_rfl
theorem fok24 : FnOK Tryd.prog 24 = true := by kernel_rfl
theorem fok25 : FnOK Tryd.prog 25 = true := by kernel_rfl
theorem fok26 : FnOK Tryd.prog 26 = true := by kernel_rfl
theorem fok27 : FnOK Tryd.prog 27 = true := by kernel_rfl
theorem fok28 : FnOK Tryd.prog 28 = true := by kernel_rfl
theorem fok29 : FnOK Tryd.prog 29 = true := by kernel_rfl
theorem fok30 : FnOK Tryd.prog 30 = true := by kernel_rfl
theorem fok31 : FnOK Tryd.prog 31 = true := by kernel_rfl
theorem fok32 : FnOK Tryd.prog 32 = true := by kernel_rfl
theorem fok33 : FnOK Tryd.prog 33 = true := by kernel_rfl
theorem fok34 : FnOK Tryd.prog 34 = true := by kernel_rfl
theorem fok36 : FnOK Tryd.prog 36 = true := by kernel_rfl
theorem fok37 : FnOK Tryd.prog 37 = true := by kernel_rfl
theorem fok38 : FnOK Tryd.prog 38 = true := by kernel_rfl
theorem fok39 : FnOK Tryd.prog 39 = true := by kernel_rfl
theorem fok40 : FnOK Tryd.prog 40 = true := by kernel_rfl
theorem fok41 : FnOK Tryd.prog 41 = true := by kernel_rfl
theorem fok42 : FnOK Tryd.prog 42 = true := by kernel_rfl
theorem fok43 : FnOK Tryd.prog 43 = true := by kernel_rfl
theorem fok44 : FnOK Tryd.prog 44 = true := by kernel_rfl
theorem fok45 : FnOK Tryd.prog 45 = true := by kernel_rfl
theorem fok46 : FnOK Tryd.prog 46 = true := by kernel_rfl
theorem fok47 : FnOK Tryd.prog 47 = true := by kernel_rfl
theorem fok59 : FnOK Tryd.prog 59 = true := by kernel_rfl
end Go.Proofs.YtpmnfhifmmfglabDoor

namespace Go.Proofs.YtpmnfhifmmfglabDoor
open Go.Shelf Go.RowKit
def lays160_ren : Go.Shelf.Ren := ⟨fun | 160 => 42 | 232 => 49 | 231 => 48 | 227 => 50 | 234 => 52 | 233 => 51 | 236 => 54 | 235 => 53 | 228 => 61 | 271 => 64 | 151 => 63 | 197 => 62 | 120 => 69 | 152 => 68 | 260 => 67 | 137 => 75 | 119 => 76 | 224 => 72 | 225 => 71 | 217 => 70 | 266 => 77 | n => n, fun | 9 => 9 | 4 => 4 | 3 => 3 | 5 => 5 | 117 => 78 | 116 => 77 | 0 => 0 | 124 => 81 | 21 => 21 | 105 => 88 | 46 => 51 | 119 => 93 | 139 => 96 | 138 => 95 | n => n, fun | 3 => 1 | 4 => 2 | n => n⟩
theorem lays160 : Go.Proofs.Lays.n160 Tryd.prog lays160_ren := {
  mixed := by kernel_rfl
  f119 := Tryd.func76.trans (congrArg some (by kernel_rfl))
  f120 := Tryd.func69.trans (congrArg some (by kernel_rfl))
  f137 := Tryd.func75.trans (congrArg some (by kernel_rfl))
  f151 := Tryd.func63.trans (congrArg some (by kernel_rfl))
  f152 := Tryd.func68.trans (congrArg some (by kernel_rfl))
  f160 := Tryd.func42.trans (congrArg some (by kernel_rfl))
  f197 := Tryd.func62.trans (congrArg some (by kernel_rfl))
  f217 := Tryd.func70.trans (congrArg some (by kernel_rfl))
  f224 := Tryd.func72.trans (congrArg some (by kernel_rfl))
  f225 := Tryd.func71.trans (congrArg some (by kernel_rfl))
  f227 := Tryd.func50.trans (congrArg some (by kernel_rfl))
  f228 := Tryd.func61.trans (congrArg some (by kernel_rfl))
  f231 := Tryd.func48.trans (congrArg some (by kernel_rfl))
  f232 := Tryd.func49.trans (congrArg some (by kernel_rfl))
  f233 := Tryd.func51.trans (congrArg some (by kernel_rfl))
  f234 := Tryd.func52.trans (congrArg some (by kernel_rfl))
  f235 := Tryd.func53.trans (congrArg some (by kernel_rfl))
  f236 := Tryd.func54.trans (congrArg some (by kernel_rfl))
  f260 := Tryd.func67.trans (congrArg some (by kernel_rfl))
  f266 := Tryd.func77.trans (congrArg some (by kernel_rfl))
  f271 := Tryd.func64.trans (congrArg some (by kernel_rfl))
  t0 := Tryd.underlying0
  a0 := Tryd.isAgg0
  z0 := Tryd.sizeOf0
  v0 := Tryd.zeroValue0
  t3 := Tryd.underlying3
  a3 := Tryd.isAgg3
  z3 := Tryd.sizeOf3
  v3 := Tryd.zeroValue3
  t4 := Tryd.underlying4
  a4 := Tryd.isAgg4
  z4 := Tryd.sizeOf4
  v4 := Tryd.zeroValue4
  t5 := Tryd.underlying5
  a5 := Tryd.isAgg5
  z5 := Tryd.sizeOf5
  v5 := Tryd.zeroValue5
  t9 := Tryd.underlying9
  a9 := Tryd.isAgg9
  z9 := Tryd.sizeOf9
  v9 := Tryd.zeroValue9
  t21 := Tryd.underlying21
  a21 := Tryd.isAgg21
  z21 := Tryd.sizeOf21
  v21 := Tryd.zeroValue21
  t46 := Tryd.underlying51
  a46 := Tryd.isAgg51
  z46 := Tryd.sizeOf51
  v46 := Tryd.zeroValue51
  t105 := Tryd.underlying88
  a105 := Tryd.isAgg88
  z105 := Tryd.sizeOf88
  v105 := Tryd.zeroValue88
  t116 := Tryd.underlying77
  a116 := Tryd.isAgg77
  z116 := Tryd.sizeOf77
  t117 := Tryd.underlying78
  a117 := Tryd.isAgg78
  z117 := Tryd.sizeOf78
  v117 := Tryd.zeroValue78
  t119 := Tryd.underlying93
  a119 := Tryd.isAgg93
  z119 := Tryd.sizeOf93
  t124 := Tryd.underlying81
  a124 := Tryd.isAgg81
  z124 := Tryd.sizeOf81
  v124 := Tryd.zeroValue81
  t138 := Tryd.underlying95
  a138 := Tryd.isAgg95
  z138 := Tryd.sizeOf95
  v138 := Tryd.zeroValue95
  t139 := Tryd.underlying96
  a139 := Tryd.isAgg96
  z139 := Tryd.sizeOf96
  v139 := Tryd.zeroValue96
  g3 := by kernel_rfl
  g4 := by kernel_rfl }
def lays138_ren : Go.Shelf.Ren := ⟨fun | 138 => 43 | 195 => 55 | 218 => 56 | 143 => 57 | 219 => 65 | 217 => 70 | 225 => 71 | 224 => 72 | 267 => 73 | 266 => 77 | 314 => 78 | n => n, fun | 9 => 9 | 3 => 3 | 4 => 4 | 5 => 5 | 0 => 0 | 46 => 51 | 146 => 99 | 51 => 98 | n => n, fun | 1 => 0 | n => n⟩
theorem lays138 : Go.Proofs.Lays.n138 Tryd.prog lays138_ren := {
  mixed := by kernel_rfl
  f138 := Tryd.func43.trans (congrArg some (by kernel_rfl))
  f143 := Tryd.func57.trans (congrArg some (by kernel_rfl))
  f195 := Tryd.func55.trans (congrArg some (by kernel_rfl))
  f217 := Tryd.func70.trans (congrArg some (by kernel_rfl))
  f218 := Tryd.func56.trans (congrArg some (by kernel_rfl))
  f219 := Tryd.func65.trans (congrArg some (by kernel_rfl))
  f224 := Tryd.func72.trans (congrArg some (by kernel_rfl))
  f225 := Tryd.func71.trans (congrArg some (by kernel_rfl))
  f266 := Tryd.func77.trans (congrArg some (by kernel_rfl))
  f267 := Tryd.func73.trans (congrArg some (by kernel_rfl))
  f314 := Tryd.func78.trans (congrArg some (by kernel_rfl))
  t0 := Tryd.underlying0
  a0 := Tryd.isAgg0
  z0 := Tryd.sizeOf0
  v0 := Tryd.zeroValue0
  t3 := Tryd.underlying3
  a3 := Tryd.isAgg3
  z3 := Tryd.sizeOf3
  v3 := Tryd.zeroValue3
  t4 := Tryd.underlying4
  a4 := Tryd.isAgg4
  z4 := Tryd.sizeOf4
  v4 := Tryd.zeroValue4
  t5 := Tryd.underlying5
  a5 := Tryd.isAgg5
  z5 := Tryd.sizeOf5
  v5 := Tryd.zeroValue5
  t9 := Tryd.underlying9
  a9 := Tryd.isAgg9
  z9 := Tryd.sizeOf9
  v9 := Tryd.zeroValue9
  t46 := Tryd.underlying51
  a46 := Tryd.isAgg51
  z46 := Tryd.sizeOf51
  v46 := Tryd.zeroValue51
  t51 := Tryd.underlying98
  a51 := Tryd.isAgg98
  z51 := Tryd.sizeOf98
  v51 := Tryd.zeroValue98
  t146 := Tryd.underlying99
  a146 := Tryd.isAgg99
  z146 := Tryd.sizeOf99
  v146 := Tryd.zeroValue99
  g1 := by kernel_rfl }
def lays169_ren : Go.Shelf.Ren := ⟨fun | 169 => 34 | n => n, fun | 70 => 53 | 9 => 9 | 0 => 0 | 72 => 55 | 37 => 50 | 127 => 70 | 3 => 3 | 5 => 5 | n => n, fun | n => n⟩
theorem lays169 : Go.Proofs.Lays.n169 Tryd.prog lays169_ren := {
  mixed := by kernel_rfl
  f169 := Tryd.func34.trans (congrArg some (by kernel_rfl))
  t0 := Tryd.underlying0
  a0 := Tryd.isAgg0
  z0 := Tryd.sizeOf0
  v0 := Tryd.zeroValue0
  t3 := Tryd.underlying3
  a3 := Tryd.isAgg3
  z3 := Tryd.sizeOf3
  v3 := Tryd.zeroValue3
  t9 := Tryd.underlying9
  a9 := Tryd.isAgg9
  z9 := Tryd.sizeOf9
  v9 := Tryd.zeroValue9
  t37 := Tryd.underlying50
  a37 := Tryd.isAgg50
  z37 := Tryd.sizeOf50
  v37 := Tryd.zeroValue50
  t70 := Tryd.underlying53
  a70 := Tryd.isAgg53
  z70 := Tryd.sizeOf53
  v70 := Tryd.zeroValue53
  t72 := Tryd.underlying55
  a72 := Tryd.isAgg55
  z72 := Tryd.sizeOf55
  v72 := Tryd.zeroValue55
  t127 := Tryd.underlying70
  a127 := Tryd.isAgg70
  z127 := Tryd.sizeOf70
  v127 := Tryd.zeroValue70 }
def lays166_ren : Go.Shelf.Ren := ⟨fun | 166 => 33 | 240 => 44 | 276 => 58 | 169 => 34 | n => n, fun | 0 => 0 | 3 => 3 | 4 => 4 | 5 => 5 | 9 => 9 | 20 => 20 | 37 => 50 | 70 => 53 | 72 => 55 | 75 => 57 | 80 => 60 | 164 => 83 | 127 => 70 | n => n, fun | n => n⟩
theorem lays166 : Go.Proofs.Lays.n166 Tryd.prog lays166_ren := {
  mixed := by kernel_rfl
  f166 := Tryd.func33.trans (congrArg some (by kernel_rfl))
  f240 := Tryd.func44.trans (congrArg some (by kernel_rfl))
  f276 := Tryd.func58.trans (congrArg some (by kernel_rfl))
  t0 := Tryd.underlying0
  a0 := Tryd.isAgg0
  z0 := Tryd.sizeOf0
  v0 := Tryd.zeroValue0
  t3 := Tryd.underlying3
  a3 := Tryd.isAgg3
  z3 := Tryd.sizeOf3
  v3 := Tryd.zeroValue3
  t4 := Tryd.underlying4
  a4 := Tryd.isAgg4
  z4 := Tryd.sizeOf4
  v4 := Tryd.zeroValue4
  t9 := Tryd.underlying9
  a9 := Tryd.isAgg9
  z9 := Tryd.sizeOf9
  v9 := Tryd.zeroValue9
  t20 := Tryd.underlying20
  a20 := Tryd.isAgg20
  z20 := Tryd.sizeOf20
  v20 := Tryd.zeroValue20
  t37 := Tryd.underlying50
  a37 := Tryd.isAgg50
  z37 := Tryd.sizeOf50
  v37 := Tryd.zeroValue50
  t70 := Tryd.underlying53
  a70 := Tryd.isAgg53
  z70 := Tryd.sizeOf53
  v70 := Tryd.zeroValue53
  t72 := Tryd.underlying55
  a72 := Tryd.isAgg55
  z72 := Tryd.sizeOf55
  v72 := Tryd.zeroValue55
  t75 := Tryd.underlying57
  a75 := Tryd.isAgg57
  z75 := Tryd.sizeOf57
  v75 := Tryd.zeroValue57
  t164 := Tryd.underlying83
  a164 := Tryd.isAgg83
  z164 := Tryd.sizeOf83
  v164 := Tryd.zeroValue83 }
theorem Builder_Extra_166 : Builder.Extra Tryd.prog lays166_ren where
  sizeBuilder := by kernel_rfl
  liesBuilder := by kernel_rfl
  t5 := Tryd.underlying5
  a5 := Tryd.isAgg5
  z5 := Tryd.sizeOf5
  v5 := Tryd.zeroValue5
  infoByte := by kernel_rfl
  cellsByte := by kernel_rfl
  sizeByte := by kernel_rfl
  neB5 := by decide
theorem Builder_Extra_169 : Builder.Extra Tryd.prog lays169_ren where
  sizeBuilder := by kernel_rfl
  liesBuilder := by kernel_rfl
  t5 := Tryd.underlying5
  a5 := Tryd.isAgg5
  z5 := Tryd.sizeOf5
  v5 := Tryd.zeroValue5
  infoByte := by kernel_rfl
  cellsByte := by kernel_rfl
  sizeByte := by kernel_rfl
  neB5 := by decide
theorem Builder_String (B b : Nat) (l : List UInt8) (w : World) (h : Lib.IsBuilder 55 5 B b (Lib.byteCells l) w) (hBw : B ≤ w.heap.size) :
    Calls Tryd.prog 34 #[.pointer (some ⟨b, 0, none⟩)] w fun e w' => e = .returned (.string ⟨l.toArray⟩) ∧ Below B w w' := Any.Builder_String_any lays169 Builder_Extra_169 B b l w h hBw
end Go.Proofs.YtpmnfhifmmfglabDoor

namespace Go.Proofs.YtpmnfhifmmfglabDoor
open Go.RowKit Go.Shelf
theorem W_strings_Trim (N : Nat) (s cutset : List UInt8) (w0 : World) (r : List UInt8) (h : D_strings_Trim N s cutset = some r) :
    Calls Tryd.prog 42 #[.string (bs s), .string (bs cutset)] w0 fun e w' => ∃ v, e = .returned v ∧ v = .string (bs r) ∧ Mem w0.heap.size w0 w' [] := by
  unfold D_strings_Trim at h
  split at h
  · rename_i hc
    cases h
    obtain ⟨h1, h2, h3⟩ := hc
    refine (Any.strings_Trim_laid lays160 (by kernel_rfl) (bs s) (bs cutset) w0 (by rw [bs_size]; exact h1) (by rw [bs_size]; exact h2) (fun j b hb => ?_)).mono ?_
    · exact of_decide_eq_true (List.all_eq_true.1 h3 b (List.mem_of_getElem? hb))
    · rintro e w' ⟨rfl, hb⟩
      exact ⟨_, rfl, rfl, Mem.fin0 hb⟩
  · cases h
theorem W_strings_Count (N : Nat) (s substr : List UInt8) (w0 : World) (r : Int) (h : D_strings_Count N s substr = some r) :
    Calls Tryd.prog 43 #[.string (bs s), .string (bs substr)] w0 fun e w' => ∃ v, e = .returned v ∧ v = .int .i64 r ∧ Mem w0.heap.size w0 w' [] := by
  unfold D_strings_Count at h
  split at h
  · rename_i c
    cases h
    refine (Any.strings_Count_one lays138 (bs s) c w0).mono ?_
    rintro e w' ⟨rfl, rfl⟩
    exact ⟨_, rfl, rfl, Mem.start w'⟩
  · cases h
end Go.Proofs.YtpmnfhifmmfglabDoor

namespace Go.Proofs.YtpmnfhifmmfglabDoor
open Go.RowKit Go.Shelf
section
variable {base : Nat} {W w : World} {L : List Ent} {g c n : Nat} {A : Option Addr} {b d b2 : List UInt8}
theorem W_bld_check (M : Mem base W w (.bld g 55 A n c :: L)) :
    Calls Tryd.prog 44 #[.pointer (some ⟨g, 0, none⟩)] w fun e w' => ∃ v, e = .returned v ∧ Mem base W w' (.blk g 55 [.pointer (some ⟨g, 0, none⟩), .slice A n c] :: L) := by
  obtain ⟨p, hp, hb⟩ := M.has 0 _ rfl
  have hb' : w.heap[g]? = some (.cells #[.pointer p, .slice A n c] 55 (0, 0)) := hb
  have M1 : Mem base W w (.blk g 55 [.pointer p, .slice A n c] :: L) := M.swap 0 rfl hb rfl
  rcases hp with rfl | rfl
  · refine (Any.Builder_copyCheck_fresh { lays166 with } Builder_Extra_166.toX72 g w (M1.cell (i := 0) rfl (k := 0) rfl) (by simp [World.shape?, hb', lays166_ren]) (by simp [World.frozen?, hb'])).mono ?_
    rintro e w' ⟨rfl, rfl⟩
    exact ⟨_, rfl, M1.set 0 rfl 0 _⟩
  · refine (Any.Builder_copyCheck_used { lays166 with } Builder_Extra_166.toX72 g w (M1.cell (i := 0) rfl (k := 0) rfl)).mono ?_
    rintro e w' ⟨rfl, rfl⟩
    exact ⟨_, rfl, M1⟩
set_option maxRecDepth 100000 in
set_option maxHeartbeats 4000000 in
theorem W_bld_write (M : Mem base W w (.bld g 55 A b.length c :: .row 5 1 A b.length c ((cI .u8).all (ofB b)) :: L)) (h : bwr b d = some b2) :
    Calls Tryd.prog 33 #[.pointer (some ⟨g, 0, none⟩), .string (bs d)] w fun e w' => ∃ v, e = .returned v ∧ ∃ A' c', Mem base W w' (.bld g 55 A' b2.length c' :: .row 5 1 A' b2.length c' ((cI .u8).all (ofB b2)) :: L) := by
  obtain ⟨rfl, hl⟩ := bwr_spec h
  have happ : app 1 (ofB b) (ofB d) = some (ofB b ++ ofB d) := by
    unfold app
    rw [if_pos (by rw [ofB_len, ofB_len]; omega)]
  replace M : Mem base W w (.bld g 55 A (ofB b).length c :: .row 5 1 A (ofB b).length c ((cI .u8).all (ofB b)) :: L) := by rw [ofB_len]; exact M
  refine X_enter Tryd.func33 rfl Tryd.ntmps33 rfl ?_
  intro a K
  have K : Kn a 19 [(0, .pointer (some ⟨g, 0, none⟩)), (1, .string (bs d))] := K
  refine wp_seq (X_reg ?_)
  refine X_o K M ?_; clear K
  refine Y_o M ?_; intro a K
  refine wpList_nil (then_n (wp_seq (X_reg ?_)))
  refine X_o K M ?_; clear K; intro a K
  refine X_a K (ac_call (vs := [.pointer (some ⟨g, 0, none⟩)]) (cap := []) rfl fok44 K rfl rfl (W_bld_check M)) ?_
  clear K M; rintro _ a w M K
  refine wpList_nil (then_n (wp_seq (X_reg ?_)))
  refine X_o K M ?_; clear K
  refine Y_o M ?_
  refine Y_o M ?_
  refine Y_r (fun _ K => rd_field rfl (show fldT Tryd.prog 55 1 = some 1 by kernel_rfl) K rfl) M ?_
  refine Y_r (fun _ K => rd_ldC rfl sc50 K rfl (inM 0 rfl) rfl) M ?_
  refine Y_o M ?_; intro a K
  refine X_a K (ac_appS rfl sl50 st9 zu5 K rfl rfl 1 M rfl happ) ?_
  clear K M; rintro _ a w ⟨A', c', rfl, M⟩ K
  refine X_o K M ?_; clear K
  refine Y_r (fun _ K => rd_field rfl (show fldT Tryd.prog 55 1 = some 1 by kernel_rfl) K rfl) M ?_; intro a K
  refine X_b K (ac_storeC rfl sc50 K rfl rfl rfl 0 M rfl rfl) ?_
  clear K M; rintro _ a w M K
  refine wpList_nil (then_n (wp_seq (X_reg ?_)))
  refine X_o K M ?_; clear K
  refine Y_r (fun _ K => rd_lenT rfl st9 K rfl) M ?_
  refine Y_o M ?_
  refine Y_o M ?_; intro a K
  refine wpList_nil (then_n (wp_ret ?_))
  replace M : Mem base W w (.blk g 55 [.pointer (some ⟨g, 0, none⟩), .slice A' (ofB b ++ ofB d).length c'] :: .row 5 1 A' (ofB b ++ ofB d).length c' ((cI .u8).all (ofB b ++ ofB d)) :: L) := M
  have M2 : Mem base W w (.bld g 55 A' (ofB b ++ ofB d).length c' :: .row 5 1 A' (ofB b ++ ofB d).length c' ((cI .u8).all (ofB b ++ ofB d)) :: L) := M.unBld 0 rfl
  have e : (ofB b ++ ofB d) = ofB (b ++ d) := (List.map_append ..).symm
  rw [e, ofB_len] at M2
  exact ret2 K rfl (res_tmp K rfl) (res_tmp K rfl) ⟨_, rfl, A', c', M2⟩
theorem W_bld_string (M : Mem W.heap.size W w (.bld g 55 A b.length c :: .row 5 1 A b.length c ((cI .u8).all (ofB b)) :: L)) :
    Calls Tryd.prog 34 #[.pointer (some ⟨g, 0, none⟩)] w fun e w' => ∃ v, e = .returned v ∧ v = .string (bs b) ∧ Mem W.heap.size W w' [] := by
  refine (Builder_String W.heap.size g b w M.builder M.sz).mono ?_
  rintro e w' ⟨rfl, h2⟩
  exact ⟨_, rfl, rfl, Mem.fin0 (M.low.trans h2)⟩
end
end Go.Proofs.YtpmnfhifmmfglabDoor

namespace Go.Proofs.YtpmnfhifmmfglabDoor
open Go.RowKit
set_option maxRecDepth 100000 in
set_option maxHeartbeats 4000000 in
theorem W_bits_all (N : Nat) (b : List UInt8) (w0 : World)  (r : Bool) (h : D_bits_all N b = some r) :
    Calls Tryd.prog 30 #[.string (bs b)] w0 fun e w' => ∃ v, e = .returned v ∧ v = .bool r ∧ Mem w0.heap.size w0 w' [] := by
  refine X_enter Tryd.func30 rfl Tryd.ntmps30 rfl ?_
  intro a K
  have M := Mem.start w0
  have K : Kn a 16 [(0, .string (bs b))] := K
  unfold D_bits_all at h
  refine wp_seq (X_reg ?_)
  refine X_o K M ?_; clear K; intro a K
  refine wpList_nil (then_n (wp_seq (X_reg ?_)))
  refine X_o K M ?_; clear K; intro a K
  obtain ⟨r2, h_r2, h⟩ := obind h
  refine X_a K (ac_call (vs := [.string (bs b), .string (bs ([48, 49] : List UInt8))]) (cap := []) rfl fok42 K rfl rfl (W_strings_Trim N b ([48, 49] : List UInt8) _  r2 h_r2)) ?_
  have M0 := M; clear K M; rintro _ a w ⟨rfl, M⟩ K
  replace M := M0.call M; clear M0
  refine X_r K (rd_eqlS rfl K rfl rfl) M ?_; clear K
  refine Y_o M ?_; intro a K
  rcases Bool.eq_false_or_eq_true (decide (r2 = ([] : List UInt8))) with hb | hb
  · have h := ctrue hb h
    have K := K.reb (s := 6) rfl hb
    refine X_o K M ?_; clear K; intro a K
    obtain ⟨r3, h_r3, h⟩ := obind h
    refine X_a K (ac_call (vs := [.string (bs b), .string (bs ([48] : List UInt8))]) (cap := []) rfl fok43 K rfl rfl (W_strings_Count N b ([48] : List UInt8) _  r3 h_r3)) ?_
    have M0 := M; clear K M; rintro _ a w ⟨rfl, M⟩ K
    replace M := M0.call M; clear M0
    refine X_o K M ?_; clear K; intro a K
    obtain ⟨r4, h_r4, h⟩ := obind h
    refine X_a K (ac_call (vs := [.string (bs b), .string (bs ([49] : List UInt8))]) (cap := []) rfl fok43 K rfl rfl (W_strings_Count N b ([49] : List UInt8) _  r4 h_r4)) ?_
    have M0 := M; clear K M; rintro _ a w ⟨rfl, M⟩ K
    replace M := M0.call M; clear M0
    refine X_o K M ?_; clear K
    refine Y_o M ?_
    refine Y_r (fun _ K => rd_lenT rfl st9 K rfl) M ?_
    iterate 3 (refine Y_o M ?_)
    intro a K
    refine wpList_nil (then_n (wp_ret ?_))
    cases h
    exact ret1 K rfl (res_tmp K rfl) ⟨_, rfl, rfl, ((M).pick [] (by decide))⟩
  have h := cfalse hb h
  have K := K.reb (s := 6) rfl hb
  refine X_o K M ?_; clear K
  iterate 9 (refine Y_o M ?_)
  intro a K
  refine wpList_nil (then_n (wp_ret ?_))
  cases h
  exact ret1 K rfl (res_tmp K rfl) ⟨_, rfl, rfl, ((M).pick [] (by decide))⟩
set_option maxRecDepth 100000 in
set_option maxHeartbeats 4000000 in
theorem W_bits_Bytes (N : Nat) (b : List UInt8) (w0 : World)  (r : List UInt8 × Int) (h : D_bits_Bytes N b = some r) :
    Calls Tryd.prog 7 #[.string (bs b)] w0 fun e w' => ∃ v, e = .returned v ∧ v = .tuple #[.string (bs r.1), I r.2] ∧ Mem w0.heap.size w0 w' [] := by
  refine X_enter Tryd.func7 rfl Tryd.ntmps7 rfl ?_
  intro a K
  have M := Mem.start w0
  have K : Kn a 37 [(0, .string (bs b))] := K
  unfold D_bits_Bytes at h
  refine wp_seq (X_reg ?_)
  refine X_o K M ?_; clear K
  refine Y_o M ?_; intro a K
  refine wpList_nil (then_n (wp_seq (wp_seq (X_reg ?_))))
  refine X_o K M ?_; clear K; intro a K
  obtain ⟨r2, h_r2, h⟩ := obind h
  refine X_a K (ac_call (vs := [.string (bs b)]) (cap := []) rfl fok30 K rfl rfl (W_bits_all N b _  r2 h_r2)) ?_
  have M0 := M; clear K M; rintro _ a w ⟨rfl, M⟩ K
  replace M := M0.call M; clear M0
  refine X_o K M ?_; clear K; intro a K
  refine wpList_nil (then_n ?_)
  refine X_cond K rfl (fun hb => ?_) (fun hb => ?_)
  · have h := ctrue hb h
    refine wp_seq (X_reg ?_)
    refine X_o K M ?_; clear K
    refine Y_o M ?_; intro a K
    refine wpList_nil (then_n (wp_ret (then_r ?_)))
    cases h
    exact ret2 K rfl (res_tmp K rfl) (res_tmp K rfl) ⟨_, rfl, rfl, ((M).pick [] (by decide))⟩
  have h := cfalse hb h
  refine wp_skip (then_n (wp_seq (X_reg ?_)))
  refine X_o K M ?_; clear K
  refine Y_r (fun _ K => rd_lenT rfl st9 K rfl) M ?_
  refine Y_o M ?_
  obtain ⟨x2, hx, h⟩ := olet h
  refine Y_r (fun _ K => rdi hx (rd_quo rfl K rfl rfl (by decide))) M ?_; intro a K
  obtain ⟨l2, h_l2, h⟩ := obind h
  refine X_a K (ac_make (C := (cI .u8)) (z := 0) rfl sl50 rfl z5 rfl K rfl rfl M h_l2) ?_
  clear K M; rintro _ a w ⟨A, c, rfl, M⟩ K
  refine X_o K M ?_; clear K; intro a K
  refine wpList_nil (then_n (wp_seq (wp_seq (X_reg ?_))))
  refine X_o K M ?_; clear K
  refine Y_r (fun _ K => rd_lenT rfl st9 K rfl) M ?_
  refine Y_o M ?_; intro a K
  refine wpList_nil (then_n (wp_block ?_))
  refine X_lp (id := 0) (Rel := fun (⟨l3, i⟩ : List Int × Int) a w => Kn a 37 [(0, .string (bs b)), (4, .slice A l3.length c), (15, I (b.length : Int)), (16, I i)] ∧ Mem w0.heap.size w0 w [.row 5 1 A l3.length c ((cI .u8).all l3)]) h (fun _ _ => rfl) ⟨K.pick [0,4,15,16], M.pick [0] (by decide)⟩ ?_ ?_
  · clear K M h
    rintro ⟨l6, i2⟩ a w ⟨K, M⟩ h
    try dsimp only at h
    refine inb_e ?_
    refine then_n (wp_seq (X_reg ?_))
    refine X_o K M ?_; clear K
    refine Y_r (fun _ K => rd_convBS rfl sl50 ik5 st9 K rfl (inR (C := (cI .u8)) 0 rfl rfl)) M ?_
    iterate 2 (refine Y_o M ?_)
    intro a K
    refine wpList_nil (then_n (wp_ret ?_))
    cases h
    exact ret2 K rfl (res_tmp K rfl) (res_tmp K rfl) ⟨_, rfl, rfl, ((M).pick [] (by decide))⟩
  clear K M h
  rintro kk fuel ⟨l3, i⟩ a w hk1 ⟨K, M⟩ h
  unfold D_bits_Bytes_l1 at h
  refine wp_seq (X_reg ?_)
  refine X_o K M ?_; clear K; intro a K
  refine wpList_nil (then_n (wp_seq ?_))
  refine X_cond K rfl (fun hb => ?_) (fun hb => ?_)
  · have h := ctrue hb h
    refine wp_skip (then_n (wp_seq (wp_block (wp_seq (X_reg ?_)))))
    refine X_o K M ?_; clear K
    refine Y_o M ?_; intro a K
    refine wpList_nil (then_n ?_)
    refine wp_region_tl (fun w => Mem _ _ w _) [0,0,0,0,0,0,0,0,0,0,0,0,0,0,0,2] (by kernel_rfl) (by kernel_rfl) M.drew ?_
    replace M := M.drew
    refine T_o K ?_; clear K
    refine U_o ?_
    obtain ⟨x4, hx, h⟩ := olet h
    refine U_r (fun _ K => rdi hx (rd_quo rfl K rfl rfl (by decide))) ?_
    obtain ⟨e3, h_e3, h⟩ := obind h
    refine U_r (fun _ K => rd_ixP rfl sl50 K rfl rfl ((inR (C := (cI .u8)) 0 rfl rfl) _ M) h_e3) ?_
    refine U_r (fun _ K => rd_elC rfl sc5 K rfl rfl (inR (C := (cI .u8)) 0 rfl rfl) h_e3 rfl) ?_
    iterate 2 (refine U_o ?_)
    obtain ⟨b3, h_b3, h⟩ := obind h
    refine U_r (fun _ K => rd_ixT rfl st9 K rfl rfl h_b3) ?_
    iterate 2 (refine U_o ?_)
    refine U_r (fun _ K => rd_rem rfl K rfl rfl (by decide)) ?_
    refine U_o ?_; intro a K
    obtain ⟨_, h0, h⟩ := obind h
    have h0 := nn_spec h0
    refine T_r K (rd_shl rfl K rfl rfl h0) ?_; clear K
    refine U_r (fun _ K => rd_or rfl K rfl rfl) ?_
    obtain ⟨e4, h_e4, h⟩ := obind h
    refine U_r (fun _ K => rd_ixP rfl sl50 K rfl rfl ((inR (C := (cI .u8)) 0 rfl rfl) _ M) h_e4) ?_; intro a K
    obtain ⟨l5, h_l5, h⟩ := obind h
    refine T_b K (ac_rowset (el := orI .u8 e3 (shlI .u8 (IntKind.u8.wrap ((b3.toNat : Int) - 48)) (IntKind.i64.wrap (7 - (Int.tmod i 8))))) rfl sz5 rfl rfl K rfl rfl rfl 0 M rfl h_l5) ?_
    have M0 := M; clear K M; rintro _ a w M K
    have hl := setL_len h_l5
    try rw [hl] at M
    try rw [hl] at K
    clear hl
    clear M0
    refine T_end ?_
    refine inb_n (then_n (X_reg ?_))
    refine X_o K M ?_; clear K
    refine Y_o M ?_; intro a K
    refine wpList_nil ?_
    exact then_n ⟨(l5, IntKind.i64.wrap (i + 1)), ⟨K.pick [0,4,15,16], M.pick [0] (by decide)⟩, h⟩
  have h := cfalse hb h
  refine wp_exit ?_
  refine then_e ?_
  exact then_e (hk1 (l3, i) _ _ ⟨K.pick [0,4,15,16], M.pick [0] (by decide)⟩ h)
set_option maxRecDepth 100000 in
set_option maxHeartbeats 4000000 in
theorem W_bits_digits (N : Nat) (n : Int) (size : Int) (w0 : World)  (r : List UInt8) (h : D_bits_digits N n size = some r) :
    Calls Tryd.prog 31 #[I n, I size] w0 fun e w' => ∃ v, e = .returned v ∧ v = .string (bs r) ∧ Mem w0.heap.size w0 w' [] := by
  refine X_enter Tryd.func31 rfl Tryd.ntmps31 rfl ?_
  intro a K
  have M := Mem.start w0
  have K : Kn a 28 [(0, I n), (1, I size)] := K
  unfold D_bits_digits at h
  refine wp_seq (X_reg ?_)
  refine X_o K M ?_; clear K; intro a K
  refine wpList_nil (then_n (wp_seq (X_reg ?_)))
  refine X_o K M ?_; clear K; intro a K
  obtain ⟨l2, h_l2, h⟩ := obind h
  refine X_a K (ac_make (C := (cI .u8)) (z := 0) rfl sl50 rfl z5 rfl K rfl rfl M h_l2) ?_
  clear K M; rintro _ a w ⟨A, c, rfl, M⟩ K
  refine X_o K M ?_; clear K; intro a K
  refine wpList_nil (then_n (wp_seq (wp_seq (X_reg ?_))))
  refine X_o K M ?_; clear K
  refine Y_r (fun _ K => rd_len rfl un50 K rfl) M ?_
  refine Y_o M ?_; intro a K
  refine wpList_nil (then_n (wp_block ?_))
  refine X_lp (id := 0) (Rel := fun (⟨l3, i, i2⟩ : List Int × Int × Int) a w => Kn a 28 [(0, I n), (1, I size), (5, .slice A l3.length c), (10, I i), (11, I i2)] ∧ Mem w0.heap.size w0 w [.row 5 1 A l3.length c ((cI .u8).all l3)]) h (fun _ _ => rfl) ⟨K.pick [0,1,5,10,11], M.pick [0] (by decide)⟩ ?_ ?_
  · clear K M h
    rintro ⟨l6, i3, i4⟩ a w ⟨K, M⟩ h
    try dsimp only at h
    refine inb_e ?_
    refine then_n (wp_seq (X_reg ?_))
    refine X_o K M ?_; clear K
    refine Y_r (fun _ K => rd_convBS rfl sl50 ik5 st9 K rfl (inR (C := (cI .u8)) 0 rfl rfl)) M ?_
    refine Y_o M ?_; intro a K
    refine wpList_nil (then_n (wp_ret ?_))
    cases h
    exact ret1 K rfl (res_tmp K rfl) ⟨_, rfl, rfl, ((M).pick [] (by decide))⟩
  clear K M h
  rintro kk fuel ⟨l3, i, i2⟩ a w hk1 ⟨K, M⟩ h
  unfold D_bits_digits_l1 at h
  refine wp_seq (X_reg ?_)
  refine X_o K M ?_; clear K; intro a K
  refine wpList_nil (then_n (wp_seq ?_))
  refine X_cond K rfl (fun hb => ?_) (fun hb => ?_)
  · have h := ctrue hb h
    refine wp_skip (then_n (wp_seq (wp_block (wp_seq (X_reg ?_)))))
    refine X_o K M ?_; clear K
    refine Y_o M ?_; intro a K
    refine wpList_nil (then_n (X_reg ?_))
    refine X_o K M ?_; clear K
    iterate 6 (refine Y_o M ?_)
    intro a K
    obtain ⟨_, h0, h⟩ := obind h
    have h0 := nn_spec h0
    refine X_r K (rd_shr rfl K rfl rfl h0) M ?_; clear K
    refine Y_o M ?_
    obtain ⟨b2, h_b2, h⟩ := obind h
    refine Y_r (fun _ K => rd_ixT rfl st9 K rfl rfl h_b2) M ?_
    obtain ⟨e2, h_e2, h⟩ := obind h
    refine Y_r (fun _ K => rd_ix rfl sl50 K rfl rfl (inR (C := (cI .u8)) 0 rfl rfl) h_e2) M ?_; intro a K
    obtain ⟨l5, h_l5, h⟩ := obind h
    refine X_b K (ac_rowset (el := (b2.toNat : Int)) rfl sz5 rfl rfl K rfl rfl rfl 0 M rfl h_l5) ?_
    have M0 := M; clear K M; rintro _ a w M K
    have hl := setL_len h_l5
    try rw [hl] at M
    try rw [hl] at K
    clear hl
    clear M0
    refine wpList_nil (inb_n (then_n (X_reg ?_)))
    refine X_o K M ?_; clear K
    refine Y_o M ?_; intro a K
    refine wpList_nil ?_
    exact then_n ⟨(l5, i, IntKind.i64.wrap (i2 + 1)), ⟨K.pick [0,1,5,10,11], M.pick [0] (by decide)⟩, h⟩
  have h := cfalse hb h
  refine wp_exit ?_
  refine then_e ?_
  exact then_e (hk1 (l3, i, i2) _ _ ⟨K.pick [0,1,5,10,11], M.pick [0] (by decide)⟩ h)
set_option maxRecDepth 100000 in
set_option maxHeartbeats 4000000 in
theorem W_bits_Number (N : Nat) (n : Int) (size : Int) (w0 : World)  (r : List UInt8 × Int) (h : D_bits_Number N n size = some r) :
    Calls Tryd.prog 12 #[I n, I size] w0 fun e w' => ∃ v, e = .returned v ∧ v = .tuple #[.string (bs r.1), I r.2] ∧ Mem w0.heap.size w0 w' [] := by
  refine X_enter Tryd.func12 rfl Tryd.ntmps12 rfl ?_
  intro a K
  have M := Mem.start w0
  have K : Kn a 25 [(0, I n), (1, I size)] := K
  unfold D_bits_Number at h
  refine wp_seq (X_reg ?_)
  refine X_o K M ?_; clear K
  refine Y_o M ?_; intro a K
  refine wpList_nil (then_n (wp_seq (wp_seq (X_reg ?_))))
  refine X_o K M ?_; clear K
  iterate 2 (refine Y_o M ?_)
  intro a K
  rcases Bool.eq_false_or_eq_true (decide (size < 0)) with hb | hb
  · have h := ctrue hb h
    have K := K.reb (s := 8) rfl hb
    refine X_o K M ?_; clear K
    iterate 12 (refine Y_o M ?_)
    intro a K
    refine wpList_nil (then_n ?_)
    refine X_condT K rfl ?_
    refine wp_seq (X_reg ?_)
    refine X_o K M ?_; clear K
    refine Y_o M ?_; intro a K
    refine wpList_nil (then_n (wp_ret (then_r ?_)))
    cases h
    exact ret2 K rfl (res_tmp K rfl) (res_tmp K rfl) ⟨_, rfl, rfl, ((M).pick [] (by decide))⟩
  have h := cfalse hb h
  have K := K.reb (s := 8) rfl hb
  refine X_o K M ?_; clear K
  iterate 3 (refine Y_o M ?_)
  intro a K
  rcases Bool.eq_false_or_eq_true (decide (16 < size)) with hb | hb
  · have h := ctrue hb h
    have K := K.reb (s := 12) rfl hb
    refine X_o K M ?_; clear K
    iterate 8 (refine Y_o M ?_)
    intro a K
    refine wpList_nil (then_n ?_)
    refine X_condT K rfl ?_
    refine wp_seq (X_reg ?_)
    refine X_o K M ?_; clear K
    refine Y_o M ?_; intro a K
    refine wpList_nil (then_n (wp_ret (then_r ?_)))
    cases h
    exact ret2 K rfl (res_tmp K rfl) (res_tmp K rfl) ⟨_, rfl, rfl, ((M).pick [] (by decide))⟩
  have h := cfalse hb h
  have K := K.reb (s := 12) rfl hb
  refine X_o K M ?_; clear K
  iterate 3 (refine Y_o M ?_)
  intro a K
  rcases Bool.eq_false_or_eq_true (decide (n < 0)) with hb | hb
  · have h := ctrue hb h
    have K := K.reb (s := 16) rfl hb
    refine X_o K M ?_; clear K
    iterate 4 (refine Y_o M ?_)
    intro a K
    refine wpList_nil (then_n ?_)
    refine X_condT K rfl ?_
    refine wp_seq (X_reg ?_)
    refine X_o K M ?_; clear K
    refine Y_o M ?_; intro a K
    refine wpList_nil (then_n (wp_ret (then_r ?_)))
    cases h
    exact ret2 K rfl (res_tmp K rfl) (res_tmp K rfl) ⟨_, rfl, rfl, ((M).pick [] (by decide))⟩
  have h := cfalse hb h
  have K := K.reb (s := 16) rfl hb
  refine X_o K M ?_; clear K
  refine Y_o M ?_; intro a K
  obtain ⟨_, h0, h⟩ := obind h
  have h0 := nn_spec h0
  refine X_r K (rd_shl rfl K rfl rfl h0) M ?_; clear K
  iterate 2 (refine Y_o M ?_)
  intro a K
  refine wpList_nil (then_n ?_)
  refine X_cond K rfl (fun hb => ?_) (fun hb => ?_)
  · have h := ctrue hb h
    refine wp_seq (X_reg ?_)
    refine X_o K M ?_; clear K
    refine Y_o M ?_; intro a K
    refine wpList_nil (then_n (wp_ret (then_r ?_)))
    cases h
    exact ret2 K rfl (res_tmp K rfl) (res_tmp K rfl) ⟨_, rfl, rfl, ((M).pick [] (by decide))⟩
  have h := cfalse hb h
  refine wp_skip (then_n (wp_seq (X_reg ?_)))
  refine X_o K M ?_; clear K
  refine Y_o M ?_; intro a K
  obtain ⟨r2, h_r2, h⟩ := obind h
  refine X_a K (ac_call (vs := [I n, I size]) (cap := []) rfl fok31 K rfl rfl (W_bits_digits N n size _  r2 h_r2)) ?_
  have M0 := M; clear K M; rintro _ a w ⟨rfl, M⟩ K
  replace M := M0.call M; clear M0
  refine X_o K M ?_; clear K
  refine Y_o M ?_; intro a K
  refine wpList_nil (then_n (wp_ret ?_))
  cases h
  exact ret2 K rfl (res_tmp K rfl) (res_tmp K rfl) ⟨_, rfl, rfl, ((M).pick [] (by decide))⟩
end Go.Proofs.YtpmnfhifmmfglabDoor

namespace Go.Proofs.YtpmnfhifmmfglabDoor
open Go.RowKit
set_option maxRecDepth 100000 in
set_option maxHeartbeats 4000000 in
theorem W_cmp_isNaN_int (N : Nat) (x2 : Int) (w0 : World)  (r : Bool) (h : D_cmp_isNaN_int N x2 = some r) :
    Calls Tryd.prog 46 #[I x2] w0 fun e w' => ∃ v, e = .returned v ∧ v = .bool r ∧ Mem w0.heap.size w0 w' [] := by
  refine X_enter Tryd.func46 rfl Tryd.ntmps46 rfl ?_
  intro a K
  have M := Mem.start w0
  have K : Kn a 6 [(0, I x2)] := K
  unfold D_cmp_isNaN_int at h
  refine wp_seq (X_reg ?_)
  refine X_o K M ?_; clear K; intro a K
  refine wpList_nil (then_n (wp_seq (X_reg ?_)))
  refine X_o K M ?_; clear K
  iterate 3 (refine Y_o M ?_)
  intro a K
  refine wpList_nil (then_n (wp_ret ?_))
  cases h
  exact ret1 K rfl (res_tmp K rfl) ⟨_, rfl, rfl, ((M).pick [] (by decide))⟩
set_option maxRecDepth 100000 in
set_option maxHeartbeats 4000000 in
theorem W_cmp_Compare_int (N : Nat) (x2 : Int) (y : Int) (w0 : World)  (r : Int) (h : D_cmp_Compare_int N x2 y = some r) :
    Calls Tryd.prog 38 #[I x2, I y] w0 fun e w' => ∃ v, e = .returned v ∧ v = I r ∧ Mem w0.heap.size w0 w' [] := by
  refine X_enter Tryd.func38 rfl Tryd.ntmps38 rfl ?_
  intro a K
  have M := Mem.start w0
  have K : Kn a 20 [(0, I x2), (1, I y)] := K
  unfold D_cmp_Compare_int at h
  refine wp_seq (X_reg ?_)
  refine X_o K M ?_; clear K; intro a K
  refine wpList_nil (then_n (wp_seq (X_reg ?_)))
  refine X_o K M ?_; clear K; intro a K
  obtain ⟨r2, h_r2, h⟩ := obind h
  refine X_a K (ac_call (vs := [I x2]) (cap := []) rfl fok46 K rfl rfl (W_cmp_isNaN_int N x2 _  r2 h_r2)) ?_
  have M0 := M; clear K M; rintro _ a w ⟨rfl, M⟩ K
  replace M := M0.call M; clear M0
  refine X_o K M ?_; clear K; intro a K
  refine wpList_nil (then_n (wp_seq (X_reg ?_)))
  refine X_o K M ?_; clear K; intro a K
  obtain ⟨r3, h_r3, h⟩ := obind h
  refine X_a K (ac_call (vs := [I y]) (cap := []) rfl fok46 K rfl rfl (W_cmp_isNaN_int N y _  r3 h_r3)) ?_
  have M0 := M; clear K M; rintro _ a w ⟨rfl, M⟩ K
  replace M := M0.call M; clear M0
  refine X_o K M ?_; clear K; intro a K
  refine wpList_nil (then_n (wp_seq (wp_seq (X_reg ?_))))
  refine X_o K M ?_; clear K; intro a K
  refine wpList_nil (then_n ?_)
  refine X_cond K rfl (fun hb => ?_) (fun hb => ?_)
  · have h := ctrue hb h
    refine wp_seq (wp_seq (X_reg ?_))
    refine X_o K M ?_; clear K; intro a K
    refine wpList_nil (then_n ?_)
    refine X_cond K rfl (fun hb => ?_) (fun hb => ?_)
    · have h := ctrue hb h
      refine wp_seq (X_reg ?_)
      refine X_o K M ?_; clear K; intro a K
      refine wpList_nil (then_n (wp_ret (then_r (then_r ?_))))
      cases h
      exact ret1 K rfl (res_tmp K rfl) ⟨_, rfl, rfl, ((M).pick [] (by decide))⟩
    have h := cfalse hb h
    refine wp_skip (then_n (wp_seq (X_reg ?_)))
    refine X_o K M ?_; clear K; intro a K
    refine wpList_nil (then_n (wp_ret (then_r ?_)))
    cases h
    exact ret1 K rfl (res_tmp K rfl) ⟨_, rfl, rfl, ((M).pick [] (by decide))⟩
  have h := cfalse hb h
  refine wp_skip (then_n (wp_seq (wp_seq (X_reg ?_))))
  refine X_o K M ?_; clear K; intro a K
  refine wpList_nil (then_n ?_)
  refine X_cond K rfl (fun hb => ?_) (fun hb => ?_)
  · have h := ctrue hb h
    refine wp_seq (X_reg ?_)
    refine X_o K M ?_; clear K; intro a K
    refine wpList_nil (then_n (wp_ret (then_r ?_)))
    cases h
    exact ret1 K rfl (res_tmp K rfl) ⟨_, rfl, rfl, ((M).pick [] (by decide))⟩
  have h := cfalse hb h
  refine wp_skip (then_n (wp_seq (wp_seq (X_reg ?_))))
  refine X_o K M ?_; clear K
  iterate 2 (refine Y_o M ?_)
  intro a K
  refine wpList_nil (then_n ?_)
  refine X_cond K rfl (fun hb => ?_) (fun hb => ?_)
  · have h := ctrue hb h
    refine wp_seq (X_reg ?_)
    refine X_o K M ?_; clear K; intro a K
    refine wpList_nil (then_n (wp_ret (then_r ?_)))
    cases h
    exact ret1 K rfl (res_tmp K rfl) ⟨_, rfl, rfl, ((M).pick [] (by decide))⟩
  have h := cfalse hb h
  refine wp_skip (then_n (wp_seq (wp_seq (X_reg ?_))))
  refine X_o K M ?_; clear K
  iterate 2 (refine Y_o M ?_)
  intro a K
  refine wpList_nil (then_n ?_)
  refine X_cond K rfl (fun hb => ?_) (fun hb => ?_)
  · have h := ctrue hb h
    refine wp_seq (X_reg ?_)
    refine X_o K M ?_; clear K; intro a K
    refine wpList_nil (then_n (wp_ret (then_r ?_)))
    cases h
    exact ret1 K rfl (res_tmp K rfl) ⟨_, rfl, rfl, ((M).pick [] (by decide))⟩
  have h := cfalse hb h
  refine wp_skip (then_n (wp_seq (X_reg ?_)))
  refine X_o K M ?_; clear K; intro a K
  refine wpList_nil (then_n (wp_ret ?_))
  cases h
  exact ret1 K rfl (res_tmp K rfl) ⟨_, rfl, rfl, ((M).pick [] (by decide))⟩
end Go.Proofs.YtpmnfhifmmfglabDoor
