/- Texts of the claim BitsPacks, joined: PPack, PUnpack, PBitsB, PRefBits, PRefUnp, PBitsBack, PBitsPacks, D7, D9, DS, Facts, Shelf, HStr. -/
import Derived.Laws.BytesArg
import Derived.Laws.CopyRow
import Derived.Laws.IdiomCopy
import Derived.Laws.Strings2
import Derived.Laws.Strings3
import Derived.Lib.AppendStr
import Derived.Lib.SliceRun
import Derived.LoopN
import Derived.Shelf.Strings.Builder1
import Derived.Shelf.Strings.Count
import Derived.Shelf.Strings.SlTrimAscii
import Derived.Test.YtpmnfhifmmfglabDoorChecked
import Derived.Test.YtpmnfhifmmfglabDoorProg
import Derived.WalkSpells
import Derived.Test.YtpmnfhifmmfglabDoorBitsPacksK1
set_option linter.unusedVariables false
set_option linter.unusedSimpArgs false
set_option linter.unusedSectionVars false
namespace Go.Proofs.YtpmnfhifmmfglabDoor
open Go
def toI (l : List Nat) : List Int := l.map fun n : Nat => (n : Int)
theorem toI_len (l : List Nat) : (toI l).length = l.length := by simp [toI]
theorem toI_app (l m : List Nat) : toI (l ++ m) = toI l ++ toI m := by simp [toI]
theorem nn_nat (n : Nat) : nn (n : Int) = some () := by unfold nn; rw [if_pos (by omega)]
/-- One more sample behind X: the bits that wait, and those that go. -/
theorem step_low {X d e L : Nat} (he : e < 2 ^ d) : X % 2 ^ L * 2 ^ d + e = (X * 2 ^ d + e) % 2 ^ (L + d) := by
  have h1 : X * 2 ^ d + e = 2 ^ (L + d) * (X / 2 ^ L) + (X % 2 ^ L * 2 ^ d + e) := by
    have h3 := Nat.div_add_mod X (2 ^ L)
    have h2 : X * 2 ^ d = 2 ^ L * (X / 2 ^ L) * 2 ^ d + X % 2 ^ L * 2 ^ d := by rw [← Nat.add_mul, h3]
    rw [h2, Nat.pow_add, Nat.mul_assoc, Nat.mul_comm (X / 2 ^ L), ← Nat.mul_assoc, Nat.add_assoc]
  have h2 : X % 2 ^ L * 2 ^ d + e < 2 ^ (L + d) := by
    have : X % 2 ^ L < 2 ^ L := Nat.mod_lt _ (Nat.two_pow_pos L)
    have h3 : (X % 2 ^ L + 1) * 2 ^ d ≤ 2 ^ L * 2 ^ d := Nat.mul_le_mul_right _ this
    rw [← Nat.pow_add, Nat.add_mul, Nat.one_mul] at h3
    omega
  rw [h1, Nat.mul_add_mod, Nat.mod_eq_of_lt h2]
theorem step_hi {X d e : Nat} (he : e < 2 ^ d) : (X * 2 ^ d + e) / 2 ^ d = X := by
  rw [Nat.mul_comm, Nat.mul_add_div (Nat.two_pow_pos d), Nat.div_eq_of_lt he, Nat.add_zero]
theorem step_dig {X d e L q r : Nat} (m : Nat) (he : e < 2 ^ d) (hq : L + d = 8 * q + r) : dig 256 m (X / 2 ^ L) ++ dig 256 q ((X % 2 ^ L * 2 ^ d + e) / 2 ^ r) = dig 256 (m + q) ((X * 2 ^ d + e) / 2 ^ r) := by
  rw [dig_add]
  congr 1
  · rw [pow256, Nat.div_div_eq_div_mul, ← Nat.pow_add, show r + 8 * q = d + L by omega, Nat.pow_add, ← Nat.div_div_eq_div_mul, step_hi he]
  · rw [step_low he, show L + d = r + 8 * q by omega, Nat.pow_add, Nat.mod_mul_right_div_self, ← pow256, dig_mod]
theorem step_mod {X d e L q r : Nat} (he : e < 2 ^ d) (hq : L + d = 8 * q + r) : (X % 2 ^ L * 2 ^ d + e) % 2 ^ r = (X * 2 ^ d + e) % 2 ^ r := by
  rw [step_low he, show L + d = r + 8 * q by omega, Nat.pow_add, Nat.mod_mul_right_mod]
theorem pack_l2 (N : Nat) (h : Nat) (kk) {r : Nat} (hr : r < 8) : ∀ (q fuel : Nat) (out : List Int), 8 * q + r ≤ 60 → out.length + q ≤ 100000 → q < fuel →
    D_bits_Pack_l2 N (h : Int) kk fuel (out, ((8 * q + r : Nat) : Int)) = kk (out ++ toI (dig 256 q (h / 2 ^ r)), (r : Int)) := by
  intro q
  induction q with
  | zero =>
    intro fuel out hq ho hf
    obtain ⟨fuel, rfl⟩ : ∃ m, fuel = m + 1 := ⟨fuel - 1, by omega⟩
    unfold D_bits_Pack_l2
    rw [cF (dF (by omega)), Nat.mul_zero, Nat.zero_add]
    simp [dig, toI]
  | succ q ih =>
    intro fuel out hq ho hf
    obtain ⟨fuel, rfl⟩ : ∃ m, fuel = m + 1 := ⟨fuel - 1, by omega⟩
    have e1 : IntKind.i64.wrap (((8 * (q + 1) + r : Nat) : Int) - 8) = ((8 * q + r : Nat) : Int) := by rw [w64 (by omega)]; omega
    have e2 : IntKind.u8.wrap (shrI .i64 (h : Int) ((8 * q + r : Nat) : Int)) = ((h / 2 ^ (8 * q + r) % 256 : Nat) : Int) := by rw [shr_nat (by omega), u8_nat]
    have e3 : dig 256 (q + 1) (h / 2 ^ r) = [h / 2 ^ (8 * q + r) % 256] ++ dig 256 q (h / 2 ^ r) := by
      rw [Nat.add_comm q 1, dig_add, pow256, Nat.div_div_eq_div_mul, ← Nat.pow_add, Nat.add_comm r]
      rfl
    unfold D_bits_Pack_l2
    rw [cT (dT (by omega)), e1, bsome, nn_nat, bsome, e2, app_eq (by simp; omega), bsome, ih fuel _ (by omega) (by simp; omega) (by omega), e3, toI_app, List.append_assoc]
    rfl
/-- The number that samples are. -/
def smp (d : Nat) (l : List Int) (k : Nat) : Nat := num (2 ^ d) ((l.take k).map Int.toNat)
def inD (d : Nat) (e : Int) : Bool := decide (0 ≤ e ∧ e < ((2 ^ d : Nat) : Int))
theorem smp_succ {d : Nat} {l : List Int} {k : Nat} (hk : k < l.length) : smp d l (k + 1) = smp d l k * 2 ^ d + l[k].toNat := by
  unfold smp
  rw [List.take_succ_eq_append_getElem hk, List.map_append, List.map_cons, List.map_nil, num_snoc]
abbrev PSt := List Int × Int × Int × Int
def pst (d : Nat) (l : List Int) (k : Nat) : PSt := (toI (dig 256 (k * d / 8) (smp d l k / 2 ^ (k * d % 8))), ((smp d l k % 2 ^ (k * d % 8) : Nat) : Int), ((k * d % 8 : Nat) : Int), (k : Int))
theorem pow_le16 {d : Nat} (h : d ≤ 16) : 2 ^ d ≤ 65536 := by
  have := Nat.pow_le_pow_right (show 0 < 2 by decide) h
  exact this
theorem pack_l1 (N : Nat) (hN : 100000 ≤ N) {d : Nat} (hd : 1 ≤ d ∧ d ≤ 16) (l : List Int) (hl : l.length ≤ 4096) (kk) : ∀ (j k fuel : Nat), k + j = l.length → j < fuel →
    D_bits_Pack_l1 N l (d : Int) kk fuel (pst d l k) = if (l.drop k).all (inD d) = true then kk (pst d l l.length) else some ([], 3) := by
  intro j
  induction j with
  | zero =>
    intro k fuel hk hf
    obtain ⟨fuel, rfl⟩ : ∃ m, fuel = m + 1 := ⟨fuel - 1, by omega⟩
    obtain rfl : k = l.length := by omega
    unfold pst D_bits_Pack_l1
    rw [cF (dF (by omega)), List.drop_length]
    rfl
  | succ j ih =>
    intro k fuel hk hf
    obtain ⟨fuel, rfl⟩ : ∃ m, fuel = m + 1 := ⟨fuel - 1, by omega⟩
    have hlt : k < l.length := by omega
    have hp := pow_le16 hd.2
    have hih := ih (k + 1) fuel (by omega) (by omega)
    have hpos : 0 < 2 ^ d := Nat.two_pow_pos d
    have esh : shlI .i64 1 (d : Int) = ((2 ^ d : Nat) : Int) := by
      have := shl_nat (h := 1) (k := d) (by omega) (by omega)
      rw [Nat.one_mul] at this
      exact this
    rw [List.drop_eq_getElem_cons hlt, List.all_cons]
    unfold pst D_bits_Pack_l1
    rw [cT (dT (by omega)), idx_nat, List.getElem?_eq_getElem hlt, bsome]
    by_cases h1 : l[k] < 0
    · have : inD d l[k] = false := dF (by omega)
      rw [cT (dT h1), this]; rfl
    rw [cF (dF h1), nn_nat, bsome, esh]
    by_cases h2 : ((2 ^ d : Nat) : Int) ≤ l[k]
    · have : inD d l[k] = false := dF (by omega)
      rw [cT (dT h2), this]; rfl
    have hin : inD d l[k] = true := dT (by omega)
    rw [cF (dF h2), bsome, hin, Bool.true_and]
    have hsm := smp_succ (d := d) hlt
    obtain ⟨e, he⟩ : ∃ e : Nat, l[k] = e := ⟨l[k].toNat, by omega⟩
    have hed : e < 2 ^ d := by omega
    rw [he, Int.toNat_natCast] at hsm
    rw [he]
    have hL : k * d % 8 < 8 := Nat.mod_lt _ (by decide)
    have hkd : (k + 1) * d = k * d + d := by rw [Nat.add_mul, Nat.one_mul]
    have hkb : k * d ≤ 4096 * 16 := Nat.mul_le_mul (by omega) hd.2
    unfold pst at hih
    rw [hsm, hkd] at hih
    generalize smp d l k = X at hih ⊢
    have hdl := dig_len 256 (k * d / 8) (X / 2 ^ (k * d % 8))
    generalize k * d = T at *
    have eT : (T + d) % 8 = (T % 8 + d) % 8 := by omega
    have eQ : (T + d) / 8 = T / 8 + (T % 8 + d) / 8 := by omega
    rw [eT, eQ] at hih
    have hq : T % 8 + d = 8 * ((T % 8 + d) / 8) + (T % 8 + d) % 8 := by omega
    have hr : (T % 8 + d) % 8 < 8 := by omega
    generalize (T % 8 + d) / 8 = q at *
    generalize (T % 8 + d) % 8 = r at *
    have s1 := step_dig (X := X) (T / 8) hed hq
    have s2 := step_mod (X := X) hed hq
    generalize T / 8 = m at *
    generalize T % 8 = L at *
    have hX : X % 2 ^ L < 128 := Nat.lt_of_lt_of_le (Nat.mod_lt _ (Nat.two_pow_pos L)) (Nat.pow_le_pow_right (show 0 < 2 by decide) (show L ≤ 7 by omega))
    have hx6 : X % 2 ^ L * 2 ^ d ≤ 128 * 65536 := Nat.mul_le_mul (by omega) hp
    have ex : orI .i64 (shlI .i64 ((X % 2 ^ L : Nat) : Int) (d : Int)) (e : Int) = ((X % 2 ^ L * 2 ^ d + e : Nat) : Int) := by
      rw [shl_nat (by omega) (by omega), or_add hed (by omega)]
    have ew : IntKind.i64.wrap ((L : Int) + (d : Int)) = ((8 * q + r : Nat) : Int) := by rw [w64 (by omega)]; omega
    have hpr : 2 ^ r ≤ 128 := Nat.pow_le_pow_right (show 0 < 2 by decide) (show r ≤ 7 by omega)
    have hr0 : 0 < 2 ^ r := Nat.two_pow_pos r
    have em : IntKind.i64.wrap (shlI .i64 1 (r : Int) - 1) = ((2 ^ r - 1 : Nat) : Int) := by
      have := shl_nat (h := 1) (k := r) (by omega) (by omega)
      rw [Nat.one_mul] at this
      rw [show (1 : Int) = ((1 : Nat) : Int) from rfl, this, w64 (by omega)]
      omega
    rw [ex, bsome, ew, bsome]
    refine (pack_l2 N _ _ hr q N _ (by omega) (by rw [toI_len]; omega) (by omega)).trans ?_
    dsimp only
    rw [nn_nat, bsome, em, and_mask (by omega) (by omega), bsome, ← toI_app, s1, s2, w64 (x := (k : Int) + 1) (by omega)]
    exact hih
/-- Samples packed: the digits of one number. -/
def packN (d : Nat) (l : List Int) : List Nat := dig 256 ((l.length * d + 7) / 8) (smp d l l.length * 2 ^ ((l.length * d + 7) / 8 * 8 - l.length * d))
theorem pack_last (X L : Nat) (m : Nat) (hL : L < 8) (h0 : 0 < L) : dig 256 m (X / 2 ^ L) ++ [X % 2 ^ L * 2 ^ (8 - L) % 256] = dig 256 (m + 1) (X * 2 ^ (8 - L)) := by
  have e256 : (256 : Nat) = 2 ^ (8 - L) * 2 ^ L := by rw [← Nat.pow_add, show 8 - L + L = 8 by omega]
  show _ = dig 256 m (X * 2 ^ (8 - L) / 256) ++ [X * 2 ^ (8 - L) % 256]
  have e1 : X * 2 ^ (8 - L) / 256 = X / 2 ^ L := by
    conv => lhs; rw [e256]
    rw [← Nat.div_div_eq_div_mul, Nat.mul_div_cancel _ (Nat.two_pow_pos _)]
  have e2 : X * 2 ^ (8 - L) % 256 = X % 2 ^ L * 2 ^ (8 - L) := by
    conv => lhs; rw [e256]
    rw [Nat.mul_comm X, Nat.mul_mod_mul_left, Nat.mul_comm]
  rw [e1, e2]
  congr 2
  rw [Nat.mod_eq_of_lt]
  have h1 : X % 2 ^ L < 2 ^ L := Nat.mod_lt _ (Nat.two_pow_pos L)
  have h2 : (X % 2 ^ L + 1) * 2 ^ (8 - L) ≤ 2 ^ L * 2 ^ (8 - L) := Nat.mul_le_mul_right _ h1
  rw [Nat.mul_comm (2 ^ L), ← e256, Nat.add_mul, Nat.one_mul] at h2
  have := Nat.two_pow_pos (8 - L)
  omega
theorem toB_toI (l : List Nat) : toB (toI l) = l.map UInt8.ofNat := by
  unfold toB toI
  rw [List.map_map]
  rfl
/-- Which error packing tells. -/
def packErr (l : List Int) (o : Int) : Int := if ¬ (1 ≤ o ∧ o ≤ 16) then 3 else if 4096 < l.length then 2 else if l.all (inD o.toNat) = true then 0 else 3
theorem depths_eq (N : Nat) (o : Int) : D_bits_depths N o = some (decide (1 ≤ o ∧ o ≤ 16)) := by
  unfold D_bits_depths
  by_cases h : 1 ≤ o
  · rw [cT (dT h)]; simp [h]
  · rw [cF (dF h)]; simp [h]
theorem pack_eq (N : Nat) (hN : 100000 ≤ N) (l : List Int) (o : Int) : D_bits_Pack N l o = some (if packErr l o = 0 then ((packN o.toNat l).map UInt8.ofNat, 0) else ([], packErr l o)) := by
  unfold D_bits_Pack
  rw [depths_eq, bsome]
  by_cases h1 : 1 ≤ o ∧ o ≤ 16
  rotate_left
  · have hpe : packErr l o = 3 := by unfold packErr; rw [if_pos h1]
    rw [cT (by rw [dF h1]; rfl), hpe]; rfl
  have h1' : ¬ ¬ (1 ≤ o ∧ o ≤ 16) := fun h => h h1
  rw [cF (by rw [dT h1]; rfl)]
  by_cases h2 : 4096 < l.length
  · have hpe : packErr l o = 2 := by unfold packErr; rw [if_neg h1', if_pos h2]
    rw [cT (dT (by omega)), hpe]; rfl
  have hpe : packErr l o = if l.all (inD o.toNat) = true then 0 else 3 := by unfold packErr; rw [if_neg h1', if_neg h2]
  rw [cF (dF (by omega)), hpe]
  clear hpe h1'
  obtain ⟨d, rfl⟩ := Int.eq_ofNat_of_zero_le (show 0 ≤ o by omega)
  rw [Int.toNat_natCast]
  have hb : l.length * d ≤ 4096 * 16 := Nat.mul_le_mul (by omega) (by omega)
  have e1 : IntKind.i64.wrap (Int.tdiv (IntKind.i64.wrap (IntKind.i64.wrap ((l.length : Int) * (d : Int)) + 7)) 8) = (((l.length * d + 7) / 8 : Nat) : Int) := by
    rw [← Int.natCast_mul, w64 (x := ((l.length * d : Nat) : Int)) (by omega), w64 (x := ((l.length * d : Nat) : Int) + 7) (by omega), show ((l.length * d : Nat) : Int) + 7 = ((l.length * d + 7 : Nat) : Int) by omega,
      show Int.tdiv ((l.length * d + 7 : Nat) : Int) 8 = (((l.length * d + 7) / 8 : Nat) : Int) from rfl, w64 (by omega)]
  have hmok : mok 1 (((l.length * d + 7) / 8 : Nat) : Int) = some () := by unfold mok; rw [if_pos (by omega)]
  rw [e1, hmok, bsome]
  have h0 : pst d l 0 = (([] : List Int), (0 : Int), (0 : Int), (0 : Int)) := by
    unfold pst
    rw [Nat.zero_mul]
    simp [smp, num, dig, toI]
  have key := pack_l1 N hN (d := d) (by omega) l (by omega) (fun x : PSt =>
    cond (decide (0 < x.2.2.1)) (
    Option.bind (nn (IntKind.i64.wrap (8 - x.2.2.1))) fun _ =>
    Option.bind (app 1 x.1 (([IntKind.u8.wrap (shlI .i64 x.2.1 (IntKind.i64.wrap (8 - x.2.2.1)))] : List Int))) fun l10 =>
    some (toB l10, 0)) (
    some (toB x.1, 0))) l.length 0 N (by omega) (by omega)
  rw [h0, List.drop_zero] at key
  refine Eq.trans key ?_
  cases hall : l.all (inD d)
  · rfl
  show _ = some ((packN d l).map UInt8.ofNat, 0)
  rw [if_pos rfl]
  unfold pst packN
  dsimp only
  generalize smp d l l.length = X
  have hdl := dig_len 256 (l.length * d / 8) (X / 2 ^ (l.length * d % 8))
  generalize l.length * d = T at *
  by_cases hr : T % 8 = 0
  · rw [cF (dF (by omega)), toB_toI, hr, Nat.pow_zero, Nat.div_one, show (T + 7) / 8 = T / 8 by omega, show T / 8 * 8 - T = 0 by omega, Nat.pow_zero, Nat.mul_one]
  · have hw : IntKind.i64.wrap (8 - ((T % 8 : Nat) : Int)) = ((8 - T % 8 : Nat) : Int) := by rw [w64 (by omega)]; omega
    have hX : X % 2 ^ (T % 8) < 128 := Nat.lt_of_lt_of_le (Nat.mod_lt _ (Nat.two_pow_pos _)) (Nat.pow_le_pow_right (show 0 < 2 by decide) (show T % 8 ≤ 7 by omega))
    have hp2 : 2 ^ (8 - T % 8) ≤ 2 ^ 8 := Nat.pow_le_pow_right (show 0 < 2 by decide) (by omega)
    have hxx : X % 2 ^ (T % 8) * 2 ^ (8 - T % 8) ≤ 128 * 256 := Nat.mul_le_mul (by omega) hp2
    rw [cT (dT (by omega)), hw, nn_nat, bsome, shl_nat (by omega) (by omega), u8_nat, app_eq (by rw [toI_len]; simp; omega), bsome]
    have e2 := pack_last X (T % 8) (T / 8) (by omega) (by omega)
    have e3 : toI (dig 256 (T / 8) (X / 2 ^ (T % 8))) ++ [((X % 2 ^ (T % 8) * 2 ^ (8 - T % 8) % 256 : Nat) : Int)] = toI (dig 256 (T / 8 + 1) (X * 2 ^ (8 - T % 8))) := by rw [← e2, toI_app]; rfl
    rw [e3, toB_toI, show (T + 7) / 8 = T / 8 + 1 by omega, show (T / 8 + 1) * 8 - T = 8 - T % 8 by omega]
end Go.Proofs.YtpmnfhifmmfglabDoor

namespace Go.Proofs.YtpmnfhifmmfglabDoor
open Go
theorem step_digw {w X d e L q r : Nat} (m : Nat) (he : e < 2 ^ d) (hq : L + d = w * q + r) : dig (2 ^ w) m (X / 2 ^ L) ++ dig (2 ^ w) q ((X % 2 ^ L * 2 ^ d + e) / 2 ^ r) = dig (2 ^ w) (m + q) ((X * 2 ^ d + e) / 2 ^ r) := by
  rw [dig_add]
  congr 1
  · rw [powp, Nat.div_div_eq_div_mul, ← Nat.pow_add, show r + w * q = d + L by omega, Nat.pow_add, ← Nat.div_div_eq_div_mul, step_hi he]
  · rw [step_low he, show L + d = r + w * q by omega, Nat.pow_add, Nat.mod_mul_right_div_self, ← powp, dig_mod]
theorem step_modw {w X d e L q r : Nat} (he : e < 2 ^ d) (hq : L + d = w * q + r) : (X % 2 ^ L * 2 ^ d + e) % 2 ^ r = (X * 2 ^ d + e) % 2 ^ r := by
  rw [step_low he, show L + d = r + w * q by omega, Nat.pow_add, Nat.mod_mul_right_mod]
theorem unpack_l2 (N : Nat) {d n : Nat} (hd : 1 ≤ d ∧ d ≤ 16) (hn : n ≤ 4096) (kk) : ∀ (a t h fuel : Nat) (out : List Int), a = min (t / d) (n - out.length) → out.length ≤ n → t ≤ 32 → h < 2 ^ t → a < fuel →
    D_bits_Unpack_l2 N (d : Int) (n : Int) kk fuel (out, (h : Int), (t : Int)) = kk (out ++ toI (dig (2 ^ d) a (h / 2 ^ (t - d * a))), ((h % 2 ^ (t - d * a) : Nat) : Int), ((t - d * a : Nat) : Int)) := by
  intro a
  induction a with
  | zero =>
    intro t h fuel out ha hon ht hh hf
    obtain ⟨fuel, rfl⟩ : ∃ m, fuel = m + 1 := ⟨fuel - 1, by omega⟩
    have hex : t < d ∨ n = out.length := by
      by_cases q : t < d
      · exact .inl q
      · right
        have : 1 ≤ t / d := (Nat.le_div_iff_mul_le (by omega)).2 (by omega)
        omega
    have hfin : kk (out ++ toI (dig (2 ^ d) 0 (h / 2 ^ (t - d * 0))), ((h % 2 ^ (t - d * 0) : Nat) : Int), ((t - d * 0 : Nat) : Int)) = kk (out, (h : Int), (t : Int)) := by
      rw [Nat.mul_zero, Nat.sub_zero, Nat.mod_eq_of_lt hh]
      simp [dig, toI]
    rw [hfin]
    unfold D_bits_Unpack_l2
    by_cases q : (d : Int) ≤ t
    · rw [cT (dT q), cF (dF (by omega))]
    · rw [cF (dF q)]
  | succ a ih =>
    intro t h fuel out ha hon ht hh hf
    obtain ⟨fuel, rfl⟩ : ∃ m, fuel = m + 1 := ⟨fuel - 1, by omega⟩
    have h1 : d ≤ t := by
      rcases Nat.lt_or_ge t d with q | q
      · rw [Nat.div_eq_of_lt q] at ha; omega
      · exact q
    have h2 : out.length < n := by omega
    have htd : (t - d) / d = t / d - 1 := by
      have := Nat.sub_mul_div t d 1
      rw [Nat.mul_one] at this
      exact this
    have hx : IntKind.i64.wrap ((t : Int) - (d : Int)) = ((t - d : Nat) : Int) := by rw [w64 (by omega)]; omega
    have hpt : 2 ^ t ≤ 2 ^ 32 := Nat.pow_le_pow_right (by decide) ht
    have hptd : 2 ^ (t - d) ≤ 2 ^ 32 := Nat.pow_le_pow_right (by decide) (by omega)
    have hp0 := Nat.two_pow_pos (t - d)
    have em : IntKind.i64.wrap (shlI .i64 1 ((t - d : Nat) : Int) - 1) = ((2 ^ (t - d) - 1 : Nat) : Int) := by
      have := shl_nat (h := 1) (k := t - d) (by omega) (by omega)
      rw [Nat.one_mul] at this
      rw [show (1 : Int) = ((1 : Nat) : Int) from rfl, this, w64 (by omega)]
      omega
    have hmul : d * (a + 1) = d + d * a := by rw [Nat.mul_add, Nat.mul_one, Nat.add_comm]
    have hle : d * (a + 1) ≤ t := by
      have := Nat.div_mul_le_self t d
      have q : a + 1 ≤ t / d := by omega
      have := Nat.mul_le_mul_left d q
      rw [Nat.mul_comm d (t / d)] at this
      omega
    unfold D_bits_Unpack_l2
    rw [cT (dT (by omega)), cT (dT (by omega)), hx, bsome, nn_nat, bsome, shr_nat (by omega), app_eq (by simp; omega), bsome, bsome, em, and_mask (by omega) (by omega), bsome]
    rw [ih (t - d) (h % 2 ^ (t - d)) fuel (out ++ [((h / 2 ^ (t - d) : Nat) : Int)]) (by rw [htd, List.length_append, List.length_singleton]; omega) (by rw [List.length_append, List.length_singleton]; omega) (by omega) (Nat.mod_lt _ hp0) (by omega)]
    have er : t - d - d * a = t - d * (a + 1) := by omega
    rw [er]
    have e1 : h % 2 ^ (t - d) % 2 ^ (t - d * (a + 1)) = h % 2 ^ (t - d * (a + 1)) := by
      rw [show t - d = (t - d * (a + 1)) + d * a by omega, Nat.pow_add, Nat.mod_mul_right_mod]
    have e2 : dig (2 ^ d) (a + 1) (h / 2 ^ (t - d * (a + 1))) = [h / 2 ^ (t - d)] ++ dig (2 ^ d) a (h % 2 ^ (t - d) / 2 ^ (t - d * (a + 1))) := by
      rw [Nat.add_comm a 1, dig_add, Nat.add_comm 1 a]
      congr 1
      · show [h / 2 ^ (t - d * (a + 1)) / (2 ^ d) ^ a % 2 ^ d] = _
        rw [powp, Nat.div_div_eq_div_mul, ← Nat.pow_add, show t - d * (a + 1) + d * a = t - d by omega, Nat.mod_eq_of_lt]
        rw [Nat.div_lt_iff_lt_mul hp0, ← Nat.pow_add, show d + (t - d) = t by omega]
        exact hh
      · have : h % 2 ^ (t - d) / 2 ^ (t - d * (a + 1)) = h / 2 ^ (t - d * (a + 1)) % (2 ^ d) ^ a := by
          rw [powp, show t - d = (t - d * (a + 1)) + d * a by omega, Nat.pow_add, Nat.mod_mul_right_div_self]
        rw [this, dig_mod]
    rw [e1, e2, toI_app, List.append_assoc]
    rfl
/-- The number that bytes are. -/
def byt (s : List UInt8) (k : Nat) : Nat := num 256 ((s.take k).map UInt8.toNat)
theorem byt_succ {s : List UInt8} {k : Nat} (hk : k < s.length) : byt s (k + 1) = byt s k * 2 ^ 8 + s[k].toNat := by
  unfold byt
  rw [List.take_succ_eq_append_getElem hk, List.map_append, List.map_cons, List.map_nil, num_snoc]
def cN (d n k : Nat) : Nat := min (8 * k / d) n
def ust (d n : Nat) (s : List UInt8) (k : Nat) : PSt := (toI (dig (2 ^ d) (cN d n k) (byt s k / 2 ^ (8 * k - d * cN d n k))), ((byt s k % 2 ^ (8 * k - d * cN d n k) : Nat) : Int), ((8 * k - d * cN d n k : Nat) : Int), (k : Int))
theorem unpack_l1 (N : Nat) (hN : 100000 ≤ N) {d n : Nat} (hd : 1 ≤ d ∧ d ≤ 16) (hn : n ≤ 4096) (s : List UInt8) (hl : s.length = (n * d + 7) / 8) (kk) : ∀ (j k fuel : Nat), k + j = s.length → j < fuel →
    D_bits_Unpack_l1 N s (d : Int) (n : Int) kk fuel (ust d n s k) = kk (ust d n s s.length) := by
  have hnd : n * d ≤ 4096 * 16 := Nat.mul_le_mul hn hd.2
  intro j
  induction j with
  | zero =>
    intro k fuel hk hf
    obtain ⟨fuel, rfl⟩ : ∃ m, fuel = m + 1 := ⟨fuel - 1, by omega⟩
    obtain rfl : k = s.length := by omega
    unfold ust D_bits_Unpack_l1
    rw [cF (dF (by omega))]
  | succ j ih =>
    intro k fuel hk hf
    obtain ⟨fuel, rfl⟩ : ∃ m, fuel = m + 1 := ⟨fuel - 1, by omega⟩
    have hlt : k < s.length := by omega
    have hih := ih (k + 1) fuel (by omega) (by omega)
    have hbs := byt_succ hlt
    have hb : s[k].toNat < 2 ^ 8 := s[k].toNat_lt
    -- before the last byte no sample is lacking
    have hc : cN d n k = 8 * k / d := by
      unfold cN
      have : 8 * k / d < n := (Nat.div_lt_iff_lt_mul (by omega)).2 (by omega)
      omega
    have hL : 8 * k - d * cN d n k = 8 * k % d := by
      have := Nat.div_add_mod (8 * k) d
      rw [hc]; omega
    have hLd : 8 * k % d < d := Nat.mod_lt _ (by omega)
    have hcn : cN d n k ≤ n := Nat.min_le_right _ _
    have ha : cN d n (k + 1) = cN d n k + min ((8 * k % d + 8) / d) (n - cN d n k) := by
      have h1 : (8 * k + 8) / d = 8 * k / d + (8 * k % d + 8) / d := by
        have := Nat.div_add_mod (8 * k) d
        have e : 8 * k + 8 = d * (8 * k / d) + (8 * k % d + 8) := by omega
        rw [e, Nat.mul_add_div (by omega)]
      have h2 : cN d n (k + 1) = min ((8 * k + 8) / d) n := by unfold cN; rw [show 8 * (k + 1) = 8 * k + 8 by omega]
      rw [h2, h1, ← hc]
      omega
    have hL2 : 8 * (k + 1) - d * cN d n (k + 1) = 8 * k % d + 8 - d * min ((8 * k % d + 8) / d) (n - cN d n k) := by
      rw [ha, Nat.mul_add d]
      have h3 := Nat.div_mul_le_self (8 * k) d
      rw [← hc, Nat.mul_comm] at h3
      omega
    have hale : d * min ((8 * k % d + 8) / d) (n - cN d n k) ≤ 8 * k % d + 8 := by
      have h4 := Nat.div_mul_le_self (8 * k % d + 8) d
      have h5 := Nat.mul_le_mul_left d (Nat.min_le_left ((8 * k % d + 8) / d) (n - cN d n k))
      rw [Nat.mul_comm d ((8 * k % d + 8) / d)] at h5
      omega
    unfold ust at hih ⊢
    rw [hL]
    rw [hL2, ha, hbs] at hih
    have hol := toI_len (dig (2 ^ d) (cN d n k) (byt s k / 2 ^ (8 * k % d)))
    rw [dig_len] at hol
    have hamin : min ((8 * k % d + 8) / d) (n - cN d n k) = min ((8 * k % d + 8) / d) (n - (toI (dig (2 ^ d) (cN d n k) (byt s k / 2 ^ (8 * k % d)))).length) := by rw [hol]
    generalize min ((8 * k % d + 8) / d) (n - cN d n k) = a at *
    generalize byt s k = X at *
    generalize hbb : s[k].toNat = b at *
    have hlow := step_low (X := X) (L := 8 * k % d) hb
    have hL16 : 8 * k % d ≤ 15 := by omega
    generalize 8 * k % d = L at *
    generalize cN d n k = c at *
    have hhlt : X % 2 ^ L * 2 ^ 8 + b < 2 ^ (L + 8) := by rw [hlow]; exact Nat.mod_lt _ (Nat.two_pow_pos _)
    have hp24 : 2 ^ (L + 8) ≤ 8388608 := Nat.pow_le_pow_right (show 0 < 2 by decide) (show L + 8 ≤ 23 by omega)
    have hb8 : X % 2 ^ L * 2 ^ 8 < 8388608 := by
      have := Nat.lt_of_lt_of_le hhlt hp24
      exact Nat.lt_of_le_of_lt (Nat.le_add_right _ b) this
    have hb9 : X % 2 ^ L * 2 ^ 8 + b < 8388608 := Nat.lt_of_lt_of_le hhlt hp24
    have ex : orI .i64 (shlI .i64 ((X % 2 ^ L : Nat) : Int) 8) (IntKind.i64.wrap (b : Int)) = ((X % 2 ^ L * 2 ^ 8 + b : Nat) : Int) := by
      have q1 := shl_nat (h := X % 2 ^ L) (k := 8) (by decide) (Nat.lt_trans hb8 (by decide))
      have q2 := or_add (h := X % 2 ^ L) (d := 8) (e := b) hb (Nat.lt_trans hb9 (by decide))
      rw [w64 (x := (b : Int)) (by omega), ← q2, ← q1]
      rfl
    have ew : IntKind.i64.wrap ((L : Int) + 8) = ((L + 8 : Nat) : Int) := by rw [w64 (by omega)]; omega
    have hq : L + 8 = d * a + (L + 8 - d * a) := by omega
    have s1 := step_digw (X := X) c hb hq
    have s2 := step_modw (X := X) hb hq
    unfold D_bits_Unpack_l1
    rw [cT (dT (by omega)), idx_nat, List.getElem?_eq_getElem hlt, bsome, hbb, ex, bsome, ew, bsome]
    refine (unpack_l2 N hd hn _ a (L + 8) (X % 2 ^ L * 2 ^ 8 + b) N (toI (dig (2 ^ d) c (X / 2 ^ L))) hamin (by rw [hol]; exact hcn) (by omega) hhlt (by omega)).trans ?_
    dsimp only
    rw [← toI_app, s1, s2, w64 (x := (k : Int) + 1) (by omega)]
    exact hih
def unpackErr (s : List UInt8) (o p : Int) : Int := if ¬ (1 ≤ o ∧ o ≤ 16) then 3 else if p < 0 then 3 else if 4096 < p then 2 else if s.length ≠ (p.toNat * o.toNat + 7) / 8 then 1 else if byt s s.length % 2 ^ (8 * s.length - o.toNat * p.toNat) ≠ 0 then 1 else 0
def unpackN (s : List UInt8) (d n : Nat) : List Nat := dig (2 ^ d) n (byt s s.length / 2 ^ (8 * s.length - d * n))
theorem unpack_eq (N : Nat) (hN : 100000 ≤ N) (s : List UInt8) (hs : s.length ≤ 9223372036854775807) (o p : Int) : D_bits_Unpack N s o p = some (if unpackErr s o p = 0 then (toI (unpackN s o.toNat p.toNat), 0) else ([], unpackErr s o p)) := by
  unfold D_bits_Unpack
  rw [depths_eq, bsome]
  by_cases h1 : 1 ≤ o ∧ o ≤ 16
  rotate_left
  · have hpe : unpackErr s o p = 3 := by unfold unpackErr; rw [if_pos h1]
    rw [cT (by rw [dF h1]; rfl), hpe]; rfl
  have h1' : ¬ ¬ (1 ≤ o ∧ o ≤ 16) := fun h => h h1
  rw [cF (by rw [dT h1]; rfl)]
  by_cases h2 : p < 0
  · have hpe : unpackErr s o p = 3 := by unfold unpackErr; rw [if_neg h1', if_pos h2]
    rw [cT (dT h2), hpe]; rfl
  rw [cF (dF h2)]
  by_cases h3 : 4096 < p
  · have hpe : unpackErr s o p = 2 := by unfold unpackErr; rw [if_neg h1', if_neg h2, if_pos h3]
    rw [cT (dT h3), hpe]; rfl
  rw [cF (dF h3)]
  obtain ⟨d, rfl⟩ := Int.eq_ofNat_of_zero_le (show 0 ≤ o by omega)
  obtain ⟨n, rfl⟩ := Int.eq_ofNat_of_zero_le (show 0 ≤ p by omega)
  have hb : n * d ≤ 4096 * 16 := Nat.mul_le_mul (by omega) (by omega)
  have e1 : IntKind.i64.wrap (Int.tdiv (IntKind.i64.wrap (IntKind.i64.wrap ((n : Int) * (d : Int)) + 7)) 8) = (((n * d + 7) / 8 : Nat) : Int) := by
    rw [← Int.natCast_mul, w64 (x := ((n * d : Nat) : Int)) (by omega), w64 (x := ((n * d : Nat) : Int) + 7) (by omega), show ((n * d : Nat) : Int) + 7 = ((n * d + 7 : Nat) : Int) by omega,
      show Int.tdiv ((n * d + 7 : Nat) : Int) 8 = (((n * d + 7) / 8 : Nat) : Int) from rfl, w64 (by omega)]
  rw [e1]
  by_cases h4 : s.length = (n * d + 7) / 8
  rotate_left
  · have hpe : unpackErr s d n = 1 := by unfold unpackErr; rw [if_neg h1', if_neg h2, if_neg h3, Int.toNat_natCast, Int.toNat_natCast, if_pos h4]
    rw [cT (by rw [dF (by omega)]; rfl), hpe]; rfl
  rw [cF (by rw [dT (by omega)]; rfl)]
  have h0 : ust d n s 0 = (([] : List Int), (0 : Int), (0 : Int), (0 : Int)) := by
    unfold ust cN
    simp [byt, num, dig, toI, Nat.mod_one]
  have key := unpack_l1 N hN (d := d) (n := n) (by omega) (by omega) s h4 (fun x : PSt => cond (!decide (x.2.1 = 0)) (some (([] : List Int), 1)) (some (x.1, 0))) s.length 0 N (by omega) (by omega)
  rw [h0] at key
  refine Eq.trans key ?_
  have hc : cN d n s.length = n := by
    unfold cN
    have : n ≤ 8 * s.length / d := (Nat.le_div_iff_mul_le (by omega)).2 (by rw [h4]; omega)
    omega
  unfold ust
  rw [hc]
  dsimp only
  by_cases h5 : byt s s.length % 2 ^ (8 * s.length - d * n) = 0
  · have hpe : unpackErr s d n = 0 := by
      unfold unpackErr
      rw [if_neg h1', if_neg h2, if_neg h3, Int.toNat_natCast, Int.toNat_natCast, if_neg (by omega), if_neg (by omega)]
    rw [cF (by rw [dT (by omega)]; rfl), hpe, if_pos rfl, Int.toNat_natCast, Int.toNat_natCast]
    rfl
  · have hpe : unpackErr s d n = 1 := by
      unfold unpackErr
      rw [if_neg h1', if_neg h2, if_neg h3, Int.toNat_natCast, Int.toNat_natCast, if_neg (by omega), if_pos h5]
    rw [cT (by rw [dF (by omega)]; rfl), hpe]; rfl
end Go.Proofs.YtpmnfhifmmfglabDoor

namespace Go.Proofs.YtpmnfhifmmfglabDoor
open Go
theorem bitsBegun_eq : D_darkslidelaw_bitsBegun 100000 = some true := by kernel_rfl
theorem sameI_l1 (N : Nat) (l : List Int) (kk) (hl : l.length ≤ 4611686018427387904) : ∀ (j k fuel : Nat), k + j = l.length → j < fuel → D_darkslideref_SameInts_l1 N l l kk fuel (k : Int) = kk (l.length : Int) := by
  intro j
  induction j with
  | zero =>
    intro k fuel hk hf
    obtain ⟨fuel, rfl⟩ : ∃ m, fuel = m + 1 := ⟨fuel - 1, by omega⟩
    obtain rfl : k = l.length := by omega
    unfold D_darkslideref_SameInts_l1
    rw [cF (dF (by omega))]
  | succ j ih =>
    intro k fuel hk hf
    obtain ⟨fuel, rfl⟩ : ∃ m, fuel = m + 1 := ⟨fuel - 1, by omega⟩
    have hlt : k < l.length := by omega
    unfold D_darkslideref_SameInts_l1
    rw [cT (dT (by omega)), idx_nat, List.getElem?_eq_getElem hlt, bsome, bsome, cF (by simp), bsome, w64 (by omega)]
    exact ih (k + 1) fuel (by omega) (by omega)
theorem sameI_eq (N : Nat) (l : List Int) (hl : l.length < N) (hN : N ≤ 1000000) : D_darkslideref_SameInts N l l = some true := by
  unfold D_darkslideref_SameInts
  rw [cF (by simp)]
  exact sameI_l1 N l _ (by omega) l.length 0 N (by omega) hl
theorem ofNat_toNat {l : List Nat} (h : ∀ y ∈ l, y < 256) : (l.map UInt8.ofNat).map UInt8.toNat = l := by
  rw [List.map_map]
  conv => rhs; rw [← List.map_id l]
  refine List.map_congr_left fun y hy => ?_
  have := h y hy
  simp [UInt8.toNat_ofNat', Nat.mod_eq_of_lt this]
theorem toNat_ofNat (s : List UInt8) : (s.map UInt8.toNat).map UInt8.ofNat = s := by
  rw [List.map_map]
  conv => rhs; rw [← List.map_id s]
  refine List.map_congr_left fun y _ => ?_
  simp
theorem toI_toNat (l : List Nat) : (toI l).map Int.toNat = l := by
  unfold toI
  rw [List.map_map]
  conv => rhs; rw [← List.map_id l]
  exact List.map_congr_left fun y _ => rfl
section
variable {d n : Nat} (hd : 1 ≤ d ∧ d ≤ 16)
include hd
theorem smp_lt {l : List Int} (h : l.all (inD d) = true) : smp d l l.length < 2 ^ (d * l.length) := by
  unfold smp
  rw [List.take_length, ← powp]
  have := num_lt (B := 2 ^ d) (l.map Int.toNat) fun y hy => by
    obtain ⟨e, he, rfl⟩ := List.mem_map.1 hy
    have := of_decide_eq_true (List.all_eq_true.1 h e he)
    omega
  rwa [List.length_map] at this
/-- The bytes of packed samples are their number, moved up. -/
theorem byt_pack {l : List Int} (h : l.all (inD d) = true) : ((packN d l).map UInt8.ofNat).length = (l.length * d + 7) / 8 ∧ byt ((packN d l).map UInt8.ofNat) ((l.length * d + 7) / 8) = smp d l l.length * 2 ^ (8 * ((l.length * d + 7) / 8) - d * l.length) := by
  have hlen : ((packN d l).map UInt8.ofNat).length = (l.length * d + 7) / 8 := by rw [List.length_map]; exact dig_len _ _ _
  refine ⟨hlen, ?_⟩
  unfold byt
  have ht : ((packN d l).map UInt8.ofNat).take ((l.length * d + 7) / 8) = (packN d l).map UInt8.ofNat := List.take_of_length_le (by omega)
  have h256 : ∀ y ∈ packN d l, y < 256 := fun y hy => dig_lt (by decide) _ _ y hy
  rw [ht, ofNat_toNat h256]
  unfold packN
  rw [num_dig, Nat.mul_comm l.length d, Nat.mul_comm ((d * l.length + 7) / 8) 8, Nat.mod_eq_of_lt]
  have h1 := smp_lt hd h
  rw [pow256]
  have h2 : smp d l l.length * 2 ^ (8 * ((d * l.length + 7) / 8) - d * l.length) < 2 ^ (d * l.length) * 2 ^ (8 * ((d * l.length + 7) / 8) - d * l.length) := Nat.mul_lt_mul_of_pos_right h1 (Nat.two_pow_pos _)
  rw [← Nat.pow_add, show d * l.length + (8 * ((d * l.length + 7) / 8) - d * l.length) = 8 * ((d * l.length + 7) / 8) by omega] at h2
  exact h2
theorem byt_lt (s : List UInt8) : byt s s.length < 2 ^ (8 * s.length) := by
  unfold byt
  rw [List.take_length, ← pow256]
  have := num_lt (B := 256) (s.map UInt8.toNat) fun y hy => by
    obtain ⟨e, _, rfl⟩ := List.mem_map.1 hy
    exact e.toNat_lt
  rwa [List.length_map] at this
theorem pack_unpack {s : List UInt8} (hl : s.length = (n * d + 7) / 8) (hn : n ≤ 4096) (hz : byt s s.length % 2 ^ (8 * s.length - d * n) = 0) :
    packErr (toI (unpackN s d n)) d = 0 ∧ (packN d (toI (unpackN s d n))).map UInt8.ofNat = s ∧ (toI (unpackN s d n)).length = n := by
  have hlen : (toI (unpackN s d n)).length = n := by rw [toI_len]; exact dig_len _ _ _
  have hdn : d * n ≤ 8 * s.length := by rw [hl, Nat.mul_comm d]; omega
  refine ⟨?_, ?_, hlen⟩
  · unfold packErr
    rw [if_neg (fun q => q (by omega)), if_neg (by omega), Int.toNat_natCast, if_pos]
    refine List.all_eq_true.2 fun y hy => ?_
    obtain ⟨e, he, rfl⟩ := List.mem_map.1 hy
    have := dig_lt (Nat.two_pow_pos d) _ _ e he
    exact decide_eq_true (by omega)
  · unfold packN
    have hS : smp d (toI (unpackN s d n)) n = byt s s.length / 2 ^ (8 * s.length - d * n) := by
      unfold smp
      rw [List.take_of_length_le (by omega), toI_toNat]
      unfold unpackN
      rw [num_dig, powp, Nat.mod_eq_of_lt]
      have := byt_lt hd s
      rw [show 8 * s.length = d * n + (8 * s.length - d * n) by omega, Nat.pow_add] at this
      exact (Nat.div_lt_iff_lt_mul (Nat.two_pow_pos _)).2 (by rw [show 8 * s.length = d * n + (8 * s.length - d * n) by omega]; simpa using this)
    rw [hlen, hS, ← hl, Nat.mul_comm n d, Nat.mul_comm s.length 8, Nat.div_mul_cancel (Nat.dvd_of_mod_eq_zero hz)]
    unfold byt
    rw [List.take_length]
    have := dig_num (B := 256) (s.map UInt8.toNat) fun y hy => by
      obtain ⟨e, _, rfl⟩ := List.mem_map.1 hy
      exact e.toNat_lt
    rw [List.length_map] at this
    rw [this, toNat_ofNat]
end
end Go.Proofs.YtpmnfhifmmfglabDoor

namespace Go.Proofs.YtpmnfhifmmfglabDoor
open Go
/-- Bits as letters. -/
def chs (l : List Nat) : List UInt8 := l.map fun b => UInt8.ofNat (48 + b)
theorem chs_len (l : List Nat) : (chs l).length = l.length := by simp [chs]
theorem chs_app (l m : List Nat) : chs (l ++ m) = chs l ++ chs m := by simp [chs]
theorem num_r (N : Nat) : ∀ (k fu n : Nat), k < fu → k ≤ 16 → n < 9223372036854775808 → D_darkslideref_Number_r N fu (n : Int) (k : Int) = some (chs (dig 2 k n)) := by
  intro k
  induction k with
  | zero =>
    intro fu n hf _ _
    obtain ⟨fu, rfl⟩ : ∃ m, fu = m + 1 := ⟨fu - 1, by omega⟩
    unfold D_darkslideref_Number_r
    rw [cT (by rfl)]; rfl
  | succ k ih =>
    intro fu n hf hk hn
    obtain ⟨fu, rfl⟩ : ∃ m, fu = m + 1 := ⟨fu - 1, by omega⟩
    have e1 : IntKind.i64.wrap (Int.tdiv (n : Int) 2) = ((n / 2 : Nat) : Int) := by rw [show Int.tdiv (n : Int) 2 = ((n / 2 : Nat) : Int) from rfl, w64 (by omega)]
    have e2 : IntKind.i64.wrap (((k + 1 : Nat) : Int) - 1) = (k : Int) := by rw [w64 (by omega)]; omega
    have e3 : IntKind.u8.wrap (48 + IntKind.u8.wrap (Int.tmod (n : Int) 2)) = ((48 + n % 2 : Nat) : Int) := by
      rw [show Int.tmod (n : Int) 2 = ((n % 2 : Nat) : Int) from rfl, u8_nat, show (48 : Int) + ((n % 2 % 256 : Nat) : Int) = ((48 + n % 2 % 256 : Nat) : Int) by omega, u8_nat]
      omega
    unfold D_darkslideref_Number_r
    rw [cF (dF (by omega)), e1, e2, ih fu (n / 2) (by omega) (by omega) (by omega), bsome, e3]
    have hl : (chs (dig 2 k (n / 2))).length = k := by rw [chs_len, dig_len]
    have ha : addS (chs (dig 2 k (n / 2))) (toB [((48 + n % 2 : Nat) : Int)]) = some (chs (dig 2 (k + 1) n)) := by
      unfold addS
      rw [if_pos (by rw [hl]; simp [toB]; omega)]
      show some (_ ++ _) = some (chs (dig 2 k (n / 2) ++ [n % 2]))
      rw [chs_app]
      rfl
    rw [ha, bsome]
theorem number_eq {N : Nat} (hN : 100 ≤ N) {n k : Nat} (hk : k ≤ 16) (hn : n < 9223372036854775808) : D_darkslideref_Number N (n : Int) (k : Int) = some (chs (dig 2 k n)) := num_r N k N n (by omega) hk hn
theorem ofB_app (l m : List UInt8) : ofB (l ++ m) = ofB l ++ ofB m := by simp [ofB]
theorem toB_ofB (l : List UInt8) : toB (ofB l) = l := by
  unfold toB ofB
  rw [List.map_map]
  conv => rhs; rw [← List.map_id l]
  refine List.map_congr_left fun y _ => ?_
  show UInt8.ofNat (Int.toNat ((y.toNat : Nat) : Int)) = y
  simp
theorem ofB_length (l : List UInt8) : (ofB l).length = l.length := by simp [ofB]
/-- One more sample: its bits behind the others'. -/
theorem dig_next {d e X m : Nat} (he : e < 2 ^ d) : dig 2 m X ++ dig 2 d e = dig 2 (m + d) (X * 2 ^ d + e) := by
  rw [dig_add, step_hi he]
  congr 1
  refine dig_same ?_
  rw [Nat.mul_comm, Nat.mul_add_mod]
theorem packed_l1 (N : Nat) (hN : 100000 ≤ N) {d : Nat} (hd : 1 ≤ d ∧ d ≤ 16) {l : List Int} (hl : l.length ≤ 4096) (hall : l.all (inD d) = true) (kk) : ∀ (j k fuel : Nat), k + j = l.length → j < fuel →
    D_darkslideref_Packed_l1 N l (d : Int) kk fuel (ofB (chs (dig 2 (k * d) (smp d l k))), (k : Int)) = kk (ofB (chs (dig 2 (l.length * d) (smp d l l.length))), (l.length : Int)) := by
  intro j
  induction j with
  | zero =>
    intro k fuel hk hf
    obtain ⟨fuel, rfl⟩ : ∃ m, fuel = m + 1 := ⟨fuel - 1, by omega⟩
    obtain rfl : k = l.length := by omega
    unfold D_darkslideref_Packed_l1
    rw [cF (dF (by omega))]
  | succ j ih =>
    intro k fuel hk hf
    obtain ⟨fuel, rfl⟩ : ∃ m, fuel = m + 1 := ⟨fuel - 1, by omega⟩
    have hlt : k < l.length := by omega
    have hp := pow_le16 hd.2
    have hin := of_decide_eq_true (List.all_eq_true.1 hall _ (List.getElem_mem hlt))
    obtain ⟨e, he⟩ : ∃ e : Nat, l[k] = e := ⟨l[k].toNat, by omega⟩
    have hed : e < 2 ^ d := by omega
    have hsm := smp_succ (d := d) hlt
    rw [he, Int.toNat_natCast] at hsm
    have hkb : k * d ≤ 4096 * 16 := Nat.mul_le_mul (by omega) hd.2
    have hih := ih (k + 1) fuel (by omega) (by omega)
    rw [hsm, Nat.add_mul, Nat.one_mul, ← dig_next hed, chs_app, ofB_app] at hih
    unfold D_darkslideref_Packed_l1
    rw [cT (dT (by omega)), idx_nat, List.getElem?_eq_getElem hlt, bsome, he, number_eq (by omega) hd.2 (by omega), bsome, app_eq (by rw [ofB_length, ofB_length, chs_len, chs_len, dig_len, dig_len]; omega), bsome, bsome, w64 (x := (k : Int) + 1) (by omega)]
    exact hih
def gr (M : Nat) (l : List Nat) : List Nat := (List.range M).map fun g => num 2 ((List.range 8).map fun t => l.getD (8 * g + t) 0)
theorem gr_succ {M : Nat} {a c : List Nat} (ha : a.length = 8 * M) (hc : c.length = 8) : gr (M + 1) (a ++ c) = gr M a ++ [num 2 c] := by
  unfold gr
  rw [List.range_succ (n := M), List.map_append, List.map_singleton]
  congr 1
  · refine List.map_congr_left fun g hg => ?_
    have := List.mem_range.1 hg
    congr 1
    refine List.map_congr_left fun t ht => ?_
    have := List.mem_range.1 ht
    rw [List.getD_eq_getElem?_getD, List.getD_eq_getElem?_getD, List.getElem?_append_left (by omega)]
  · congr 2
    apply List.ext_getElem?
    intro t
    by_cases ht : t < 8
    · rw [List.getElem?_map, List.getElem?_range ht]
      show some ((a ++ c).getD (8 * M + t) 0) = _
      rw [List.getD_eq_getElem?_getD, List.getElem?_append_right (by omega), show 8 * M + t - a.length = t by omega, List.getElem?_eq_getElem (by omega)]
      rfl
    · rw [List.getElem?_eq_none (by simp; omega), List.getElem?_eq_none (by omega)]
theorem gr_dig : ∀ (M Y : Nat), gr M (dig 2 (8 * M) Y) = dig 256 M Y
  | 0, _ => rfl
  | M + 1, Y => by
    rw [show 8 * (M + 1) = 8 * M + 8 by omega, dig_add, gr_succ (dig_len _ _ _) (dig_len _ _ _), num_dig, gr_dig M]
    rfl
theorem gr_pad (M p : Nat) (l : List Nat) : gr M (l ++ List.replicate p 0) = gr M l := by
  unfold gr
  refine List.map_congr_left fun g _ => ?_
  congr 1
  refine List.map_congr_left fun t _ => ?_
  rw [List.getD_eq_getElem?_getD, List.getD_eq_getElem?_getD]
  by_cases h : 8 * g + t < l.length
  · rw [List.getElem?_append_left h]
  · rw [List.getElem?_append_right (by omega), List.getElem?_eq_none (l := l) (by omega), List.getElem?_replicate]
    split <;> rfl
theorem dig_zero (B : Nat) : ∀ n, dig B n 0 = List.replicate n 0
  | 0 => rfl
  | n + 1 => by
    show dig B n (0 / B) ++ [0 % B] = _
    rw [Nat.zero_div, Nat.zero_mod, dig_zero B n, List.replicate_succ']
theorem gr_up (T X : Nat) : gr ((T + 7) / 8) (dig 2 T X) = dig 256 ((T + 7) / 8) (X * 2 ^ ((T + 7) / 8 * 8 - T)) := by
  have h1 : dig 2 T X ++ List.replicate ((T + 7) / 8 * 8 - T) 0 = dig 2 (8 * ((T + 7) / 8)) (X * 2 ^ ((T + 7) / 8 * 8 - T)) := by
    rw [show 8 * ((T + 7) / 8) = T + ((T + 7) / 8 * 8 - T) by omega, dig_add, Nat.mul_div_cancel _ (Nat.two_pow_pos _), ← dig_zero 2]
    congr 1
    exact dig_same (by rw [Nat.mul_mod_left, Nat.zero_mod])
  rw [← gr_dig, ← h1, gr_pad]
theorem chs_get {l : List Nat} {k : Nat} (hk : k < l.length) (h2 : ∀ y ∈ l, y < 2) : idx (chs l) (k : Int) = some (UInt8.ofNat (48 + l.getD k 0)) ∧ ((UInt8.ofNat (48 + l.getD k 0)).toNat : Int) = ((48 + l.getD k 0 : Nat) : Int) ∧ l.getD k 0 < 2 := by
  have hg : l.getD k 0 = l[k] := by rw [List.getD_eq_getElem?_getD, List.getElem?_eq_getElem hk]; rfl
  have h3 := h2 _ (List.getElem_mem hk)
  rw [hg]
  refine ⟨?_, ?_, h3⟩
  · rw [idx_nat, chs, List.getElem?_map, List.getElem?_eq_getElem hk]; rfl
  · rw [UInt8.toNat_ofNat', Nat.mod_eq_of_lt (by omega)]
theorem bytes_l2 (N : Nat) {l : List Nat} (h2 : ∀ y ∈ l, y < 2) (hl : l.length ≤ 16777216) {i : Nat} (hi : i < l.length) (kk) : ∀ (j t fuel : Nat), t + j = 8 → j < fuel →
    D_darkslideref_Bytes_l2 N (chs l) (i : Int) kk fuel (((num 2 ((List.range t).map fun t => l.getD (i + t) 0) : Nat) : Int), ((i + t : Nat) : Int)) = kk (((num 2 ((List.range 8).map fun t => l.getD (i + t) 0) : Nat) : Int), ((i + 8 : Nat) : Int)) := by
  intro j
  induction j with
  | zero =>
    intro t fuel hk hf
    obtain ⟨fuel, rfl⟩ : ∃ m, fuel = m + 1 := ⟨fuel - 1, by omega⟩
    obtain rfl : t = 8 := by omega
    unfold D_darkslideref_Bytes_l2
    rw [w64 (x := (i : Int) + 8) (by omega), cF (dF (by omega))]
  | succ j ih =>
    intro t fuel hk hf
    obtain ⟨fuel, rfl⟩ : ∃ m, fuel = m + 1 := ⟨fuel - 1, by omega⟩
    have hih := ih (t + 1) fuel (by omega) (by omega)
    rw [List.range_succ, List.map_append, List.map_singleton, num_snoc] at hih
    have hb : num 2 ((List.range t).map fun t => l.getD (i + t) 0) < 256 := by
      have := num_lt (B := 2) ((List.range t).map fun t => l.getD (i + t) 0) fun y hy => by
        obtain ⟨q, _, rfl⟩ := List.mem_map.1 hy
        rw [List.getD_eq_getElem?_getD]
        by_cases hq : i + q < l.length
        · rw [List.getElem?_eq_getElem hq]; exact h2 _ (List.getElem_mem hq)
        · rw [List.getElem?_eq_none (by omega)]; decide
      rw [List.length_map, List.length_range] at this
      have h8 : 2 ^ t ≤ 256 := Nat.pow_le_pow_right (show 0 < 2 by decide) (show t ≤ 8 by omega)
      omega
    generalize num 2 ((List.range t).map fun t => l.getD (i + t) 0) = v at *
    unfold D_darkslideref_Bytes_l2
    rw [w64 (x := (i : Int) + 8) (by omega), cT (dT (by omega)), w64 (x := 2 * (v : Int)) (by omega), bsome]
    by_cases hq : i + t < l.length
    · obtain ⟨g1, g2, g3⟩ := chs_get hq h2
      rw [cT (dT (by rw [chs_len]; omega)), g1, bsome, g2]
      generalize l.getD (i + t) 0 = b at *
      by_cases h1 : b = 1
      · subst h1
        rw [cT (dT (by omega)), w64 (x := 2 * (v : Int) + 1) (by omega), bsome, w64 (x := ((i + t : Nat) : Int) + 1) (by omega), bsome]
        rw [show v * 2 + 1 = 2 * v + 1 by omega] at hih
        exact hih
      · obtain rfl : b = 0 := by omega
        rw [cF (dF (by omega)), w64 (x := ((i + t : Nat) : Int) + 1) (by omega), bsome]
        rw [show v * 2 + 0 = 2 * v by omega] at hih
        exact hih
    · have hz : l.getD (i + t) 0 = 0 := by rw [List.getD_eq_getElem?_getD, List.getElem?_eq_none (by omega)]; rfl
      rw [hz, show v * 2 + 0 = 2 * v by omega] at hih
      rw [cF (dF (by rw [chs_len]; omega)), w64 (x := ((i + t : Nat) : Int) + 1) (by omega), bsome]
      exact hih
theorem bytes_l1 (N : Nat) (hN : 100 ≤ N) {l : List Nat} (h2 : ∀ y ∈ l, y < 2) (hl : l.length ≤ 16777216) (kk) : ∀ (j m fuel : Nat), m + j = (l.length + 7) / 8 → j < fuel →
    D_darkslideref_Bytes_l1 N (chs l) kk fuel (toI (gr m l), ((8 * m : Nat) : Int)) = kk (toI (gr ((l.length + 7) / 8) l), ((8 * ((l.length + 7) / 8) : Nat) : Int)) := by
  intro j
  induction j with
  | zero =>
    intro m fuel hk hf
    obtain ⟨fuel, rfl⟩ : ∃ q, fuel = q + 1 := ⟨fuel - 1, by omega⟩
    obtain rfl : m = (l.length + 7) / 8 := by omega
    unfold D_darkslideref_Bytes_l1
    rw [cF (dF (by rw [chs_len]; omega))]
  | succ j ih =>
    intro m fuel hk hf
    obtain ⟨fuel, rfl⟩ : ∃ q, fuel = q + 1 := ⟨fuel - 1, by omega⟩
    have hlt : 8 * m < l.length := by omega
    have hih := ih (m + 1) fuel (by omega) (by omega)
    have hg : gr (m + 1) l = gr m l ++ [num 2 ((List.range 8).map fun t => l.getD (8 * m + t) 0)] := by
      unfold gr
      rw [List.range_succ (n := m), List.map_append, List.map_singleton]
    have hgl : (gr m l).length = m := by simp [gr]
    have hb : num 2 ((List.range 8).map fun t => l.getD (8 * m + t) 0) < 256 := by
      have := num_lt (B := 2) ((List.range 8).map fun t => l.getD (8 * m + t) 0) fun y hy => by
        obtain ⟨q, _, rfl⟩ := List.mem_map.1 hy
        rw [List.getD_eq_getElem?_getD]
        by_cases hq : 8 * m + q < l.length
        · rw [List.getElem?_eq_getElem hq]; exact h2 _ (List.getElem_mem hq)
        · rw [List.getElem?_eq_none (by omega)]; decide
      rw [List.length_map, List.length_range] at this
      exact this
    unfold D_darkslideref_Bytes_l1
    rw [cT (dT (by rw [chs_len]; omega))]
    have key := bytes_l2 N h2 hl hlt (fun x : Int × Int => Option.bind (app 1 (toI (gr m l)) ([IntKind.u8.wrap x.1] : List Int)) fun l4 => Option.bind (some (IntKind.i64.wrap (((8 * m : Nat) : Int) + 8))) fun i3 => D_darkslideref_Bytes_l1 N (chs l) kk fuel (l4, i3)) 8 0 N (by omega) (by omega)
    refine Eq.trans key ?_
    rw [hg, toI_app] at hih
    generalize num 2 ((List.range 8).map fun t => l.getD (8 * m + t) 0) = v at *
    dsimp only
    rw [u8_nat, Nat.mod_eq_of_lt hb, app_eq (by rw [toI_len, hgl]; simp; omega), bsome, w64 (by omega), bsome, show ((8 * m : Nat) : Int) + 8 = ((8 * (m + 1) : Nat) : Int) by omega]
    exact hih
theorem bytes_eq (N : Nat) (l : List Nat) (h2 : ∀ y ∈ l, y < 2) (hl : l.length ≤ 16777216) (hN : 100 ≤ N ∧ (l.length + 7) / 8 < N) : D_darkslideref_Bytes N (chs l) = some ((gr ((l.length + 7) / 8) l).map UInt8.ofNat) := by
  unfold D_darkslideref_Bytes
  have e1 : IntKind.i64.wrap (IntKind.i64.wrap (Int.tdiv ((chs l).length : Int) 8) + 1) = ((l.length / 8 + 1 : Nat) : Int) := by
    rw [chs_len, show Int.tdiv (l.length : Int) 8 = ((l.length / 8 : Nat) : Int) from rfl, w64 (x := ((l.length / 8 : Nat) : Int)) (by omega), w64 (by omega)]
    omega
  have hmok : mok 1 ((l.length / 8 + 1 : Nat) : Int) = some () := by unfold mok; rw [if_pos (by omega)]
  rw [e1, hmok, bsome]
  have key := bytes_l1 N hN.1 h2 hl (fun x : List Int × Int => some (toB x.1)) ((l.length + 7) / 8) 0 N (by omega) (by omega)
  refine Eq.trans key ?_
  dsimp only
  rw [toB_toI]
/-- Packed is what the code packs. -/
theorem packed_eq (N : Nat) (hN : 100000 ≤ N) {d : Nat} (hd : 1 ≤ d ∧ d ≤ 16) {l : List Int} (hl : l.length ≤ 4096) (hall : l.all (inD d) = true) : D_darkslideref_Packed N l (d : Int) = some ((packN d l).map UInt8.ofNat) := by
  have hkb : l.length * d ≤ 4096 * 16 := Nat.mul_le_mul hl hd.2
  unfold D_darkslideref_Packed
  have key := packed_l1 N hN hd hl hall (fun x : List Int × Int => Option.bind (D_darkslideref_Bytes N (toB x.1)) fun r5 => some r5) l.length 0 N (by omega) (by omega)
  rw [Nat.zero_mul] at key
  refine Eq.trans key ?_
  dsimp only
  rw [toB_ofB, bytes_eq N _ (fun y hy => dig_lt (by decide) _ _ y hy) (by rw [dig_len]; omega) (by rw [dig_len]; omega), bsome, dig_len, gr_up]
  rfl
end Go.Proofs.YtpmnfhifmmfglabDoor

namespace Go.Proofs.YtpmnfhifmmfglabDoor
open Go
theorem and8_fin : ∀ n : Fin 256, andI .u8 ((n.val : Nat) : Int) 1 = ((n.val % 2 : Nat) : Int) := by decide +kernel
theorem shr8 {b k : Nat} (hk : k ≤ 8) : shrI .u8 (b : Int) (k : Int) = ((b / 2 ^ k : Nat) : Int) := by
  unfold shrI
  have : min ((k : Int)).toNat IntKind.u8.bits = k := by
    rw [Int.toNat_natCast]
    exact Nat.min_eq_left hk
  rw [this, show (2 : Int) ^ k = ((2 ^ k : Nat) : Int) by simp, ← Int.ofNat_fdiv]
def let48 (l : List Nat) : List Nat := l.map fun b => 48 + b
theorem let48_app (l m : List Nat) : let48 (l ++ m) = let48 l ++ let48 m := by simp [let48]
theorem let48_chs (l : List Nat) : (let48 l).map UInt8.ofNat = chs l := by unfold let48 chs; rw [List.map_map]; rfl
theorem row_l2 (N : Nat) {s : List UInt8} {i : Nat} (hi : i < s.length) (kk) : ∀ (j fuel : Nat) (out : List Int), j ≤ 8 → out.length + j ≤ 140737488355328 → j < fuel →
    D_darkslideref_Row_l2 N s (i : Int) kk fuel (out, (j : Int) - 1) = kk (out ++ toI (let48 (dig 2 j s[i].toNat)), -1) := by
  intro j
  induction j with
  | zero =>
    intro fuel out _ _ hf
    obtain ⟨fuel, rfl⟩ : ∃ m, fuel = m + 1 := ⟨fuel - 1, by omega⟩
    unfold D_darkslideref_Row_l2
    rw [cF (dF (by omega))]
    simp [dig, let48, toI]
  | succ j ih =>
    intro fuel out hj ho hf
    obtain ⟨fuel, rfl⟩ : ∃ m, fuel = m + 1 := ⟨fuel - 1, by omega⟩
    have hb : s[i].toNat < 256 := s[i].toNat_lt
    have e0 : ((j + 1 : Nat) : Int) - 1 = (j : Int) := by omega
    generalize hbb : s[i].toNat = b at *
    have hlt : b / 2 ^ j < 256 := Nat.lt_of_le_of_lt (Nat.div_le_self _ _) hb
    have e1 : IntKind.u8.wrap (48 + andI .u8 (shrI .u8 (b : Int) (j : Int)) 1) = ((48 + b / 2 ^ j % 2 : Nat) : Int) := by
      have := and8_fin ⟨b / 2 ^ j, hlt⟩
      rw [shr8 (by omega), this, show (48 : Int) + ((b / 2 ^ j % 2 : Nat) : Int) = ((48 + b / 2 ^ j % 2 : Nat) : Int) by omega, u8_nat]
      omega
    have e2 : dig 2 (j + 1) b = [b / 2 ^ j % 2] ++ dig 2 j b := by rw [Nat.add_comm j 1, dig_add]; rfl
    unfold D_darkslideref_Row_l2
    rw [e0, cT (dT (by omega)), idx_nat, List.getElem?_eq_getElem hi, bsome, hbb, nn_nat, bsome, e1, app_eq (by simp; omega), bsome, w64 (x := (j : Int) - 1) (by omega), bsome]
    rw [ih fuel (out ++ [((48 + b / 2 ^ j % 2 : Nat) : Int)]) (by omega) (by simp; omega) (by omega), e2, let48_app, toI_app, List.append_assoc]
    rfl
theorem row_l1 (N : Nat) (hN : 100 ≤ N) {s : List UInt8} (hs : s.length ≤ 16777216) (kk) : ∀ (j k fuel : Nat), k + j = s.length → j < fuel →
    D_darkslideref_Row_l1 N s kk fuel (toI (let48 (dig 2 (8 * k) (byt s k))), (k : Int)) = kk (toI (let48 (dig 2 (8 * s.length) (byt s s.length))), (s.length : Int)) := by
  intro j
  induction j with
  | zero =>
    intro k fuel hk hf
    obtain ⟨fuel, rfl⟩ : ∃ m, fuel = m + 1 := ⟨fuel - 1, by omega⟩
    obtain rfl : k = s.length := by omega
    unfold D_darkslideref_Row_l1
    rw [cF (dF (by omega))]
  | succ j ih =>
    intro k fuel hk hf
    obtain ⟨fuel, rfl⟩ : ∃ m, fuel = m + 1 := ⟨fuel - 1, by omega⟩
    have hlt : k < s.length := by omega
    have hih := ih (k + 1) fuel (by omega) (by omega)
    rw [byt_succ hlt, Nat.mul_add, Nat.mul_one, ← dig_next (show s[k].toNat < 2 ^ 8 from s[k].toNat_lt), let48_app, toI_app] at hih
    have hlen : (toI (let48 (dig 2 (8 * k) (byt s k)))).length = 8 * k := by rw [toI_len]; simp [let48, dig_len]
    unfold D_darkslideref_Row_l1
    rw [cT (dT (by omega))]
    have key := row_l2 N hlt (fun x : List Int × Int => Option.bind (some (IntKind.i64.wrap ((k : Int) + 1))) fun i3 => D_darkslideref_Row_l1 N s kk fuel (x.1, i3)) 8 N (toI (let48 (dig 2 (8 * k) (byt s k)))) (by omega) (by rw [hlen]; omega) (by omega)
    refine Eq.trans key ?_
    dsimp only
    rw [bsome, w64 (x := (k : Int) + 1) (by omega)]
    exact hih
/-- The bits of bytes, as letters. -/
theorem row_eq (N : Nat) {s : List UInt8} (hs : s.length ≤ 16777216) (hN : 100 ≤ N ∧ s.length < N) : D_darkslideref_Row N s = some (chs (dig 2 (8 * s.length) (byt s s.length))) := by
  unfold D_darkslideref_Row
  have hmok : mok 1 (IntKind.i64.wrap (8 * (s.length : Int))) = some () := by unfold mok; rw [w64 (by omega), if_pos (by omega)]
  rw [hmok, bsome]
  have key := row_l1 N hN.1 hs (fun x : List Int × Int => some (toB x.1)) s.length 0 N (by omega) (by omega)
  refine Eq.trans key ?_
  dsimp only
  rw [toB_toI, let48_chs]
theorem value_l1 (N : Nat) {l : List Nat} (h2 : ∀ y ∈ l, y < 2) (hl : l.length ≤ 60) (kk) : ∀ (j k fuel : Nat), k + j = l.length → j < fuel →
    D_darkslideref_Value_l1 N (chs l) kk fuel (((num 2 (l.take k) : Nat) : Int), (k : Int)) = kk (((num 2 l : Nat) : Int), (l.length : Int)) := by
  intro j
  induction j with
  | zero =>
    intro k fuel hk hf
    obtain ⟨fuel, rfl⟩ : ∃ m, fuel = m + 1 := ⟨fuel - 1, by omega⟩
    obtain rfl : k = l.length := by omega
    unfold D_darkslideref_Value_l1
    rw [cF (dF (by rw [chs_len]; omega)), List.take_length]
  | succ j ih =>
    intro k fuel hk hf
    obtain ⟨fuel, rfl⟩ : ∃ m, fuel = m + 1 := ⟨fuel - 1, by omega⟩
    have hlt : k < l.length := by omega
    have hih := ih (k + 1) fuel (by omega) (by omega)
    obtain ⟨g1, g2, g3⟩ := chs_get hlt h2
    have hg : l.getD k 0 = l[k] := by rw [List.getD_eq_getElem?_getD, List.getElem?_eq_getElem hlt]; rfl
    rw [List.take_succ_eq_append_getElem hlt, num_snoc, ← hg] at hih
    have hv : num 2 (l.take k) < 2 ^ 60 := by
      have := num_lt (B := 2) (l.take k) fun y hy => h2 y (List.mem_of_mem_take hy)
      rw [List.length_take, Nat.min_eq_left (by omega)] at this
      exact Nat.lt_of_lt_of_le this (Nat.pow_le_pow_right (by decide) (by omega))
    generalize num 2 (l.take k) = v at *
    generalize l.getD k 0 = b at *
    have e1 : IntKind.u8.wrap (((48 + b : Nat) : Int) - 48) = (b : Int) := by rw [show ((48 + b : Nat) : Int) - 48 = (b : Int) by omega, u8_nat]; omega
    unfold D_darkslideref_Value_l1
    rw [cT (dT (by rw [chs_len]; omega)), g1, bsome, g2, e1, w64 (x := 2 * (v : Int)) (by omega), w64 (x := (b : Int)) (by omega), w64 (x := 2 * (v : Int) + b) (by omega), bsome, w64 (x := (k : Int) + 1) (by omega), bsome, show 2 * (v : Int) + b = ((v * 2 + b : Nat) : Int) by omega]
    exact hih
theorem value_eq {N : Nat} (hN : 100 ≤ N) {l : List Nat} (h2 : ∀ y ∈ l, y < 2) (hl : l.length ≤ 60) : D_darkslideref_Value N (chs l) = some ((num 2 l : Nat) : Int) := by
  unfold D_darkslideref_Value
  exact value_l1 N h2 hl (fun x : Int × Int => some x.1) l.length 0 N (by omega) (by omega)
theorem dig_slice {T p d Y : Nat} (h : p + d ≤ T) : ((dig 2 T Y).take (p + d)).drop p = dig 2 d (Y / 2 ^ (T - p - d)) := by
  have e : dig 2 T Y = dig 2 p (Y / 2 ^ (d + (T - p - d))) ++ (dig 2 d (Y / 2 ^ (T - p - d)) ++ dig 2 (T - p - d) Y) := by
    conv => lhs; rw [show T = p + (d + (T - p - d)) by omega]
    rw [dig_add, dig_add 2 d]
  have l1 := dig_len 2 p (Y / 2 ^ (d + (T - p - d)))
  have l2 := dig_len 2 d (Y / 2 ^ (T - p - d))
  rw [e, ← List.append_assoc, List.take_append_of_le_length (by rw [List.length_append]; omega), List.take_of_length_le (by rw [List.length_append]; omega), List.drop_append_of_le_length (by omega), List.drop_of_length_le (by omega), List.nil_append]
theorem unpd_l1 (N : Nat) (hN : 100 ≤ N) {d n : Nat} (hd : 1 ≤ d ∧ d ≤ 16) (hn : n ≤ 4096) {T Y : Nat} (hT : n * d ≤ T) (hT2 : T ≤ 100000) (kk) : ∀ (j k fuel : Nat), k + j = n → j < fuel →
    D_darkslideref_Unpacked_l1 N (d : Int) (n : Int) (chs (dig 2 T Y)) kk fuel (toI (dig (2 ^ d) k (Y / 2 ^ (T - d * k))), (k : Int)) = kk (toI (dig (2 ^ d) n (Y / 2 ^ (T - d * n))), (n : Int)) := by
  intro j
  induction j with
  | zero =>
    intro k fuel hk hf
    obtain ⟨fuel, rfl⟩ : ∃ m, fuel = m + 1 := ⟨fuel - 1, by omega⟩
    obtain rfl : k = n := by omega
    unfold D_darkslideref_Unpacked_l1
    rw [cF (dF (by omega))]
  | succ j ih =>
    intro k fuel hk hf
    obtain ⟨fuel, rfl⟩ : ∃ m, fuel = m + 1 := ⟨fuel - 1, by omega⟩
    have hlt : k < n := by omega
    have hih := ih (k + 1) fuel (by omega) (by omega)
    have hk1 : (k + 1) * d ≤ n * d := Nat.mul_le_mul_right d hlt
    have hk2 : (k + 1) * d = k * d + d := by rw [Nat.add_mul, Nat.one_mul]
    have hk3 : d * (k + 1) = k * d + d := by rw [Nat.mul_comm, hk2]
    have hk4 : d * k = k * d := Nat.mul_comm _ _
    have eZ : dig (2 ^ d) (k + 1) (Y / 2 ^ (T - d * (k + 1))) = dig (2 ^ d) k (Y / 2 ^ (T - d * k)) ++ [Y / 2 ^ (T - d * (k + 1)) % 2 ^ d] := by
      show dig (2 ^ d) k (Y / 2 ^ (T - d * (k + 1)) / 2 ^ d) ++ _ = _
      rw [Nat.div_div_eq_div_mul, ← Nat.pow_add, show T - d * (k + 1) + d = T - d * k by omega]
    rw [eZ, toI_app] at hih
    have e1 : IntKind.i64.wrap ((k : Int) * (d : Int)) = ((k * d : Nat) : Int) := by rw [← Int.natCast_mul, w64 (by omega)]
    have e2 : IntKind.i64.wrap (IntKind.i64.wrap ((k : Int) + 1) * (d : Int)) = ((k * d + d : Nat) : Int) := by
      rw [w64 (x := (k : Int) + 1) (by omega), show (k : Int) + 1 = ((k + 1 : Nat) : Int) by omega, ← Int.natCast_mul, w64 (by omega), hk2]
    have hsl : sli (chs (dig 2 T Y)) ((k * d : Nat) : Int) ((k * d + d : Nat) : Int) = some (chs (dig 2 d (Y / 2 ^ (T - d * (k + 1))))) := by
      rw [sli_eq (by rw [chs_len, dig_len]; omega), Int.toNat_natCast, Int.toNat_natCast]
      unfold chs
      rw [← List.map_take, ← List.map_drop, dig_slice (by omega), show T - k * d - d = T - d * (k + 1) by omega]
    have hol := toI_len (dig (2 ^ d) k (Y / 2 ^ (T - d * k)))
    rw [dig_len] at hol
    unfold D_darkslideref_Unpacked_l1
    rw [cT (dT (by omega)), e1, e2, hsl, bsome, value_eq hN (fun y hy => dig_lt (by decide) _ _ y hy) (by rw [dig_len]; omega), bsome, num_dig, app_eq (by rw [hol]; simp; omega), bsome, bsome, w64 (x := (k : Int) + 1) (by omega)]
    exact hih
theorem inD_all {d n : Nat} (s : List UInt8) : (toI (unpackN s d n)).all (inD d) = true := by
  refine List.all_eq_true.2 fun y hy => ?_
  obtain ⟨e, he, rfl⟩ := List.mem_map.1 hy
  have := dig_lt (Nat.two_pow_pos d) _ _ e he
  exact decide_eq_true (by omega)
theorem within2 (N : Nat) (n lo hi : Int) : D_darkslideref_within N n lo hi = some (decide (lo ≤ n ∧ n ≤ hi)) := by
  unfold D_darkslideref_within
  by_cases h1 : lo ≤ n
  · rw [cT (dT h1)]; simp [h1]
  · rw [cF (dF h1)]; simp [h1]
theorem bad_pad {d n : Nat} (hd : 1 ≤ d ∧ d ≤ 16) {s : List UInt8} (hl : s.length = (n * d + 7) / 8) (h : (packN d (toI (unpackN s d n))).map UInt8.ofNat = s) : byt s s.length % 2 ^ (8 * s.length - d * n) = 0 := by
  have hlen : (toI (unpackN s d n)).length = n := by rw [toI_len]; exact dig_len _ _ _
  obtain ⟨b1, b2⟩ := byt_pack hd (inD_all (d := d) (n := n) s)
  rw [h, hlen, ← hl] at b2
  rw [b2]
  exact Nat.mul_mod_left _ _
theorem unpacked_eq (N : Nat) (hN : 100000 ≤ N) (s : List UInt8) (hs : s.length ≤ 9223372036854775807) (o p : Int) : D_darkslideref_Unpacked N s o p = some (if unpackErr s o p = 0 then (toI (unpackN s o.toNat p.toNat), 0) else ([], unpackErr s o p)) := by
  unfold D_darkslideref_Unpacked
  rw [within2, bsome]
  by_cases h1 : 1 ≤ o ∧ o ≤ 16
  rotate_left
  · have hpe : unpackErr s o p = 3 := by unfold unpackErr; rw [if_pos h1]
    rw [cT (by rw [dF h1]; rfl), hpe]; rfl
  have h1' : ¬ ¬ (1 ≤ o ∧ o ≤ 16) := fun h => h h1
  rw [cF (by rw [dT h1]; rfl)]
  by_cases h2 : p < 0
  · have hpe : unpackErr s o p = 3 := by unfold unpackErr; rw [if_neg h1', if_pos h2]
    rw [cT (dT h2), hpe]; rfl
  rw [cF (dF h2)]
  by_cases h3 : 4096 < p
  · have hpe : unpackErr s o p = 2 := by unfold unpackErr; rw [if_neg h1', if_neg h2, if_pos h3]
    rw [cT (dT h3), hpe]; rfl
  rw [cF (dF h3)]
  obtain ⟨d, rfl⟩ := Int.eq_ofNat_of_zero_le (show 0 ≤ o by omega)
  obtain ⟨n, rfl⟩ := Int.eq_ofNat_of_zero_le (show 0 ≤ p by omega)
  have hb : n * d ≤ 4096 * 16 := Nat.mul_le_mul (by omega) (by omega)
  have e1 : IntKind.i64.wrap (Int.tdiv (IntKind.i64.wrap (IntKind.i64.wrap ((n : Int) * (d : Int)) + 7)) 8) = (((n * d + 7) / 8 : Nat) : Int) := by
    rw [← Int.natCast_mul, w64 (x := ((n * d : Nat) : Int)) (by omega), w64 (x := ((n * d : Nat) : Int) + 7) (by omega), show ((n * d : Nat) : Int) + 7 = ((n * d + 7 : Nat) : Int) by omega,
      show Int.tdiv ((n * d + 7 : Nat) : Int) 8 = (((n * d + 7) / 8 : Nat) : Int) from rfl, w64 (by omega)]
  rw [e1]
  by_cases h4 : s.length = (n * d + 7) / 8
  rotate_left
  · have hpe : unpackErr s d n = 1 := by unfold unpackErr; rw [if_neg h1', if_neg h2, if_neg h3, Int.toNat_natCast, Int.toNat_natCast, if_pos h4]
    rw [cT (by rw [dF (by omega)]; rfl), hpe]; rfl
  rw [cF (by rw [dT (by omega)]; rfl), row_eq N (by omega) (by omega), bsome]
  have hd : 1 ≤ d ∧ d ≤ 16 := by omega
  have key := unpd_l1 N (by omega) hd (n := n) (by omega) (T := 8 * s.length) (Y := byt s s.length) (by omega) (by omega) (fun x : List Int × Int =>
    Option.bind (D_darkslideref_Packed N x.1 (d : Int)) fun r7 =>
    cond (!decide (r7 = s)) (
    some (([] : List Int), 1)) (
    some (x.1, 0))) n 0 N (by omega) (by omega)
  refine Eq.trans key ?_
  have hlen : (toI (unpackN s d n)).length = n := by rw [toI_len]; exact dig_len _ _ _
  have hpk := packed_eq N hN hd (l := toI (unpackN s d n)) (by omega) (inD_all s)
  unfold unpackN at hpk
  dsimp only
  rw [hpk, bsome]
  by_cases h5 : byt s s.length % 2 ^ (8 * s.length - d * n) = 0
  · have hpe : unpackErr s d n = 0 := by
      unfold unpackErr
      rw [if_neg h1', if_neg h2, if_neg h3, Int.toNat_natCast, Int.toNat_natCast, if_neg (by omega), if_neg (by omega)]
    have hq := (pack_unpack hd h4 (by omega) h5).2.1
    unfold unpackN at hq
    rw [cF (by rw [dT hq]; rfl), hpe, if_pos rfl, Int.toNat_natCast, Int.toNat_natCast]
    rfl
  · have hpe : unpackErr s d n = 1 := by
      unfold unpackErr
      rw [if_neg h1', if_neg h2, if_neg h3, Int.toNat_natCast, Int.toNat_natCast, if_neg (by omega), if_pos h5]
    have hq : ¬ (packN d (toI (unpackN s d n))).map UInt8.ofNat = s := fun h => h5 (bad_pad hd h4 h)
    unfold unpackN at hq
    rw [cT (by rw [dF hq]; rfl), hpe]; rfl
theorem perr_l1 (N : Nat) {d : Nat} (hd : 1 ≤ d ∧ d ≤ 16) {l : List Int} (hl : l.length ≤ 4096) (kk) : ∀ (j k fuel : Nat), k + j = l.length → j < fuel →
    D_darkslideref_PackError_l1 N l (d : Int) kk fuel (k : Int) = if (l.drop k).all (inD d) = true then kk (l.length : Int) else some 3 := by
  intro j
  induction j with
  | zero =>
    intro k fuel hk hf
    obtain ⟨fuel, rfl⟩ : ∃ m, fuel = m + 1 := ⟨fuel - 1, by omega⟩
    obtain rfl : k = l.length := by omega
    unfold D_darkslideref_PackError_l1
    rw [cF (dF (by omega)), List.drop_length]
    rfl
  | succ j ih =>
    intro k fuel hk hf
    obtain ⟨fuel, rfl⟩ : ∃ m, fuel = m + 1 := ⟨fuel - 1, by omega⟩
    have hlt : k < l.length := by omega
    have hp := pow_le16 hd.2
    have hpos : 0 < 2 ^ d := Nat.two_pow_pos d
    have hih := ih (k + 1) fuel (by omega) (by omega)
    have esh : IntKind.i64.wrap (shlI .i64 1 (d : Int) - 1) = ((2 ^ d : Nat) : Int) - 1 := by
      have := shl_nat (h := 1) (k := d) (by omega) (by omega)
      rw [Nat.one_mul] at this
      rw [show (1 : Int) = ((1 : Nat) : Int) from rfl, this, w64 (by omega)]
    have hin : decide (0 ≤ l[k] ∧ l[k] ≤ ((2 ^ d : Nat) : Int) - 1) = inD d l[k] := by unfold inD; rw [decide_eq_decide]; omega
    unfold D_darkslideref_PackError_l1
    rw [cT (dT (by omega)), idx_nat, List.getElem?_eq_getElem hlt, bsome, nn_nat, bsome, within2, bsome, esh, hin, List.drop_eq_getElem_cons hlt, List.all_cons]
    cases inD d l[k]
    · rfl
    · rw [cF (by rfl), bsome, w64 (x := (k : Int) + 1) (by omega), Bool.true_and]
      exact hih
theorem packError_eq (N : Nat) (hN : 100000 ≤ N) (l : List Int) (o : Int) : D_darkslideref_PackError N l o = some (packErr l o) := by
  unfold D_darkslideref_PackError packErr
  rw [within2, bsome]
  by_cases h1 : 1 ≤ o ∧ o ≤ 16
  rotate_left
  · rw [cT (by rw [dF h1]; rfl), if_pos h1]
  rw [cF (by rw [dT h1]; rfl), if_neg (fun h => h h1)]
  by_cases h2 : 4096 < l.length
  · rw [cT (dT (by omega)), if_pos h2]
  rw [cF (dF (by omega)), if_neg h2]
  obtain ⟨d, rfl⟩ := Int.eq_ofNat_of_zero_le (show 0 ≤ o by omega)
  rw [Int.toNat_natCast]
  have key := perr_l1 N (d := d) (by omega) (l := l) (by omega) (fun _ => some (0 : Int)) l.length 0 N (by omega) (by omega)
  rw [List.drop_zero] at key
  refine Eq.trans key ?_
  cases l.all (inD d) <;> rfl
end Go.Proofs.YtpmnfhifmmfglabDoor

namespace Go.Proofs.YtpmnfhifmmfglabDoor
open Go
theorem packErr_none {l : List Int} {o : Int} (h : packErr l o = 0) : ∃ d : Nat, o = d ∧ (1 ≤ d ∧ d ≤ 16) ∧ l.length ≤ 4096 ∧ l.all (inD d) = true := by
  unfold packErr at h
  by_cases h1 : 1 ≤ o ∧ o ≤ 16
  rotate_left
  · rw [if_pos h1] at h; cases h
  rw [if_neg (fun q => q h1)] at h
  by_cases h2 : 4096 < l.length
  · rw [if_pos h2] at h; cases h
  rw [if_neg h2] at h
  obtain ⟨d, rfl⟩ := Int.eq_ofNat_of_zero_le (show 0 ≤ o by omega)
  rw [Int.toNat_natCast] at h
  refine ⟨d, rfl, by omega, by omega, ?_⟩
  cases hq : l.all (inD d)
  · rw [hq] at h; cases h
  · rfl
theorem unpackErr_none {s : List UInt8} {o p : Int} (h : unpackErr s o p = 0) : ∃ d n : Nat, o = d ∧ p = n ∧ (1 ≤ d ∧ d ≤ 16) ∧ n ≤ 4096 ∧ s.length = (n * d + 7) / 8 ∧ byt s s.length % 2 ^ (8 * s.length - d * n) = 0 := by
  unfold unpackErr at h
  by_cases h1 : 1 ≤ o ∧ o ≤ 16
  rotate_left
  · rw [if_pos h1] at h; cases h
  rw [if_neg (fun q => q h1)] at h
  by_cases h2 : p < 0
  · rw [if_pos h2] at h; cases h
  rw [if_neg h2] at h
  by_cases h3 : 4096 < p
  · rw [if_pos h3] at h; cases h
  rw [if_neg h3] at h
  obtain ⟨d, rfl⟩ := Int.eq_ofNat_of_zero_le (show 0 ≤ o by omega)
  obtain ⟨n, rfl⟩ := Int.eq_ofNat_of_zero_le (show 0 ≤ p by omega)
  rw [Int.toNat_natCast, Int.toNat_natCast] at h
  by_cases h4 : s.length = (n * d + 7) / 8
  rotate_left
  · rw [if_pos h4] at h; cases h
  rw [if_neg (fun q => q h4)] at h
  by_cases h5 : byt s s.length % 2 ^ (8 * s.length - d * n) = 0
  rotate_left
  · rw [if_pos h5] at h; cases h
  exact ⟨d, n, rfl, rfl, by omega, by omega, h4, h5⟩
end Go.Proofs.YtpmnfhifmmfglabDoor

namespace Go.Proofs.YtpmnfhifmmfglabDoor
open Go
theorem same_unp (s : List UInt8) (o p : Int) : D_darkslideref_SameInts 100000 (if unpackErr s o p = 0 then (toI (unpackN s o.toNat p.toNat), (0 : Int)) else ([], unpackErr s o p)).1 (if unpackErr s o p = 0 then (toI (unpackN s o.toNat p.toNat), (0 : Int)) else ([], unpackErr s o p)).1 = some true := by
  by_cases h : unpackErr s o p = 0
  · obtain ⟨d, n, rfl, rfl, h1, h2, h3, h4⟩ := unpackErr_none h
    rw [if_pos h, Int.toNat_natCast, Int.toNat_natCast]
    have hlen : (toI (unpackN s d n)).length = n := by rw [toI_len]; exact dig_len _ _ _
    exact sameI_eq 100000 _ (by dsimp only; omega) (by omega)
  · rw [if_neg h]
    exact sameI_eq 100000 [] (by decide) (by omega)
theorem bitsPacks_true (l : List Int) (o : Int) (s : List UInt8) (p : Int) (hs : s.length ≤ 9223372036854775807) : D_darkslidelaw_BitsPacks 100000 l o s p = some true := by
  have hsm := same_unp s o p
  unfold D_darkslidelaw_BitsPacks
  rw [pack_eq 100000 (by omega), bsome, packError_eq 100000 (by omega), bsome, unpack_eq 100000 (by omega) s hs, unpacked_eq 100000 (by omega) s hs, bitsBegun_eq]
  by_cases h : packErr l o = 0
  · obtain ⟨d, rfl, h1, h2, h3⟩ := packErr_none h
    rw [Int.toNat_natCast] at hsm
    rw [cT (dT h), packed_eq 100000 (by omega) h1 h2 h3, bsome, bsome, bsome, bsome, cT (by rfl), if_pos h, Int.toNat_natCast]
    dsimp only
    rw [cT (dT rfl), cT (dT h.symm), cT (dT rfl), hsm]
    rfl
  · rw [cF (dF h), bsome, bsome, bsome, cT (by rfl), if_neg h]
    dsimp only
    rw [cT (dT rfl), cT (dT rfl), cT (dT rfl), hsm]
    rfl
end Go.Proofs.YtpmnfhifmmfglabDoor

namespace Go.Proofs.YtpmnfhifmmfglabDoor
open Go.RowKit
section
variable {P : Program} {ops : Array Oper} {Q : Exit → Act → World → Prop} {S : World → Prop} {rob need : Nat → Bool} {R : Act → World → Prop}
def rdy (ops : Array Oper) (rem : List Nat) (i : Nat) : Bool := rem.all fun j => !waits ops i j
def wpTr (P : Program) (ops : Array Oper) (S : World → Prop) (rob need : Nat → Bool) (R : Act → World → Prop) : Nat → List Nat → Act → World → Prop
  | 0, rem, a, w => rem = [] ∧ R a w
  | n + 1, rem, a, w =>
    (∃ i ∈ rem, rob i = true ∧ rdy ops rem i = true ∧ ∃ o, ops[i]? = some o ∧ ∃ v, YldS P ops S o v a ∧ wpTr P ops S rob need R n (rem.erase i) (a.put o.dst v) w) ∨
    ((∀ i ∈ rem, rob i = true → rdy ops rem i = false) ∧ ∀ c ∈ rem, rob c = false → rdy ops rem c = true → wpOp P ops NoOut c (fun a' w' => (need c = true → S w') ∧ wpTr P ops S rob need R n (rem.erase c) a' w') a w)
def trPair (ops : Array Oper) (rob : Nat → Bool) (i j : Nat) : Bool :=
  match ops[i]?, ops[j]? with
  | some oi, some oj => waits ops i j || ((!rob i || oi.apart ops oj) && (!rob j || oj.apart ops oi))
  | _, _ => false
def trOK (ops : Array Oper) (rob need : Nat → Bool) : Bool :=
  Region.noSelect ops && txtBack ops && ((List.range ops.size).all fun i => (List.range i).all fun j => trPair ops rob i j) &&
  (List.range ops.size).all fun i => rob i || need i || !freeOf ops rob i
theorem rdy_erase {rem : List Nat} {i k : Nat} (h : rdy ops rem i = true) : rdy ops (rem.erase k) i = true := by
  unfold rdy at *
  rw [List.all_eq_true] at *
  exact fun j hj => h j (List.mem_of_mem_erase hj)
theorem rdy_waits {rem : List Nat} {i j : Nat} (h : rdy ops rem i = true) (hj : j ∈ rem) : waits ops i j = false := by
  unfold rdy at h
  rw [List.all_eq_true] at h
  simpa using h j hj
theorem tr_pull {i : Nat} {oi : Oper} (hi : ops[i]? = some oi) (hr : rob i = true) (hsel : ∀ (j : Nat) (o : Oper) cs b, ops[j]? = some o → o.op ≠ .select cs b)
    (hpair : ∀ j k oj ok, j ≠ k → ops[j]? = some oj → ops[k]? = some ok → waits ops j k = false → waits ops k j = false → (rob j = true → oj.apart ops ok = true)) :
    ∀ (n : Nat) (rem : List Nat) (a : Act) (w : World), i ∈ rem → rdy ops rem i = true → wpTr P ops S rob need R (n + 1) rem a w → ∃ v, YldS P ops S oi v a ∧ wpTr P ops S rob need R n (rem.erase i) (a.put oi.dst v) w := by
  intro n
  induction n with
  | zero =>
    intro rem a w him hrd h
    rcases h with ⟨i0, hi0, hr0, hd0, o0, ho0, u, hu, h⟩ | ⟨hno, _⟩
    · obtain ⟨hnil, hR⟩ := h
      have : i0 = i := by
        by_cases e : i0 = i
        · exact e
        · have : i ∈ rem.erase i0 := (List.mem_erase_of_ne (fun h => e h.symm)).2 him
          rw [hnil] at this; cases this
      subst this
      obtain rfl : o0 = oi := Option.some.inj (ho0.symm.trans hi)
      exact ⟨u, hu, hnil, hR⟩
    · rw [hno i him hr] at hrd; cases hrd
  | succ n ih =>
    intro rem a w him hrd h
    rcases h with ⟨i0, hi0, hr0, hd0, o0, ho0, u, hu, h⟩ | ⟨hno, _⟩
    · by_cases e : i0 = i
      · subst e
        obtain rfl : o0 = oi := Option.some.inj (ho0.symm.trans hi)
        exact ⟨u, hu, h⟩
      · have him' : i ∈ rem.erase i0 := (List.mem_erase_of_ne (fun h => e h.symm)).2 him
        obtain ⟨v, hv, h⟩ := ih _ _ _ him' (rdy_erase hrd) h
        have w1 := rdy_waits hrd hi0
        have w2 := rdy_waits hd0 him
        have ap1 := hpair i i0 oi o0 (fun h => e h.symm) hi ho0 w1 w2 hr
        have ap2 := hpair i0 i o0 oi e ho0 hi w2 w1 hr0
        obtain ⟨p1, p2, p3⟩ := Oper.apart_spec ap1
        obtain ⟨q1, q2, q3⟩ := Oper.apart_spec ap2
        have hv' : YldS P ops S oi v a := hv.same (execOp_put oi (fun cs b => hsel i oi cs b hi) a o0.dst u p3).symm (wanted_put oi a o0.dst u p3).symm
        refine ⟨v, hv', .inl ⟨i0, (List.mem_erase_of_ne e).2 hi0, hr0, rdy_erase hd0, o0, ho0, u, ?_, ?_⟩⟩
        · exact hu.same (execOp_put o0 (fun cs b => hsel i0 o0 cs b ho0) a oi.dst v q3) (wanted_put o0 a oi.dst v q3)
        · rw [List.erase_comm, Act.put_comm a v u p2]; exact h
    · rw [hno i him hr] at hrd; cases hrd
theorem tr_push {c : Nat} {oc : Oper} (hc : ops[c]? = some oc) (hrc : rob c = false) (hsel : ∀ (j : Nat) (o : Oper) cs b, ops[j]? = some o → o.op ≠ .select cs b)
    (hpair : ∀ j k oj ok, j ≠ k → ops[j]? = some oj → ops[k]? = some ok → waits ops j k = false → waits ops k j = false → (rob j = true → oj.apart ops ok = true)) :
    ∀ (n : Nat) (rem : List Nat) (a : Act) (w : World), c ∈ rem → rdy ops rem c = true → wpTr P ops S rob need R (n + 1) rem a w → wpOp P ops NoOut c (fun a' w' => (need c = true → S w') ∧ wpTr P ops S rob need R n (rem.erase c) a' w') a w := by
  intro n
  induction n with
  | zero =>
    intro rem a w hcm hrd h
    rcases h with ⟨i0, hi0, hr0, hd0, o0, ho0, u, hu, h⟩ | ⟨_, h⟩
    · obtain ⟨hnil, hR⟩ := h
      have e : i0 ≠ c := fun e => by subst e; rw [hrc] at hr0; cases hr0
      have : c ∈ rem.erase i0 := (List.mem_erase_of_ne (fun h => e h.symm)).2 hcm
      rw [hnil] at this; cases this
    · exact h c hcm hrc hrd
  | succ n ih =>
    intro rem a w hcm hrd h
    rcases h with ⟨i0, hi0, hr0, hd0, o0, ho0, u, hu, h⟩ | ⟨_, h⟩
    · have e : i0 ≠ c := fun e => by subst e; rw [hrc] at hr0; cases hr0
      have hcm' : c ∈ rem.erase i0 := (List.mem_erase_of_ne (fun h => e h.symm)).2 hcm
      have h2 := ih _ _ _ hcm' (rdy_erase hrd) h
      have w1 := rdy_waits hrd hi0
      have w2 := rdy_waits hd0 hcm
      have ap := hpair i0 c o0 oc e ho0 hc w2 w1 hr0
      have h3 := wpOp_ahead hc ap (fun cs b => hsel i0 o0 cs b ho0) (fun cs b => hsel c oc cs b hc) hu h2
      refine wpOp_mono ?_ h3
      rintro a' w' ⟨hy, hn, hk⟩
      refine ⟨hn, .inl ⟨i0, (List.mem_erase_of_ne e).2 hi0, hr0, rdy_erase hd0, o0, ho0, u, hy, ?_⟩⟩
      rw [List.erase_comm]; exact hk
    · exact h c hcm hrc hrd
theorem filter_ne_erase {l : List Nat} (hl : l.Nodup) (i : Nat) : l.filter (· != i) = l.erase i := by
  rw [List.Nodup.erase_eq_filter hl]
theorem wpAny_of_tr (hok : trOK ops rob need = true) : ∀ (fuel : Nat) (listed : Array Bool) (a : Act) (w : World), listed.size = ops.size → Closed ops listed → (remOf ops listed).length = fuel →
    (∀ r ∈ remOf ops listed, rob r = true → S w) → wpTr P ops S rob need (Q .normal) fuel (remOf ops listed) a w → wpAny P .any ops Q fuel listed a w := by
  simp only [trOK, Bool.and_eq_true] at hok
  obtain ⟨⟨⟨hsel0, hback⟩, hpair0⟩, hneed⟩ := hok
  have hsel := Region.noSelect_spec hsel0
  have hp : ∀ i < ops.size, ∀ j < i, trPair ops rob i j = true := fun i hi j hj => List.all_eq_true.1 (List.all_eq_true.1 hpair0 i (List.mem_range.2 hi)) j (List.mem_range.2 hj)
  have hpair : ∀ j k oj ok, j ≠ k → ops[j]? = some oj → ops[k]? = some ok → waits ops j k = false → waits ops k j = false → (rob j = true → oj.apart ops ok = true) := by
    intro j k oj ok hjk hj hk w1 w2 hr
    have hjl := (Array.getElem?_eq_some_iff.1 hj).1
    have hkl := (Array.getElem?_eq_some_iff.1 hk).1
    rcases Nat.lt_or_gt_of_ne hjk with hlt | hlt
    · have h := hp k hkl j hlt
      unfold trPair at h
      simp only [hj, hk, w2, Bool.false_or, Bool.and_eq_true, Bool.or_eq_true, Bool.not_eq_true'] at h
      rcases h.2 with h0 | h0
      · rw [hr] at h0; cases h0
      · exact h0
    · have h := hp j hjl k hlt
      unfold trPair at h
      simp only [hj, hk, w1, Bool.false_or, Bool.and_eq_true, Bool.or_eq_true, Bool.not_eq_true'] at h
      rcases h.1 with h0 | h0
      · rw [hr] at h0; cases h0
      · exact h0
  have hbk : ∀ i o, ops[i]? = some o → ∀ e ∈ o.after, Region.binds .any e = true → e.on < i := fun i o ho e he hb => by
    have hi : i < ops.size := (Array.getElem?_eq_some_iff.1 ho).1
    have h := List.all_eq_true.1 hback i (List.mem_range.2 hi)
    simp only [ho] at h
    have h2 := Array.all_eq_true_iff_forall_mem.1 h e he
    simpa [hb] using h2
  have hnd : ∀ i < ops.size, rob i = false → ∀ r < ops.size, rob r = true → waits ops i r = false → need i = true := fun i hi hri r hr hrr hw => by
    have h := List.all_eq_true.1 hneed i (List.mem_range.2 hi)
    simp only [hri, Bool.false_or, Bool.or_eq_true, Bool.not_eq_true'] at h
    refine h.resolve_right fun h0 => ?_
    have : freeOf ops rob i = true := by
      refine List.any_eq_true.2 ⟨r, List.mem_range.2 hr, ?_⟩
      have : r ≠ i := fun e => by subst e; rw [hri] at hrr; cases hrr
      simp [hrr, hw, this]
    rw [this] at h0
    cases h0
  intro fuel
  induction fuel with
  | zero =>
    intro listed a w hs hc hlen _ h
    have hnil : remOf ops listed = [] := List.eq_nil_of_length_eq_zero hlen
    obtain ⟨_, h⟩ := h
    refine ⟨?_, h⟩
    refine List.eq_nil_iff_forall_not_mem.2 fun i hi => ?_
    obtain ⟨h0, o, ho, _⟩ := mem_ready.1 hi
    have : i ∈ remOf ops listed := mem_remOf.2 ⟨(Array.getElem?_eq_some_iff.1 ho).1, h0⟩
    rw [hnil] at this
    cases this
  | succ fuel ih =>
    intro listed a w hs hc hlen hS h
    refine ⟨fun h0 => ?_, fun i hi => ?_⟩
    · exfalso
      match hr : remOf ops listed, hlen with
      | i0 :: rest, _ =>
        have hm0 : i0 ∈ remOf ops listed := by rw [hr]; exact List.mem_cons_self ..
        obtain ⟨hlt, hun⟩ := mem_remOf.1 hm0
        have hsorted := remOf_sorted (ops := ops) listed
        rw [hr, List.pairwise_cons] at hsorted
        have : i0 ∈ Region.ready .any ops listed := by
          refine mem_ready.2 ⟨hun, ops[i0], Array.getElem?_eq_getElem hlt, fun e he hb => ?_⟩
          have hlt2 := hbk i0 _ (Array.getElem?_eq_getElem hlt) e he hb
          cases hl : listed.getD e.on false with
          | true => rfl
          | false =>
            have hm : e.on ∈ remOf ops listed := mem_remOf.2 ⟨by omega, by rw [listed_eq (by omega)]; exact hl⟩
            rw [hr] at hm
            rcases List.mem_cons.1 hm with hm | hm
            · omega
            · have := hsorted.1 _ hm; omega
        rw [h0] at this
        cases this
    · obtain ⟨hun, oi, hoi, hall⟩ := mem_ready.1 hi
      have hilt : i < ops.size := (Array.getElem?_eq_some_iff.1 hoi).1
      have him : i ∈ remOf ops listed := mem_remOf.2 ⟨hilt, hun⟩
      have hnodup : (remOf ops listed).Nodup := (remOf_sorted (ops := ops) listed).imp fun h => Nat.ne_of_lt h
      have hrem' : remOf ops (listed.setIfInBounds i true) = (remOf ops listed).erase i := by rw [remOf_set hs hilt, filter_ne_erase hnodup]
      have hlen' : (remOf ops (listed.setIfInBounds i true)).length = fuel := by
        rw [hrem', List.length_erase_of_mem him]; omega
      have hs' : (listed.setIfInBounds i true).size = ops.size := by simpa using hs
      have hc' : Closed ops (listed.setIfInBounds i true) := by
        intro k hk j hj
        by_cases hik : i = k
        · subst hik; exact getD_set_true (ready_waits hi hj)
        · rw [getD_set_ne false hik] at hk; exact getD_set_true (hc k hk j hj)
      have hrd : rdy ops (remOf ops listed) i = true := by
        unfold rdy
        rw [List.all_eq_true]
        intro j hj
        obtain ⟨h1, h2⟩ := mem_remOf.1 hj
        cases hw : waits ops i j with
        | false => rfl
        | true =>
          have := ready_waits hi hw
          rw [← listed_eq (by omega), h2] at this; cases this
      cases hri : rob i with
      | true =>
        have hSw : S w := hS i him hri
        obtain ⟨v, hv, hrest⟩ := tr_pull hoi hri hsel hpair fuel _ a w him hrd h
        refine hv.run hoi hSw (ih _ _ _ hs' hc' hlen' (fun _ _ _ => hSw) (by rw [hrem']; exact hrest))
      | false =>
        have h2 := tr_push hoi hri hsel hpair fuel _ a w him hrd h
        refine wpOp_out (wpOp_mono ?_ h2)
        rintro a' w' ⟨hn, hk⟩
        refine ih _ _ _ hs' hc' hlen' ?_ (by rw [hrem']; exact hk)
        intro r hr hrr
        rw [hrem'] at hr
        have hrm := List.mem_of_mem_erase hr
        exact hn (hnd i hilt hri r (mem_remOf.1 hrm).1 hrr (rdy_waits hrd hrm))
theorem wp_region_tr {id : Nat} {a : Act} {w : World} {l : List Oper} (S : World → Prop) (f : List Nat) (n : Nat) (rem : List Nat) (hm : P.follows .mixedOrders = true) (hok : trOK l.toArray (robOf f) (needOf f) = true)
    (hl : List.range l.toArray.size = rem) (hn : rem.length = n) (hS : S w.drew) (h : wpTr P l.toArray S (robOf f) (needOf f) (Q .normal) n rem a w.drew) : (Code.region id l.toArray true).wp P Q a w := by
  refine wp_region_any hm ?_
  have hrem : remOf l.toArray (Array.replicate l.toArray.size false) = List.range l.toArray.size := by
    unfold remOf
    refine List.filter_eq_self.2 fun i hi => ?_
    have := List.mem_range.1 hi
    simp at this
    simp [this]
  refine wpAny_of_tr hok l.toArray.size (Array.replicate l.toArray.size false) a _ (by simp) ?_ (by rw [hrem]; simp) (fun _ _ _ => hS) ?_
  · intro i hi
    rw [getD_replicate_f] at hi
    cases hi
  · rw [hrem, hl]
    have : l.toArray.size = n := by rw [← hn, ← hl]; simp
    rw [this]; exact h
variable {D : List Deferred} {a : Act} {w : World} {N : Nat} {l : List (Nat × Value)} {o : Oper} {v : Value} {post : Value → World → Prop} {d i c n : Nat} {rem rem' : List Nat} {f : List Nat}
theorem R_rd (i : Nat) (rem' : List Nat) (hc : (rem.elem i && robOf f i && rdy ops rem i && rem.erase i == rem') = true) (ho : ops[i]? = some o) (K : Kd D a N l) (hw : Region.wanted o (yielded ops a.tmps) = true) (hd : o.dst = some d) (hN : Nat.blt d N = true) (hr : Rd P S a o v)
    (k : ∀ a', Kd D a' N ((d, v) :: l) → wpTr P ops S (robOf f) (needOf f) R n rem' a' w) : wpTr P ops S (robOf f) (needOf f) R (n + 1) rem a w := by
  simp only [Bool.and_eq_true, beq_iff_eq, List.elem_iff] at hc
  obtain ⟨⟨⟨h1, h2⟩, h3⟩, rfl⟩ := hc
  refine .inl ⟨i, h1, h2, h3, o, ho, v, .inl ⟨hw, hr⟩, ?_⟩
  have := K.put (d := o.dst) (by rw [hd]; exact hN) v
  rw [hd] at this ⊢
  exact k _ this
def AllC (p : Nat → Prop) : List Nat → Prop
  | [] => True
  | c :: cs => p c ∧ AllC p cs
theorem allC_mem {p : Nat → Prop} : ∀ {cs : List Nat}, AllC p cs → ∀ c ∈ cs, p c
  | [], _, c, h => by cases h
  | d :: cs, h, c, hc => by
    rcases List.mem_cons.1 hc with rfl | hc
    · exact h.1
    · exact allC_mem h.2 c hc
/-- One of several comes first. -/
theorem R_br (cs : List Nat) (hc : ((rem.all fun i => !robOf f i || !rdy ops rem i) && (rem.filter fun c => !robOf f c && rdy ops rem c) == cs) = true)
    (h : AllC (fun c => wpOp P ops NoOut c (fun a' w' => (needOf f c = true → S w') ∧ wpTr P ops S (robOf f) (needOf f) R n (rem.erase c) a' w') a w) cs) : wpTr P ops S (robOf f) (needOf f) R (n + 1) rem a w := by
  simp only [Bool.and_eq_true, beq_iff_eq] at hc
  obtain ⟨h1, rfl⟩ := hc
  refine .inr ⟨fun i hi hr => ?_, fun c hcm hr hrd => allC_mem h c (List.mem_filter.2 ⟨hcm, by simp [hr, hrd]⟩)⟩
  have := List.all_eq_true.1 h1 i hi
  simpa [hr] using this
theorem R_ac (rem' : List Nat) (hc : (rem.erase c == rem') = true) (ho : ops[c]? = some o) (K : Kd D a N l) (hw : Region.wanted o (yielded ops a.tmps) = true) (hd : o.dst = some d) (hN : Nat.blt d N = true) (h : Ac P o a w post)
    (k : ∀ v a' w', post v w' → Kd D a' N ((d, v) :: l) → (needOf f c = true → S w') ∧ wpTr P ops S (robOf f) (needOf f) R n rem' a' w') : wpOp P ops NoOut c (fun a' w' => (needOf f c = true → S w') ∧ wpTr P ops S (robOf f) (needOf f) R n (rem.erase c) a' w') a w := by
  obtain rfl : rem.erase c = rem' := by simpa using hc
  unfold wpOp
  simp only [ho, hw, if_true]
  refine .inl (h _ _ fun v w' hp => ?_)
  have := K.put (d := o.dst) (by rw [hd]; exact hN) v
  rw [hd] at this ⊢
  exact k v _ w' hp this
theorem R_end (h : R a w) : wpTr P ops S (robOf f) (needOf f) R 0 [] a w := ⟨rfl, h⟩
end
end Go.Proofs.YtpmnfhifmmfglabDoor

namespace Go.Proofs.YtpmnfhifmmfglabDoor
open Go.RowKit
abbrev I (n : Int) : Value := .int .i64 n
/-- A reading operation's answer, or nothing where its guard bars it. -/
inductive Stp (P : Program) (ops : Array Oper) (S : World → Prop) (D : List Deferred) (N : Nat) (l : List (Nat × Value)) (o : Oper) (v : Value) : Prop where
  | yes (hw : ∀ a, Kd D a N l → Region.wanted o (yielded ops a.tmps) = true) (hr : ∀ a, Kd D a N l → Rd P S a o v)
  | no (hw : ∀ a, Kd D a N l → Region.wanted o (yielded ops a.tmps) = false) (hv : undef = v)
section
variable {P : Program} {base : Nat} {W w : World} {L : List Ent} {S : World → Prop} {D : List Deferred} {a : Act} {N : Nat} {l : List (Nat × Value)} {o : Oper} {v : Value} {post : Value → World → Prop}
  {ops : Array Oper} {Q : Exit → Act → World → Prop} {R : Act → World → Prop} {rest : List Oper} {d : Nat} {f : List Nat}
theorem X_o (K : Kd D a N l) (M : Mem base W w L) (k : ∀ a', Kd D a' N ((d, v) :: l) → wpList P ops Q rest a' w) (hd : o.dst = some d := by exact rfl) (hN : Nat.blt d N = true := by exact rfl)
    (hs : Stp P ops (fun w => Mem base W w L) D N l o v := by
      first
      | exact .no (fun a K => K.no rfl rfl rfl rfl) rfl
      | exact .no (fun a K => K.nou rfl rfl rfl) rfl
      | exact .yes (by first | exact fun a K => want_no rfl | exact fun a K => K.yes rfl rfl rfl) (by
         first
         | exact fun a K => rd_move rfl K rfl
         | exact fun a K => rd_assign rfl K rfl
         | exact fun a K => rd_pickT rfl K rfl rfl
         | exact fun a K => rd_pickF rfl K rfl rfl
         | exact fun a K => rd_nil rfl K rfl
         | exact fun a K => rd_extract rfl K rfl rfl
         | exact fun a K => rd_not rfl K rfl
         | exact fun a K => rd_add rfl K rfl rfl
         | exact fun a K => rd_lss rfl K rfl rfl
         | exact fun a K => rd_sub rfl K rfl rfl
         | exact fun a K => rd_mul rfl K rfl rfl
         | exact fun a K => rd_eql rfl K rfl rfl
         | exact fun a K => rd_neq rfl K rfl rfl
         | exact fun a K => rd_gtr rfl K rfl rfl
         | exact fun a K => rd_leq rfl K rfl rfl
         | exact fun a K => rd_geq rfl K rfl rfl
         | exact fun a K => rd_min rfl K rfl rfl
         | exact fun a K => rd_max rfl K rfl rfl
         | exact fun a K => rd_and rfl K rfl rfl)) : wpList P ops Q (o :: rest) a w := by
  cases hs with
  | yes hw hr => exact X_rd K (hw a K) hd hN (hr a K) M k
  | no hw hv => subst hv; exact X_no K (hw a K) hd hN k
theorem Y_o (M : Mem base W w L) (k : ∀ a', Kd D a' N ((d, v) :: l) → wpList P ops Q rest a' w) (hd : o.dst = some d := by exact rfl) (hN : Nat.blt d N = true := by exact rfl)
    (hs : Stp P ops (fun w => Mem base W w L) D N l o v := by
      first
      | exact .no (fun a K => K.no rfl rfl rfl rfl) rfl
      | exact .no (fun a K => K.nou rfl rfl rfl) rfl
      | exact .yes (by first | exact fun a K => want_no rfl | exact fun a K => K.yes rfl rfl rfl) (by
         first
         | exact fun a K => rd_move rfl K rfl
         | exact fun a K => rd_assign rfl K rfl
         | exact fun a K => rd_pickT rfl K rfl rfl
         | exact fun a K => rd_pickF rfl K rfl rfl
         | exact fun a K => rd_nil rfl K rfl
         | exact fun a K => rd_extract rfl K rfl rfl
         | exact fun a K => rd_not rfl K rfl
         | exact fun a K => rd_add rfl K rfl rfl
         | exact fun a K => rd_lss rfl K rfl rfl
         | exact fun a K => rd_sub rfl K rfl rfl
         | exact fun a K => rd_mul rfl K rfl rfl
         | exact fun a K => rd_eql rfl K rfl rfl
         | exact fun a K => rd_neq rfl K rfl rfl
         | exact fun a K => rd_gtr rfl K rfl rfl
         | exact fun a K => rd_leq rfl K rfl rfl
         | exact fun a K => rd_geq rfl K rfl rfl
         | exact fun a K => rd_min rfl K rfl rfl
         | exact fun a K => rd_max rfl K rfl rfl
         | exact fun a K => rd_and rfl K rfl rfl)) : ∀ a, Kd D a N l → wpList P ops Q (o :: rest) a w := fun a K => X_o K M k hd hN hs
theorem Y_r (hr : ∀ a, Kd D a N l → Rd P (fun w => Mem base W w L) a o v) (M : Mem base W w L) (k : ∀ a', Kd D a' N ((d, v) :: l) → wpList P ops Q rest a' w)
    (hw : ∀ a, Kd D a N l → Region.wanted o (yielded ops a.tmps) = true := by first | exact fun a K => want_no rfl | exact fun a K => K.yes rfl rfl rfl) (hd : o.dst = some d := by exact rfl) (hN : Nat.blt d N = true := by exact rfl) :
    ∀ a, Kd D a N l → wpList P ops Q (o :: rest) a w := fun a K => X_rd K (hw a K) hd hN (hr a K) M k
theorem X_r (K : Kd D a N l) (hr : Rd P (fun w => Mem base W w L) a o v) (M : Mem base W w L) (k : ∀ a', Kd D a' N ((d, v) :: l) → wpList P ops Q rest a' w)
    (hw : ∀ a, Kd D a N l → Region.wanted o (yielded ops a.tmps) = true := by first | exact fun a K => want_no rfl | exact fun a K => K.yes rfl rfl rfl) (hd : o.dst = some d := by exact rfl) (hN : Nat.blt d N = true := by exact rfl) :
    wpList P ops Q (o :: rest) a w := X_rd K (hw a K) hd hN hr M k
theorem X_a (K : Kd D a N l) (h : Ac P o a w post) (k : ∀ v a' w', post v w' → Kd D a' N ((d, v) :: l) → wpList P ops Q rest a' w')
    (hw : ∀ a, Kd D a N l → Region.wanted o (yielded ops a.tmps) = true := by first | exact fun a K => want_no rfl | exact fun a K => K.yes rfl rfl rfl) (hd : o.dst = some d := by exact rfl) (hN : Nat.blt d N = true := by exact rfl) :
    wpList P ops Q (o :: rest) a w := X_ac K (hw a K) hd hN h k
theorem X_b (K : Kd D a N l) (h : Ac P o a w post) (k : ∀ v a' w', post v w' → Kd D a' N l → wpList P ops Q rest a' w')
    (hw : ∀ a, Kd D a N l → Region.wanted o (yielded ops a.tmps) = true := by first | exact fun a K => want_no rfl | exact fun a K => K.yes rfl rfl rfl) (hd : o.dst = none := by exact rfl) :
    wpList P ops Q (o :: rest) a w := X_a0 K (hw a K) hd h k
theorem T_o (K : Kd D a N l) (k : ∀ a', Kd D a' N ((d, v) :: l) → wpTl P ops S R (marked f rest) a' w) (hd : o.dst = some d := by exact rfl) (hN : Nat.blt d N = true := by exact rfl)
    (hs : Stp P ops S D N l o v := by
      first
      | exact .no (fun a K => K.no rfl rfl rfl rfl) rfl
      | exact .no (fun a K => K.nou rfl rfl rfl) rfl
      | exact .yes (by first | exact fun a K => want_no rfl | exact fun a K => K.yes rfl rfl rfl) (by
         first
         | exact fun a K => rd_move rfl K rfl
         | exact fun a K => rd_assign rfl K rfl
         | exact fun a K => rd_pickT rfl K rfl rfl
         | exact fun a K => rd_pickF rfl K rfl rfl
         | exact fun a K => rd_nil rfl K rfl
         | exact fun a K => rd_extract rfl K rfl rfl
         | exact fun a K => rd_not rfl K rfl
         | exact fun a K => rd_add rfl K rfl rfl
         | exact fun a K => rd_lss rfl K rfl rfl
         | exact fun a K => rd_sub rfl K rfl rfl
         | exact fun a K => rd_mul rfl K rfl rfl
         | exact fun a K => rd_eql rfl K rfl rfl
         | exact fun a K => rd_neq rfl K rfl rfl
         | exact fun a K => rd_gtr rfl K rfl rfl
         | exact fun a K => rd_leq rfl K rfl rfl
         | exact fun a K => rd_geq rfl K rfl rfl
         | exact fun a K => rd_min rfl K rfl rfl
         | exact fun a K => rd_max rfl K rfl rfl
         | exact fun a K => rd_and rfl K rfl rfl)) : wpTl P ops S R (marked (0 :: f) (o :: rest)) a w := by
  cases hs with
  | yes hw hr => exact T_rd K (hw a K) hd hN (hr a K) k
  | no hw hv => subst hv; exact T_no K (hw a K) hd hN k
theorem U_o (k : ∀ a', Kd D a' N ((d, v) :: l) → wpTl P ops S R (marked f rest) a' w) (hd : o.dst = some d := by exact rfl) (hN : Nat.blt d N = true := by exact rfl)
    (hs : Stp P ops S D N l o v := by
      first
      | exact .no (fun a K => K.no rfl rfl rfl rfl) rfl
      | exact .no (fun a K => K.nou rfl rfl rfl) rfl
      | exact .yes (by first | exact fun a K => want_no rfl | exact fun a K => K.yes rfl rfl rfl) (by
         first
         | exact fun a K => rd_move rfl K rfl
         | exact fun a K => rd_assign rfl K rfl
         | exact fun a K => rd_pickT rfl K rfl rfl
         | exact fun a K => rd_pickF rfl K rfl rfl
         | exact fun a K => rd_nil rfl K rfl
         | exact fun a K => rd_extract rfl K rfl rfl
         | exact fun a K => rd_not rfl K rfl
         | exact fun a K => rd_add rfl K rfl rfl
         | exact fun a K => rd_lss rfl K rfl rfl
         | exact fun a K => rd_sub rfl K rfl rfl
         | exact fun a K => rd_mul rfl K rfl rfl
         | exact fun a K => rd_eql rfl K rfl rfl
         | exact fun a K => rd_neq rfl K rfl rfl
         | exact fun a K => rd_gtr rfl K rfl rfl
         | exact fun a K => rd_leq rfl K rfl rfl
         | exact fun a K => rd_geq rfl K rfl rfl
         | exact fun a K => rd_min rfl K rfl rfl
         | exact fun a K => rd_max rfl K rfl rfl
         | exact fun a K => rd_and rfl K rfl rfl)) : ∀ a, Kd D a N l → wpTl P ops S R (marked (0 :: f) (o :: rest)) a w := fun a K => T_o K k hd hN hs
theorem U_r (hr : ∀ a, Kd D a N l → Rd P S a o v) (k : ∀ a', Kd D a' N ((d, v) :: l) → wpTl P ops S R (marked f rest) a' w)
    (hw : ∀ a, Kd D a N l → Region.wanted o (yielded ops a.tmps) = true := by first | exact fun a K => want_no rfl | exact fun a K => K.yes rfl rfl rfl) (hd : o.dst = some d := by exact rfl) (hN : Nat.blt d N = true := by exact rfl) :
    ∀ a, Kd D a N l → wpTl P ops S R (marked (0 :: f) (o :: rest)) a w := fun a K => T_rd K (hw a K) hd hN (hr a K) k
theorem T_r (K : Kd D a N l) (hr : Rd P S a o v) (k : ∀ a', Kd D a' N ((d, v) :: l) → wpTl P ops S R (marked f rest) a' w)
    (hw : ∀ a, Kd D a N l → Region.wanted o (yielded ops a.tmps) = true := by first | exact fun a K => want_no rfl | exact fun a K => K.yes rfl rfl rfl) (hd : o.dst = some d := by exact rfl) (hN : Nat.blt d N = true := by exact rfl) :
    wpTl P ops S R (marked (0 :: f) (o :: rest)) a w := T_rd K (hw a K) hd hN hr k
theorem T_a (K : Kd D a N l) (h : Ac P o a w post) (k : ∀ v a' w', post v w' → Kd D a' N ((d, v) :: l) → S w' ∧ wpTl P ops S R (marked f rest) a' w')
    (hw : ∀ a, Kd D a N l → Region.wanted o (yielded ops a.tmps) = true := by first | exact fun a K => want_no rfl | exact fun a K => K.yes rfl rfl rfl) (hd : o.dst = some d := by exact rfl) (hN : Nat.blt d N = true := by exact rfl) :
    wpTl P ops S R (marked (1 :: f) (o :: rest)) a w := T_ac K (hw a K) hd hN h k
theorem T_b (K : Kd D a N l) (h : Ac P o a w post) (k : ∀ v a' w', post v w' → Kd D a' N l → wpTl P ops S R (marked f rest) a' w')
    (hw : ∀ a, Kd D a N l → Region.wanted o (yielded ops a.tmps) = true := by first | exact fun a K => want_no rfl | exact fun a K => K.yes rfl rfl rfl) (hd : o.dst = none := by exact rfl) :
    wpTl P ops S R (marked (2 :: f) (o :: rest)) a w := T_a0z K (hw a K) hd h k
end
end Go.Proofs.YtpmnfhifmmfglabDoor

namespace Go.Proofs.YtpmnfhifmmfglabDoor
open Go.RowKit
theorem bs_size (l : List UInt8) : (bs l).size = l.length := by simp [bs, ByteArray.size]
theorem bs_toList (l : List UInt8) : (bs l).toList = l := ByteArray.toList_mk l
theorem bs_append (l m : List UInt8) : bs l ++ bs m = bs (l ++ m) := by
  apply ByteArray.ext
  simp [bs, ByteArray.data_append]
section
variable {P : Program} {base : Nat} {W w : World} {L : List Ent} {S : World → Prop} {D : List Deferred} {a : Act} {N : Nat} {l : List (Nat × Value)} {o : Oper} {x y ix : Operand} {t t' e : TypeId} {m n p q : Int} {k k' : IntKind}
  {xs ys zs : List UInt8} {A : Option Addr} {c : Nat} {ns : List Int}
theorem rd_lenT (ho : o.op = .call { callee := .builtin .len, args := #[x], argTypes := #[t] }) (h : P.underlying t = some .string) (K : Kd D a N l) (hx : evo l x = some (.string (bs xs))) : Rd P S a o (.int .i64 xs.length) := by
  have := rd_lenS (P := P) (S := S) ho h K hx
  rw [bs_size] at this
  exact this
theorem rd_ixT (ho : o.op = .index t x ix) (ht : P.underlying t = some .string) (K : Kd D a N l) (hx : evo l x = some (.string (bs xs))) (hi : evo l ix = some (.int k n)) {b : UInt8} (he : idx xs n = some b) : Rd P S a o (.int .u8 (b.toNat : Int)) :=
  rd_ixS ho ht K hx hi he
theorem rd_addS (ho : o.op = .binOp .add t x y t') (K : Kd D a N l) (hx : evo l x = some (.string (bs xs))) (hy : evo l y = some (.string (bs ys))) (hz : addS xs ys = some zs) : Rd P S a o (.string (bs zs)) := by
  obtain ⟨rfl, h⟩ := addS_spec hz
  refine rd_bin ho K hx hy fun w => ?_
  have h1 := bs_size xs
  have h2 := bs_size ys
  simp [eqGuard, binOp_string_add, Op.stringOp, bs_append]
  omega
theorem rd_eqlS (ho : o.op = .binOp .eql t x y t') (K : Kd D a N l) (hx : evo l x = some (.string (bs xs))) (hy : evo l y = some (.string (bs ys))) : Rd P S a o (.bool (decide (xs = ys))) :=
  rd_bin ho K hx hy fun w => by
    have e : (xs == ys) = decide (xs = ys) := by rw [Bool.eq_iff_iff]; simp
    rw [Sem.run_bind]; simp [eqGuard, binOp_string_eql, bs_toList, e]
theorem rd_neqS (ho : o.op = .binOp .neq t x y t') (K : Kd D a N l) (hx : evo l x = some (.string (bs xs))) (hy : evo l y = some (.string (bs ys))) : Rd P S a o (.bool (!decide (xs = ys))) :=
  rd_bin ho K hx hy fun w => by
    have e : (xs == ys) = decide (xs = ys) := by rw [Bool.eq_iff_iff]; simp
    rw [Sem.run_bind]; simp [eqGuard, binOp_string_neq, bs_toList, e]
theorem rd_convBS {b : Nat} (ho : o.op = .convert t t' x) (ht : slT P t e 1 b = true) (he : P.underlying e = some (.int .u8)) (hd : P.underlying t' = some .string) (K : Kd D a N l) (hx : evo l x = some (.slice A ns.length c)) (hb : ∀ w, S w → SL w (cI .u8) A ns) : Rd P S a o (.string (bs (toB ns))) := fun w hS => by
  obtain ⟨hu, _⟩ := slT_spec ht
  unfold execOp
  simp only [ho, K.ev hx]
  have key : (convert t t' (.slice A ns.length c)).run P w = .ok (.string (bs (toB ns))) w := by
    by_cases h0 : 0 < ns.length
    · obtain ⟨b, off, rfl, hc⟩ := hb w hS h0
      refine run_convert_bytes_arg w t e hu he b off ns.length c ns rfl (fun i hi => ?_) t' hd
      refine hc i _ ?_
      have := Cod.all_get (cI .u8) ns i 0 ns[i] (.int .u8 ns[i]) (List.getElem?_eq_getElem hi) rfl
      rw [List.getD_eq_getElem?_getD, List.getElem?_eq_getElem hi]
      have h1 : (cI .u8).size = 1 := rfl
      rw [h1, Nat.mul_one, Nat.add_zero] at this
      exact this
    · have hn : ns = [] := List.eq_nil_of_length_eq_zero (by omega)
      subst hn
      cases A with
      | none => exact run_convert_bytes_nil w t e hu he _ _ t' hd
      | some ad =>
        rw [run_convert_bytes_string w t t' e (some ad) _ c hu he hd]
        exact run_bytesToString w ad 0 c [] (run_loadCells_list (P := P) w ad [] (fun j v hj => by simp at hj))
  simp [key]
theorem ac_convBS {b : Nat} (ho : o.op = .convert t t' x) (ht : slT P t e 1 b = true) (he : P.underlying e = some (.int .u8)) (hd : P.underlying t' = some .string) (K : Kd D a N l) (hx : evo l x = some (.slice A ns.length c)) (M : Mem base W w L) (R : SL w (cI .u8) A ns) :
    Ac P o a w fun v w' => v = .string (bs (toB ns)) ∧ Mem base W w' L :=
  ac_val (rd_convBS (S := fun w' => w' = w) ho ht he hd K hx (fun w' hw => hw ▸ R) w rfl) ⟨rfl, M⟩
theorem rd_sliceS {lo hi : Option Operand} (ho : o.op = .slice t x lo hi none) (ht : P.underlying t = some .string) (K : Kd D a N l) (hx : evo l x = some (.string (bs xs)))
    (hlo : (match lo with | some z => evo l z = some (.int k p) | none => p = 0)) (hhi : (match hi with | some z => evo l z = some (.int k' q) | none => q = xs.length)) (hy : sli xs p q = some ys) : Rd P S a o (.string (bs ys)) := fun w _ => by
  obtain ⟨h0, h1, h2, rfl⟩ := sli_spec hy
  have hs : ((bs xs).size : Int) = xs.length := by rw [bs_size]
  have hex : (bs xs).extract p.toNat q.toNat = bs ((xs.take q.toNat).drop p.toNat) := by
    rw [show bs xs = ByteArray.mk xs.toArray from rfl, ByteArray.extract_mk, List.drop_take]; rfl
  have hS : ∀ a b c, (Instr.sliceAt t (.string (bs xs)) a b c).run P w = (Instr.slice t (.string (bs xs)) a b c).run P w := fun a b c => by rw [run_sliceAt_string w t _ a b c ht]
  unfold execOp
  cases lo with
  | none =>
    simp only at hlo; subst hlo
    cases hi with
    | none =>
      simp only at hhi; subst hhi
      have := run_slice_string_all (P := P) w t (bs xs) ht
      rw [bs_size] at this
      rw [Int.toNat_zero, Int.toNat_natCast] at hex
      rw [hex] at this
      simp only [ho, K.ev hx, Sem.run_bind, Option.map, hS, this]
      simp
    | some z =>
      simp only at hhi
      have := run_slice_string_to_if (P := P) w t (bs xs) k' q ht
      rw [if_pos ⟨by omega, by omega⟩] at this
      rw [Int.toNat_zero] at hex
      rw [hex] at this
      simp only [ho, K.ev hx, K.ev hhi, Sem.run_bind, Option.map, hS, this]
      simp
  | some z =>
    simp only at hlo
    cases hi with
    | none =>
      simp only at hhi; subst hhi
      have := run_slice_string_from_if (P := P) w t (bs xs) k p ht
      rw [if_pos ⟨by omega, by omega⟩, bs_size] at this
      rw [Int.toNat_natCast] at hex
      rw [hex] at this
      simp only [ho, K.ev hx, K.ev hlo, Sem.run_bind, Option.map, hS, this]
      simp
    | some z2 =>
      simp only at hhi
      have := run_slice_string (P := P) w t (bs xs) k k' p q ht h0 h1 (by omega)
      rw [hex] at this
      simp only [ho, K.ev hx, K.ev hlo, K.ev hhi, Sem.run_bind, Option.map, hS, this]
      simp
theorem ofB_cells (s : List UInt8) : Lib.strCells (bs s) = (cI .u8).all (ofB s) := by
  show s.map (fun b => Value.int .u8 b.toNat) = _
  induction s with
  | nil => rfl
  | cons x s ih =>
    show _ = (cI .u8).enc (x.toNat : Int) ++ (cI .u8).all (ofB s)
    rw [List.map_cons, ih]; rfl
theorem ofB_len (s : List UInt8) : (ofB s).length = s.length := by simp [ofB]
theorem app_place {i : TypeInfo} {v v' : Value} {n : Nat} {vs : List Value} {w' : World} (s : ByteArray) (ht : P.underlying t = some (.slice e)) (hu : P.underlying t' = some .string) (hi : P.info? e = some i) (hz : i.zero = some (.int .u8 0)) (hsize : i.size = 1) (hby : i.bytes = 1)
    (hown : w.ownsRow 0 e 1 v n vs) (hb : n + s.size ≤ 140737488355328) (ty : TypeId) (hr : (Builtin.append_ #[t, t'] ty #[v, .string s]).run P w = .ok v' w') (h0 : v ≠ .slice none 0 0 ∨ 0 < s.size) : v'.ownBlock = v.ownBlock ∨ v'.ownBlock = some w.heap.size := by
  have hxl : vs.length = n := by simpa using hown.1
  rcases hown.2 with ⟨rfl, rfl⟩ | ⟨g, cap, cur, rfl, hbg, hg, hnc, hcm, hcs, htake⟩
  · have hm : 0 < s.size := by
      rcases h0 with h0 | h0
      · exact absurd rfl h0
      · exact h0
    have := run_append_nil_string (P := P) w t t' ty e i (.int .u8 0) ht hu hi hz s (by omega) (by omega) (by rw [hby]; omega)
    rw [hr] at this
    injection this with h1 _
    right; rw [h1]; rfl
  · by_cases hroom : n + s.size ≤ cap
    · have := Lib.run_append_room_string (P := P) w t t' ty e i ht hu hi hsize g n cap cur hg s hroom (by omega)
      rw [hr] at this
      injection this with h1 _
      left; rw [h1]; rfl
    · have holds : ∀ j u, vs[j]? = some u → w.cell? ((⟨g, 0, none⟩ : Addr).add j) = some u := hown.cells (g := g) rfl
      have := Lib.run_append_grow_string (P := P) w t t' ty e i (.int .u8 0) ht hu hi hz ⟨g, 0, none⟩ n cap vs (by rw [hsize]; simpa using hxl) holds s (by omega) (by omega) (by rw [hby]; exact growslice_fits (by omega) (by omega))
      rw [hr] at this
      injection this with h1 _
      right; rw [h1]; rfl
theorem ac_appS {zs : List Int} (ho : o.op = .call { callee := .builtin .append, args := #[x, y], argTypes := #[t, t'] }) (ht : slT P t e 1 1 = true) (hu : P.underlying t' = some .string) (hz : (P.info? e).bind (·.zero) = some (.int .u8 0)) (K : Kd D a N l)
    (hx : evo l x = some (.slice A ns.length c)) (hy : evo l y = some (.string (bs ys))) (i : Nat) (M : Mem base W w L) (hi : L[i]? = some (.row e 1 A ns.length c ((cI .u8).all ns))) (hlen : app 1 ns (ofB ys) = some zs) :
    Ac P o a w fun v w' => ∃ A' c'', v = .slice A' zs.length c'' ∧ Mem base W w' (L.set i (.row e 1 A' zs.length c'' ((cI .u8).all zs))) := by
  obtain ⟨rfl, hbytes⟩ := app_spec hlen
  rw [ofB_len] at hbytes
  obtain ⟨hsl, inf, hinf, hsz, hby⟩ := slT_spec ht
  have hzz : inf.zero = some (.int .u8 0) := by rw [hinf] at hz; exact hz
  have hown := M.has i _ hi
  have hsize : (bs ys).size = ys.length := bs_size ys
  have hb2 : ns.length + (bs ys).size ≤ 140737488355328 := by rw [hsize]; omega
  obtain ⟨v', w', hr, h2, h3, h4⟩ := Lib.run_append_own_string (P := P) w 0 t t' o.type e inf hsl hu hinf hzz hsz hby (.slice A ns.length c) ns.length ((cI .u8).all ns) hown (bs ys) (by simp only [maxLen]; omega) hb2 (Nat.zero_le _)
  rw [ofB_cells, hsize, ← Cod.all_append] at h2
  by_cases h0 : (Value.slice A ns.length c) = .slice none 0 0 ∧ ys = []
  · obtain ⟨h00, rfl⟩ := h0
    injection h00 with e1 e2 e3
    subst e1 e3
    have hns : ns = [] := List.eq_nil_of_length_eq_zero e2
    subst hns
    have hr2 : (Builtin.append_ #[t, t'] o.type #[.slice none ([] : List Int).length 0, .string (bs [])]).run P w = .ok (.slice none 0 0) w := by
      have hf := Lib.run_firstCells_string (P := P) w 1 (bs [])
      have hm : (bs []).size = 0 := rfl
      rw [hm] at hf
      simp [Builtin.append_, run_underlying hsl, run_underlying hu, sizeOf, typeInfo, hinf, hsz, Builtin.lenOf, hm, hf]
    refine ac_val (v := .slice none 0 0) (w' := w) ?_ ⟨none, 0, rfl, ?_⟩
    · unfold execOp
      simp only [ho, resolve, invoke, builtin, Sem.run_bind, Sem.run_pure, Result.andThen_ok, List.map_toArray, List.map_cons, List.map_nil, K.ev hx, K.ev hy]
      rw [hr2]; rfl
    · have : L.set i (.row e 1 none (([] : List Int) ++ ofB []).length 0 ((cI .u8).all ([] ++ ofB []))) = L := by
        obtain ⟨hlt, he⟩ := List.getElem?_eq_some_iff.1 hi
        exact he ▸ List.set_getElem_self hlt
      rw [this]; exact M
  have hne : (Value.slice A ns.length c) ≠ .slice none 0 0 ∨ 0 < (bs ys).size := by
    by_cases hy0 : ys = []
    · left; exact fun e => h0 ⟨e, hy0⟩
    · right; rw [hsize]; exact List.length_pos_iff.2 hy0
  have hpl := app_place (bs ys) hsl hu hinf hzz hsz hby hown hb2 o.type hr hne
  have hv' : v' ≠ .slice none 0 0 := fun e => by
    obtain ⟨q1, q2⟩ := h4.1 e
    rw [hsize] at q2
    exact h0 ⟨q1, List.eq_nil_of_length_eq_zero q2⟩
  rcases h2.2 with ⟨e1, _⟩ | ⟨g, cap, cur, rfl, _⟩
  · exact absurd e1 hv'
  refine ac_val (v := .slice (some ⟨g, 0, none⟩) (ns.length + ys.length) cap) (w' := w') ?_ ⟨some ⟨g, 0, none⟩, cap, by rw [List.length_append, ofB_len], ?_⟩
  · unfold execOp
    simp only [ho, resolve, invoke, builtin, Sem.run_bind, Sem.run_pure, Result.andThen_ok, List.map_toArray, List.map_cons, List.map_nil, K.ev hx, K.ev hy]
    rw [hr]; rfl
  · have h3' : w.grownBy w' (A.map (·.block)) := by
      cases A with
      | none => exact h3
      | some ad => exact h3
    rw [List.length_append, ofB_len]
    refine M.grown i hi h3' h2 ?_
    rcases hpl with hpl | hpl
    · left
      cases A with
      | none => simp [Value.ownBlock] at hpl
      | some ad => simpa [Value.ownBlock] using hpl.symm
    · right
      simp [Value.ownBlock] at hpl
      omega
end
end Go.Proofs.YtpmnfhifmmfglabDoor

namespace Go.Proofs.YtpmnfhifmmfglabDoor
open Go.RowKit
theorem z2 : zeroT Tryd.prog 2 = some [.int .i64 0] := by kernel_rfl
theorem sc3 : scT Tryd.prog 3 = true := by kernel_rfl
theorem z3 : zeroT Tryd.prog 3 = some [.int .i64 0] := by kernel_rfl
theorem ik3 : Tryd.prog.underlying 3 = some (.int .i64) := by kernel_rfl
theorem z4 : zeroT Tryd.prog 4 = some [.bool false] := by kernel_rfl
theorem sc5 : scT Tryd.prog 5 = true := by kernel_rfl
theorem z5 : zeroT Tryd.prog 5 = some [.int .u8 0] := by kernel_rfl
theorem ik5 : Tryd.prog.underlying 5 = some (.int .u8) := by kernel_rfl
theorem zu5 : (Tryd.prog.info? 5).bind (·.zero) = some (.int .u8 0) := by kernel_rfl
theorem sz5 : (Tryd.prog.info? 5).map (·.size) = some 1 := by kernel_rfl
theorem z9 : zeroT Tryd.prog 9 = some [.string (bs ([] : List UInt8))] := by kernel_rfl
theorem st9 : Tryd.prog.underlying 9 = some .string := by kernel_rfl
theorem z20 : zeroT Tryd.prog 20 = some [.nilIface] := by kernel_rfl
theorem z21 : zeroT Tryd.prog 21 = some [.int .i32 0] := by kernel_rfl
theorem sl35 : slT Tryd.prog 35 3 1 8 = true := by kernel_rfl
theorem un35 : ∃ e, Tryd.prog.underlying 35 = some (.slice e) := ⟨_, (slT_spec sl35).1⟩
theorem z37 : zeroT Tryd.prog 37 = some [.nilFunc] := by kernel_rfl
theorem z46 : zeroT Tryd.prog 46 = some [.nilFunc] := by kernel_rfl
theorem sl50 : slT Tryd.prog 50 5 1 1 = true := by kernel_rfl
theorem un50 : ∃ e, Tryd.prog.underlying 50 = some (.slice e) := ⟨_, (slT_spec sl50).1⟩
theorem z51 : zeroT Tryd.prog 51 = some [.int .u64 0] := by kernel_rfl
theorem z75 : zeroT Tryd.prog 75 = some [.nilFunc] := by kernel_rfl
theorem z105 : zeroT Tryd.prog 105 = some [] := by kernel_rfl
theorem fok7 : FnOK Tryd.prog 7 = true := by kernel_rfl
theorem fok9 : FnOK Tryd.prog 9 = true := by kernel_rfl
theorem fok10 : FnOK Tryd.prog 10 = true := by kernel_rfl
theorem fok11 : FnOK Tryd.prog 11 = true := by kernel_rfl
theorem fok12 : FnOK Tryd.prog 12 = true := by kernel_rfl
theorem fok14 : FnOK Tryd.prog 14 = true := by kernel_rfl
theorem fok15 : FnOK Tryd.prog 15 = true := by kernel_rfl
theorem fok16 : FnOK Tryd.prog 16 = true := by kernel_rfl
theorem fok17 : FnOK Tryd.prog 17 = true := by kernel_rfl
theorem fok18 : FnOK Tryd.prog 18 = true := by kernel_rfl
theorem fok19 : FnOK Tryd.prog 19 = true := by kernel_rfl
theorem fok20 : FnOK Tryd.prog 20 = true := by kernel_rfl
theorem fok21 : FnOK Tryd.prog 21 = true := by kernel_rfl
theorem fok22 : FnOK Tryd.prog 22 = true := by kernel_rfl
theorem fok23 : FnOK Tryd.prog 23 = true := by kernel_rfl
theorem fok30 : FnOK Tryd.prog 30 = true := by kernel_rfl
theorem fok31 : FnOK Tryd.prog 31 = true := by kernel_rfl
theorem fok32 : FnOK Tryd.prog 32 = true := by kernel_rfl
theorem fok33 : FnOK Tryd.prog 33 = true := by kernel_rfl
theorem fok34 : FnOK Tryd.prog 34 = true := by kernel_rfl
theorem fok35 : FnOK Tryd.prog 35 = true := by kernel_rfl
theorem fok42 : FnOK Tryd.prog 42 = true := by kernel_rfl
theorem fok43 : FnOK Tryd.prog 43 = true := by kernel_rfl
end Go.Proofs.YtpmnfhifmmfglabDoor

namespace Go.Proofs.YtpmnfhifmmfglabDoor
open Go.Shelf Go.RowKit
def lays160_ren : Go.Shelf.Ren := ⟨fun | 160 => 42 | 232 => 49 | 231 => 48 | 227 => 50 | 234 => 52 | 233 => 51 | 236 => 54 | 235 => 53 | 228 => 61 | 271 => 64 | 151 => 63 | 197 => 62 | 120 => 69 | 152 => 68 | 260 => 67 | 137 => 75 | 119 => 76 | 224 => 72 | 225 => 71 | 217 => 70 | 266 => 77 | n => n, fun | 9 => 9 | 4 => 4 | 3 => 3 | 5 => 5 | 117 => 78 | 116 => 77 | 0 => 0 | 124 => 81 | 21 => 21 | 105 => 88 | 46 => 51 | 119 => 93 | 139 => 96 | 138 => 95 | n => n, fun | 3 => 1 | 4 => 2 | n => n⟩
theorem lays160 : Go.Proofs.Lays.n160 Tryd.prog lays160_ren := {
  mixed := by kernel_rfl
  f119 := Tryd.func76.trans (congrArg some (by kernel_rfl))
  f120 := Tryd.func69.trans (congrArg some (by kernel_rfl))
  f137 := Tryd.func75.trans (congrArg some (by kernel_rfl))
  f151 := Tryd.func63.trans (congrArg some (by kernel_rfl))
  f152 := Tryd.func68.trans (congrArg some (by kernel_rfl))
  f160 := Tryd.func42.trans (congrArg some (by kernel_rfl))
  f197 := Tryd.func62.trans (congrArg some (by kernel_rfl))
  f217 := Tryd.func70.trans (congrArg some (by kernel_rfl))
  f224 := Tryd.func72.trans (congrArg some (by kernel_rfl))
  f225 := Tryd.func71.trans (congrArg some (by kernel_rfl))
  f227 := Tryd.func50.trans (congrArg some (by kernel_rfl))
  f228 := Tryd.func61.trans (congrArg some (by kernel_rfl))
  f231 := Tryd.func48.trans (congrArg some (by kernel_rfl))
  f232 := Tryd.func49.trans (congrArg some (by kernel_rfl))
  f233 := Tryd.func51.trans (congrArg some (by kernel_rfl))
  f234 := Tryd.func52.trans (congrArg some (by kernel_rfl))
  f235 := Tryd.func53.trans (congrArg some (by kernel_rfl))
  f236 := Tryd.func54.trans (congrArg some (by kernel_rfl))
  f260 := Tryd.func67.trans (congrArg some (by kernel_rfl))
  f266 := Tryd.func77.trans (congrArg some (by kernel_rfl))
  f271 := Tryd.func64.trans (congrArg some (by kernel_rfl))
  t0 := Tryd.underlying0
  a0 := Tryd.isAgg0
  z0 := Tryd.sizeOf0
  v0 := Tryd.zeroValue0
  t3 := Tryd.underlying3
  a3 := Tryd.isAgg3
  z3 := Tryd.sizeOf3
  v3 := Tryd.zeroValue3
  t4 := Tryd.underlying4
  a4 := Tryd.isAgg4
  z4 := Tryd.sizeOf4
  v4 := Tryd.zeroValue4
  t5 := Tryd.underlying5
  a5 := Tryd.isAgg5
  z5 := Tryd.sizeOf5
  v5 := Tryd.zeroValue5
  t9 := Tryd.underlying9
  a9 := Tryd.isAgg9
  z9 := Tryd.sizeOf9
  v9 := Tryd.zeroValue9
  t21 := Tryd.underlying21
  a21 := Tryd.isAgg21
  z21 := Tryd.sizeOf21
  v21 := Tryd.zeroValue21
  t46 := Tryd.underlying51
  a46 := Tryd.isAgg51
  z46 := Tryd.sizeOf51
  v46 := Tryd.zeroValue51
  t105 := Tryd.underlying88
  a105 := Tryd.isAgg88
  z105 := Tryd.sizeOf88
  v105 := Tryd.zeroValue88
  t116 := Tryd.underlying77
  a116 := Tryd.isAgg77
  z116 := Tryd.sizeOf77
  t117 := Tryd.underlying78
  a117 := Tryd.isAgg78
  z117 := Tryd.sizeOf78
  v117 := Tryd.zeroValue78
  t119 := Tryd.underlying93
  a119 := Tryd.isAgg93
  z119 := Tryd.sizeOf93
  t124 := Tryd.underlying81
  a124 := Tryd.isAgg81
  z124 := Tryd.sizeOf81
  v124 := Tryd.zeroValue81
  t138 := Tryd.underlying95
  a138 := Tryd.isAgg95
  z138 := Tryd.sizeOf95
  v138 := Tryd.zeroValue95
  t139 := Tryd.underlying96
  a139 := Tryd.isAgg96
  z139 := Tryd.sizeOf96
  v139 := Tryd.zeroValue96
  g3 := by kernel_rfl
  g4 := by kernel_rfl }
def lays138_ren : Go.Shelf.Ren := ⟨fun | 138 => 43 | 195 => 55 | 218 => 56 | 143 => 57 | 219 => 65 | 217 => 70 | 225 => 71 | 224 => 72 | 267 => 73 | 266 => 77 | 314 => 78 | n => n, fun | 9 => 9 | 3 => 3 | 4 => 4 | 5 => 5 | 0 => 0 | 46 => 51 | 146 => 99 | 51 => 98 | n => n, fun | 1 => 0 | n => n⟩
theorem lays138 : Go.Proofs.Lays.n138 Tryd.prog lays138_ren := {
  mixed := by kernel_rfl
  f138 := Tryd.func43.trans (congrArg some (by kernel_rfl))
  f143 := Tryd.func57.trans (congrArg some (by kernel_rfl))
  f195 := Tryd.func55.trans (congrArg some (by kernel_rfl))
  f217 := Tryd.func70.trans (congrArg some (by kernel_rfl))
  f218 := Tryd.func56.trans (congrArg some (by kernel_rfl))
  f219 := Tryd.func65.trans (congrArg some (by kernel_rfl))
  f224 := Tryd.func72.trans (congrArg some (by kernel_rfl))
  f225 := Tryd.func71.trans (congrArg some (by kernel_rfl))
  f266 := Tryd.func77.trans (congrArg some (by kernel_rfl))
  f267 := Tryd.func73.trans (congrArg some (by kernel_rfl))
  f314 := Tryd.func78.trans (congrArg some (by kernel_rfl))
  t0 := Tryd.underlying0
  a0 := Tryd.isAgg0
  z0 := Tryd.sizeOf0
  v0 := Tryd.zeroValue0
  t3 := Tryd.underlying3
  a3 := Tryd.isAgg3
  z3 := Tryd.sizeOf3
  v3 := Tryd.zeroValue3
  t4 := Tryd.underlying4
  a4 := Tryd.isAgg4
  z4 := Tryd.sizeOf4
  v4 := Tryd.zeroValue4
  t5 := Tryd.underlying5
  a5 := Tryd.isAgg5
  z5 := Tryd.sizeOf5
  v5 := Tryd.zeroValue5
  t9 := Tryd.underlying9
  a9 := Tryd.isAgg9
  z9 := Tryd.sizeOf9
  v9 := Tryd.zeroValue9
  t46 := Tryd.underlying51
  a46 := Tryd.isAgg51
  z46 := Tryd.sizeOf51
  v46 := Tryd.zeroValue51
  t51 := Tryd.underlying98
  a51 := Tryd.isAgg98
  z51 := Tryd.sizeOf98
  v51 := Tryd.zeroValue98
  t146 := Tryd.underlying99
  a146 := Tryd.isAgg99
  z146 := Tryd.sizeOf99
  v146 := Tryd.zeroValue99
  g1 := by kernel_rfl }
def lays169_ren : Go.Shelf.Ren := ⟨fun | 169 => 34 | n => n, fun | 70 => 53 | 9 => 9 | 0 => 0 | 72 => 55 | 37 => 50 | 127 => 70 | 3 => 3 | 5 => 5 | n => n, fun | n => n⟩
theorem lays169 : Go.Proofs.Lays.n169 Tryd.prog lays169_ren := {
  mixed := by kernel_rfl
  f169 := Tryd.func34.trans (congrArg some (by kernel_rfl))
  t0 := Tryd.underlying0
  a0 := Tryd.isAgg0
  z0 := Tryd.sizeOf0
  v0 := Tryd.zeroValue0
  t3 := Tryd.underlying3
  a3 := Tryd.isAgg3
  z3 := Tryd.sizeOf3
  v3 := Tryd.zeroValue3
  t9 := Tryd.underlying9
  a9 := Tryd.isAgg9
  z9 := Tryd.sizeOf9
  v9 := Tryd.zeroValue9
  t37 := Tryd.underlying50
  a37 := Tryd.isAgg50
  z37 := Tryd.sizeOf50
  v37 := Tryd.zeroValue50
  t70 := Tryd.underlying53
  a70 := Tryd.isAgg53
  z70 := Tryd.sizeOf53
  v70 := Tryd.zeroValue53
  t72 := Tryd.underlying55
  a72 := Tryd.isAgg55
  z72 := Tryd.sizeOf55
  v72 := Tryd.zeroValue55
  t127 := Tryd.underlying70
  a127 := Tryd.isAgg70
  z127 := Tryd.sizeOf70
  v127 := Tryd.zeroValue70 }
def lays166_ren : Go.Shelf.Ren := ⟨fun | 166 => 33 | 240 => 44 | 276 => 58 | 169 => 34 | n => n, fun | 0 => 0 | 3 => 3 | 4 => 4 | 5 => 5 | 9 => 9 | 20 => 20 | 37 => 50 | 70 => 53 | 72 => 55 | 75 => 57 | 80 => 60 | 164 => 83 | 127 => 70 | n => n, fun | n => n⟩
theorem lays166 : Go.Proofs.Lays.n166 Tryd.prog lays166_ren := {
  mixed := by kernel_rfl
  f166 := Tryd.func33.trans (congrArg some (by kernel_rfl))
  f240 := Tryd.func44.trans (congrArg some (by kernel_rfl))
  f276 := Tryd.func58.trans (congrArg some (by kernel_rfl))
  t0 := Tryd.underlying0
  a0 := Tryd.isAgg0
  z0 := Tryd.sizeOf0
  v0 := Tryd.zeroValue0
  t3 := Tryd.underlying3
  a3 := Tryd.isAgg3
  z3 := Tryd.sizeOf3
  v3 := Tryd.zeroValue3
  t4 := Tryd.underlying4
  a4 := Tryd.isAgg4
  z4 := Tryd.sizeOf4
  v4 := Tryd.zeroValue4
  t9 := Tryd.underlying9
  a9 := Tryd.isAgg9
  z9 := Tryd.sizeOf9
  v9 := Tryd.zeroValue9
  t20 := Tryd.underlying20
  a20 := Tryd.isAgg20
  z20 := Tryd.sizeOf20
  v20 := Tryd.zeroValue20
  t37 := Tryd.underlying50
  a37 := Tryd.isAgg50
  z37 := Tryd.sizeOf50
  v37 := Tryd.zeroValue50
  t70 := Tryd.underlying53
  a70 := Tryd.isAgg53
  z70 := Tryd.sizeOf53
  v70 := Tryd.zeroValue53
  t72 := Tryd.underlying55
  a72 := Tryd.isAgg55
  z72 := Tryd.sizeOf55
  v72 := Tryd.zeroValue55
  t75 := Tryd.underlying57
  a75 := Tryd.isAgg57
  z75 := Tryd.sizeOf57
  v75 := Tryd.zeroValue57
  t164 := Tryd.underlying83
  a164 := Tryd.isAgg83
  z164 := Tryd.sizeOf83
  v164 := Tryd.zeroValue83 }
theorem Builder_Extra_166 : Builder.Extra Tryd.prog lays166_ren where
  sizeBuilder := by kernel_rfl
  liesBuilder := by kernel_rfl
  t5 := Tryd.underlying5
  a5 := Tryd.isAgg5
  z5 := Tryd.sizeOf5
  v5 := Tryd.zeroValue5
  infoByte := by kernel_rfl
  cellsByte := by kernel_rfl
  sizeByte := by kernel_rfl
  neB5 := by decide
theorem Builder_Extra_169 : Builder.Extra Tryd.prog lays169_ren where
  sizeBuilder := by kernel_rfl
  liesBuilder := by kernel_rfl
  t5 := Tryd.underlying5
  a5 := Tryd.isAgg5
  z5 := Tryd.sizeOf5
  v5 := Tryd.zeroValue5
  infoByte := by kernel_rfl
  cellsByte := by kernel_rfl
  sizeByte := by kernel_rfl
  neB5 := by decide
theorem Builder_WriteString (B b : Nat) (bs : List Value) (s : ByteArray) (w : World) (h : Lib.IsBuilder 55 5 B b bs w) (hlen : bs.length + s.size ≤ 140737488355328) (hBw : B ≤ w.heap.size) :
    Calls Tryd.prog 33 #[.pointer (some ⟨b, 0, none⟩), .string s] w fun e w' => e = .returned (.tuple #[.int .i64 s.size, .nilIface]) ∧ (Lib.BuilderAt 55 5 B b (.pointer (some ⟨b, 0, none⟩)) (bs ++ Lib.strCells s) w' ∧ Below B w w') := Any.Builder_WriteString lays166 Builder_Extra_166 B b bs s w h hlen hBw
theorem Builder_String (B b : Nat) (l : List UInt8) (w : World) (h : Lib.IsBuilder 55 5 B b (Lib.byteCells l) w) (hBw : B ≤ w.heap.size) :
    Calls Tryd.prog 34 #[.pointer (some ⟨b, 0, none⟩)] w fun e w' => e = .returned (.string ⟨l.toArray⟩) ∧ Below B w w' := Any.Builder_String_any lays169 Builder_Extra_169 B b l w h hBw
end Go.Proofs.YtpmnfhifmmfglabDoor

namespace Go.Proofs.YtpmnfhifmmfglabDoor
open Go.RowKit Go.Shelf
theorem W_strings_Trim (N : Nat) (s cutset : List UInt8) (w0 : World) (r : List UInt8) (h : D_strings_Trim N s cutset = some r) :
    Calls Tryd.prog 42 #[.string (bs s), .string (bs cutset)] w0 fun e w' => ∃ v, e = .returned v ∧ v = .string (bs r) ∧ Mem w0.heap.size w0 w' [] := by
  unfold D_strings_Trim at h
  split at h
  · rename_i hc
    cases h
    obtain ⟨h1, h2, h3⟩ := hc
    refine (Any.strings_Trim_laid lays160 (by kernel_rfl) (bs s) (bs cutset) w0 (by rw [bs_size]; exact h1) (by rw [bs_size]; exact h2) (fun j b hb => ?_)).mono ?_
    · exact of_decide_eq_true (List.all_eq_true.1 h3 b (List.mem_of_getElem? hb))
    · rintro e w' ⟨rfl, hb⟩
      exact ⟨_, rfl, rfl, Mem.fin0 hb⟩
  · cases h
theorem W_strings_Count (N : Nat) (s substr : List UInt8) (w0 : World) (r : Int) (h : D_strings_Count N s substr = some r) :
    Calls Tryd.prog 43 #[.string (bs s), .string (bs substr)] w0 fun e w' => ∃ v, e = .returned v ∧ v = .int .i64 r ∧ Mem w0.heap.size w0 w' [] := by
  unfold D_strings_Count at h
  split at h
  · rename_i c
    cases h
    refine (Any.strings_Count_one lays138 (bs s) c w0).mono ?_
    rintro e w' ⟨rfl, rfl⟩
    exact ⟨_, rfl, rfl, Mem.start w'⟩
  · cases h
theorem own_keep {B : Nat} {e : TypeId} {k : Nat} {v : Value} {n : Nat} {xs : List Value} {w w' : World} (h : w.ownsRow B e k v n xs) (hb : Below w.heap.size w w') : w'.ownsRow B e k v n xs := by
  obtain ⟨h1, h2⟩ := h
  refine ⟨h1, ?_⟩
  rcases h2 with h2 | ⟨g, cap, cur, q1, q2, q3, q4⟩
  · exact .inl h2
  · exact .inr ⟨g, cap, cur, q1, q2, (hb.block g (Array.getElem?_eq_some_iff.1 q3).1).trans q3, q4⟩
theorem bld_keep {T e : TypeId} {B b : Nat} {bs : List Value} {w w' : World} (h : Lib.IsBuilder T e B b bs w) (hb : Below w.heap.size w w') : Lib.IsBuilder T e B b bs w' := by
  have one : ∀ p, Lib.BuilderAt T e B b p bs w → Lib.BuilderAt T e B b p bs w' := fun p h => by
    have hlt := h.lt
    obtain ⟨h1, v, h2, h3, h4⟩ := h
    exact ⟨h1, v, (hb.block b hlt).trans h2, own_keep h3 hb, h4⟩
  rcases h with h | h
  · exact .inl (one _ h)
  · exact .inr (one _ h)
theorem bld_new {T e : TypeId} {base g : Nat} {w : World} (hb : base ≤ g) (h : Blk w g T #[.pointer none, .slice none 0 0]) : Lib.IsBuilder T e base g [] w := by
  refine .inl ⟨hb, .slice none 0 0, h, World.ownsRow_nil _ _ _ _, by simp [Value.ownBlock]⟩
theorem fin_trans {base : Nat} {W w w' : World} (M : Mem base W w []) (hbase : base = W.heap.size) (hb : Below base w w') : Mem base W w' [] := by
  subst hbase
  exact Mem.fin0 (M.low.trans hb)
theorem cells_app (xs ys : List UInt8) : Lib.byteCells xs ++ Lib.strCells (bs ys) = Lib.byteCells (xs ++ ys) := by
  show xs.map _ ++ ys.map _ = (xs ++ ys).map _
  rw [List.map_append]
theorem W_bld_write {base g : Nat} {w : World} {b d b2 : List UInt8} (hB : Lib.IsBuilder 55 5 base g (Lib.byteCells b) w) (hw : bwr b d = some b2) (hs : base ≤ w.heap.size) :
    Calls Tryd.prog 33 #[.pointer (some ⟨g, 0, none⟩), .string (bs d)] w fun e w' => ∃ v, e = .returned v ∧ Lib.IsBuilder 55 5 base g (Lib.byteCells b2) w' ∧ Below base w w' := by
  obtain ⟨rfl, hl⟩ := bwr_spec hw
  refine (Builder_WriteString base g (Lib.byteCells b) (bs d) w hB (by rw [Lib.byteCells_length, bs_size]; exact hl) hs).mono ?_
  rintro e w' ⟨rfl, h1, h2⟩
  exact ⟨_, rfl, .inr (cells_app b d ▸ h1), h2⟩
theorem W_bld_string {base g : Nat} {w : World} {b : List UInt8} (hB : Lib.IsBuilder 55 5 base g (Lib.byteCells b) w) (hs : base ≤ w.heap.size) :
    Calls Tryd.prog 34 #[.pointer (some ⟨g, 0, none⟩)] w fun e w' => ∃ v, e = .returned v ∧ v = .string (bs b) ∧ Below base w w' := by
  refine (Builder_String base g b w hB hs).mono ?_
  rintro e w' ⟨rfl, h2⟩
  exact ⟨_, rfl, rfl, h2⟩
end Go.Proofs.YtpmnfhifmmfglabDoor
