/- Texts of the claim BitsBack, joined: PUnpack, PBitsB, PBitsBack, D9, DS, Facts, Shelf, HStr, WBits, WRefSameints, WLawBitsbegun, WLawBitsback. -/
import Derived.Laws.BytesArg
import Derived.Laws.CopyRow
import Derived.Laws.IdiomCopy
import Derived.Laws.Strings2
import Derived.Laws.Strings3
import Derived.Lib.AppendStr
import Derived.Lib.SliceRun
import Derived.LoopN
import Derived.Shelf.Strings.Builder1
import Derived.Shelf.Strings.Count
import Derived.Shelf.Strings.SlTrimAscii
import Derived.Test.YtpmnfhifmmfglabDoorChecked
import Derived.Test.YtpmnfhifmmfglabDoorProg
import Derived.WalkSpells
import Derived.Test.YtpmnfhifmmfglabDoorBitsBackK1
set_option linter.unusedVariables false
set_option linter.unusedSimpArgs false
set_option linter.unusedSectionVars false
namespace Go.Proofs.YtpmnfhifmmfglabDoor
open Go
theorem step_digw {w X d e L q r : Nat} (m : Nat) (he : e < 2 ^ d) (hq : L + d = w * q + r) : dig (2 ^ w) m (X / 2 ^ L) ++ dig (2 ^ w) q ((X % 2 ^ L * 2 ^ d + e) / 2 ^ r) = dig (2 ^ w) (m + q) ((X * 2 ^ d + e) / 2 ^ r) := by
  rw [dig_add]
  congr 1
  · rw [powp, Nat.div_div_eq_div_mul, ← Nat.pow_add, show r + w * q = d + L by omega, Nat.pow_add, ← Nat.div_div_eq_div_mul, step_hi he]
  · rw [step_low he, show L + d = r + w * q by omega, Nat.pow_add, Nat.mod_mul_right_div_self, ← powp, dig_mod]
theorem step_modw {w X d e L q r : Nat} (he : e < 2 ^ d) (hq : L + d = w * q + r) : (X % 2 ^ L * 2 ^ d + e) % 2 ^ r = (X * 2 ^ d + e) % 2 ^ r := by
  rw [step_low he, show L + d = r + w * q by omega, Nat.pow_add, Nat.mod_mul_right_mod]
theorem unpack_l2 (N : Nat) {d n : Nat} (hd : 1 ≤ d ∧ d ≤ 16) (hn : n ≤ 4096) (kk) : ∀ (a t h fuel : Nat) (out : List Int), a = min (t / d) (n - out.length) → out.length ≤ n → t ≤ 32 → h < 2 ^ t → a < fuel →
    D_bits_Unpack_l2 N (d : Int) (n : Int) kk fuel (out, (h : Int), (t : Int)) = kk (out ++ toI (dig (2 ^ d) a (h / 2 ^ (t - d * a))), ((h % 2 ^ (t - d * a) : Nat) : Int), ((t - d * a : Nat) : Int)) := by
  intro a
  induction a with
  | zero =>
    intro t h fuel out ha hon ht hh hf
    obtain ⟨fuel, rfl⟩ : ∃ m, fuel = m + 1 := ⟨fuel - 1, by omega⟩
    have hex : t < d ∨ n = out.length := by
      by_cases q : t < d
      · exact .inl q
      · right
        have : 1 ≤ t / d := (Nat.le_div_iff_mul_le (by omega)).2 (by omega)
        omega
    have hfin : kk (out ++ toI (dig (2 ^ d) 0 (h / 2 ^ (t - d * 0))), ((h % 2 ^ (t - d * 0) : Nat) : Int), ((t - d * 0 : Nat) : Int)) = kk (out, (h : Int), (t : Int)) := by
      rw [Nat.mul_zero, Nat.sub_zero, Nat.mod_eq_of_lt hh]
      simp [dig, toI]
    rw [hfin]
    unfold D_bits_Unpack_l2
    by_cases q : (d : Int) ≤ t
    · rw [cT (dT q), cF (dF (by omega))]
    · rw [cF (dF q)]
  | succ a ih =>
    intro t h fuel out ha hon ht hh hf
    obtain ⟨fuel, rfl⟩ : ∃ m, fuel = m + 1 := ⟨fuel - 1, by omega⟩
    have h1 : d ≤ t := by
      rcases Nat.lt_or_ge t d with q | q
      · rw [Nat.div_eq_of_lt q] at ha; omega
      · exact q
    have h2 : out.length < n := by omega
    have htd : (t - d) / d = t / d - 1 := by
      have := Nat.sub_mul_div t d 1
      rw [Nat.mul_one] at this
      exact this
    have hx : IntKind.i64.wrap ((t : Int) - (d : Int)) = ((t - d : Nat) : Int) := by rw [w64 (by omega)]; omega
    have hpt : 2 ^ t ≤ 2 ^ 32 := Nat.pow_le_pow_right (by decide) ht
    have hptd : 2 ^ (t - d) ≤ 2 ^ 32 := Nat.pow_le_pow_right (by decide) (by omega)
    have hp0 := Nat.two_pow_pos (t - d)
    have em : IntKind.i64.wrap (shlI .i64 1 ((t - d : Nat) : Int) - 1) = ((2 ^ (t - d) - 1 : Nat) : Int) := by
      have := shl_nat (h := 1) (k := t - d) (by omega) (by omega)
      rw [Nat.one_mul] at this
      rw [show (1 : Int) = ((1 : Nat) : Int) from rfl, this, w64 (by omega)]
      omega
    have hmul : d * (a + 1) = d + d * a := by rw [Nat.mul_add, Nat.mul_one, Nat.add_comm]
    have hle : d * (a + 1) ≤ t := by
      have := Nat.div_mul_le_self t d
      have q : a + 1 ≤ t / d := by omega
      have := Nat.mul_le_mul_left d q
      rw [Nat.mul_comm d (t / d)] at this
      omega
    unfold D_bits_Unpack_l2
    rw [cT (dT (by omega)), cT (dT (by omega)), hx, bsome, nn_nat, bsome, shr_nat (by omega), app_eq (by simp; omega), bsome, bsome, em, and_mask (by omega) (by omega), bsome]
    rw [ih (t - d) (h % 2 ^ (t - d)) fuel (out ++ [((h / 2 ^ (t - d) : Nat) : Int)]) (by rw [htd, List.length_append, List.length_singleton]; omega) (by rw [List.length_append, List.length_singleton]; omega) (by omega) (Nat.mod_lt _ hp0) (by omega)]
    have er : t - d - d * a = t - d * (a + 1) := by omega
    rw [er]
    have e1 : h % 2 ^ (t - d) % 2 ^ (t - d * (a + 1)) = h % 2 ^ (t - d * (a + 1)) := by
      rw [show t - d = (t - d * (a + 1)) + d * a by omega, Nat.pow_add, Nat.mod_mul_right_mod]
    have e2 : dig (2 ^ d) (a + 1) (h / 2 ^ (t - d * (a + 1))) = [h / 2 ^ (t - d)] ++ dig (2 ^ d) a (h % 2 ^ (t - d) / 2 ^ (t - d * (a + 1))) := by
      rw [Nat.add_comm a 1, dig_add, Nat.add_comm 1 a]
      congr 1
      · show [h / 2 ^ (t - d * (a + 1)) / (2 ^ d) ^ a % 2 ^ d] = _
        rw [powp, Nat.div_div_eq_div_mul, ← Nat.pow_add, show t - d * (a + 1) + d * a = t - d by omega, Nat.mod_eq_of_lt]
        rw [Nat.div_lt_iff_lt_mul hp0, ← Nat.pow_add, show d + (t - d) = t by omega]
        exact hh
      · have : h % 2 ^ (t - d) / 2 ^ (t - d * (a + 1)) = h / 2 ^ (t - d * (a + 1)) % (2 ^ d) ^ a := by
          rw [powp, show t - d = (t - d * (a + 1)) + d * a by omega, Nat.pow_add, Nat.mod_mul_right_div_self]
        rw [this, dig_mod]
    rw [e1, e2, toI_app, List.append_assoc]
    rfl
/-- The number that bytes are. -/
def byt (s : List UInt8) (k : Nat) : Nat := num 256 ((s.take k).map UInt8.toNat)
theorem byt_succ {s : List UInt8} {k : Nat} (hk : k < s.length) : byt s (k + 1) = byt s k * 2 ^ 8 + s[k].toNat := by
  unfold byt
  rw [List.take_succ_eq_append_getElem hk, List.map_append, List.map_cons, List.map_nil, num_snoc]
def cN (d n k : Nat) : Nat := min (8 * k / d) n
def ust (d n : Nat) (s : List UInt8) (k : Nat) : PSt := (toI (dig (2 ^ d) (cN d n k) (byt s k / 2 ^ (8 * k - d * cN d n k))), ((byt s k % 2 ^ (8 * k - d * cN d n k) : Nat) : Int), ((8 * k - d * cN d n k : Nat) : Int), (k : Int))
theorem unpack_l1 (N : Nat) (hN : 100000 ≤ N) {d n : Nat} (hd : 1 ≤ d ∧ d ≤ 16) (hn : n ≤ 4096) (s : List UInt8) (hl : s.length = (n * d + 7) / 8) (kk) : ∀ (j k fuel : Nat), k + j = s.length → j < fuel →
    D_bits_Unpack_l1 N s (d : Int) (n : Int) kk fuel (ust d n s k) = kk (ust d n s s.length) := by
  have hnd : n * d ≤ 4096 * 16 := Nat.mul_le_mul hn hd.2
  intro j
  induction j with
  | zero =>
    intro k fuel hk hf
    obtain ⟨fuel, rfl⟩ : ∃ m, fuel = m + 1 := ⟨fuel - 1, by omega⟩
    obtain rfl : k = s.length := by omega
    unfold ust D_bits_Unpack_l1
    rw [cF (dF (by omega))]
  | succ j ih =>
    intro k fuel hk hf
    obtain ⟨fuel, rfl⟩ : ∃ m, fuel = m + 1 := ⟨fuel - 1, by omega⟩
    have hlt : k < s.length := by omega
    have hih := ih (k + 1) fuel (by omega) (by omega)
    have hbs := byt_succ hlt
    have hb : s[k].toNat < 2 ^ 8 := s[k].toNat_lt
    -- before the last byte no sample is lacking
    have hc : cN d n k = 8 * k / d := by
      unfold cN
      have : 8 * k / d < n := (Nat.div_lt_iff_lt_mul (by omega)).2 (by omega)
      omega
    have hL : 8 * k - d * cN d n k = 8 * k % d := by
      have := Nat.div_add_mod (8 * k) d
      rw [hc]; omega
    have hLd : 8 * k % d < d := Nat.mod_lt _ (by omega)
    have hcn : cN d n k ≤ n := Nat.min_le_right _ _
    have ha : cN d n (k + 1) = cN d n k + min ((8 * k % d + 8) / d) (n - cN d n k) := by
      have h1 : (8 * k + 8) / d = 8 * k / d + (8 * k % d + 8) / d := by
        have := Nat.div_add_mod (8 * k) d
        have e : 8 * k + 8 = d * (8 * k / d) + (8 * k % d + 8) := by omega
        rw [e, Nat.mul_add_div (by omega)]
      have h2 : cN d n (k + 1) = min ((8 * k + 8) / d) n := by unfold cN; rw [show 8 * (k + 1) = 8 * k + 8 by omega]
      rw [h2, h1, ← hc]
      omega
    have hL2 : 8 * (k + 1) - d * cN d n (k + 1) = 8 * k % d + 8 - d * min ((8 * k % d + 8) / d) (n - cN d n k) := by
      rw [ha, Nat.mul_add d]
      have h3 := Nat.div_mul_le_self (8 * k) d
      rw [← hc, Nat.mul_comm] at h3
      omega
    have hale : d * min ((8 * k % d + 8) / d) (n - cN d n k) ≤ 8 * k % d + 8 := by
      have h4 := Nat.div_mul_le_self (8 * k % d + 8) d
      have h5 := Nat.mul_le_mul_left d (Nat.min_le_left ((8 * k % d + 8) / d) (n - cN d n k))
      rw [Nat.mul_comm d ((8 * k % d + 8) / d)] at h5
      omega
    unfold ust at hih ⊢
    rw [hL]
    rw [hL2, ha, hbs] at hih
    have hol := toI_len (dig (2 ^ d) (cN d n k) (byt s k / 2 ^ (8 * k % d)))
    rw [dig_len] at hol
    have hamin : min ((8 * k % d + 8) / d) (n - cN d n k) = min ((8 * k % d + 8) / d) (n - (toI (dig (2 ^ d) (cN d n k) (byt s k / 2 ^ (8 * k % d)))).length) := by rw [hol]
    generalize min ((8 * k % d + 8) / d) (n - cN d n k) = a at *
    generalize byt s k = X at *
    generalize hbb : s[k].toNat = b at *
    have hlow := step_low (X := X) (L := 8 * k % d) hb
    have hL16 : 8 * k % d ≤ 15 := by omega
    generalize 8 * k % d = L at *
    generalize cN d n k = c at *
    have hhlt : X % 2 ^ L * 2 ^ 8 + b < 2 ^ (L + 8) := by rw [hlow]; exact Nat.mod_lt _ (Nat.two_pow_pos _)
    have hp24 : 2 ^ (L + 8) ≤ 8388608 := Nat.pow_le_pow_right (show 0 < 2 by decide) (show L + 8 ≤ 23 by omega)
    have hb8 : X % 2 ^ L * 2 ^ 8 < 8388608 := by
      have := Nat.lt_of_lt_of_le hhlt hp24
      exact Nat.lt_of_le_of_lt (Nat.le_add_right _ b) this
    have hb9 : X % 2 ^ L * 2 ^ 8 + b < 8388608 := Nat.lt_of_lt_of_le hhlt hp24
    have ex : orI .i64 (shlI .i64 ((X % 2 ^ L : Nat) : Int) 8) (IntKind.i64.wrap (b : Int)) = ((X % 2 ^ L * 2 ^ 8 + b : Nat) : Int) := by
      have q1 := shl_nat (h := X % 2 ^ L) (k := 8) (by decide) (Nat.lt_trans hb8 (by decide))
      have q2 := or_add (h := X % 2 ^ L) (d := 8) (e := b) hb (Nat.lt_trans hb9 (by decide))
      rw [w64 (x := (b : Int)) (by omega), ← q2, ← q1]
      rfl
    have ew : IntKind.i64.wrap ((L : Int) + 8) = ((L + 8 : Nat) : Int) := by rw [w64 (by omega)]; omega
    have hq : L + 8 = d * a + (L + 8 - d * a) := by omega
    have s1 := step_digw (X := X) c hb hq
    have s2 := step_modw (X := X) hb hq
    unfold D_bits_Unpack_l1
    rw [cT (dT (by omega)), idx_nat, List.getElem?_eq_getElem hlt, bsome, hbb, ex, bsome, ew, bsome]
    refine (unpack_l2 N hd hn _ a (L + 8) (X % 2 ^ L * 2 ^ 8 + b) N (toI (dig (2 ^ d) c (X / 2 ^ L))) hamin (by rw [hol]; exact hcn) (by omega) hhlt (by omega)).trans ?_
    dsimp only
    rw [← toI_app, s1, s2, w64 (x := (k : Int) + 1) (by omega)]
    exact hih
def unpackErr (s : List UInt8) (o p : Int) : Int := if ¬ (1 ≤ o ∧ o ≤ 16) then 3 else if p < 0 then 3 else if 4096 < p then 2 else if s.length ≠ (p.toNat * o.toNat + 7) / 8 then 1 else if byt s s.length % 2 ^ (8 * s.length - o.toNat * p.toNat) ≠ 0 then 1 else 0
def unpackN (s : List UInt8) (d n : Nat) : List Nat := dig (2 ^ d) n (byt s s.length / 2 ^ (8 * s.length - d * n))
theorem unpack_eq (N : Nat) (hN : 100000 ≤ N) (s : List UInt8) (hs : s.length ≤ 9223372036854775807) (o p : Int) : D_bits_Unpack N s o p = some (if unpackErr s o p = 0 then (toI (unpackN s o.toNat p.toNat), 0) else ([], unpackErr s o p)) := by
  unfold D_bits_Unpack
  rw [depths_eq, bsome]
  by_cases h1 : 1 ≤ o ∧ o ≤ 16
  rotate_left
  · have hpe : unpackErr s o p = 3 := by unfold unpackErr; rw [if_pos h1]
    rw [cT (by rw [dF h1]; rfl), hpe]; rfl
  have h1' : ¬ ¬ (1 ≤ o ∧ o ≤ 16) := fun h => h h1
  rw [cF (by rw [dT h1]; rfl)]
  by_cases h2 : p < 0
  · have hpe : unpackErr s o p = 3 := by unfold unpackErr; rw [if_neg h1', if_pos h2]
    rw [cT (dT h2), hpe]; rfl
  rw [cF (dF h2)]
  by_cases h3 : 4096 < p
  · have hpe : unpackErr s o p = 2 := by unfold unpackErr; rw [if_neg h1', if_neg h2, if_pos h3]
    rw [cT (dT h3), hpe]; rfl
  rw [cF (dF h3)]
  obtain ⟨d, rfl⟩ := Int.eq_ofNat_of_zero_le (show 0 ≤ o by omega)
  obtain ⟨n, rfl⟩ := Int.eq_ofNat_of_zero_le (show 0 ≤ p by omega)
  have hb : n * d ≤ 4096 * 16 := Nat.mul_le_mul (by omega) (by omega)
  have e1 : IntKind.i64.wrap (Int.tdiv (IntKind.i64.wrap (IntKind.i64.wrap ((n : Int) * (d : Int)) + 7)) 8) = (((n * d + 7) / 8 : Nat) : Int) := by
    rw [← Int.natCast_mul, w64 (x := ((n * d : Nat) : Int)) (by omega), w64 (x := ((n * d : Nat) : Int) + 7) (by omega), show ((n * d : Nat) : Int) + 7 = ((n * d + 7 : Nat) : Int) by omega,
      show Int.tdiv ((n * d + 7 : Nat) : Int) 8 = (((n * d + 7) / 8 : Nat) : Int) from rfl, w64 (by omega)]
  rw [e1]
  by_cases h4 : s.length = (n * d + 7) / 8
  rotate_left
  · have hpe : unpackErr s d n = 1 := by unfold unpackErr; rw [if_neg h1', if_neg h2, if_neg h3, Int.toNat_natCast, Int.toNat_natCast, if_pos h4]
    rw [cT (by rw [dF (by omega)]; rfl), hpe]; rfl
  rw [cF (by rw [dT (by omega)]; rfl)]
  have h0 : ust d n s 0 = (([] : List Int), (0 : Int), (0 : Int), (0 : Int)) := by
    unfold ust cN
    simp [byt, num, dig, toI, Nat.mod_one]
  have key := unpack_l1 N hN (d := d) (n := n) (by omega) (by omega) s h4 (fun x : PSt => cond (!decide (x.2.1 = 0)) (some (([] : List Int), 1)) (some (x.1, 0))) s.length 0 N (by omega) (by omega)
  rw [h0] at key
  refine Eq.trans key ?_
  have hc : cN d n s.length = n := by
    unfold cN
    have : n ≤ 8 * s.length / d := (Nat.le_div_iff_mul_le (by omega)).2 (by rw [h4]; omega)
    omega
  unfold ust
  rw [hc]
  dsimp only
  by_cases h5 : byt s s.length % 2 ^ (8 * s.length - d * n) = 0
  · have hpe : unpackErr s d n = 0 := by
      unfold unpackErr
      rw [if_neg h1', if_neg h2, if_neg h3, Int.toNat_natCast, Int.toNat_natCast, if_neg (by omega), if_neg (by omega)]
    rw [cF (by rw [dT (by omega)]; rfl), hpe, if_pos rfl, Int.toNat_natCast, Int.toNat_natCast]
    rfl
  · have hpe : unpackErr s d n = 1 := by
      unfold unpackErr
      rw [if_neg h1', if_neg h2, if_neg h3, Int.toNat_natCast, Int.toNat_natCast, if_neg (by omega), if_pos h5]
    rw [cT (by rw [dF (by omega)]; rfl), hpe]; rfl
end Go.Proofs.YtpmnfhifmmfglabDoor

namespace Go.Proofs.YtpmnfhifmmfglabDoor
open Go
theorem bitsBegun_eq : D_darkslidelaw_bitsBegun 100000 = some true := by kernel_rfl
theorem sameI_l1 (N : Nat) (l : List Int) (kk) (hl : l.length ≤ 4611686018427387904) : ∀ (j k fuel : Nat), k + j = l.length → j < fuel → D_darkslideref_SameInts_l1 N l l kk fuel (k : Int) = kk (l.length : Int) := by
  intro j
  induction j with
  | zero =>
    intro k fuel hk hf
    obtain ⟨fuel, rfl⟩ : ∃ m, fuel = m + 1 := ⟨fuel - 1, by omega⟩
    obtain rfl : k = l.length := by omega
    unfold D_darkslideref_SameInts_l1
    rw [cF (dF (by omega))]
  | succ j ih =>
    intro k fuel hk hf
    obtain ⟨fuel, rfl⟩ : ∃ m, fuel = m + 1 := ⟨fuel - 1, by omega⟩
    have hlt : k < l.length := by omega
    unfold D_darkslideref_SameInts_l1
    rw [cT (dT (by omega)), idx_nat, List.getElem?_eq_getElem hlt, bsome, bsome, cF (by simp), bsome, w64 (by omega)]
    exact ih (k + 1) fuel (by omega) (by omega)
theorem sameI_eq (N : Nat) (l : List Int) (hl : l.length < N) (hN : N ≤ 1000000) : D_darkslideref_SameInts N l l = some true := by
  unfold D_darkslideref_SameInts
  rw [cF (by simp)]
  exact sameI_l1 N l _ (by omega) l.length 0 N (by omega) hl
theorem ofNat_toNat {l : List Nat} (h : ∀ y ∈ l, y < 256) : (l.map UInt8.ofNat).map UInt8.toNat = l := by
  rw [List.map_map]
  conv => rhs; rw [← List.map_id l]
  refine List.map_congr_left fun y hy => ?_
  have := h y hy
  simp [UInt8.toNat_ofNat', Nat.mod_eq_of_lt this]
theorem toNat_ofNat (s : List UInt8) : (s.map UInt8.toNat).map UInt8.ofNat = s := by
  rw [List.map_map]
  conv => rhs; rw [← List.map_id s]
  refine List.map_congr_left fun y _ => ?_
  simp
theorem toI_toNat (l : List Nat) : (toI l).map Int.toNat = l := by
  unfold toI
  rw [List.map_map]
  conv => rhs; rw [← List.map_id l]
  exact List.map_congr_left fun y _ => rfl
theorem toNat_toI {l : List Int} (h : ∀ y ∈ l, 0 ≤ y) : toI (l.map Int.toNat) = l := by
  unfold toI
  rw [List.map_map]
  conv => rhs; rw [← List.map_id l]
  refine List.map_congr_left fun y hy => ?_
  have := h y hy
  show ((y.toNat : Nat) : Int) = y
  omega
section
variable {d n : Nat} (hd : 1 ≤ d ∧ d ≤ 16)
include hd
theorem smp_lt {l : List Int} (h : l.all (inD d) = true) : smp d l l.length < 2 ^ (d * l.length) := by
  unfold smp
  rw [List.take_length, ← powp]
  have := num_lt (B := 2 ^ d) (l.map Int.toNat) fun y hy => by
    obtain ⟨e, he, rfl⟩ := List.mem_map.1 hy
    have := of_decide_eq_true (List.all_eq_true.1 h e he)
    omega
  rwa [List.length_map] at this
/-- The bytes of packed samples are their number, moved up. -/
theorem byt_pack {l : List Int} (h : l.all (inD d) = true) : ((packN d l).map UInt8.ofNat).length = (l.length * d + 7) / 8 ∧ byt ((packN d l).map UInt8.ofNat) ((l.length * d + 7) / 8) = smp d l l.length * 2 ^ (8 * ((l.length * d + 7) / 8) - d * l.length) := by
  have hlen : ((packN d l).map UInt8.ofNat).length = (l.length * d + 7) / 8 := by rw [List.length_map]; exact dig_len _ _ _
  refine ⟨hlen, ?_⟩
  unfold byt
  have ht : ((packN d l).map UInt8.ofNat).take ((l.length * d + 7) / 8) = (packN d l).map UInt8.ofNat := List.take_of_length_le (by omega)
  have h256 : ∀ y ∈ packN d l, y < 256 := fun y hy => dig_lt (by decide) _ _ y hy
  rw [ht, ofNat_toNat h256]
  unfold packN
  rw [num_dig, Nat.mul_comm l.length d, Nat.mul_comm ((d * l.length + 7) / 8) 8, Nat.mod_eq_of_lt]
  have h1 := smp_lt hd h
  rw [pow256]
  have h2 : smp d l l.length * 2 ^ (8 * ((d * l.length + 7) / 8) - d * l.length) < 2 ^ (d * l.length) * 2 ^ (8 * ((d * l.length + 7) / 8) - d * l.length) := Nat.mul_lt_mul_of_pos_right h1 (Nat.two_pow_pos _)
  rw [← Nat.pow_add, show d * l.length + (8 * ((d * l.length + 7) / 8) - d * l.length) = 8 * ((d * l.length + 7) / 8) by omega] at h2
  exact h2
theorem unpack_pack {l : List Int} (h : l.all (inD d) = true) (hl : l.length ≤ 4096) : unpackErr ((packN d l).map UInt8.ofNat) d l.length = 0 ∧ toI (unpackN ((packN d l).map UInt8.ofNat) d l.length) = l := by
  obtain ⟨h1, h2⟩ := byt_pack hd h
  constructor
  · unfold unpackErr
    rw [if_neg (fun q => q (by omega)), if_neg (by omega), if_neg (by omega), Int.toNat_natCast, Int.toNat_natCast, h1, if_neg (fun q => q rfl), h2, if_neg (fun q => q (Nat.mul_mod_left _ _))]
  · unfold unpackN
    rw [h1, h2, Nat.mul_div_cancel _ (Nat.two_pow_pos _)]
    unfold smp
    rw [List.take_length]
    have := dig_num (B := 2 ^ d) (l.map Int.toNat) fun y hy => by
      obtain ⟨e, he, rfl⟩ := List.mem_map.1 hy
      have := of_decide_eq_true (List.all_eq_true.1 h e he)
      omega
    rw [List.length_map] at this
    rw [this]
    exact toNat_toI fun y hy => (of_decide_eq_true (List.all_eq_true.1 h y hy) : 0 ≤ y ∧ _).1
theorem byt_lt (s : List UInt8) : byt s s.length < 2 ^ (8 * s.length) := by
  unfold byt
  rw [List.take_length, ← pow256]
  have := num_lt (B := 256) (s.map UInt8.toNat) fun y hy => by
    obtain ⟨e, _, rfl⟩ := List.mem_map.1 hy
    exact e.toNat_lt
  rwa [List.length_map] at this
theorem pack_unpack {s : List UInt8} (hl : s.length = (n * d + 7) / 8) (hn : n ≤ 4096) (hz : byt s s.length % 2 ^ (8 * s.length - d * n) = 0) :
    packErr (toI (unpackN s d n)) d = 0 ∧ (packN d (toI (unpackN s d n))).map UInt8.ofNat = s ∧ (toI (unpackN s d n)).length = n := by
  have hlen : (toI (unpackN s d n)).length = n := by rw [toI_len]; exact dig_len _ _ _
  have hdn : d * n ≤ 8 * s.length := by rw [hl, Nat.mul_comm d]; omega
  refine ⟨?_, ?_, hlen⟩
  · unfold packErr
    rw [if_neg (fun q => q (by omega)), if_neg (by omega), Int.toNat_natCast, if_pos]
    refine List.all_eq_true.2 fun y hy => ?_
    obtain ⟨e, he, rfl⟩ := List.mem_map.1 hy
    have := dig_lt (Nat.two_pow_pos d) _ _ e he
    exact decide_eq_true (by omega)
  · unfold packN
    have hS : smp d (toI (unpackN s d n)) n = byt s s.length / 2 ^ (8 * s.length - d * n) := by
      unfold smp
      rw [List.take_of_length_le (by omega), toI_toNat]
      unfold unpackN
      rw [num_dig, powp, Nat.mod_eq_of_lt]
      have := byt_lt hd s
      rw [show 8 * s.length = d * n + (8 * s.length - d * n) by omega, Nat.pow_add] at this
      exact (Nat.div_lt_iff_lt_mul (Nat.two_pow_pos _)).2 (by rw [show 8 * s.length = d * n + (8 * s.length - d * n) by omega]; simpa using this)
    rw [hlen, hS, ← hl, Nat.mul_comm n d, Nat.mul_comm s.length 8, Nat.div_mul_cancel (Nat.dvd_of_mod_eq_zero hz)]
    unfold byt
    rw [List.take_length]
    have := dig_num (B := 256) (s.map UInt8.toNat) fun y hy => by
      obtain ⟨e, _, rfl⟩ := List.mem_map.1 hy
      exact e.toNat_lt
    rw [List.length_map] at this
    rw [this, toNat_ofNat]
end
end Go.Proofs.YtpmnfhifmmfglabDoor

namespace Go.Proofs.YtpmnfhifmmfglabDoor
open Go
theorem packErr_none {l : List Int} {o : Int} (h : packErr l o = 0) : ∃ d : Nat, o = d ∧ (1 ≤ d ∧ d ≤ 16) ∧ l.length ≤ 4096 ∧ l.all (inD d) = true := by
  unfold packErr at h
  by_cases h1 : 1 ≤ o ∧ o ≤ 16
  rotate_left
  · rw [if_pos h1] at h; cases h
  rw [if_neg (fun q => q h1)] at h
  by_cases h2 : 4096 < l.length
  · rw [if_pos h2] at h; cases h
  rw [if_neg h2] at h
  obtain ⟨d, rfl⟩ := Int.eq_ofNat_of_zero_le (show 0 ≤ o by omega)
  rw [Int.toNat_natCast] at h
  refine ⟨d, rfl, by omega, by omega, ?_⟩
  cases hq : l.all (inD d)
  · rw [hq] at h; cases h
  · rfl
theorem unpackErr_none {s : List UInt8} {o p : Int} (h : unpackErr s o p = 0) : ∃ d n : Nat, o = d ∧ p = n ∧ (1 ≤ d ∧ d ≤ 16) ∧ n ≤ 4096 ∧ s.length = (n * d + 7) / 8 ∧ byt s s.length % 2 ^ (8 * s.length - d * n) = 0 := by
  unfold unpackErr at h
  by_cases h1 : 1 ≤ o ∧ o ≤ 16
  rotate_left
  · rw [if_pos h1] at h; cases h
  rw [if_neg (fun q => q h1)] at h
  by_cases h2 : p < 0
  · rw [if_pos h2] at h; cases h
  rw [if_neg h2] at h
  by_cases h3 : 4096 < p
  · rw [if_pos h3] at h; cases h
  rw [if_neg h3] at h
  obtain ⟨d, rfl⟩ := Int.eq_ofNat_of_zero_le (show 0 ≤ o by omega)
  obtain ⟨n, rfl⟩ := Int.eq_ofNat_of_zero_le (show 0 ≤ p by omega)
  rw [Int.toNat_natCast, Int.toNat_natCast] at h
  by_cases h4 : s.length = (n * d + 7) / 8
  rotate_left
  · rw [if_pos h4] at h; cases h
  rw [if_neg (fun q => q h4)] at h
  by_cases h5 : byt s s.length % 2 ^ (8 * s.length - d * n) = 0
  rotate_left
  · rw [if_pos h5] at h; cases h
  exact ⟨d, n, rfl, rfl, by omega, by omega, h4, h5⟩
theorem back_tail (s : List UInt8) (o p : Int) (hs : s.length ≤ 9223372036854775807) : (Option.bind (D_bits_Unpack 100000 s o p) fun r9 =>
  cond (!decide (r9.2 = 0)) (
  Option.bind (D_darkslidelaw_bitsBegun 100000 ) fun r10 =>
  some r10) (
  Option.bind (D_bits_Pack 100000 r9.1 o) fun r11 =>
  Option.bind (D_darkslidelaw_bitsBegun 100000 ) fun r12 =>
  cond (r12) (
  cond (decide (r11.2 = 0)) (
  cond (decide (r11.1 = s)) (
  some (decide ((r9.1.length : Int) = p))) (
  some false)) (
  some false)) (
  some false))) = some true := by
  rw [unpack_eq 100000 (by omega) s hs, bsome, bitsBegun_eq]
  by_cases h : unpackErr s o p = 0
  rotate_left
  · rw [if_neg h, cT (by rw [dF h]; rfl)]; rfl
  obtain ⟨d, n, rfl, rfl, h1, h2, h3, h4⟩ := unpackErr_none h
  obtain ⟨q1, q2, q3⟩ := pack_unpack h1 h3 h2 h4
  rw [if_pos h, cF (by rfl), Int.toNat_natCast, Int.toNat_natCast, pack_eq 100000 (by omega), if_pos q1, bsome, bsome, cT (by rfl), cT (by rfl), Int.toNat_natCast]
  dsimp only
  rw [cT (dT q2), dT (by rw [q3])]
theorem bitsBack_true (l : List Int) (o : Int) (s : List UInt8) (p : Int) (hs : s.length ≤ 9223372036854775807) : D_darkslidelaw_BitsBack 100000 l o s p = some true := by
  unfold D_darkslidelaw_BitsBack
  have ht := back_tail s o p hs
  rw [pack_eq 100000 (by omega), bsome]
  by_cases h : packErr l o = 0
  · obtain ⟨d, rfl, h1, h2, h3⟩ := packErr_none h
    obtain ⟨q1, q2⟩ := unpack_pack h1 h3 h2
    obtain ⟨b1, _⟩ := byt_pack h1 h3
    have hb : l.length * d ≤ 4096 * 16 := Nat.mul_le_mul h2 h1.2
    rw [if_pos h, cT (by rfl), Int.toNat_natCast]
    dsimp only
    rw [unpack_eq 100000 (by omega) _ (by rw [b1]; omega), if_pos q1, bsome, cF (by rfl), Int.toNat_natCast, Int.toNat_natCast, q2]
    dsimp only
    rw [sameI_eq 100000 l (by omega) (by omega), bsome, cF (by rfl)]
    exact ht
  · rw [if_neg h, cF (dF h)]
    exact ht
end Go.Proofs.YtpmnfhifmmfglabDoor

namespace Go.Proofs.YtpmnfhifmmfglabDoor
open Go.RowKit
abbrev I (n : Int) : Value := .int .i64 n
/-- A reading operation's answer, or nothing where its guard bars it. -/
inductive Stp (P : Program) (ops : Array Oper) (S : World → Prop) (D : List Deferred) (N : Nat) (l : List (Nat × Value)) (o : Oper) (v : Value) : Prop where
  | yes (hw : ∀ a, Kd D a N l → Region.wanted o (yielded ops a.tmps) = true) (hr : ∀ a, Kd D a N l → Rd P S a o v)
  | no (hw : ∀ a, Kd D a N l → Region.wanted o (yielded ops a.tmps) = false) (hv : undef = v)
section
variable {P : Program} {base : Nat} {W w : World} {L : List Ent} {S : World → Prop} {D : List Deferred} {a : Act} {N : Nat} {l : List (Nat × Value)} {o : Oper} {v : Value} {post : Value → World → Prop}
  {ops : Array Oper} {Q : Exit → Act → World → Prop} {R : Act → World → Prop} {rest : List Oper} {d : Nat} {f : List Nat}
theorem X_o (K : Kd D a N l) (M : Mem base W w L) (k : ∀ a', Kd D a' N ((d, v) :: l) → wpList P ops Q rest a' w) (hd : o.dst = some d := by exact rfl) (hN : Nat.blt d N = true := by exact rfl)
    (hs : Stp P ops (fun w => Mem base W w L) D N l o v := by
      first
      | exact .no (fun a K => K.no rfl rfl rfl rfl) rfl
      | exact .no (fun a K => K.nou rfl rfl rfl) rfl
      | exact .yes (by first | exact fun a K => want_no rfl | exact fun a K => K.yes rfl rfl rfl) (by
         first
         | exact fun a K => rd_move rfl K rfl
         | exact fun a K => rd_assign rfl K rfl
         | exact fun a K => rd_pickT rfl K rfl rfl
         | exact fun a K => rd_pickF rfl K rfl rfl
         | exact fun a K => rd_nil rfl K rfl
         | exact fun a K => rd_extract rfl K rfl rfl
         | exact fun a K => rd_not rfl K rfl
         | exact fun a K => rd_add rfl K rfl rfl
         | exact fun a K => rd_lss rfl K rfl rfl
         | exact fun a K => rd_sub rfl K rfl rfl
         | exact fun a K => rd_mul rfl K rfl rfl
         | exact fun a K => rd_eql rfl K rfl rfl
         | exact fun a K => rd_neq rfl K rfl rfl
         | exact fun a K => rd_gtr rfl K rfl rfl
         | exact fun a K => rd_leq rfl K rfl rfl
         | exact fun a K => rd_geq rfl K rfl rfl
         | exact fun a K => rd_min rfl K rfl rfl
         | exact fun a K => rd_max rfl K rfl rfl
         | exact fun a K => rd_and rfl K rfl rfl)) : wpList P ops Q (o :: rest) a w := by
  cases hs with
  | yes hw hr => exact X_rd K (hw a K) hd hN (hr a K) M k
  | no hw hv => subst hv; exact X_no K (hw a K) hd hN k
theorem Y_o (M : Mem base W w L) (k : ∀ a', Kd D a' N ((d, v) :: l) → wpList P ops Q rest a' w) (hd : o.dst = some d := by exact rfl) (hN : Nat.blt d N = true := by exact rfl)
    (hs : Stp P ops (fun w => Mem base W w L) D N l o v := by
      first
      | exact .no (fun a K => K.no rfl rfl rfl rfl) rfl
      | exact .no (fun a K => K.nou rfl rfl rfl) rfl
      | exact .yes (by first | exact fun a K => want_no rfl | exact fun a K => K.yes rfl rfl rfl) (by
         first
         | exact fun a K => rd_move rfl K rfl
         | exact fun a K => rd_assign rfl K rfl
         | exact fun a K => rd_pickT rfl K rfl rfl
         | exact fun a K => rd_pickF rfl K rfl rfl
         | exact fun a K => rd_nil rfl K rfl
         | exact fun a K => rd_extract rfl K rfl rfl
         | exact fun a K => rd_not rfl K rfl
         | exact fun a K => rd_add rfl K rfl rfl
         | exact fun a K => rd_lss rfl K rfl rfl
         | exact fun a K => rd_sub rfl K rfl rfl
         | exact fun a K => rd_mul rfl K rfl rfl
         | exact fun a K => rd_eql rfl K rfl rfl
         | exact fun a K => rd_neq rfl K rfl rfl
         | exact fun a K => rd_gtr rfl K rfl rfl
         | exact fun a K => rd_leq rfl K rfl rfl
         | exact fun a K => rd_geq rfl K rfl rfl
         | exact fun a K => rd_min rfl K rfl rfl
         | exact fun a K => rd_max rfl K rfl rfl
         | exact fun a K => rd_and rfl K rfl rfl)) : ∀ a, Kd D a N l → wpList P ops Q (o :: rest) a w := fun a K => X_o K M k hd hN hs
theorem Y_r (hr : ∀ a, Kd D a N l → Rd P (fun w => Mem base W w L) a o v) (M : Mem base W w L) (k : ∀ a', Kd D a' N ((d, v) :: l) → wpList P ops Q rest a' w)
    (hw : ∀ a, Kd D a N l → Region.wanted o (yielded ops a.tmps) = true := by first | exact fun a K => want_no rfl | exact fun a K => K.yes rfl rfl rfl) (hd : o.dst = some d := by exact rfl) (hN : Nat.blt d N = true := by exact rfl) :
    ∀ a, Kd D a N l → wpList P ops Q (o :: rest) a w := fun a K => X_rd K (hw a K) hd hN (hr a K) M k
theorem X_r (K : Kd D a N l) (hr : Rd P (fun w => Mem base W w L) a o v) (M : Mem base W w L) (k : ∀ a', Kd D a' N ((d, v) :: l) → wpList P ops Q rest a' w)
    (hw : ∀ a, Kd D a N l → Region.wanted o (yielded ops a.tmps) = true := by first | exact fun a K => want_no rfl | exact fun a K => K.yes rfl rfl rfl) (hd : o.dst = some d := by exact rfl) (hN : Nat.blt d N = true := by exact rfl) :
    wpList P ops Q (o :: rest) a w := X_rd K (hw a K) hd hN hr M k
theorem X_a (K : Kd D a N l) (h : Ac P o a w post) (k : ∀ v a' w', post v w' → Kd D a' N ((d, v) :: l) → wpList P ops Q rest a' w')
    (hw : ∀ a, Kd D a N l → Region.wanted o (yielded ops a.tmps) = true := by first | exact fun a K => want_no rfl | exact fun a K => K.yes rfl rfl rfl) (hd : o.dst = some d := by exact rfl) (hN : Nat.blt d N = true := by exact rfl) :
    wpList P ops Q (o :: rest) a w := X_ac K (hw a K) hd hN h k
theorem X_b (K : Kd D a N l) (h : Ac P o a w post) (k : ∀ v a' w', post v w' → Kd D a' N l → wpList P ops Q rest a' w')
    (hw : ∀ a, Kd D a N l → Region.wanted o (yielded ops a.tmps) = true := by first | exact fun a K => want_no rfl | exact fun a K => K.yes rfl rfl rfl) (hd : o.dst = none := by exact rfl) :
    wpList P ops Q (o :: rest) a w := X_a0 K (hw a K) hd h k
theorem T_o (K : Kd D a N l) (k : ∀ a', Kd D a' N ((d, v) :: l) → wpTl P ops S R (marked f rest) a' w) (hd : o.dst = some d := by exact rfl) (hN : Nat.blt d N = true := by exact rfl)
    (hs : Stp P ops S D N l o v := by
      first
      | exact .no (fun a K => K.no rfl rfl rfl rfl) rfl
      | exact .no (fun a K => K.nou rfl rfl rfl) rfl
      | exact .yes (by first | exact fun a K => want_no rfl | exact fun a K => K.yes rfl rfl rfl) (by
         first
         | exact fun a K => rd_move rfl K rfl
         | exact fun a K => rd_assign rfl K rfl
         | exact fun a K => rd_pickT rfl K rfl rfl
         | exact fun a K => rd_pickF rfl K rfl rfl
         | exact fun a K => rd_nil rfl K rfl
         | exact fun a K => rd_extract rfl K rfl rfl
         | exact fun a K => rd_not rfl K rfl
         | exact fun a K => rd_add rfl K rfl rfl
         | exact fun a K => rd_lss rfl K rfl rfl
         | exact fun a K => rd_sub rfl K rfl rfl
         | exact fun a K => rd_mul rfl K rfl rfl
         | exact fun a K => rd_eql rfl K rfl rfl
         | exact fun a K => rd_neq rfl K rfl rfl
         | exact fun a K => rd_gtr rfl K rfl rfl
         | exact fun a K => rd_leq rfl K rfl rfl
         | exact fun a K => rd_geq rfl K rfl rfl
         | exact fun a K => rd_min rfl K rfl rfl
         | exact fun a K => rd_max rfl K rfl rfl
         | exact fun a K => rd_and rfl K rfl rfl)) : wpTl P ops S R (marked (0 :: f) (o :: rest)) a w := by
  cases hs with
  | yes hw hr => exact T_rd K (hw a K) hd hN (hr a K) k
  | no hw hv => subst hv; exact T_no K (hw a K) hd hN k
theorem U_o (k : ∀ a', Kd D a' N ((d, v) :: l) → wpTl P ops S R (marked f rest) a' w) (hd : o.dst = some d := by exact rfl) (hN : Nat.blt d N = true := by exact rfl)
    (hs : Stp P ops S D N l o v := by
      first
      | exact .no (fun a K => K.no rfl rfl rfl rfl) rfl
      | exact .no (fun a K => K.nou rfl rfl rfl) rfl
      | exact .yes (by first | exact fun a K => want_no rfl | exact fun a K => K.yes rfl rfl rfl) (by
         first
         | exact fun a K => rd_move rfl K rfl
         | exact fun a K => rd_assign rfl K rfl
         | exact fun a K => rd_pickT rfl K rfl rfl
         | exact fun a K => rd_pickF rfl K rfl rfl
         | exact fun a K => rd_nil rfl K rfl
         | exact fun a K => rd_extract rfl K rfl rfl
         | exact fun a K => rd_not rfl K rfl
         | exact fun a K => rd_add rfl K rfl rfl
         | exact fun a K => rd_lss rfl K rfl rfl
         | exact fun a K => rd_sub rfl K rfl rfl
         | exact fun a K => rd_mul rfl K rfl rfl
         | exact fun a K => rd_eql rfl K rfl rfl
         | exact fun a K => rd_neq rfl K rfl rfl
         | exact fun a K => rd_gtr rfl K rfl rfl
         | exact fun a K => rd_leq rfl K rfl rfl
         | exact fun a K => rd_geq rfl K rfl rfl
         | exact fun a K => rd_min rfl K rfl rfl
         | exact fun a K => rd_max rfl K rfl rfl
         | exact fun a K => rd_and rfl K rfl rfl)) : ∀ a, Kd D a N l → wpTl P ops S R (marked (0 :: f) (o :: rest)) a w := fun a K => T_o K k hd hN hs
theorem U_r (hr : ∀ a, Kd D a N l → Rd P S a o v) (k : ∀ a', Kd D a' N ((d, v) :: l) → wpTl P ops S R (marked f rest) a' w)
    (hw : ∀ a, Kd D a N l → Region.wanted o (yielded ops a.tmps) = true := by first | exact fun a K => want_no rfl | exact fun a K => K.yes rfl rfl rfl) (hd : o.dst = some d := by exact rfl) (hN : Nat.blt d N = true := by exact rfl) :
    ∀ a, Kd D a N l → wpTl P ops S R (marked (0 :: f) (o :: rest)) a w := fun a K => T_rd K (hw a K) hd hN (hr a K) k
theorem T_r (K : Kd D a N l) (hr : Rd P S a o v) (k : ∀ a', Kd D a' N ((d, v) :: l) → wpTl P ops S R (marked f rest) a' w)
    (hw : ∀ a, Kd D a N l → Region.wanted o (yielded ops a.tmps) = true := by first | exact fun a K => want_no rfl | exact fun a K => K.yes rfl rfl rfl) (hd : o.dst = some d := by exact rfl) (hN : Nat.blt d N = true := by exact rfl) :
    wpTl P ops S R (marked (0 :: f) (o :: rest)) a w := T_rd K (hw a K) hd hN hr k
theorem T_b (K : Kd D a N l) (h : Ac P o a w post) (k : ∀ v a' w', post v w' → Kd D a' N l → wpTl P ops S R (marked f rest) a' w')
    (hw : ∀ a, Kd D a N l → Region.wanted o (yielded ops a.tmps) = true := by first | exact fun a K => want_no rfl | exact fun a K => K.yes rfl rfl rfl) (hd : o.dst = none := by exact rfl) :
    wpTl P ops S R (marked (2 :: f) (o :: rest)) a w := T_a0z K (hw a K) hd h k
end
end Go.Proofs.YtpmnfhifmmfglabDoor

namespace Go.Proofs.YtpmnfhifmmfglabDoor
open Go.RowKit
theorem bs_size (l : List UInt8) : (bs l).size = l.length := by simp [bs, ByteArray.size]
theorem bs_toList (l : List UInt8) : (bs l).toList = l := ByteArray.toList_mk l
section
variable {P : Program} {base : Nat} {W w : World} {L : List Ent} {S : World → Prop} {D : List Deferred} {a : Act} {N : Nat} {l : List (Nat × Value)} {o : Oper} {x y ix : Operand} {t t' e : TypeId} {m n p q : Int} {k k' : IntKind}
  {xs ys zs : List UInt8} {A : Option Addr} {c : Nat} {ns : List Int}
theorem rd_lenT (ho : o.op = .call { callee := .builtin .len, args := #[x], argTypes := #[t] }) (h : P.underlying t = some .string) (K : Kd D a N l) (hx : evo l x = some (.string (bs xs))) : Rd P S a o (.int .i64 xs.length) := by
  have := rd_lenS (P := P) (S := S) ho h K hx
  rw [bs_size] at this
  exact this
theorem rd_ixT (ho : o.op = .index t x ix) (ht : P.underlying t = some .string) (K : Kd D a N l) (hx : evo l x = some (.string (bs xs))) (hi : evo l ix = some (.int k n)) {b : UInt8} (he : idx xs n = some b) : Rd P S a o (.int .u8 (b.toNat : Int)) :=
  rd_ixS ho ht K hx hi he
theorem rd_eqlS (ho : o.op = .binOp .eql t x y t') (K : Kd D a N l) (hx : evo l x = some (.string (bs xs))) (hy : evo l y = some (.string (bs ys))) : Rd P S a o (.bool (decide (xs = ys))) :=
  rd_bin ho K hx hy fun w => by
    have e : (xs == ys) = decide (xs = ys) := by rw [Bool.eq_iff_iff]; simp
    rw [Sem.run_bind]; simp [eqGuard, binOp_string_eql, bs_toList, e]
theorem rd_convBS {b : Nat} (ho : o.op = .convert t t' x) (ht : slT P t e 1 b = true) (he : P.underlying e = some (.int .u8)) (hd : P.underlying t' = some .string) (K : Kd D a N l) (hx : evo l x = some (.slice A ns.length c)) (hb : ∀ w, S w → SL w (cI .u8) A ns) : Rd P S a o (.string (bs (toB ns))) := fun w hS => by
  obtain ⟨hu, _⟩ := slT_spec ht
  unfold execOp
  simp only [ho, K.ev hx]
  have key : (convert t t' (.slice A ns.length c)).run P w = .ok (.string (bs (toB ns))) w := by
    by_cases h0 : 0 < ns.length
    · obtain ⟨b, off, rfl, hc⟩ := hb w hS h0
      refine run_convert_bytes_arg w t e hu he b off ns.length c ns rfl (fun i hi => ?_) t' hd
      refine hc i _ ?_
      have := Cod.all_get (cI .u8) ns i 0 ns[i] (.int .u8 ns[i]) (List.getElem?_eq_getElem hi) rfl
      rw [List.getD_eq_getElem?_getD, List.getElem?_eq_getElem hi]
      have h1 : (cI .u8).size = 1 := rfl
      rw [h1, Nat.mul_one, Nat.add_zero] at this
      exact this
    · have hn : ns = [] := List.eq_nil_of_length_eq_zero (by omega)
      subst hn
      cases A with
      | none => exact run_convert_bytes_nil w t e hu he _ _ t' hd
      | some ad =>
        rw [run_convert_bytes_string w t t' e (some ad) _ c hu he hd]
        exact run_bytesToString w ad 0 c [] (run_loadCells_list (P := P) w ad [] (fun j v hj => by simp at hj))
  simp [key]
end
end Go.Proofs.YtpmnfhifmmfglabDoor

namespace Go.Proofs.YtpmnfhifmmfglabDoor
open Go.RowKit
theorem sc3 : scT Tryd.prog 3 = true := by kernel_rfl
theorem z3 : zeroT Tryd.prog 3 = some [.int .i64 0] := by kernel_rfl
theorem ik3 : Tryd.prog.underlying 3 = some (.int .i64) := by kernel_rfl
theorem z4 : zeroT Tryd.prog 4 = some [.bool false] := by kernel_rfl
theorem sc5 : scT Tryd.prog 5 = true := by kernel_rfl
theorem z5 : zeroT Tryd.prog 5 = some [.int .u8 0] := by kernel_rfl
theorem ik5 : Tryd.prog.underlying 5 = some (.int .u8) := by kernel_rfl
theorem sz5 : (Tryd.prog.info? 5).map (·.size) = some 1 := by kernel_rfl
theorem z9 : zeroT Tryd.prog 9 = some [.string (bs ([] : List UInt8))] := by kernel_rfl
theorem st9 : Tryd.prog.underlying 9 = some .string := by kernel_rfl
theorem z20 : zeroT Tryd.prog 20 = some [.nilIface] := by kernel_rfl
theorem z21 : zeroT Tryd.prog 21 = some [.int .i32 0] := by kernel_rfl
theorem sl35 : slT Tryd.prog 35 3 1 8 = true := by kernel_rfl
theorem un35 : ∃ e, Tryd.prog.underlying 35 = some (.slice e) := ⟨_, (slT_spec sl35).1⟩
theorem z37 : zeroT Tryd.prog 37 = some [.nilFunc] := by kernel_rfl
theorem z46 : zeroT Tryd.prog 46 = some [.nilFunc] := by kernel_rfl
theorem sl50 : slT Tryd.prog 50 5 1 1 = true := by kernel_rfl
theorem un50 : ∃ e, Tryd.prog.underlying 50 = some (.slice e) := ⟨_, (slT_spec sl50).1⟩
theorem z51 : zeroT Tryd.prog 51 = some [.int .u64 0] := by kernel_rfl
theorem z75 : zeroT Tryd.prog 75 = some [.nilFunc] := by kernel_rfl
theorem z105 : zeroT Tryd.prog 105 = some [] := by kernel_rfl
theorem fok7 : FnOK Tryd.prog 7 = true := by kernel_rfl
theorem fok11 : FnOK Tryd.prog 11 = true := by kernel_rfl
theorem fok12 : FnOK Tryd.prog 12 = true := by kernel_rfl
theorem fok15 : FnOK Tryd.prog 15 = true := by kernel_rfl
theorem fok16 : FnOK Tryd.prog 16 = true := by kernel_rfl
theorem fok18 : FnOK Tryd.prog 18 = true := by kernel_rfl
theorem fok21 : FnOK Tryd.prog 21 = true := by kernel_rfl
theorem fok23 : FnOK Tryd.prog 23 = true := by kernel_rfl
theorem fok30 : FnOK Tryd.prog 30 = true := by kernel_rfl
theorem fok31 : FnOK Tryd.prog 31 = true := by kernel_rfl
theorem fok33 : FnOK Tryd.prog 33 = true := by kernel_rfl
theorem fok34 : FnOK Tryd.prog 34 = true := by kernel_rfl
theorem fok35 : FnOK Tryd.prog 35 = true := by kernel_rfl
theorem fok42 : FnOK Tryd.prog 42 = true := by kernel_rfl
theorem fok43 : FnOK Tryd.prog 43 = true := by kernel_rfl
end Go.Proofs.YtpmnfhifmmfglabDoor

namespace Go.Proofs.YtpmnfhifmmfglabDoor
open Go.Shelf Go.RowKit
def lays160_ren : Go.Shelf.Ren := ⟨fun | 160 => 42 | 232 => 49 | 231 => 48 | 227 => 50 | 234 => 52 | 233 => 51 | 236 => 54 | 235 => 53 | 228 => 61 | 271 => 64 | 151 => 63 | 197 => 62 | 120 => 69 | 152 => 68 | 260 => 67 | 137 => 75 | 119 => 76 | 224 => 72 | 225 => 71 | 217 => 70 | 266 => 77 | n => n, fun | 9 => 9 | 4 => 4 | 3 => 3 | 5 => 5 | 117 => 78 | 116 => 77 | 0 => 0 | 124 => 81 | 21 => 21 | 105 => 88 | 46 => 51 | 119 => 93 | 139 => 96 | 138 => 95 | n => n, fun | 3 => 1 | 4 => 2 | n => n⟩
theorem lays160 : Go.Proofs.Lays.n160 Tryd.prog lays160_ren := {
  mixed := by kernel_rfl
  f119 := Tryd.func76.trans (congrArg some (by kernel_rfl))
  f120 := Tryd.func69.trans (congrArg some (by kernel_rfl))
  f137 := Tryd.func75.trans (congrArg some (by kernel_rfl))
  f151 := Tryd.func63.trans (congrArg some (by kernel_rfl))
  f152 := Tryd.func68.trans (congrArg some (by kernel_rfl))
  f160 := Tryd.func42.trans (congrArg some (by kernel_rfl))
  f197 := Tryd.func62.trans (congrArg some (by kernel_rfl))
  f217 := Tryd.func70.trans (congrArg some (by kernel_rfl))
  f224 := Tryd.func72.trans (congrArg some (by kernel_rfl))
  f225 := Tryd.func71.trans (congrArg some (by kernel_rfl))
  f227 := Tryd.func50.trans (congrArg some (by kernel_rfl))
  f228 := Tryd.func61.trans (congrArg some (by kernel_rfl))
  f231 := Tryd.func48.trans (congrArg some (by kernel_rfl))
  f232 := Tryd.func49.trans (congrArg some (by kernel_rfl))
  f233 := Tryd.func51.trans (congrArg some (by kernel_rfl))
  f234 := Tryd.func52.trans (congrArg some (by kernel_rfl))
  f235 := Tryd.func53.trans (congrArg some (by kernel_rfl))
  f236 := Tryd.func54.trans (congrArg some (by kernel_rfl))
  f260 := Tryd.func67.trans (congrArg some (by kernel_rfl))
  f266 := Tryd.func77.trans (congrArg some (by kernel_rfl))
  f271 := Tryd.func64.trans (congrArg some (by kernel_rfl))
  t0 := Tryd.underlying0
  a0 := Tryd.isAgg0
  z0 := Tryd.sizeOf0
  v0 := Tryd.zeroValue0
  t3 := Tryd.underlying3
  a3 := Tryd.isAgg3
  z3 := Tryd.sizeOf3
  v3 := Tryd.zeroValue3
  t4 := Tryd.underlying4
  a4 := Tryd.isAgg4
  z4 := Tryd.sizeOf4
  v4 := Tryd.zeroValue4
  t5 := Tryd.underlying5
  a5 := Tryd.isAgg5
  z5 := Tryd.sizeOf5
  v5 := Tryd.zeroValue5
  t9 := Tryd.underlying9
  a9 := Tryd.isAgg9
  z9 := Tryd.sizeOf9
  v9 := Tryd.zeroValue9
  t21 := Tryd.underlying21
  a21 := Tryd.isAgg21
  z21 := Tryd.sizeOf21
  v21 := Tryd.zeroValue21
  t46 := Tryd.underlying51
  a46 := Tryd.isAgg51
  z46 := Tryd.sizeOf51
  v46 := Tryd.zeroValue51
  t105 := Tryd.underlying88
  a105 := Tryd.isAgg88
  z105 := Tryd.sizeOf88
  v105 := Tryd.zeroValue88
  t116 := Tryd.underlying77
  a116 := Tryd.isAgg77
  z116 := Tryd.sizeOf77
  t117 := Tryd.underlying78
  a117 := Tryd.isAgg78
  z117 := Tryd.sizeOf78
  v117 := Tryd.zeroValue78
  t119 := Tryd.underlying93
  a119 := Tryd.isAgg93
  z119 := Tryd.sizeOf93
  t124 := Tryd.underlying81
  a124 := Tryd.isAgg81
  z124 := Tryd.sizeOf81
  v124 := Tryd.zeroValue81
  t138 := Tryd.underlying95
  a138 := Tryd.isAgg95
  z138 := Tryd.sizeOf95
  v138 := Tryd.zeroValue95
  t139 := Tryd.underlying96
  a139 := Tryd.isAgg96
  z139 := Tryd.sizeOf96
  v139 := Tryd.zeroValue96
  g3 := by kernel_rfl
  g4 := by kernel_rfl }
def lays138_ren : Go.Shelf.Ren := ⟨fun | 138 => 43 | 195 => 55 | 218 => 56 | 143 => 57 | 219 => 65 | 217 => 70 | 225 => 71 | 224 => 72 | 267 => 73 | 266 => 77 | 314 => 78 | n => n, fun | 9 => 9 | 3 => 3 | 4 => 4 | 5 => 5 | 0 => 0 | 46 => 51 | 146 => 99 | 51 => 98 | n => n, fun | 1 => 0 | n => n⟩
theorem lays138 : Go.Proofs.Lays.n138 Tryd.prog lays138_ren := {
  mixed := by kernel_rfl
  f138 := Tryd.func43.trans (congrArg some (by kernel_rfl))
  f143 := Tryd.func57.trans (congrArg some (by kernel_rfl))
  f195 := Tryd.func55.trans (congrArg some (by kernel_rfl))
  f217 := Tryd.func70.trans (congrArg some (by kernel_rfl))
  f218 := Tryd.func56.trans (congrArg some (by kernel_rfl))
  f219 := Tryd.func65.trans (congrArg some (by kernel_rfl))
  f224 := Tryd.func72.trans (congrArg some (by kernel_rfl))
  f225 := Tryd.func71.trans (congrArg some (by kernel_rfl))
  f266 := Tryd.func77.trans (congrArg some (by kernel_rfl))
  f267 := Tryd.func73.trans (congrArg some (by kernel_rfl))
  f314 := Tryd.func78.trans (congrArg some (by kernel_rfl))
  t0 := Tryd.underlying0
  a0 := Tryd.isAgg0
  z0 := Tryd.sizeOf0
  v0 := Tryd.zeroValue0
  t3 := Tryd.underlying3
  a3 := Tryd.isAgg3
  z3 := Tryd.sizeOf3
  v3 := Tryd.zeroValue3
  t4 := Tryd.underlying4
  a4 := Tryd.isAgg4
  z4 := Tryd.sizeOf4
  v4 := Tryd.zeroValue4
  t5 := Tryd.underlying5
  a5 := Tryd.isAgg5
  z5 := Tryd.sizeOf5
  v5 := Tryd.zeroValue5
  t9 := Tryd.underlying9
  a9 := Tryd.isAgg9
  z9 := Tryd.sizeOf9
  v9 := Tryd.zeroValue9
  t46 := Tryd.underlying51
  a46 := Tryd.isAgg51
  z46 := Tryd.sizeOf51
  v46 := Tryd.zeroValue51
  t51 := Tryd.underlying98
  a51 := Tryd.isAgg98
  z51 := Tryd.sizeOf98
  v51 := Tryd.zeroValue98
  t146 := Tryd.underlying99
  a146 := Tryd.isAgg99
  z146 := Tryd.sizeOf99
  v146 := Tryd.zeroValue99
  g1 := by kernel_rfl }
def lays169_ren : Go.Shelf.Ren := ⟨fun | 169 => 34 | n => n, fun | 70 => 53 | 9 => 9 | 0 => 0 | 72 => 55 | 37 => 50 | 127 => 70 | 3 => 3 | 5 => 5 | n => n, fun | n => n⟩
theorem lays169 : Go.Proofs.Lays.n169 Tryd.prog lays169_ren := {
  mixed := by kernel_rfl
  f169 := Tryd.func34.trans (congrArg some (by kernel_rfl))
  t0 := Tryd.underlying0
  a0 := Tryd.isAgg0
  z0 := Tryd.sizeOf0
  v0 := Tryd.zeroValue0
  t3 := Tryd.underlying3
  a3 := Tryd.isAgg3
  z3 := Tryd.sizeOf3
  v3 := Tryd.zeroValue3
  t9 := Tryd.underlying9
  a9 := Tryd.isAgg9
  z9 := Tryd.sizeOf9
  v9 := Tryd.zeroValue9
  t37 := Tryd.underlying50
  a37 := Tryd.isAgg50
  z37 := Tryd.sizeOf50
  v37 := Tryd.zeroValue50
  t70 := Tryd.underlying53
  a70 := Tryd.isAgg53
  z70 := Tryd.sizeOf53
  v70 := Tryd.zeroValue53
  t72 := Tryd.underlying55
  a72 := Tryd.isAgg55
  z72 := Tryd.sizeOf55
  v72 := Tryd.zeroValue55
  t127 := Tryd.underlying70
  a127 := Tryd.isAgg70
  z127 := Tryd.sizeOf70
  v127 := Tryd.zeroValue70 }
def lays166_ren : Go.Shelf.Ren := ⟨fun | 166 => 33 | 240 => 44 | 276 => 58 | 169 => 34 | n => n, fun | 0 => 0 | 3 => 3 | 4 => 4 | 5 => 5 | 9 => 9 | 20 => 20 | 37 => 50 | 70 => 53 | 72 => 55 | 75 => 57 | 80 => 60 | 164 => 83 | 127 => 70 | n => n, fun | n => n⟩
theorem lays166 : Go.Proofs.Lays.n166 Tryd.prog lays166_ren := {
  mixed := by kernel_rfl
  f166 := Tryd.func33.trans (congrArg some (by kernel_rfl))
  f240 := Tryd.func44.trans (congrArg some (by kernel_rfl))
  f276 := Tryd.func58.trans (congrArg some (by kernel_rfl))
  t0 := Tryd.underlying0
  a0 := Tryd.isAgg0
  z0 := Tryd.sizeOf0
  v0 := Tryd.zeroValue0
  t3 := Tryd.underlying3
  a3 := Tryd.isAgg3
  z3 := Tryd.sizeOf3
  v3 := Tryd.zeroValue3
  t4 := Tryd.underlying4
  a4 := Tryd.isAgg4
  z4 := Tryd.sizeOf4
  v4 := Tryd.zeroValue4
  t9 := Tryd.underlying9
  a9 := Tryd.isAgg9
  z9 := Tryd.sizeOf9
  v9 := Tryd.zeroValue9
  t20 := Tryd.underlying20
  a20 := Tryd.isAgg20
  z20 := Tryd.sizeOf20
  v20 := Tryd.zeroValue20
  t37 := Tryd.underlying50
  a37 := Tryd.isAgg50
  z37 := Tryd.sizeOf50
  v37 := Tryd.zeroValue50
  t70 := Tryd.underlying53
  a70 := Tryd.isAgg53
  z70 := Tryd.sizeOf53
  v70 := Tryd.zeroValue53
  t72 := Tryd.underlying55
  a72 := Tryd.isAgg55
  z72 := Tryd.sizeOf55
  v72 := Tryd.zeroValue55
  t75 := Tryd.underlying57
  a75 := Tryd.isAgg57
  z75 := Tryd.sizeOf57
  v75 := Tryd.zeroValue57
  t164 := Tryd.underlying83
  a164 := Tryd.isAgg83
  z164 := Tryd.sizeOf83
  v164 := Tryd.zeroValue83 }
theorem Builder_Extra_166 : Builder.Extra Tryd.prog lays166_ren where
  sizeBuilder := by kernel_rfl
  liesBuilder := by kernel_rfl
  t5 := Tryd.underlying5
  a5 := Tryd.isAgg5
  z5 := Tryd.sizeOf5
  v5 := Tryd.zeroValue5
  infoByte := by kernel_rfl
  cellsByte := by kernel_rfl
  sizeByte := by kernel_rfl
  neB5 := by decide
theorem Builder_Extra_169 : Builder.Extra Tryd.prog lays169_ren where
  sizeBuilder := by kernel_rfl
  liesBuilder := by kernel_rfl
  t5 := Tryd.underlying5
  a5 := Tryd.isAgg5
  z5 := Tryd.sizeOf5
  v5 := Tryd.zeroValue5
  infoByte := by kernel_rfl
  cellsByte := by kernel_rfl
  sizeByte := by kernel_rfl
  neB5 := by decide
theorem Builder_WriteString (B b : Nat) (bs : List Value) (s : ByteArray) (w : World) (h : Lib.IsBuilder 55 5 B b bs w) (hlen : bs.length + s.size ≤ 140737488355328) (hBw : B ≤ w.heap.size) :
    Calls Tryd.prog 33 #[.pointer (some ⟨b, 0, none⟩), .string s] w fun e w' => e = .returned (.tuple #[.int .i64 s.size, .nilIface]) ∧ (Lib.BuilderAt 55 5 B b (.pointer (some ⟨b, 0, none⟩)) (bs ++ Lib.strCells s) w' ∧ Below B w w') := Any.Builder_WriteString lays166 Builder_Extra_166 B b bs s w h hlen hBw
theorem Builder_String (B b : Nat) (l : List UInt8) (w : World) (h : Lib.IsBuilder 55 5 B b (Lib.byteCells l) w) (hBw : B ≤ w.heap.size) :
    Calls Tryd.prog 34 #[.pointer (some ⟨b, 0, none⟩)] w fun e w' => e = .returned (.string ⟨l.toArray⟩) ∧ Below B w w' := Any.Builder_String_any lays169 Builder_Extra_169 B b l w h hBw
end Go.Proofs.YtpmnfhifmmfglabDoor

namespace Go.Proofs.YtpmnfhifmmfglabDoor
open Go.RowKit Go.Shelf
theorem W_strings_Trim (N : Nat) (s cutset : List UInt8) (w0 : World) (r : List UInt8) (h : D_strings_Trim N s cutset = some r) :
    Calls Tryd.prog 42 #[.string (bs s), .string (bs cutset)] w0 fun e w' => ∃ v, e = .returned v ∧ v = .string (bs r) ∧ Mem w0.heap.size w0 w' [] := by
  unfold D_strings_Trim at h
  split at h
  · rename_i hc
    cases h
    obtain ⟨h1, h2, h3⟩ := hc
    refine (Any.strings_Trim_laid lays160 (by kernel_rfl) (bs s) (bs cutset) w0 (by rw [bs_size]; exact h1) (by rw [bs_size]; exact h2) (fun j b hb => ?_)).mono ?_
    · exact of_decide_eq_true (List.all_eq_true.1 h3 b (List.mem_of_getElem? hb))
    · rintro e w' ⟨rfl, hb⟩
      exact ⟨_, rfl, rfl, Mem.fin0 hb⟩
  · cases h
theorem W_strings_Count (N : Nat) (s substr : List UInt8) (w0 : World) (r : Int) (h : D_strings_Count N s substr = some r) :
    Calls Tryd.prog 43 #[.string (bs s), .string (bs substr)] w0 fun e w' => ∃ v, e = .returned v ∧ v = .int .i64 r ∧ Mem w0.heap.size w0 w' [] := by
  unfold D_strings_Count at h
  split at h
  · rename_i c
    cases h
    refine (Any.strings_Count_one lays138 (bs s) c w0).mono ?_
    rintro e w' ⟨rfl, rfl⟩
    exact ⟨_, rfl, rfl, Mem.start w'⟩
  · cases h
theorem own_keep {B : Nat} {e : TypeId} {k : Nat} {v : Value} {n : Nat} {xs : List Value} {w w' : World} (h : w.ownsRow B e k v n xs) (hb : Below w.heap.size w w') : w'.ownsRow B e k v n xs := by
  obtain ⟨h1, h2⟩ := h
  refine ⟨h1, ?_⟩
  rcases h2 with h2 | ⟨g, cap, cur, q1, q2, q3, q4⟩
  · exact .inl h2
  · exact .inr ⟨g, cap, cur, q1, q2, (hb.block g (Array.getElem?_eq_some_iff.1 q3).1).trans q3, q4⟩
theorem bld_keep {T e : TypeId} {B b : Nat} {bs : List Value} {w w' : World} (h : Lib.IsBuilder T e B b bs w) (hb : Below w.heap.size w w') : Lib.IsBuilder T e B b bs w' := by
  have one : ∀ p, Lib.BuilderAt T e B b p bs w → Lib.BuilderAt T e B b p bs w' := fun p h => by
    have hlt := h.lt
    obtain ⟨h1, v, h2, h3, h4⟩ := h
    exact ⟨h1, v, (hb.block b hlt).trans h2, own_keep h3 hb, h4⟩
  rcases h with h | h
  · exact .inl (one _ h)
  · exact .inr (one _ h)
theorem bld_new {T e : TypeId} {base g : Nat} {w : World} (hb : base ≤ g) (h : Blk w g T #[.pointer none, .slice none 0 0]) : Lib.IsBuilder T e base g [] w := by
  refine .inl ⟨hb, .slice none 0 0, h, World.ownsRow_nil _ _ _ _, by simp [Value.ownBlock]⟩
theorem fin_trans {base : Nat} {W w w' : World} (M : Mem base W w []) (hbase : base = W.heap.size) (hb : Below base w w') : Mem base W w' [] := by
  subst hbase
  exact Mem.fin0 (M.low.trans hb)
theorem cells_app (xs ys : List UInt8) : Lib.byteCells xs ++ Lib.strCells (bs ys) = Lib.byteCells (xs ++ ys) := by
  show xs.map _ ++ ys.map _ = (xs ++ ys).map _
  rw [List.map_append]
theorem W_bld_write {base g : Nat} {w : World} {b d b2 : List UInt8} (hB : Lib.IsBuilder 55 5 base g (Lib.byteCells b) w) (hw : bwr b d = some b2) (hs : base ≤ w.heap.size) :
    Calls Tryd.prog 33 #[.pointer (some ⟨g, 0, none⟩), .string (bs d)] w fun e w' => ∃ v, e = .returned v ∧ Lib.IsBuilder 55 5 base g (Lib.byteCells b2) w' ∧ Below base w w' := by
  obtain ⟨rfl, hl⟩ := bwr_spec hw
  refine (Builder_WriteString base g (Lib.byteCells b) (bs d) w hB (by rw [Lib.byteCells_length, bs_size]; exact hl) hs).mono ?_
  rintro e w' ⟨rfl, h1, h2⟩
  exact ⟨_, rfl, .inr (cells_app b d ▸ h1), h2⟩
theorem W_bld_string {base g : Nat} {w : World} {b : List UInt8} (hB : Lib.IsBuilder 55 5 base g (Lib.byteCells b) w) (hs : base ≤ w.heap.size) :
    Calls Tryd.prog 34 #[.pointer (some ⟨g, 0, none⟩)] w fun e w' => ∃ v, e = .returned v ∧ v = .string (bs b) ∧ Below base w w' := by
  refine (Builder_String base g b w hB hs).mono ?_
  rintro e w' ⟨rfl, h2⟩
  exact ⟨_, rfl, rfl, h2⟩
end Go.Proofs.YtpmnfhifmmfglabDoor

namespace Go.Proofs.YtpmnfhifmmfglabDoor
open Go.RowKit
set_option maxRecDepth 100000 in
set_option maxHeartbeats 4000000 in
theorem W_bits_depths (N : Nat) (n : Int) (w0 : World)  (r : Bool) (h : D_bits_depths N n = some r) :
    Calls Tryd.prog 35 #[I n] w0 fun e w' => ∃ v, e = .returned v ∧ v = .bool r ∧ Mem w0.heap.size w0 w' [] := by
  refine X_enter Tryd.func35 rfl Tryd.ntmps35 rfl ?_
  intro a K
  have M := Mem.start w0
  have K : Kn a 9 [(0, I n)] := K
  unfold D_bits_depths at h
  refine wp_seq (X_reg ?_)
  refine X_o K M ?_; clear K; intro a K
  refine wpList_nil (then_n (wp_seq (X_reg ?_)))
  refine X_o K M ?_; clear K
  iterate 2 (refine Y_o M ?_)
  intro a K
  rcases Bool.eq_false_or_eq_true (decide (1 ≤ n)) with hb | hb
  · have h := ctrue hb h
    have K := K.reb (s := 5) rfl hb
    refine X_o K M ?_; clear K
    iterate 3 (refine Y_o M ?_)
    intro a K
    refine wpList_nil (then_n (wp_ret ?_))
    cases h
    exact ret1 K rfl (res_tmp K rfl) ⟨_, rfl, rfl, ((M).pick [] (by decide))⟩
  have h := cfalse hb h
  have K := K.reb (s := 5) rfl hb
  refine X_o K M ?_; clear K
  iterate 3 (refine Y_o M ?_)
  intro a K
  refine wpList_nil (then_n (wp_ret ?_))
  cases h
  exact ret1 K rfl (res_tmp K rfl) ⟨_, rfl, rfl, ((M).pick [] (by decide))⟩
set_option maxRecDepth 100000 in
set_option maxHeartbeats 4000000 in
theorem W_bits_Pack (N : Nat) (d : List Int) (A_d : Option Addr) (c_d : Nat) (o : Int) (w0 : World) (R_d : SL w0 (cI .i64) A_d d) (C_d : d.length ≤ c_d) (r : List UInt8 × Int) (h : D_bits_Pack N d o = some r) :
    Calls Tryd.prog 18 #[.slice A_d d.length c_d, I o] w0 fun e w' => ∃ v, e = .returned v ∧ v = .tuple #[.string (bs r.1), I r.2] ∧ Mem w0.heap.size w0 w' [] := by
  refine X_enter Tryd.func18 rfl Tryd.ntmps18 rfl ?_
  intro a K
  have M := Mem.start w0
  have K : Kn a 75 [(0, .slice A_d d.length c_d), (1, I o)] := K
  unfold D_bits_Pack at h
  refine wp_seq (X_reg ?_)
  refine X_o K M ?_; clear K
  refine Y_o M ?_; intro a K
  refine wpList_nil (then_n (wp_seq (wp_seq (X_reg ?_))))
  refine X_o K M ?_; clear K; intro a K
  obtain ⟨r2, h_r2, h⟩ := obind h
  refine X_a K (ac_call (vs := [I o]) (cap := []) rfl fok35 K rfl rfl (W_bits_depths N o _  r2 h_r2)) ?_
  have M0 := M; clear K M; rintro _ a w ⟨rfl, M⟩ K
  replace M := M0.call M; clear M0
  refine X_o K M ?_; clear K; intro a K
  refine wpList_nil (then_n ?_)
  refine X_cond K rfl (fun hb => ?_) (fun hb => ?_)
  · have h := ctrue hb h
    refine wp_seq (X_reg ?_)
    refine X_o K M ?_; clear K
    refine Y_o M ?_; intro a K
    refine wpList_nil (then_n (wp_ret (then_r ?_)))
    cases h
    exact ret2 K rfl (res_tmp K rfl) (res_tmp K rfl) ⟨_, rfl, rfl, ((M).pick [] (by decide))⟩
  have h := cfalse hb h
  refine wp_skip (then_n (wp_seq (wp_seq (X_reg ?_))))
  refine X_o K M ?_; clear K
  refine Y_r (fun _ K => rd_len rfl un35 K rfl) M ?_
  refine Y_o M ?_; intro a K
  refine wpList_nil (then_n ?_)
  refine X_cond K rfl (fun hb => ?_) (fun hb => ?_)
  · have h := ctrue hb h
    refine wp_seq (X_reg ?_)
    refine X_o K M ?_; clear K
    refine Y_o M ?_; intro a K
    refine wpList_nil (then_n (wp_ret (then_r ?_)))
    cases h
    exact ret2 K rfl (res_tmp K rfl) (res_tmp K rfl) ⟨_, rfl, rfl, ((M).pick [] (by decide))⟩
  have h := cfalse hb h
  refine wp_skip (then_n (wp_seq (X_reg ?_)))
  refine X_o K M ?_; clear K
  refine Y_r (fun _ K => rd_len rfl un35 K rfl) M ?_
  iterate 3 (refine Y_o M ?_)
  refine Y_r (fun _ K => rd_quo rfl K rfl rfl (by decide)) M ?_; intro a K
  obtain ⟨_, h0, h⟩ := obind h
  have h0 := mok_spec h0
  refine X_a K (ac_make0 (C := (cI .u8)) rfl sl50 rfl (by rw [z5]; rfl) rfl K rfl rfl M h0) ?_
  clear K M; rintro _ a w ⟨A, c, rfl, M⟩ K
  refine X_o K M ?_; clear K; intro a K
  refine wpList_nil (then_n (wp_seq (X_reg ?_)))
  refine X_o K M ?_; clear K
  refine Y_o M ?_; intro a K
  refine wpList_nil (then_n (wp_seq (wp_seq (X_reg ?_))))
  refine X_o K M ?_; clear K
  refine Y_r (fun _ K => rd_len rfl un35 K rfl) M ?_
  refine Y_o M ?_; intro a K
  refine wpList_nil (then_n (wp_block ?_))
  refine X_lp (id := 0) (Rel := fun (⟨l2, i, i2, i3⟩ : List Int × Int × Int × Int) a w => ∃ (A2 : Option Addr) (c2 : Nat), Kn a 75 [(1, I o), (6, .slice A2 l2.length c2), (7, I i), (8, I i2), (24, .slice A_d d.length c_d), (25, I (d.length : Int)), (26, I i3)] ∧ Mem w0.heap.size w0 w [.row 5 1 A2 l2.length c2 ((cI .u8).all l2)]) h (fun _ _ => rfl) ⟨A, c, K.pick [1,6,7,8,24,25,26], M.pick [0] (by decide)⟩ ?_ ?_
  · clear K M h
    rintro ⟨l9, i7, i8, i9⟩ a w ⟨A9, c9, K, M⟩ h
    try dsimp only at h
    refine inb_e ?_
    refine then_n (wp_seq (wp_seq (X_reg ?_)))
    refine X_o K M ?_; clear K
    refine Y_o M ?_; intro a K
    refine wpList_nil (then_n ?_)
    refine X_cond K rfl (fun hb => ?_) (fun hb => ?_)
    · have h := ctrue hb h
      refine X_reg ?_
      refine X_o K M ?_; clear K
      iterate 3 (refine Y_o M ?_)
      intro a K
      obtain ⟨_, h0, h⟩ := obind h
      have h0 := nn_spec h0
      refine X_r K (rd_shl rfl K rfl rfl h0) M ?_; clear K
      refine Y_r (fun _ K => rd_conv rfl rfl ik5 K rfl) M ?_; intro a K
      refine X_a K (ac_bslice rfl sl50 z5 K (vs := [(0, .int .u8 (IntKind.u8.wrap (shlI .i64 i7 (IntKind.i64.wrap (8 - i8)))))]) (cs := [.int .u8 (IntKind.u8.wrap (shlI .i64 i7 (IntKind.i64.wrap (8 - i8))))]) rfl (by kernel_rfl) rfl rfl M) ?_
      have M0 := M; clear K M; rintro _ a w ⟨gs4, rfl, M⟩ K
      replace M := M.asRow 0 rfl (cI .u8) ([IntKind.u8.wrap (shlI .i64 i7 (IntKind.i64.wrap (8 - i8)))] : List Int) (n := 1) rfl rfl rfl
      clear M0
      obtain ⟨l10, h_l10, h⟩ := obind h
      refine X_a K (ac_app (C := (cI .u8)) (xs := l9) (ys := ([IntKind.u8.wrap (shlI .i64 i7 (IntKind.i64.wrap (8 - i8)))] : List Int)) rfl sl50 rfl z5 rfl rfl K rfl rfl 1 M rfl ((inR (C := (cI .u8)) 0 rfl rfl) _ M) h_l10) ?_
      clear K M; rintro _ a w ⟨A10, c10, rfl, M⟩ K
      refine X_o K M ?_; clear K; intro a K
      refine wpList_nil (then_n (wp_seq (X_reg ?_)))
      refine X_o K M ?_; clear K
      refine Y_r (fun _ K => rd_convBS rfl sl50 ik5 st9 K rfl (inR (C := (cI .u8)) 1 rfl rfl)) M ?_
      iterate 2 (refine Y_o M ?_)
      intro a K
      refine wpList_nil (then_n (wp_ret ?_))
      cases h
      exact ret2 K rfl (res_tmp K rfl) (res_tmp K rfl) ⟨_, rfl, rfl, ((M).pick [] (by decide))⟩
    have h := cfalse hb h
    refine wp_skip (then_n (wp_seq (X_reg ?_)))
    refine X_o K M ?_; clear K
    refine Y_r (fun _ K => rd_convBS rfl sl50 ik5 st9 K rfl (inR (C := (cI .u8)) 0 rfl rfl)) M ?_
    iterate 2 (refine Y_o M ?_)
    intro a K
    refine wpList_nil (then_n (wp_ret ?_))
    cases h
    exact ret2 K rfl (res_tmp K rfl) (res_tmp K rfl) ⟨_, rfl, rfl, ((M).pick [] (by decide))⟩
  clear K M h
  rintro kk fuel ⟨l2, i, i2, i3⟩ a w hk1 ⟨A2, c2, K, M⟩ h
  unfold D_bits_Pack_l1 at h
  refine wp_seq (X_reg ?_)
  refine X_o K M ?_; clear K; intro a K
  refine wpList_nil (then_n (wp_seq ?_))
  refine X_cond K rfl (fun hb => ?_) (fun hb => ?_)
  · have h := ctrue hb h
    refine wp_skip (then_n (wp_seq (wp_block (wp_seq (X_reg ?_)))))
    obtain ⟨e2, h_e2, h⟩ := obind h
    refine X_r K (rd_ix rfl sl35 K rfl rfl (inA R_d) h_e2) M ?_; clear K
    refine Y_r (fun _ K => rd_elC rfl sc3 K rfl rfl (inA R_d) h_e2 rfl) M ?_
    refine Y_o M ?_; intro a K
    refine wpList_nil (then_n (wp_seq (wp_seq (X_reg ?_))))
    refine X_o K M ?_; clear K
    iterate 2 (refine Y_o M ?_)
    intro a K
    rcases Bool.eq_false_or_eq_true (decide (e2 < 0)) with hb | hb
    · have h := ctrue hb h
      have K := K.reb (s := 32) rfl hb
      refine X_o K M ?_; clear K
      iterate 4 (refine Y_o M ?_)
      intro a K
      refine wpList_nil (then_n ?_)
      refine X_condT K rfl ?_
      refine wp_seq (X_reg ?_)
      refine X_o K M ?_; clear K
      refine Y_o M ?_; intro a K
      refine wpList_nil (then_n (wp_ret (then_r (inb_r (then_r (then_r (inb_r (then_r ?_))))))))
      cases h
      exact ret2 K rfl (res_tmp K rfl) (res_tmp K rfl) ⟨_, rfl, rfl, ((M).pick [] (by decide))⟩
    have h := cfalse hb h
    have K := K.reb (s := 32) rfl hb
    refine X_o K M ?_; clear K
    refine Y_o M ?_; intro a K
    obtain ⟨_, h0, h⟩ := obind h
    have h0 := nn_spec h0
    refine X_r K (rd_shl rfl K rfl rfl h0) M ?_; clear K
    iterate 2 (refine Y_o M ?_)
    intro a K
    refine wpList_nil (then_n ?_)
    refine X_cond K rfl (fun hb => ?_) (fun hb => ?_)
    · have h := ctrue hb h
      refine wp_seq (X_reg ?_)
      refine X_o K M ?_; clear K
      refine Y_o M ?_; intro a K
      refine wpList_nil (then_n (wp_ret (then_r (inb_r (then_r (then_r (inb_r (then_r ?_))))))))
      cases h
      exact ret2 K rfl (res_tmp K rfl) (res_tmp K rfl) ⟨_, rfl, rfl, ((M).pick [] (by decide))⟩
    have h := cfalse hb h
    refine wp_skip (then_n (wp_seq (X_reg ?_)))
    refine X_o K M ?_; clear K
    refine Y_o M ?_; intro a K
    obtain ⟨_, h0, h⟩ := obind h
    have h0 := nn_spec h0
    refine X_r K (rd_shl rfl K rfl rfl h0) M ?_; clear K
    refine Y_o M ?_
    refine Y_r (fun _ K => rd_or rfl K rfl rfl) M ?_
    iterate 3 (refine Y_o M ?_)
    obtain ⟨x6, hx, h⟩ := olet h
    refine Y_r (fun _ K => rdi hx (rd_assign rfl K rfl)) M ?_
    obtain ⟨x7, hx, h⟩ := olet h
    refine Y_r (fun _ K => rdi hx (rd_assign rfl K rfl)) M ?_; intro a K
    refine wpList_nil (then_n (wp_seq (wp_block ?_)))
    refine X_lp (id := 2) (Rel := fun (⟨l5, i5⟩ : List Int × Int) a w => ∃ (A5 : Option Addr) (c5 : Nat), Kn a 75 [(1, I o), (6, .slice A5 l5.length c5), (7, I x6), (8, I i5), (24, .slice A_d d.length c_d), (25, I (d.length : Int)), (26, I i3), (33, I e2), (34, I o), (35, I (shlI .i64 1 o)), (36, .bool (decide ((shlI .i64 1 o) ≤ e2)))] ∧ Mem w0.heap.size w0 w [.row 5 1 A5 l5.length c5 ((cI .u8).all l5)]) h (fun _ _ => rfl) ⟨A2, c2, K.pick [1,6,7,8,24,25,26,33,34,35,36], M.pick [0] (by decide)⟩ ?_ ?_
    · clear K M h
      rintro ⟨l8, i6⟩ a w ⟨A8, c8, K, M⟩ h
      try dsimp only at h
      refine inb_e ?_
      refine then_n (X_reg ?_)
      refine X_o K M ?_; clear K
      refine Y_o M ?_; intro a K
      obtain ⟨_, h0, h⟩ := obind h
      have h0 := nn_spec h0
      refine X_r K (rd_shl rfl K rfl rfl h0) M ?_; clear K
      iterate 2 (refine Y_o M ?_)
      obtain ⟨x10, hx, h⟩ := olet h
      refine Y_r (fun _ K => rdi hx (rd_assign rfl K rfl)) M ?_; intro a K
      refine wpList_nil (inb_n (then_n (X_reg ?_)))
      refine X_o K M ?_; clear K
      refine Y_o M ?_; intro a K
      refine wpList_nil ?_
      exact then_n ⟨(l8, x10, i6, IntKind.i64.wrap (i3 + 1)), ⟨A8, c8, K.pick [1,6,7,8,24,25,26], M.pick [0] (by decide)⟩, h⟩
    clear K M h
    rintro kk fuel ⟨l5, i5⟩ a w hk2 ⟨A5, c5, K, M⟩ h
    unfold D_bits_Pack_l2 at h
    refine wp_seq (wp_seq (X_reg ?_))
    refine X_o K M ?_; clear K
    refine Y_o M ?_; intro a K
    refine wpList_nil (then_n ?_)
    refine X_cond K rfl (fun hb => ?_) (fun hb => ?_)
    · have h := ctrue hb h
      refine wp_skip (then_n (wp_block (wp_seq (X_reg ?_))))
      refine X_o K M ?_; clear K
      refine Y_o M ?_
      obtain ⟨x9, hx, h⟩ := olet h
      refine Y_r (fun _ K => rdi hx (rd_assign rfl K rfl)) M ?_; intro a K
      refine wpList_nil (then_n (X_reg ?_))
      refine X_o K M ?_; clear K
      iterate 2 (refine Y_o M ?_)
      intro a K
      obtain ⟨_, h0, h⟩ := obind h
      have h0 := nn_spec h0
      refine X_r K (rd_shr rfl K rfl rfl h0) M ?_; clear K
      refine Y_r (fun _ K => rd_conv rfl rfl ik5 K rfl) M ?_; intro a K
      refine X_a K (ac_bslice rfl sl50 z5 K (vs := [(0, .int .u8 (IntKind.u8.wrap (shrI .i64 x6 x9)))]) (cs := [.int .u8 (IntKind.u8.wrap (shrI .i64 x6 x9))]) rfl (by kernel_rfl) rfl rfl M) ?_
      have M0 := M; clear K M; rintro _ a w ⟨gs3, rfl, M⟩ K
      replace M := M.asRow 0 rfl (cI .u8) ([IntKind.u8.wrap (shrI .i64 x6 x9)] : List Int) (n := 1) rfl rfl rfl
      clear M0
      obtain ⟨l7, h_l7, h⟩ := obind h
      refine X_a K (ac_app (C := (cI .u8)) (xs := l5) (ys := ([IntKind.u8.wrap (shrI .i64 x6 x9)] : List Int)) rfl sl50 rfl z5 rfl rfl K rfl rfl 1 M rfl ((inR (C := (cI .u8)) 0 rfl rfl) _ M) h_l7) ?_
      clear K M; rintro _ a w ⟨A7, c7, rfl, M⟩ K
      refine X_o K M ?_; clear K; intro a K
      refine wpList_nil (inb_n ?_)
      exact then_n ⟨(l7, x9), ⟨A7, c7, K.pick [1,6,7,8,24,25,26,33,34,35,36], M.pick [1] (by decide)⟩, h⟩
    have h := cfalse hb h
    refine wp_exit ?_
    refine then_e ?_
    exact then_e (hk2 (l5, i5) _ _ ⟨A5, c5, K.pick [1,6,7,8,24,25,26,33,34,35,36], M.pick [0] (by decide)⟩ h)
  have h := cfalse hb h
  refine wp_exit ?_
  refine then_e ?_
  exact then_e (hk1 (l2, i, i2, i3) _ _ ⟨A2, c2, K.pick [1,6,7,8,24,25,26], M.pick [0] (by decide)⟩ h)
set_option maxRecDepth 100000 in
set_option maxHeartbeats 4000000 in
theorem W_bits_Unpack (N : Nat) (d : List UInt8) (o : Int) (p2 : Int) (w0 : World)  (r : List Int × Int) (h : D_bits_Unpack N d o p2 = some r) :
    Calls Tryd.prog 21 #[.string (bs d), I o, I p2] w0 fun e w' => ∃ v, e = .returned v ∧ ∃ A0 c0, v = .tuple #[.slice A0 r.1.length c0, I r.2] ∧ Mem w0.heap.size w0 w' [.row 3 1 A0 r.1.length c0 ((cI .i64).all r.1)] := by
  refine X_enter Tryd.func21 rfl Tryd.ntmps21 rfl ?_
  intro a K
  have M := Mem.start w0
  have K : Kn a 70 [(0, .string (bs d)), (1, I o), (2, I p2)] := K
  unfold D_bits_Unpack at h
  refine wp_seq (X_reg ?_)
  refine X_o K M ?_; clear K
  refine Y_o M ?_; intro a K
  refine wpList_nil (then_n (wp_seq (wp_seq (X_reg ?_))))
  refine X_o K M ?_; clear K; intro a K
  obtain ⟨r2, h_r2, h⟩ := obind h
  refine X_a K (ac_call (vs := [I o]) (cap := []) rfl fok35 K rfl rfl (W_bits_depths N o _  r2 h_r2)) ?_
  have M0 := M; clear K M; rintro _ a w ⟨rfl, M⟩ K
  replace M := M0.call M; clear M0
  refine X_o K M ?_; clear K
  refine Y_o M ?_; intro a K
  rcases Bool.eq_false_or_eq_true (!(r2)) with hb | hb
  · have h := ctrue hb h
    have K := K.reb (s := 15) rfl hb
    refine X_o K M ?_; clear K
    iterate 2 (refine Y_o M ?_)
    intro a K
    refine wpList_nil (then_n ?_)
    refine X_condT K rfl ?_
    refine wp_seq (X_reg ?_)
    refine X_o K M ?_; clear K
    refine Y_o M ?_; intro a K
    refine wpList_nil (then_n (wp_ret (then_r ?_)))
    cases h
    exact ret2 K rfl (res_tmp K rfl) (res_tmp K rfl) ⟨_, rfl, _, _, rfl, (((Mem.nilrow 3 1 (cI .i64) M)).pick [0] (by decide))⟩
  have h := cfalse hb h
  have K := K.reb (s := 15) rfl hb
  refine X_o K M ?_; clear K
  iterate 2 (refine Y_o M ?_)
  intro a K
  refine wpList_nil (then_n ?_)
  refine X_cond K rfl (fun hb => ?_) (fun hb => ?_)
  · have h := ctrue hb h
    refine wp_seq (X_reg ?_)
    refine X_o K M ?_; clear K
    refine Y_o M ?_; intro a K
    refine wpList_nil (then_n (wp_ret (then_r ?_)))
    cases h
    exact ret2 K rfl (res_tmp K rfl) (res_tmp K rfl) ⟨_, rfl, _, _, rfl, (((Mem.nilrow 3 1 (cI .i64) M)).pick [0] (by decide))⟩
  have h := cfalse hb h
  refine wp_skip (then_n (wp_seq (wp_seq (X_reg ?_))))
  refine X_o K M ?_; clear K
  refine Y_o M ?_; intro a K
  refine wpList_nil (then_n ?_)
  refine X_cond K rfl (fun hb => ?_) (fun hb => ?_)
  · have h := ctrue hb h
    refine wp_seq (X_reg ?_)
    refine X_o K M ?_; clear K
    refine Y_o M ?_; intro a K
    refine wpList_nil (then_n (wp_ret (then_r ?_)))
    cases h
    exact ret2 K rfl (res_tmp K rfl) (res_tmp K rfl) ⟨_, rfl, _, _, rfl, (((Mem.nilrow 3 1 (cI .i64) M)).pick [0] (by decide))⟩
  have h := cfalse hb h
  refine wp_skip (then_n (wp_seq (wp_seq (X_reg ?_))))
  refine X_o K M ?_; clear K
  refine Y_r (fun _ K => rd_lenT rfl st9 K rfl) M ?_
  iterate 4 (refine Y_o M ?_)
  refine Y_r (fun _ K => rd_quo rfl K rfl rfl (by decide)) M ?_
  refine Y_o M ?_; intro a K
  refine wpList_nil (then_n ?_)
  refine X_cond K rfl (fun hb => ?_) (fun hb => ?_)
  · have h := ctrue hb h
    refine wp_seq (X_reg ?_)
    refine X_o K M ?_; clear K
    refine Y_o M ?_; intro a K
    refine wpList_nil (then_n (wp_ret (then_r ?_)))
    cases h
    exact ret2 K rfl (res_tmp K rfl) (res_tmp K rfl) ⟨_, rfl, _, _, rfl, (((Mem.nilrow 3 1 (cI .i64) M)).pick [0] (by decide))⟩
  have h := cfalse hb h
  refine wp_skip (then_n (wp_seq (X_reg ?_)))
  refine X_o K M ?_; clear K; intro a K
  refine wpList_nil (then_n (wp_seq (X_reg ?_)))
  refine X_o K M ?_; clear K
  refine Y_o M ?_; intro a K
  refine wpList_nil (then_n (wp_seq (wp_seq (X_reg ?_))))
  refine X_o K M ?_; clear K
  refine Y_r (fun _ K => rd_lenT rfl st9 K rfl) M ?_
  refine Y_o M ?_; intro a K
  refine wpList_nil (then_n (wp_block ?_))
  replace M := Mem.nilrow 3 1 (cI .i64) M
  refine X_lp (id := 0) (Rel := fun (⟨l5, i3, i4, i5⟩ : List Int × Int × Int × Int) a w => ∃ (A4 : Option Addr) (c4 : Nat), Kn a 70 [(0, .string (bs d)), (1, I o), (2, I p2), (8, .slice A4 l5.length c4), (9, I i3), (10, I i4), (30, I (d.length : Int)), (31, I i5)] ∧ Mem w0.heap.size w0 w [.row 3 1 A4 l5.length c4 ((cI .i64).all l5)]) h (fun _ _ => rfl) ⟨none, 0, K.pick [0,1,2,8,9,10,30,31], M.pick [0] (by decide)⟩ ?_ ?_
  · clear K M h
    rintro ⟨l12, i12, i13, i14⟩ a w ⟨A11, c11, K, M⟩ h
    try dsimp only at h
    refine inb_e ?_
    refine then_n (wp_seq (wp_seq (X_reg ?_)))
    refine X_o K M ?_; clear K
    refine Y_o M ?_; intro a K
    refine wpList_nil (then_n ?_)
    refine X_cond K rfl (fun hb => ?_) (fun hb => ?_)
    · have h := ctrue hb h
      refine wp_seq (X_reg ?_)
      refine X_o K M ?_; clear K
      refine Y_o M ?_; intro a K
      refine wpList_nil (then_n (wp_ret (then_r ?_)))
      cases h
      exact ret2 K rfl (res_tmp K rfl) (res_tmp K rfl) ⟨_, rfl, _, _, rfl, (((Mem.nilrow 3 1 (cI .i64) M)).pick [0] (by decide))⟩
    have h := cfalse hb h
    refine wp_skip (then_n (wp_seq (X_reg ?_)))
    refine X_o K M ?_; clear K
    iterate 2 (refine Y_o M ?_)
    intro a K
    refine wpList_nil (then_n (wp_ret ?_))
    cases h
    exact ret2 K rfl (res_tmp K rfl) (res_tmp K rfl) ⟨_, rfl, _, _, rfl, ((M).pick [0] (by decide))⟩
  clear K M h
  rintro kk fuel ⟨l5, i3, i4, i5⟩ a w hk1 ⟨A4, c4, K, M⟩ h
  unfold D_bits_Unpack_l1 at h
  refine wp_seq (X_reg ?_)
  refine X_o K M ?_; clear K; intro a K
  refine wpList_nil (then_n (wp_seq ?_))
  refine X_cond K rfl (fun hb => ?_) (fun hb => ?_)
  · have h := ctrue hb h
    refine wp_skip (then_n (wp_seq (wp_block (wp_seq (X_reg ?_)))))
    refine X_o K M ?_; clear K
    refine Y_o M ?_; intro a K
    refine wpList_nil (then_n (wp_seq (X_reg ?_)))
    refine X_o K M ?_; clear K
    refine Y_r (fun _ K => rd_shl rfl K rfl rfl (by decide)) M ?_
    iterate 2 (refine Y_o M ?_)
    obtain ⟨b3, h_b3, h⟩ := obind h
    refine Y_r (fun _ K => rd_ixT rfl st9 K rfl rfl h_b3) M ?_
    refine Y_r (fun _ K => rd_conv rfl rfl ik3 K rfl) M ?_
    refine Y_r (fun _ K => rd_or rfl K rfl rfl) M ?_
    iterate 2 (refine Y_o M ?_)
    obtain ⟨x12, hx, h⟩ := olet h
    refine Y_r (fun _ K => rdi hx (rd_assign rfl K rfl)) M ?_
    obtain ⟨x13, hx, h⟩ := olet h
    refine Y_r (fun _ K => rdi hx (rd_assign rfl K rfl)) M ?_; intro a K
    refine wpList_nil (then_n (wp_block ?_))
    refine X_lp (id := 2) (Rel := fun (⟨l8, i8, i9⟩ : List Int × Int × Int) a w => ∃ (A7 : Option Addr) (c7 : Nat), Kn a 70 [(0, .string (bs d)), (1, I o), (2, I p2), (8, .slice A7 l8.length c7), (9, I i8), (10, I i9), (30, I (d.length : Int)), (31, I i5)] ∧ Mem w0.heap.size w0 w [.row 3 1 A7 l8.length c7 ((cI .i64).all l8)]) h (fun _ _ => rfl) ⟨A4, c4, K.pick [0,1,2,8,9,10,30,31], M.pick [0] (by decide)⟩ ?_ ?_
    · clear K M h
      rintro ⟨l11, i10, i11⟩ a w ⟨A10, c10, K, M⟩ h
      try dsimp only at h
      refine inb_e ?_
      refine inb_n (then_n (X_reg ?_))
      refine X_o K M ?_; clear K
      refine Y_o M ?_; intro a K
      refine wpList_nil ?_
      exact then_n ⟨(l11, i10, i11, IntKind.i64.wrap (i5 + 1)), ⟨A10, c10, K.pick [0,1,2,8,9,10,30,31], M.pick [0] (by decide)⟩, h⟩
    clear K M h
    rintro kk fuel ⟨l8, i8, i9⟩ a w hk2 ⟨A7, c7, K, M⟩ h
    unfold D_bits_Unpack_l2 at h
    refine wp_seq (wp_seq (X_reg ?_))
    refine X_o K M ?_; clear K
    iterate 3 (refine Y_o M ?_)
    intro a K
    rcases Bool.eq_false_or_eq_true (decide (o ≤ i9)) with hb | hb
    · have h := ctrue hb h
      have K := K.reb (s := 46) rfl hb
      refine X_o K M ?_; clear K
      refine Y_r (fun _ K => rd_len rfl un35 K rfl) M ?_
      iterate 3 (refine Y_o M ?_)
      intro a K
      refine wpList_nil (then_n ?_)
      refine X_cond K rfl (fun hb => ?_) (fun hb => ?_)
      · have h := ctrue hb h
        refine wp_skip (then_n (wp_block (wp_seq (X_reg ?_))))
        refine X_o K M ?_; clear K
        iterate 2 (refine Y_o M ?_)
        obtain ⟨x16, hx, h⟩ := olet h
        refine Y_r (fun _ K => rdi hx (rd_assign rfl K rfl)) M ?_; intro a K
        refine wpList_nil (then_n (wp_seq (X_reg ?_)))
        refine X_o K M ?_; clear K
        iterate 2 (refine Y_o M ?_)
        intro a K
        obtain ⟨_, h0, h⟩ := obind h
        have h0 := nn_spec h0
        refine X_r K (rd_shr rfl K rfl rfl h0) M ?_; clear K; intro a K
        refine X_a K (ac_bslice rfl sl35 z3 K (vs := [(0, I (shrI .i64 i8 x16))]) (cs := [I (shrI .i64 i8 x16)]) rfl (by kernel_rfl) rfl rfl M) ?_
        have M0 := M; clear K M; rintro _ a w ⟨gs5, rfl, M⟩ K
        replace M := M.asRow 0 rfl (cI .i64) ([shrI .i64 i8 x16] : List Int) (n := 1) rfl rfl rfl
        clear M0
        obtain ⟨l10, h_l10, h⟩ := obind h
        refine X_a K (ac_app (C := (cI .i64)) (xs := l8) (ys := ([shrI .i64 i8 x16] : List Int)) rfl sl35 rfl z3 rfl rfl K rfl rfl 1 M rfl ((inR (C := (cI .i64)) 0 rfl rfl) _ M) h_l10) ?_
        clear K M; rintro _ a w ⟨A9, c9, rfl, M⟩ K
        refine X_o K M ?_; clear K; intro a K
        refine wpList_nil (then_n (X_reg ?_))
        refine X_o K M ?_; clear K
        refine Y_o M ?_; intro a K
        obtain ⟨_, h0, h⟩ := obind h
        have h0 := nn_spec h0
        refine X_r K (rd_shl rfl K rfl rfl h0) M ?_; clear K
        iterate 2 (refine Y_o M ?_)
        obtain ⟨x17, hx, h⟩ := olet h
        refine Y_r (fun _ K => rdi hx (rd_assign rfl K rfl)) M ?_; intro a K
        refine wpList_nil (inb_n ?_)
        exact then_n ⟨(l10, x17, x16), ⟨A9, c9, K.pick [0,1,2,8,9,10,30,31], M.pick [1] (by decide)⟩, h⟩
      have h := cfalse hb h
      refine wp_exit ?_
      refine then_e ?_
      exact then_e (hk2 (l8, i8, i9) _ _ ⟨A7, c7, K.pick [0,1,2,8,9,10,30,31], M.pick [0] (by decide)⟩ h)
    have h := cfalse hb h
    have K := K.reb (s := 46) rfl hb
    refine X_o K M ?_; clear K
    iterate 4 (refine Y_o M ?_)
    intro a K
    refine wpList_nil (then_n ?_)
    refine X_condF K rfl ?_
    refine wp_exit ?_
    refine then_e ?_
    exact then_e (hk2 (l8, i8, i9) _ _ ⟨A7, c7, K.pick [0,1,2,8,9,10,30,31], M.pick [0] (by decide)⟩ h)
  have h := cfalse hb h
  refine wp_exit ?_
  refine then_e ?_
  exact then_e (hk1 (l5, i3, i4, i5) _ _ ⟨A4, c4, K.pick [0,1,2,8,9,10,30,31], M.pick [0] (by decide)⟩ h)
set_option maxRecDepth 100000 in
set_option maxHeartbeats 4000000 in
theorem W_bits_all (N : Nat) (b : List UInt8) (w0 : World)  (r : Bool) (h : D_bits_all N b = some r) :
    Calls Tryd.prog 30 #[.string (bs b)] w0 fun e w' => ∃ v, e = .returned v ∧ v = .bool r ∧ Mem w0.heap.size w0 w' [] := by
  refine X_enter Tryd.func30 rfl Tryd.ntmps30 rfl ?_
  intro a K
  have M := Mem.start w0
  have K : Kn a 16 [(0, .string (bs b))] := K
  unfold D_bits_all at h
  refine wp_seq (X_reg ?_)
  refine X_o K M ?_; clear K; intro a K
  refine wpList_nil (then_n (wp_seq (X_reg ?_)))
  refine X_o K M ?_; clear K; intro a K
  obtain ⟨r2, h_r2, h⟩ := obind h
  refine X_a K (ac_call (vs := [.string (bs b), .string (bs ([48, 49] : List UInt8))]) (cap := []) rfl fok42 K rfl rfl (W_strings_Trim N b ([48, 49] : List UInt8) _  r2 h_r2)) ?_
  have M0 := M; clear K M; rintro _ a w ⟨rfl, M⟩ K
  replace M := M0.call M; clear M0
  refine X_r K (rd_eqlS rfl K rfl rfl) M ?_; clear K
  refine Y_o M ?_; intro a K
  rcases Bool.eq_false_or_eq_true (decide (r2 = ([] : List UInt8))) with hb | hb
  · have h := ctrue hb h
    have K := K.reb (s := 6) rfl hb
    refine X_o K M ?_; clear K; intro a K
    obtain ⟨r3, h_r3, h⟩ := obind h
    refine X_a K (ac_call (vs := [.string (bs b), .string (bs ([48] : List UInt8))]) (cap := []) rfl fok43 K rfl rfl (W_strings_Count N b ([48] : List UInt8) _  r3 h_r3)) ?_
    have M0 := M; clear K M; rintro _ a w ⟨rfl, M⟩ K
    replace M := M0.call M; clear M0
    refine X_o K M ?_; clear K; intro a K
    obtain ⟨r4, h_r4, h⟩ := obind h
    refine X_a K (ac_call (vs := [.string (bs b), .string (bs ([49] : List UInt8))]) (cap := []) rfl fok43 K rfl rfl (W_strings_Count N b ([49] : List UInt8) _  r4 h_r4)) ?_
    have M0 := M; clear K M; rintro _ a w ⟨rfl, M⟩ K
    replace M := M0.call M; clear M0
    refine X_o K M ?_; clear K
    refine Y_o M ?_
    refine Y_r (fun _ K => rd_lenT rfl st9 K rfl) M ?_
    iterate 3 (refine Y_o M ?_)
    intro a K
    refine wpList_nil (then_n (wp_ret ?_))
    cases h
    exact ret1 K rfl (res_tmp K rfl) ⟨_, rfl, rfl, ((M).pick [] (by decide))⟩
  have h := cfalse hb h
  have K := K.reb (s := 6) rfl hb
  refine X_o K M ?_; clear K
  iterate 9 (refine Y_o M ?_)
  intro a K
  refine wpList_nil (then_n (wp_ret ?_))
  cases h
  exact ret1 K rfl (res_tmp K rfl) ⟨_, rfl, rfl, ((M).pick [] (by decide))⟩
set_option maxRecDepth 100000 in
set_option maxHeartbeats 4000000 in
theorem W_bits_Bytes (N : Nat) (b : List UInt8) (w0 : World)  (r : List UInt8 × Int) (h : D_bits_Bytes N b = some r) :
    Calls Tryd.prog 7 #[.string (bs b)] w0 fun e w' => ∃ v, e = .returned v ∧ v = .tuple #[.string (bs r.1), I r.2] ∧ Mem w0.heap.size w0 w' [] := by
  refine X_enter Tryd.func7 rfl Tryd.ntmps7 rfl ?_
  intro a K
  have M := Mem.start w0
  have K : Kn a 37 [(0, .string (bs b))] := K
  unfold D_bits_Bytes at h
  refine wp_seq (X_reg ?_)
  refine X_o K M ?_; clear K
  refine Y_o M ?_; intro a K
  refine wpList_nil (then_n (wp_seq (wp_seq (X_reg ?_))))
  refine X_o K M ?_; clear K; intro a K
  obtain ⟨r2, h_r2, h⟩ := obind h
  refine X_a K (ac_call (vs := [.string (bs b)]) (cap := []) rfl fok30 K rfl rfl (W_bits_all N b _  r2 h_r2)) ?_
  have M0 := M; clear K M; rintro _ a w ⟨rfl, M⟩ K
  replace M := M0.call M; clear M0
  refine X_o K M ?_; clear K; intro a K
  refine wpList_nil (then_n ?_)
  refine X_cond K rfl (fun hb => ?_) (fun hb => ?_)
  · have h := ctrue hb h
    refine wp_seq (X_reg ?_)
    refine X_o K M ?_; clear K
    refine Y_o M ?_; intro a K
    refine wpList_nil (then_n (wp_ret (then_r ?_)))
    cases h
    exact ret2 K rfl (res_tmp K rfl) (res_tmp K rfl) ⟨_, rfl, rfl, ((M).pick [] (by decide))⟩
  have h := cfalse hb h
  refine wp_skip (then_n (wp_seq (X_reg ?_)))
  refine X_o K M ?_; clear K
  refine Y_r (fun _ K => rd_lenT rfl st9 K rfl) M ?_
  refine Y_o M ?_
  obtain ⟨x2, hx, h⟩ := olet h
  refine Y_r (fun _ K => rdi hx (rd_quo rfl K rfl rfl (by decide))) M ?_; intro a K
  obtain ⟨l2, h_l2, h⟩ := obind h
  refine X_a K (ac_make (C := (cI .u8)) (z := 0) rfl sl50 rfl z5 rfl K rfl rfl M h_l2) ?_
  clear K M; rintro _ a w ⟨A, c, rfl, M⟩ K
  refine X_o K M ?_; clear K; intro a K
  refine wpList_nil (then_n (wp_seq (wp_seq (X_reg ?_))))
  refine X_o K M ?_; clear K
  refine Y_r (fun _ K => rd_lenT rfl st9 K rfl) M ?_
  refine Y_o M ?_; intro a K
  refine wpList_nil (then_n (wp_block ?_))
  refine X_lp (id := 0) (Rel := fun (⟨l3, i⟩ : List Int × Int) a w => ∃ (A2 : Option Addr) (c2 : Nat), Kn a 37 [(0, .string (bs b)), (4, .slice A2 l3.length c2), (15, I (b.length : Int)), (16, I i)] ∧ Mem w0.heap.size w0 w [.row 5 1 A2 l3.length c2 ((cI .u8).all l3)]) h (fun _ _ => rfl) ⟨A, c, K.pick [0,4,15,16], M.pick [0] (by decide)⟩ ?_ ?_
  · clear K M h
    rintro ⟨l6, i2⟩ a w ⟨A3, c3, K, M⟩ h
    try dsimp only at h
    refine inb_e ?_
    refine then_n (wp_seq (X_reg ?_))
    refine X_o K M ?_; clear K
    refine Y_r (fun _ K => rd_convBS rfl sl50 ik5 st9 K rfl (inR (C := (cI .u8)) 0 rfl rfl)) M ?_
    iterate 2 (refine Y_o M ?_)
    intro a K
    refine wpList_nil (then_n (wp_ret ?_))
    cases h
    exact ret2 K rfl (res_tmp K rfl) (res_tmp K rfl) ⟨_, rfl, rfl, ((M).pick [] (by decide))⟩
  clear K M h
  rintro kk fuel ⟨l3, i⟩ a w hk1 ⟨A2, c2, K, M⟩ h
  unfold D_bits_Bytes_l1 at h
  refine wp_seq (X_reg ?_)
  refine X_o K M ?_; clear K; intro a K
  refine wpList_nil (then_n (wp_seq ?_))
  refine X_cond K rfl (fun hb => ?_) (fun hb => ?_)
  · have h := ctrue hb h
    refine wp_skip (then_n (wp_seq (wp_block (wp_seq (X_reg ?_)))))
    refine X_o K M ?_; clear K
    refine Y_o M ?_; intro a K
    refine wpList_nil (then_n ?_)
    refine wp_region_tl (fun w => Mem _ _ w _) [0,0,0,0,0,0,0,0,0,0,0,0,0,0,0,2] (by kernel_rfl) (by kernel_rfl) M.drew ?_
    replace M := M.drew
    refine T_o K ?_; clear K
    refine U_o ?_
    obtain ⟨x4, hx, h⟩ := olet h
    refine U_r (fun _ K => rdi hx (rd_quo rfl K rfl rfl (by decide))) ?_
    obtain ⟨e3, h_e3, h⟩ := obind h
    refine U_r (fun _ K => rd_ix rfl sl50 K rfl rfl (inR (C := (cI .u8)) 0 rfl rfl) h_e3) ?_
    refine U_r (fun _ K => rd_elC rfl sc5 K rfl rfl (inR (C := (cI .u8)) 0 rfl rfl) h_e3 rfl) ?_
    iterate 2 (refine U_o ?_)
    obtain ⟨b3, h_b3, h⟩ := obind h
    refine U_r (fun _ K => rd_ixT rfl st9 K rfl rfl h_b3) ?_
    iterate 2 (refine U_o ?_)
    refine U_r (fun _ K => rd_rem rfl K rfl rfl (by decide)) ?_
    refine U_o ?_; intro a K
    obtain ⟨_, h0, h⟩ := obind h
    have h0 := nn_spec h0
    refine T_r K (rd_shl rfl K rfl rfl h0) ?_; clear K
    refine U_r (fun _ K => rd_or rfl K rfl rfl) ?_
    obtain ⟨e4, h_e4, h⟩ := obind h
    refine U_r (fun _ K => rd_ix rfl sl50 K rfl rfl (inR (C := (cI .u8)) 0 rfl rfl) h_e4) ?_; intro a K
    obtain ⟨l5, h_l5, h⟩ := obind h
    refine T_b K (ac_rowset (el := orI .u8 e3 (shlI .u8 (IntKind.u8.wrap ((b3.toNat : Int) - 48)) (IntKind.i64.wrap (7 - (Int.tmod i 8))))) rfl sz5 rfl rfl K rfl rfl rfl 0 M rfl h_l5) ?_
    have M0 := M; clear K M; rintro _ a w M K
    have hl := setL_len h_l5
    try rw [hl] at M
    try rw [hl] at K
    clear hl
    clear M0
    refine T_end ?_
    refine inb_n (then_n (X_reg ?_))
    refine X_o K M ?_; clear K
    refine Y_o M ?_; intro a K
    refine wpList_nil ?_
    exact then_n ⟨(l5, IntKind.i64.wrap (i + 1)), ⟨A2, c2, K.pick [0,4,15,16], M.pick [0] (by decide)⟩, h⟩
  have h := cfalse hb h
  refine wp_exit ?_
  refine then_e ?_
  exact then_e (hk1 (l3, i) _ _ ⟨A2, c2, K.pick [0,4,15,16], M.pick [0] (by decide)⟩ h)
set_option maxRecDepth 100000 in
set_option maxHeartbeats 4000000 in
theorem W_bits_Value (N : Nat) (b : List UInt8) (w0 : World)  (r : Int × Int) (h : D_bits_Value N b = some r) :
    Calls Tryd.prog 11 #[.string (bs b)] w0 fun e w' => ∃ v, e = .returned v ∧ v = .tuple #[I r.1, I r.2] ∧ Mem w0.heap.size w0 w' [] := by
  refine X_enter Tryd.func11 rfl Tryd.ntmps11 rfl ?_
  intro a K
  have M := Mem.start w0
  have K : Kn a 27 [(0, .string (bs b))] := K
  unfold D_bits_Value at h
  refine wp_seq (X_reg ?_)
  refine X_o K M ?_; clear K
  refine Y_o M ?_; intro a K
  refine wpList_nil (then_n (wp_seq (wp_seq (X_reg ?_))))
  refine X_o K M ?_; clear K; intro a K
  obtain ⟨r2, h_r2, h⟩ := obind h
  refine X_a K (ac_call (vs := [.string (bs b)]) (cap := []) rfl fok30 K rfl rfl (W_bits_all N b _  r2 h_r2)) ?_
  have M0 := M; clear K M; rintro _ a w ⟨rfl, M⟩ K
  replace M := M0.call M; clear M0
  refine X_o K M ?_; clear K; intro a K
  refine wpList_nil (then_n ?_)
  refine X_cond K rfl (fun hb => ?_) (fun hb => ?_)
  · have h := ctrue hb h
    refine wp_seq (X_reg ?_)
    refine X_o K M ?_; clear K
    refine Y_o M ?_; intro a K
    refine wpList_nil (then_n (wp_ret (then_r ?_)))
    cases h
    exact ret2 K rfl (res_tmp K rfl) (res_tmp K rfl) ⟨_, rfl, rfl, ((M).pick [] (by decide))⟩
  have h := cfalse hb h
  refine wp_skip (then_n (wp_seq (wp_seq (X_reg ?_))))
  refine X_o K M ?_; clear K
  refine Y_r (fun _ K => rd_lenT rfl st9 K rfl) M ?_
  refine Y_o M ?_; intro a K
  refine wpList_nil (then_n ?_)
  refine X_cond K rfl (fun hb => ?_) (fun hb => ?_)
  · have h := ctrue hb h
    refine wp_seq (X_reg ?_)
    refine X_o K M ?_; clear K
    refine Y_o M ?_; intro a K
    refine wpList_nil (then_n (wp_ret (then_r ?_)))
    cases h
    exact ret2 K rfl (res_tmp K rfl) (res_tmp K rfl) ⟨_, rfl, rfl, ((M).pick [] (by decide))⟩
  have h := cfalse hb h
  refine wp_skip (then_n (wp_seq (X_reg ?_)))
  refine X_o K M ?_; clear K; intro a K
  refine wpList_nil (then_n (wp_seq (wp_seq (X_reg ?_))))
  refine X_o K M ?_; clear K
  refine Y_r (fun _ K => rd_lenT rfl st9 K rfl) M ?_
  refine Y_o M ?_; intro a K
  refine wpList_nil (then_n (wp_block ?_))
  refine X_lp (id := 0) (Rel := fun (⟨n, i⟩ : Int × Int) a w => Kn a 27 [(0, .string (bs b)), (4, I n), (13, I (b.length : Int)), (14, I i)] ∧ Mem w0.heap.size w0 w []) h (fun _ _ => rfl) ⟨K.pick [0,4,13,14], M.pick [] (by decide)⟩ ?_ ?_
  · clear K M h
    rintro ⟨n4, i2⟩ a w ⟨K, M⟩ h
    try dsimp only at h
    refine inb_e ?_
    refine then_n (wp_seq (X_reg ?_))
    refine X_o K M ?_; clear K
    iterate 2 (refine Y_o M ?_)
    intro a K
    refine wpList_nil (then_n (wp_ret ?_))
    cases h
    exact ret2 K rfl (res_tmp K rfl) (res_tmp K rfl) ⟨_, rfl, rfl, ((M).pick [] (by decide))⟩
  clear K M h
  rintro kk fuel ⟨n, i⟩ a w hk1 ⟨K, M⟩ h
  unfold D_bits_Value_l1 at h
  refine wp_seq (X_reg ?_)
  refine X_o K M ?_; clear K; intro a K
  refine wpList_nil (then_n (wp_seq ?_))
  refine X_cond K rfl (fun hb => ?_) (fun hb => ?_)
  · have h := ctrue hb h
    refine wp_skip (then_n (wp_seq (wp_block (wp_seq (X_reg ?_)))))
    refine X_o K M ?_; clear K
    refine Y_o M ?_; intro a K
    refine wpList_nil (then_n (X_reg ?_))
    refine X_o K M ?_; clear K
    refine Y_r (fun _ K => rd_shl rfl K rfl rfl (by decide)) M ?_
    iterate 2 (refine Y_o M ?_)
    obtain ⟨b3, h_b3, h⟩ := obind h
    refine Y_r (fun _ K => rd_ixT rfl st9 K rfl rfl h_b3) M ?_
    refine Y_o M ?_
    refine Y_r (fun _ K => rd_conv rfl rfl ik3 K rfl) M ?_
    refine Y_o M ?_
    obtain ⟨n3, hx, h⟩ := olet h
    refine Y_r (fun _ K => rdi hx (rd_assign rfl K rfl)) M ?_; intro a K
    refine wpList_nil (inb_n (then_n (X_reg ?_)))
    refine X_o K M ?_; clear K
    refine Y_o M ?_; intro a K
    refine wpList_nil ?_
    exact then_n ⟨(n3, IntKind.i64.wrap (i + 1)), ⟨K.pick [0,4,13,14], M.pick [] (by decide)⟩, h⟩
  have h := cfalse hb h
  refine wp_exit ?_
  refine then_e ?_
  exact then_e (hk1 (n, i) _ _ ⟨K.pick [0,4,13,14], M.pick [] (by decide)⟩ h)
set_option maxRecDepth 100000 in
set_option maxHeartbeats 4000000 in
theorem W_bits_digits (N : Nat) (n : Int) (size : Int) (w0 : World)  (r : List UInt8) (h : D_bits_digits N n size = some r) :
    Calls Tryd.prog 31 #[I n, I size] w0 fun e w' => ∃ v, e = .returned v ∧ v = .string (bs r) ∧ Mem w0.heap.size w0 w' [] := by
  refine X_enter Tryd.func31 rfl Tryd.ntmps31 rfl ?_
  intro a K
  have M := Mem.start w0
  have K : Kn a 28 [(0, I n), (1, I size)] := K
  unfold D_bits_digits at h
  refine wp_seq (X_reg ?_)
  refine X_o K M ?_; clear K; intro a K
  refine wpList_nil (then_n (wp_seq (X_reg ?_)))
  refine X_o K M ?_; clear K; intro a K
  obtain ⟨l2, h_l2, h⟩ := obind h
  refine X_a K (ac_make (C := (cI .u8)) (z := 0) rfl sl50 rfl z5 rfl K rfl rfl M h_l2) ?_
  clear K M; rintro _ a w ⟨A, c, rfl, M⟩ K
  refine X_o K M ?_; clear K; intro a K
  refine wpList_nil (then_n (wp_seq (wp_seq (X_reg ?_))))
  refine X_o K M ?_; clear K
  refine Y_r (fun _ K => rd_len rfl un50 K rfl) M ?_
  refine Y_o M ?_; intro a K
  refine wpList_nil (then_n (wp_block ?_))
  refine X_lp (id := 0) (Rel := fun (⟨l3, i, i2⟩ : List Int × Int × Int) a w => ∃ (A2 : Option Addr) (c2 : Nat), Kn a 28 [(0, I n), (1, I size), (5, .slice A2 l3.length c2), (10, I i), (11, I i2)] ∧ Mem w0.heap.size w0 w [.row 5 1 A2 l3.length c2 ((cI .u8).all l3)]) h (fun _ _ => rfl) ⟨A, c, K.pick [0,1,5,10,11], M.pick [0] (by decide)⟩ ?_ ?_
  · clear K M h
    rintro ⟨l6, i3, i4⟩ a w ⟨A3, c3, K, M⟩ h
    try dsimp only at h
    refine inb_e ?_
    refine then_n (wp_seq (X_reg ?_))
    refine X_o K M ?_; clear K
    refine Y_r (fun _ K => rd_convBS rfl sl50 ik5 st9 K rfl (inR (C := (cI .u8)) 0 rfl rfl)) M ?_
    refine Y_o M ?_; intro a K
    refine wpList_nil (then_n (wp_ret ?_))
    cases h
    exact ret1 K rfl (res_tmp K rfl) ⟨_, rfl, rfl, ((M).pick [] (by decide))⟩
  clear K M h
  rintro kk fuel ⟨l3, i, i2⟩ a w hk1 ⟨A2, c2, K, M⟩ h
  unfold D_bits_digits_l1 at h
  refine wp_seq (X_reg ?_)
  refine X_o K M ?_; clear K; intro a K
  refine wpList_nil (then_n (wp_seq ?_))
  refine X_cond K rfl (fun hb => ?_) (fun hb => ?_)
  · have h := ctrue hb h
    refine wp_skip (then_n (wp_seq (wp_block (wp_seq (X_reg ?_)))))
    refine X_o K M ?_; clear K
    refine Y_o M ?_; intro a K
    refine wpList_nil (then_n (X_reg ?_))
    refine X_o K M ?_; clear K
    iterate 6 (refine Y_o M ?_)
    intro a K
    obtain ⟨_, h0, h⟩ := obind h
    have h0 := nn_spec h0
    refine X_r K (rd_shr rfl K rfl rfl h0) M ?_; clear K
    refine Y_o M ?_
    obtain ⟨b2, h_b2, h⟩ := obind h
    refine Y_r (fun _ K => rd_ixT rfl st9 K rfl rfl h_b2) M ?_
    obtain ⟨e2, h_e2, h⟩ := obind h
    refine Y_r (fun _ K => rd_ix rfl sl50 K rfl rfl (inR (C := (cI .u8)) 0 rfl rfl) h_e2) M ?_; intro a K
    obtain ⟨l5, h_l5, h⟩ := obind h
    refine X_b K (ac_rowset (el := (b2.toNat : Int)) rfl sz5 rfl rfl K rfl rfl rfl 0 M rfl h_l5) ?_
    have M0 := M; clear K M; rintro _ a w M K
    have hl := setL_len h_l5
    try rw [hl] at M
    try rw [hl] at K
    clear hl
    clear M0
    refine wpList_nil (inb_n (then_n (X_reg ?_)))
    refine X_o K M ?_; clear K
    refine Y_o M ?_; intro a K
    refine wpList_nil ?_
    exact then_n ⟨(l5, i, IntKind.i64.wrap (i2 + 1)), ⟨A2, c2, K.pick [0,1,5,10,11], M.pick [0] (by decide)⟩, h⟩
  have h := cfalse hb h
  refine wp_exit ?_
  refine then_e ?_
  exact then_e (hk1 (l3, i, i2) _ _ ⟨A2, c2, K.pick [0,1,5,10,11], M.pick [0] (by decide)⟩ h)
set_option maxRecDepth 100000 in
set_option maxHeartbeats 4000000 in
theorem W_bits_Number (N : Nat) (n : Int) (size : Int) (w0 : World)  (r : List UInt8 × Int) (h : D_bits_Number N n size = some r) :
    Calls Tryd.prog 12 #[I n, I size] w0 fun e w' => ∃ v, e = .returned v ∧ v = .tuple #[.string (bs r.1), I r.2] ∧ Mem w0.heap.size w0 w' [] := by
  refine X_enter Tryd.func12 rfl Tryd.ntmps12 rfl ?_
  intro a K
  have M := Mem.start w0
  have K : Kn a 25 [(0, I n), (1, I size)] := K
  unfold D_bits_Number at h
  refine wp_seq (X_reg ?_)
  refine X_o K M ?_; clear K
  refine Y_o M ?_; intro a K
  refine wpList_nil (then_n (wp_seq (wp_seq (X_reg ?_))))
  refine X_o K M ?_; clear K
  iterate 2 (refine Y_o M ?_)
  intro a K
  rcases Bool.eq_false_or_eq_true (decide (size < 0)) with hb | hb
  · have h := ctrue hb h
    have K := K.reb (s := 8) rfl hb
    refine X_o K M ?_; clear K
    iterate 12 (refine Y_o M ?_)
    intro a K
    refine wpList_nil (then_n ?_)
    refine X_condT K rfl ?_
    refine wp_seq (X_reg ?_)
    refine X_o K M ?_; clear K
    refine Y_o M ?_; intro a K
    refine wpList_nil (then_n (wp_ret (then_r ?_)))
    cases h
    exact ret2 K rfl (res_tmp K rfl) (res_tmp K rfl) ⟨_, rfl, rfl, ((M).pick [] (by decide))⟩
  have h := cfalse hb h
  have K := K.reb (s := 8) rfl hb
  refine X_o K M ?_; clear K
  iterate 3 (refine Y_o M ?_)
  intro a K
  rcases Bool.eq_false_or_eq_true (decide (16 < size)) with hb | hb
  · have h := ctrue hb h
    have K := K.reb (s := 12) rfl hb
    refine X_o K M ?_; clear K
    iterate 8 (refine Y_o M ?_)
    intro a K
    refine wpList_nil (then_n ?_)
    refine X_condT K rfl ?_
    refine wp_seq (X_reg ?_)
    refine X_o K M ?_; clear K
    refine Y_o M ?_; intro a K
    refine wpList_nil (then_n (wp_ret (then_r ?_)))
    cases h
    exact ret2 K rfl (res_tmp K rfl) (res_tmp K rfl) ⟨_, rfl, rfl, ((M).pick [] (by decide))⟩
  have h := cfalse hb h
  have K := K.reb (s := 12) rfl hb
  refine X_o K M ?_; clear K
  iterate 3 (refine Y_o M ?_)
  intro a K
  rcases Bool.eq_false_or_eq_true (decide (n < 0)) with hb | hb
  · have h := ctrue hb h
    have K := K.reb (s := 16) rfl hb
    refine X_o K M ?_; clear K
    iterate 4 (refine Y_o M ?_)
    intro a K
    refine wpList_nil (then_n ?_)
    refine X_condT K rfl ?_
    refine wp_seq (X_reg ?_)
    refine X_o K M ?_; clear K
    refine Y_o M ?_; intro a K
    refine wpList_nil (then_n (wp_ret (then_r ?_)))
    cases h
    exact ret2 K rfl (res_tmp K rfl) (res_tmp K rfl) ⟨_, rfl, rfl, ((M).pick [] (by decide))⟩
  have h := cfalse hb h
  have K := K.reb (s := 16) rfl hb
  refine X_o K M ?_; clear K
  refine Y_o M ?_; intro a K
  obtain ⟨_, h0, h⟩ := obind h
  have h0 := nn_spec h0
  refine X_r K (rd_shl rfl K rfl rfl h0) M ?_; clear K
  iterate 2 (refine Y_o M ?_)
  intro a K
  refine wpList_nil (then_n ?_)
  refine X_cond K rfl (fun hb => ?_) (fun hb => ?_)
  · have h := ctrue hb h
    refine wp_seq (X_reg ?_)
    refine X_o K M ?_; clear K
    refine Y_o M ?_; intro a K
    refine wpList_nil (then_n (wp_ret (then_r ?_)))
    cases h
    exact ret2 K rfl (res_tmp K rfl) (res_tmp K rfl) ⟨_, rfl, rfl, ((M).pick [] (by decide))⟩
  have h := cfalse hb h
  refine wp_skip (then_n (wp_seq (X_reg ?_)))
  refine X_o K M ?_; clear K
  refine Y_o M ?_; intro a K
  obtain ⟨r2, h_r2, h⟩ := obind h
  refine X_a K (ac_call (vs := [I n, I size]) (cap := []) rfl fok31 K rfl rfl (W_bits_digits N n size _  r2 h_r2)) ?_
  have M0 := M; clear K M; rintro _ a w ⟨rfl, M⟩ K
  replace M := M0.call M; clear M0
  refine X_o K M ?_; clear K
  refine Y_o M ?_; intro a K
  refine wpList_nil (then_n (wp_ret ?_))
  cases h
  exact ret2 K rfl (res_tmp K rfl) (res_tmp K rfl) ⟨_, rfl, rfl, ((M).pick [] (by decide))⟩
set_option maxRecDepth 100000 in
set_option maxHeartbeats 4000000 in
theorem W_bits_Bits (N : Nat) (s : List UInt8) (w0 : World) (r : List UInt8) (h : D_bits_Bits N s = some r) :
    Calls Tryd.prog 16 #[.string (bs s)] w0 fun e w' => ∃ v, e = .returned v ∧ v = .string (bs r) ∧ Mem w0.heap.size w0 w' [] := by
  refine X_enter Tryd.func16 rfl Tryd.ntmps16 rfl ?_
  intro a K
  have M := Mem.start w0
  have K : Kn a 18 [(0, .string (bs s))] := K
  unfold D_bits_Bits at h
  refine wp_seq (X_reg ?_)
  refine X_o K M ?_; clear K; intro a K
  refine wpList_nil (then_n (wp_seq (X_reg ?_)))
  refine X_a K (ac_alloc rfl (show zeroT Tryd.prog 55 = some [.pointer none, .slice none 0 0] by kernel_rfl) M) ?_
  clear K M; rintro _ a w ⟨g, rfl, M⟩ K
  have hB := bld_new (e := 5) (M.up 0 _ g rfl rfl) (M.has 0 _ rfl)
  replace M := M.pick [] (by decide)
  refine wpList_nil (then_n (wp_seq (wp_seq (X_reg ?_))))
  refine X_o K M ?_; clear K; intro a K
  refine wpList_nil (then_n (wp_block ?_))
  refine X_lp (id := 0) (Rel := fun (⟨b, i⟩ : List UInt8 × Int) a w => (Kn a 18 [(0, .string (bs s)), (3, .pointer (some ⟨g, 0, none⟩)), (4, I i)] ∧ Mem w0.heap.size w0 w []) ∧ Lib.IsBuilder 55 5 w0.heap.size g (Lib.byteCells b) w) h (fun _ _ => rfl) ⟨⟨K.pick [0,3,4], M.pick [] (by decide)⟩, hB⟩ ?_ ?_
  · clear K M h hB
    rintro ⟨b, i⟩ a w ⟨⟨K, M⟩, hB⟩ h
    try dsimp only at h
    refine inb_e ?_
    refine then_n (wp_seq (X_reg ?_))
    refine X_a K (ac_call (vs := [.pointer (some ⟨g, 0, none⟩)]) (cap := []) rfl fok34 K rfl rfl (W_bld_string hB M.sz)) ?_
    have M0 := M; clear K M; rintro _ a w ⟨rfl, hb⟩ K
    have M := fin_trans M0 rfl hb; clear M0
    refine X_o K M ?_; clear K; intro a K
    refine wpList_nil (then_n (wp_ret ?_))
    cases h
    exact ret1 K rfl (res_tmp K rfl) ⟨_, rfl, rfl, ((M).pick [] (by decide))⟩
  clear K M h hB
  rintro kk fuel ⟨b, i⟩ a w hk1 ⟨⟨K, M⟩, hB⟩ h
  unfold D_bits_Bits_l1 at h
  refine wp_seq (wp_seq (X_reg ?_))
  refine X_o K M ?_; clear K
  refine Y_o M ?_
  refine Y_r (fun _ K => rd_lenT rfl st9 K rfl) M ?_
  refine Y_o M ?_; intro a K
  refine wpList_nil (then_n ?_)
  refine X_cond K rfl (fun hb => ?_) (fun hb => ?_)
  · have h := ctrue hb h
    refine wp_skip (then_n (wp_seq (wp_block (X_reg ?_))))
    refine X_o K M ?_; clear K
    refine Y_o M ?_
    obtain ⟨c, h_c, h⟩ := obind h
    refine Y_r (fun _ K => rd_ixT rfl st9 K rfl rfl h_c) M ?_
    refine Y_r (fun _ K => rd_conv rfl rfl ik3 K rfl) M ?_; intro a K
    obtain ⟨d, h_d, h⟩ := obind h
    refine X_a K (ac_call (vs := [I (IntKind.i64.wrap (c.toNat : Int)), I 8]) (cap := []) rfl fok31 K rfl rfl (W_bits_digits N (IntKind.i64.wrap (c.toNat : Int)) 8 _ d h_d)) ?_
    have M0 := M; clear K M; rintro _ a w ⟨rfl, M⟩ K
    replace hB := bld_keep hB M.low
    replace M := M0.call M; clear M0
    obtain ⟨b2, h_b2, h⟩ := obind h
    refine X_a K (ac_call (vs := [.pointer (some ⟨g, 0, none⟩), .string (bs d)]) (cap := []) rfl fok33 K rfl rfl (W_bld_write hB h_b2 M.sz)) ?_
    have M0 := M; clear K M hB; rintro _ a w ⟨hB, hb2⟩ K
    have M := fin_trans M0 rfl hb2; clear M0
    refine wpList_nil (inb_n (then_n (X_reg ?_)))
    refine X_o K M ?_; clear K
    iterate 2 (refine Y_o M ?_)
    intro a K
    refine wpList_nil ?_
    exact then_n ⟨(b2, IntKind.i64.wrap (i + 1)), ⟨⟨K.pick [0,3,4], M.pick [] (by decide)⟩, hB⟩, h⟩
  have h := cfalse hb h
  refine wp_exit ?_
  refine then_e ?_
  exact then_e (hk1 (b, i) _ _ ⟨⟨K.pick [0,3,4], M.pick [] (by decide)⟩, hB⟩ h)
end Go.Proofs.YtpmnfhifmmfglabDoor

namespace Go.Proofs.YtpmnfhifmmfglabDoor
open Go.RowKit
set_option maxRecDepth 100000 in
set_option maxHeartbeats 4000000 in
theorem W_darkslideref_SameInts (N : Nat) (a2 : List Int) (A_a2 : Option Addr) (c_a2 : Nat) (b : List Int) (A_b : Option Addr) (c_b : Nat) (w0 : World) (R_a2 : SL w0 (cI .i64) A_a2 a2) (C_a2 : a2.length ≤ c_a2) (R_b : SL w0 (cI .i64) A_b b) (C_b : b.length ≤ c_b) (r : Bool) (h : D_darkslideref_SameInts N a2 b = some r) :
    Calls Tryd.prog 23 #[.slice A_a2 a2.length c_a2, .slice A_b b.length c_b] w0 fun e w' => ∃ v, e = .returned v ∧ v = .bool r ∧ Mem w0.heap.size w0 w' [] := by
  refine X_enter Tryd.func23 rfl Tryd.ntmps23 rfl ?_
  intro a K
  have M := Mem.start w0
  have K : Kn a 26 [(0, .slice A_a2 a2.length c_a2), (1, .slice A_b b.length c_b)] := K
  unfold D_darkslideref_SameInts at h
  refine wp_seq (X_reg ?_)
  refine X_o K M ?_; clear K; intro a K
  refine wpList_nil (then_n (wp_seq (wp_seq (X_reg ?_))))
  refine X_o K M ?_; clear K
  refine Y_r (fun _ K => rd_len rfl un35 K rfl) M ?_
  refine Y_o M ?_
  refine Y_r (fun _ K => rd_len rfl un35 K rfl) M ?_
  refine Y_o M ?_; intro a K
  refine wpList_nil (then_n ?_)
  refine X_cond K rfl (fun hb => ?_) (fun hb => ?_)
  · have h := ctrue hb h
    refine wp_seq (X_reg ?_)
    refine X_o K M ?_; clear K; intro a K
    refine wpList_nil (then_n (wp_ret (then_r ?_)))
    cases h
    exact ret1 K rfl (res_tmp K rfl) ⟨_, rfl, rfl, ((M).pick [] (by decide))⟩
  have h := cfalse hb h
  refine wp_skip (then_n (wp_seq (wp_seq (X_reg ?_))))
  refine X_o K M ?_; clear K; intro a K
  refine wpList_nil (then_n (wp_block ?_))
  refine X_lp (id := 0) (Rel := fun (i : Int) a w => Kn a 26 [(0, .slice A_a2 a2.length c_a2), (1, .slice A_b b.length c_b), (5, I i)] ∧ Mem w0.heap.size w0 w []) h (fun _ _ => rfl) ⟨K.pick [0,1,5], M.pick [] (by decide)⟩ ?_ ?_
  · clear K M h
    rintro i4 a w ⟨K, M⟩ h
    try dsimp only at h
    refine inb_e ?_
    refine then_n (wp_seq (X_reg ?_))
    refine X_o K M ?_; clear K; intro a K
    refine wpList_nil (then_n (wp_ret ?_))
    cases h
    exact ret1 K rfl (res_tmp K rfl) ⟨_, rfl, rfl, ((M).pick [] (by decide))⟩
  clear K M h
  rintro kk fuel i a w hk1 ⟨K, M⟩ h
  unfold D_darkslideref_SameInts_l1 at h
  refine wp_seq (wp_seq (X_reg ?_))
  refine X_o K M ?_; clear K
  refine Y_o M ?_
  refine Y_r (fun _ K => rd_len rfl un35 K rfl) M ?_
  refine Y_o M ?_; intro a K
  refine wpList_nil (then_n ?_)
  refine X_cond K rfl (fun hb => ?_) (fun hb => ?_)
  · have h := ctrue hb h
    refine wp_skip (then_n (wp_seq (wp_block (wp_seq ?_))))
    refine wp_region_tl (fun w => Mem _ _ w _) [0,0,0,0,0,0,0,0,0] (by kernel_rfl) (by kernel_rfl) M.drew ?_
    replace M := M.drew
    refine T_o K ?_; clear K
    refine U_o ?_
    obtain ⟨e3, h_e3, h⟩ := obind h
    refine U_r (fun _ K => rd_ix rfl sl35 K rfl rfl (inA R_a2) h_e3) ?_
    refine U_r (fun _ K => rd_elC rfl sc3 K rfl rfl (inA R_a2) h_e3 rfl) ?_
    iterate 2 (refine U_o ?_)
    obtain ⟨e4, h_e4, h⟩ := obind h
    refine U_r (fun _ K => rd_ix rfl sl35 K rfl rfl (inA R_b) h_e4) ?_
    refine U_r (fun _ K => rd_elC rfl sc3 K rfl rfl (inA R_b) h_e4 rfl) ?_
    refine U_o ?_; intro a K
    refine T_end ?_
    refine then_n ?_
    refine X_cond K rfl (fun hb => ?_) (fun hb => ?_)
    · have h := ctrue hb h
      refine wp_seq (X_reg ?_)
      refine X_o K M ?_; clear K; intro a K
      refine wpList_nil (then_n (wp_ret (inb_r (then_r (then_r (inb_r (then_r ?_)))))))
      cases h
      exact ret1 K rfl (res_tmp K rfl) ⟨_, rfl, rfl, ((M).pick [] (by decide))⟩
    have h := cfalse hb h
    refine wp_skip (inb_n (then_n (X_reg ?_)))
    refine X_o K M ?_; clear K
    refine Y_o M ?_
    obtain ⟨i3, hx, h⟩ := olet h
    refine Y_r (fun _ K => rdi hx (rd_assign rfl K rfl)) M ?_; intro a K
    refine wpList_nil ?_
    exact then_n ⟨i3, ⟨K.pick [0,1,5], M.pick [] (by decide)⟩, h⟩
  have h := cfalse hb h
  refine wp_exit ?_
  refine then_e ?_
  exact then_e (hk1 i _ _ ⟨K.pick [0,1,5], M.pick [] (by decide)⟩ h)
end Go.Proofs.YtpmnfhifmmfglabDoor

namespace Go.Proofs.YtpmnfhifmmfglabDoor
open Go.RowKit
set_option maxRecDepth 100000 in
set_option maxHeartbeats 4000000 in
theorem W_darkslidelaw_bitsBegun (N : Nat)  (w0 : World)  (r : Bool) (h : D_darkslidelaw_bitsBegun N  = some r) :
    Calls Tryd.prog 15 #[] w0 fun e w' => ∃ v, e = .returned v ∧ v = .bool r ∧ Mem w0.heap.size w0 w' [] := by
  refine X_enter Tryd.func15 rfl Tryd.ntmps15 rfl ?_
  intro a K
  have M := Mem.start w0
  have K : Kn a 76 [] := K
  unfold D_darkslidelaw_bitsBegun at h
  refine wp_seq (X_reg ?_)
  refine X_o K M ?_; clear K; intro a K
  refine wpList_nil (then_n (wp_seq (X_reg ?_)))
  refine X_a K (ac_bslice rfl sl35 z3 K (vs := [(0, I 1), (1, I 2), (2, I 3)]) (cs := [I 1, I 2, I 3]) rfl (by kernel_rfl) rfl rfl M) ?_
  have M0 := M; clear K M; rintro _ a w ⟨gs, rfl, M⟩ K
  replace M := M.asRow 0 rfl (cI .i64) ([1, 2, 3] : List Int) (n := 3) rfl rfl rfl
  clear M0
  obtain ⟨r2, h_r2, h⟩ := obind h
  refine X_a K (ac_call (vs := [.slice (some ⟨gs, 0, none⟩) ([1, 2, 3] : List Int).length 3, I 3]) (cap := []) rfl fok18 K rfl rfl (W_bits_Pack N ([1, 2, 3] : List Int) (some ⟨gs, 0, none⟩) 3 3 _ ((inR (C := (cI .i64)) 0 rfl rfl) _ M) (M.cap 0 rfl) r2 h_r2)) ?_
  have M0 := M; clear K M; rintro _ a w ⟨rfl, M⟩ K
  replace M := M0.call M; clear M0
  refine X_o K M ?_; clear K
  iterate 4 (refine Y_o M ?_)
  intro a K
  refine wpList_nil (then_n (wp_seq (X_reg ?_)))
  refine X_o K M ?_; clear K; intro a K
  obtain ⟨r3, h_r3, h⟩ := obind h
  refine X_a K (ac_call (vs := [.string (bs r2.1), I 3, I 3]) (cap := []) rfl fok21 K rfl rfl (W_bits_Unpack N r2.1 3 3 _  r3 h_r3)) ?_
  have M0 := M; clear K M; rintro _ a w ⟨A, c, rfl, M⟩ K
  replace M := M0.call M; clear M0
  refine X_o K M ?_; clear K
  iterate 4 (refine Y_o M ?_)
  intro a K
  refine wpList_nil (then_n (wp_seq (X_reg ?_)))
  obtain ⟨r4, h_r4, h⟩ := obind h
  refine X_a K (ac_call (vs := [.string (bs ([48, 49, 49, 48, 48, 48, 48, 49, 48, 49] : List UInt8))]) (cap := []) rfl fok7 K rfl rfl (W_bits_Bytes N ([48, 49, 49, 48, 48, 48, 48, 49, 48, 49] : List UInt8) _  r4 h_r4)) ?_
  have M0 := M; clear K M; rintro _ a w ⟨rfl, M⟩ K
  replace M := M0.call M; clear M0
  refine X_o K M ?_; clear K
  iterate 4 (refine Y_o M ?_)
  intro a K
  refine wpList_nil (then_n (wp_seq (X_reg ?_)))
  obtain ⟨r5, h_r5, h⟩ := obind h
  refine X_a K (ac_call (vs := [.string (bs ([49, 48, 49] : List UInt8))]) (cap := []) rfl fok11 K rfl rfl (W_bits_Value N ([49, 48, 49] : List UInt8) _  r5 h_r5)) ?_
  have M0 := M; clear K M; rintro _ a w ⟨rfl, M⟩ K
  replace M := M0.call M; clear M0
  refine X_o K M ?_; clear K
  iterate 4 (refine Y_o M ?_)
  intro a K
  refine wpList_nil (then_n (wp_seq (X_reg ?_)))
  obtain ⟨r6, h_r6, h⟩ := obind h
  refine X_a K (ac_call (vs := [I 5, I 4]) (cap := []) rfl fok12 K rfl rfl (W_bits_Number N 5 4 _  r6 h_r6)) ?_
  have M0 := M; clear K M; rintro _ a w ⟨rfl, M⟩ K
  replace M := M0.call M; clear M0
  refine X_o K M ?_; clear K
  iterate 4 (refine Y_o M ?_)
  intro a K
  refine wpList_nil (then_n (wp_seq (X_reg ?_)))
  refine X_o K M ?_; clear K
  iterate 2 (refine Y_o M ?_)
  intro a K
  rcases Bool.eq_false_or_eq_true (decide (r2.2 = 0)) with hb | hb
  · have h := ctrue hb h
    have K := K.reb (s := 35) rfl hb
    refine X_o K M ?_; clear K
    iterate 3 (refine Y_o M ?_)
    intro a K
    rcases Bool.eq_false_or_eq_true (decide (r3.2 = 0)) with hb | hb
    · have h := ctrue hb h
      have K := K.reb (s := 39) rfl hb
      refine X_o K M ?_; clear K
      iterate 3 (refine Y_o M ?_)
      intro a K
      rcases Bool.eq_false_or_eq_true (decide (r4.2 = 0)) with hb | hb
      · have h := ctrue hb h
        have K := K.reb (s := 43) rfl hb
        refine X_o K M ?_; clear K
        iterate 3 (refine Y_o M ?_)
        intro a K
        rcases Bool.eq_false_or_eq_true (decide (r5.2 = 0)) with hb | hb
        · have h := ctrue hb h
          have K := K.reb (s := 47) rfl hb
          refine X_o K M ?_; clear K
          iterate 3 (refine Y_o M ?_)
          intro a K
          rcases Bool.eq_false_or_eq_true (decide (r6.2 = 0)) with hb | hb
          · have h := ctrue hb h
            have K := K.reb (s := 51) rfl hb
            refine X_o K M ?_; clear K
            refine Y_r (fun _ K => rd_eqlS rfl K rfl rfl) M ?_
            iterate 2 (refine Y_o M ?_)
            intro a K
            rcases Bool.eq_false_or_eq_true (decide (r2.1 = ([41, 128] : List UInt8))) with hb | hb
            · have h := ctrue hb h
              have K := K.reb (s := 55) rfl hb
              refine X_o K M ?_; clear K; intro a K
              refine X_a K (ac_bslice rfl sl35 z3 K (vs := [(0, I 1), (1, I 2), (2, I 3)]) (cs := [I 1, I 2, I 3]) rfl (by kernel_rfl) rfl rfl M) ?_
              have M0 := M; clear K M; rintro _ a w ⟨gs2, rfl, M⟩ K
              replace M := M.asRow 0 rfl (cI .i64) ([1, 2, 3] : List Int) (n := 3) rfl rfl rfl
              clear M0
              obtain ⟨r7, h_r7, h⟩ := obind h
              refine X_a K (ac_call (vs := [.slice A r3.1.length c, .slice (some ⟨gs2, 0, none⟩) ([1, 2, 3] : List Int).length 3]) (cap := []) rfl fok23 K rfl rfl (W_darkslideref_SameInts N r3.1 A c ([1, 2, 3] : List Int) (some ⟨gs2, 0, none⟩) 3 _ ((inR (C := (cI .i64)) 1 rfl rfl) _ M) (M.cap 1 rfl) ((inR (C := (cI .i64)) 0 rfl rfl) _ M) (M.cap 0 rfl) r7 h_r7)) ?_
              have M0 := M; clear K M; rintro _ a w ⟨rfl, M⟩ K
              replace M := M0.call M; clear M0
              refine X_o K M ?_; clear K
              refine Y_o M ?_; intro a K
              rcases Bool.eq_false_or_eq_true (r7) with hb | hb
              · have h := ctrue hb h
                have K := K.reb (s := 60) rfl hb
                refine X_o K M ?_; clear K
                refine Y_r (fun _ K => rd_eqlS rfl K rfl rfl) M ?_
                iterate 2 (refine Y_o M ?_)
                intro a K
                rcases Bool.eq_false_or_eq_true (decide (r4.1 = ([97, 64] : List UInt8))) with hb | hb
                · have h := ctrue hb h
                  have K := K.reb (s := 64) rfl hb
                  refine X_o K M ?_; clear K
                  iterate 3 (refine Y_o M ?_)
                  intro a K
                  rcases Bool.eq_false_or_eq_true (decide (r5.1 = 5)) with hb | hb
                  · have h := ctrue hb h
                    have K := K.reb (s := 68) rfl hb
                    refine X_o K M ?_; clear K
                    refine Y_r (fun _ K => rd_eqlS rfl K rfl rfl) M ?_
                    iterate 2 (refine Y_o M ?_)
                    intro a K
                    rcases Bool.eq_false_or_eq_true (decide (r6.1 = ([48, 49, 48, 49] : List UInt8))) with hb | hb
                    · have h := ctrue hb h
                      have K := K.reb (s := 72) rfl hb
                      obtain ⟨r8, h_r8, h⟩ := obind h
                      refine X_a K (ac_call (vs := [.string (bs ([97] : List UInt8))]) (cap := []) rfl fok16 K rfl rfl (W_bits_Bits N ([97] : List UInt8) _  r8 h_r8)) ?_
                      have M0 := M; clear K M; rintro _ a w ⟨rfl, M⟩ K
                      replace M := M0.call M; clear M0
                      refine X_r K (rd_eqlS rfl K rfl rfl) M ?_; clear K
                      iterate 2 (refine Y_o M ?_)
                      intro a K
                      refine wpList_nil (then_n (wp_ret ?_))
                      cases h
                      exact ret1 K rfl (res_tmp K rfl) ⟨_, rfl, rfl, ((M).pick [] (by decide))⟩
                    have h := cfalse hb h
                    have K := K.reb (s := 72) rfl hb
                    refine X_o K M ?_; clear K
                    iterate 3 (refine Y_o M ?_)
                    intro a K
                    refine wpList_nil (then_n (wp_ret ?_))
                    cases h
                    exact ret1 K rfl (res_tmp K rfl) ⟨_, rfl, rfl, ((M).pick [] (by decide))⟩
                  have h := cfalse hb h
                  have K := K.reb (s := 68) rfl hb
                  refine X_o K M ?_; clear K
                  iterate 7 (refine Y_o M ?_)
                  intro a K
                  refine wpList_nil (then_n (wp_ret ?_))
                  cases h
                  exact ret1 K rfl (res_tmp K rfl) ⟨_, rfl, rfl, ((M).pick [] (by decide))⟩
                have h := cfalse hb h
                have K := K.reb (s := 64) rfl hb
                refine X_o K M ?_; clear K
                iterate 11 (refine Y_o M ?_)
                intro a K
                refine wpList_nil (then_n (wp_ret ?_))
                cases h
                exact ret1 K rfl (res_tmp K rfl) ⟨_, rfl, rfl, ((M).pick [] (by decide))⟩
              have h := cfalse hb h
              have K := K.reb (s := 60) rfl hb
              refine X_o K M ?_; clear K
              iterate 15 (refine Y_o M ?_)
              intro a K
              refine wpList_nil (then_n (wp_ret ?_))
              cases h
              exact ret1 K rfl (res_tmp K rfl) ⟨_, rfl, rfl, ((M).pick [] (by decide))⟩
            have h := cfalse hb h
            have K := K.reb (s := 55) rfl hb
            refine X_o K M ?_; clear K
            iterate 20 (refine Y_o M ?_)
            intro a K
            refine wpList_nil (then_n (wp_ret ?_))
            cases h
            exact ret1 K rfl (res_tmp K rfl) ⟨_, rfl, rfl, ((M).pick [] (by decide))⟩
          have h := cfalse hb h
          have K := K.reb (s := 51) rfl hb
          refine X_o K M ?_; clear K
          iterate 24 (refine Y_o M ?_)
          intro a K
          refine wpList_nil (then_n (wp_ret ?_))
          cases h
          exact ret1 K rfl (res_tmp K rfl) ⟨_, rfl, rfl, ((M).pick [] (by decide))⟩
        have h := cfalse hb h
        have K := K.reb (s := 47) rfl hb
        refine X_o K M ?_; clear K
        iterate 28 (refine Y_o M ?_)
        intro a K
        refine wpList_nil (then_n (wp_ret ?_))
        cases h
        exact ret1 K rfl (res_tmp K rfl) ⟨_, rfl, rfl, ((M).pick [] (by decide))⟩
      have h := cfalse hb h
      have K := K.reb (s := 43) rfl hb
      refine X_o K M ?_; clear K
      iterate 32 (refine Y_o M ?_)
      intro a K
      refine wpList_nil (then_n (wp_ret ?_))
      cases h
      exact ret1 K rfl (res_tmp K rfl) ⟨_, rfl, rfl, ((M).pick [] (by decide))⟩
    have h := cfalse hb h
    have K := K.reb (s := 39) rfl hb
    refine X_o K M ?_; clear K
    iterate 36 (refine Y_o M ?_)
    intro a K
    refine wpList_nil (then_n (wp_ret ?_))
    cases h
    exact ret1 K rfl (res_tmp K rfl) ⟨_, rfl, rfl, ((M).pick [] (by decide))⟩
  have h := cfalse hb h
  have K := K.reb (s := 35) rfl hb
  refine X_o K M ?_; clear K
  iterate 40 (refine Y_o M ?_)
  intro a K
  refine wpList_nil (then_n (wp_ret ?_))
  cases h
  exact ret1 K rfl (res_tmp K rfl) ⟨_, rfl, rfl, ((M).pick [] (by decide))⟩
end Go.Proofs.YtpmnfhifmmfglabDoor

namespace Go.Proofs.YtpmnfhifmmfglabDoor
open Go.RowKit
set_option maxRecDepth 100000 in
set_option maxHeartbeats 4000000 in
theorem W_darkslidelaw_BitsBack (N : Nat) (d : List Int) (A_d : Option Addr) (c_d : Nat) (o : Int) (p2 : List UInt8) (p3 : Int) (w0 : World) (R_d : SL w0 (cI .i64) A_d d) (C_d : d.length ≤ c_d) (r : Bool) (h : D_darkslidelaw_BitsBack N d o p2 p3 = some r) :
    Calls Tryd.prog 5 #[.slice A_d d.length c_d, I o, .string (bs p2), I p3] w0 fun e w' => ∃ v, e = .returned v ∧ v = .bool r ∧ Mem w0.heap.size w0 w' [] := by
  refine X_enter Tryd.func5 rfl Tryd.ntmps5 rfl ?_
  intro a K
  have M := Mem.start w0
  have K : Kn a 73 [(0, .slice A_d d.length c_d), (1, I o), (2, .string (bs p2)), (3, I p3)] := K
  unfold D_darkslidelaw_BitsBack at h
  refine wp_seq (X_reg ?_)
  refine X_o K M ?_; clear K; intro a K
  refine wpList_nil (then_n (wp_seq (X_reg ?_)))
  refine X_o K M ?_; clear K
  refine Y_o M ?_; intro a K
  obtain ⟨r2, h_r2, h⟩ := obind h
  refine X_a K (ac_call (vs := [.slice A_d d.length c_d, I o]) (cap := []) rfl fok18 K rfl rfl (W_bits_Pack N d A_d c_d o _ ((inA R_d) _ M) C_d r2 h_r2)) ?_
  have M0 := M; clear K M; rintro _ a w ⟨rfl, M⟩ K
  replace M := M0.call M; clear M0
  refine X_o K M ?_; clear K
  iterate 4 (refine Y_o M ?_)
  intro a K
  refine wpList_nil (then_n (wp_seq (wp_seq (X_reg ?_))))
  refine X_o K M ?_; clear K
  refine Y_o M ?_; intro a K
  refine wpList_nil (then_n ?_)
  refine X_cond K rfl (fun hb => ?_) (fun hb => ?_)
  · have h := ctrue hb h
    refine wp_seq (X_reg ?_)
    refine X_o K M ?_; clear K
    iterate 2 (refine Y_o M ?_)
    refine Y_r (fun _ K => rd_len rfl un35 K rfl) M ?_; intro a K
    obtain ⟨r3, h_r3, h⟩ := obind h
    refine X_a K (ac_call (vs := [.string (bs r2.1), I o, I (d.length : Int)]) (cap := []) rfl fok21 K rfl rfl (W_bits_Unpack N r2.1 o (d.length : Int) _  r3 h_r3)) ?_
    have M0 := M; clear K M; rintro _ a w ⟨A, c, rfl, M⟩ K
    replace M := M0.call M; clear M0
    refine X_o K M ?_; clear K
    iterate 4 (refine Y_o M ?_)
    intro a K
    refine wpList_nil (then_n (wp_seq (X_reg ?_)))
    refine X_o K M ?_; clear K
    iterate 2 (refine Y_o M ?_)
    intro a K
    rcases Bool.eq_false_or_eq_true (!decide (r3.2 = 0)) with hb | hb
    · have h := ctrue hb h
      have K := K.reb (s := 35) rfl hb
      refine X_o K M ?_; clear K
      iterate 4 (refine Y_o M ?_)
      intro a K
      refine wpList_nil (then_n ?_)
      refine X_condT K rfl ?_
      refine wp_seq (X_reg ?_)
      refine X_o K M ?_; clear K; intro a K
      refine wpList_nil (then_n (wp_ret (then_r ?_)))
      cases h
      exact ret1 K rfl (res_tmp K rfl) ⟨_, rfl, rfl, ((M).pick [] (by decide))⟩
    have h := cfalse hb h
    have K := K.reb (s := 35) rfl hb
    refine X_o K M ?_; clear K
    refine Y_o M ?_; intro a K
    obtain ⟨r4, h_r4, h⟩ := obind h
    refine X_a K (ac_call (vs := [.slice A r3.1.length c, .slice A_d d.length c_d]) (cap := []) rfl fok23 K rfl rfl (W_darkslideref_SameInts N r3.1 A c d A_d c_d _ ((inR (C := (cI .i64)) 0 rfl rfl) _ M) (M.cap 0 rfl) ((inA R_d) _ M) C_d r4 h_r4)) ?_
    have M0 := M; clear K M; rintro _ a w ⟨rfl, M⟩ K
    replace M := M0.call M; clear M0
    refine X_o K M ?_; clear K
    refine Y_o M ?_; intro a K
    refine wpList_nil (then_n ?_)
    refine X_cond K rfl (fun hb => ?_) (fun hb => ?_)
    · have h := ctrue hb h
      refine wp_seq (X_reg ?_)
      refine X_o K M ?_; clear K; intro a K
      refine wpList_nil (then_n (wp_ret (then_r ?_)))
      cases h
      exact ret1 K rfl (res_tmp K rfl) ⟨_, rfl, rfl, ((M).pick [] (by decide))⟩
    have h := cfalse hb h
    refine wp_skip (then_n (wp_seq (X_reg ?_)))
    refine X_o K M ?_; clear K
    iterate 2 (refine Y_o M ?_)
    intro a K
    obtain ⟨r5, h_r5, h⟩ := obind h
    refine X_a K (ac_call (vs := [.string (bs p2), I o, I p3]) (cap := []) rfl fok21 K rfl rfl (W_bits_Unpack N p2 o p3 _  r5 h_r5)) ?_
    have M0 := M; clear K M; rintro _ a w ⟨A2, c2, rfl, M⟩ K
    replace M := M0.call M; clear M0
    refine X_o K M ?_; clear K
    iterate 4 (refine Y_o M ?_)
    intro a K
    refine wpList_nil (then_n (wp_seq (wp_seq (X_reg ?_))))
    refine X_o K M ?_; clear K
    refine Y_o M ?_; intro a K
    refine wpList_nil (then_n ?_)
    refine X_cond K rfl (fun hb => ?_) (fun hb => ?_)
    · have h := ctrue hb h
      refine wp_seq (X_reg ?_)
      obtain ⟨r6, h_r6, h⟩ := obind h
      refine X_a K (ac_call (vs := []) (cap := []) rfl fok15 K rfl rfl (W_darkslidelaw_bitsBegun N  _  r6 h_r6)) ?_
      have M0 := M; clear K M; rintro _ a w ⟨rfl, M⟩ K
      replace M := M0.call M; clear M0
      refine X_o K M ?_; clear K; intro a K
      refine wpList_nil (then_n (wp_ret (then_r ?_)))
      cases h
      exact ret1 K rfl (res_tmp K rfl) ⟨_, rfl, rfl, ((M).pick [] (by decide))⟩
    have h := cfalse hb h
    refine wp_skip (then_n (wp_seq (X_reg ?_)))
    refine X_o K M ?_; clear K
    refine Y_o M ?_; intro a K
    obtain ⟨r7, h_r7, h⟩ := obind h
    refine X_a K (ac_call (vs := [.slice A2 r5.1.length c2, I o]) (cap := []) rfl fok18 K rfl rfl (W_bits_Pack N r5.1 A2 c2 o _ ((inR (C := (cI .i64)) 0 rfl rfl) _ M) (M.cap 0 rfl) r7 h_r7)) ?_
    have M0 := M; clear K M; rintro _ a w ⟨rfl, M⟩ K
    replace M := M0.call M; clear M0
    refine X_o K M ?_; clear K
    iterate 4 (refine Y_o M ?_)
    intro a K
    refine wpList_nil (then_n (wp_seq (X_reg ?_)))
    obtain ⟨r8, h_r8, h⟩ := obind h
    refine X_a K (ac_call (vs := []) (cap := []) rfl fok15 K rfl rfl (W_darkslidelaw_bitsBegun N  _  r8 h_r8)) ?_
    have M0 := M; clear K M; rintro _ a w ⟨rfl, M⟩ K
    replace M := M0.call M; clear M0
    refine X_o K M ?_; clear K; intro a K
    rcases Bool.eq_false_or_eq_true (r8) with hb | hb
    · have h := ctrue hb h
      have K := K.reb (s := 58) rfl hb
      refine X_o K M ?_; clear K
      iterate 3 (refine Y_o M ?_)
      intro a K
      rcases Bool.eq_false_or_eq_true (decide (r7.2 = 0)) with hb | hb
      · have h := ctrue hb h
        have K := K.reb (s := 62) rfl hb
        refine X_o K M ?_; clear K
        refine Y_o M ?_
        refine Y_r (fun _ K => rd_eqlS rfl K rfl rfl) M ?_
        iterate 2 (refine Y_o M ?_)
        intro a K
        rcases Bool.eq_false_or_eq_true (decide (r7.1 = p2)) with hb | hb
        · have h := ctrue hb h
          have K := K.reb (s := 67) rfl hb
          refine X_o K M ?_; clear K
          refine Y_r (fun _ K => rd_len rfl un35 K rfl) M ?_
          iterate 4 (refine Y_o M ?_)
          intro a K
          refine wpList_nil (then_n (wp_ret ?_))
          cases h
          exact ret1 K rfl (res_tmp K rfl) ⟨_, rfl, rfl, ((M).pick [] (by decide))⟩
        have h := cfalse hb h
        have K := K.reb (s := 67) rfl hb
        refine X_o K M ?_; clear K
        iterate 5 (refine Y_o M ?_)
        intro a K
        refine wpList_nil (then_n (wp_ret ?_))
        cases h
        exact ret1 K rfl (res_tmp K rfl) ⟨_, rfl, rfl, ((M).pick [] (by decide))⟩
      have h := cfalse hb h
      have K := K.reb (s := 62) rfl hb
      refine X_o K M ?_; clear K
      iterate 10 (refine Y_o M ?_)
      intro a K
      refine wpList_nil (then_n (wp_ret ?_))
      cases h
      exact ret1 K rfl (res_tmp K rfl) ⟨_, rfl, rfl, ((M).pick [] (by decide))⟩
    have h := cfalse hb h
    have K := K.reb (s := 58) rfl hb
    refine X_o K M ?_; clear K
    iterate 14 (refine Y_o M ?_)
    intro a K
    refine wpList_nil (then_n (wp_ret ?_))
    cases h
    exact ret1 K rfl (res_tmp K rfl) ⟨_, rfl, rfl, ((M).pick [] (by decide))⟩
  have h := cfalse hb h
  refine wp_skip (then_n (wp_seq (X_reg ?_)))
  refine X_o K M ?_; clear K
  iterate 2 (refine Y_o M ?_)
  intro a K
  obtain ⟨r9, h_r9, h⟩ := obind h
  refine X_a K (ac_call (vs := [.string (bs p2), I o, I p3]) (cap := []) rfl fok21 K rfl rfl (W_bits_Unpack N p2 o p3 _  r9 h_r9)) ?_
  have M0 := M; clear K M; rintro _ a w ⟨A3, c3, rfl, M⟩ K
  replace M := M0.call M; clear M0
  refine X_o K M ?_; clear K
  iterate 4 (refine Y_o M ?_)
  intro a K
  refine wpList_nil (then_n (wp_seq (wp_seq (X_reg ?_))))
  refine X_o K M ?_; clear K
  refine Y_o M ?_; intro a K
  refine wpList_nil (then_n ?_)
  refine X_cond K rfl (fun hb => ?_) (fun hb => ?_)
  · have h := ctrue hb h
    refine wp_seq (X_reg ?_)
    obtain ⟨r10, h_r10, h⟩ := obind h
    refine X_a K (ac_call (vs := []) (cap := []) rfl fok15 K rfl rfl (W_darkslidelaw_bitsBegun N  _  r10 h_r10)) ?_
    have M0 := M; clear K M; rintro _ a w ⟨rfl, M⟩ K
    replace M := M0.call M; clear M0
    refine X_o K M ?_; clear K; intro a K
    refine wpList_nil (then_n (wp_ret (then_r ?_)))
    cases h
    exact ret1 K rfl (res_tmp K rfl) ⟨_, rfl, rfl, ((M).pick [] (by decide))⟩
  have h := cfalse hb h
  refine wp_skip (then_n (wp_seq (X_reg ?_)))
  refine X_o K M ?_; clear K
  refine Y_o M ?_; intro a K
  obtain ⟨r11, h_r11, h⟩ := obind h
  refine X_a K (ac_call (vs := [.slice A3 r9.1.length c3, I o]) (cap := []) rfl fok18 K rfl rfl (W_bits_Pack N r9.1 A3 c3 o _ ((inR (C := (cI .i64)) 0 rfl rfl) _ M) (M.cap 0 rfl) r11 h_r11)) ?_
  have M0 := M; clear K M; rintro _ a w ⟨rfl, M⟩ K
  replace M := M0.call M; clear M0
  refine X_o K M ?_; clear K
  iterate 4 (refine Y_o M ?_)
  intro a K
  refine wpList_nil (then_n (wp_seq (X_reg ?_)))
  obtain ⟨r12, h_r12, h⟩ := obind h
  refine X_a K (ac_call (vs := []) (cap := []) rfl fok15 K rfl rfl (W_darkslidelaw_bitsBegun N  _  r12 h_r12)) ?_
  have M0 := M; clear K M; rintro _ a w ⟨rfl, M⟩ K
  replace M := M0.call M; clear M0
  refine X_o K M ?_; clear K; intro a K
  rcases Bool.eq_false_or_eq_true (r12) with hb | hb
  · have h := ctrue hb h
    have K := K.reb (s := 58) rfl hb
    refine X_o K M ?_; clear K
    iterate 3 (refine Y_o M ?_)
    intro a K
    rcases Bool.eq_false_or_eq_true (decide (r11.2 = 0)) with hb | hb
    · have h := ctrue hb h
      have K := K.reb (s := 62) rfl hb
      refine X_o K M ?_; clear K
      refine Y_o M ?_
      refine Y_r (fun _ K => rd_eqlS rfl K rfl rfl) M ?_
      iterate 2 (refine Y_o M ?_)
      intro a K
      rcases Bool.eq_false_or_eq_true (decide (r11.1 = p2)) with hb | hb
      · have h := ctrue hb h
        have K := K.reb (s := 67) rfl hb
        refine X_o K M ?_; clear K
        refine Y_r (fun _ K => rd_len rfl un35 K rfl) M ?_
        iterate 4 (refine Y_o M ?_)
        intro a K
        refine wpList_nil (then_n (wp_ret ?_))
        cases h
        exact ret1 K rfl (res_tmp K rfl) ⟨_, rfl, rfl, ((M).pick [] (by decide))⟩
      have h := cfalse hb h
      have K := K.reb (s := 67) rfl hb
      refine X_o K M ?_; clear K
      iterate 5 (refine Y_o M ?_)
      intro a K
      refine wpList_nil (then_n (wp_ret ?_))
      cases h
      exact ret1 K rfl (res_tmp K rfl) ⟨_, rfl, rfl, ((M).pick [] (by decide))⟩
    have h := cfalse hb h
    have K := K.reb (s := 62) rfl hb
    refine X_o K M ?_; clear K
    iterate 10 (refine Y_o M ?_)
    intro a K
    refine wpList_nil (then_n (wp_ret ?_))
    cases h
    exact ret1 K rfl (res_tmp K rfl) ⟨_, rfl, rfl, ((M).pick [] (by decide))⟩
  have h := cfalse hb h
  have K := K.reb (s := 58) rfl hb
  refine X_o K M ?_; clear K
  iterate 14 (refine Y_o M ?_)
  intro a K
  refine wpList_nil (then_n (wp_ret ?_))
  cases h
  exact ret1 K rfl (res_tmp K rfl) ⟨_, rfl, rfl, ((M).pick [] (by decide))⟩
end Go.Proofs.YtpmnfhifmmfglabDoor
