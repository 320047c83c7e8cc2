/- Texts of the claim DiffBack, joined: PDifW, PDifP, PDifWL, PDifR, PDifD, PDifB, D7, D8, D9, DS, DB, Facts, Shelf, HStr, HBld. -/
import Derived.Laws.BytesArg
import Derived.Laws.CopyRow
import Derived.Laws.IdiomCopy
import Derived.Laws.IdiomStrings
import Derived.Laws.Strings2
import Derived.Laws.Strings3
import Derived.Lib.AppendStr
import Derived.Lib.SliceRun
import Derived.LoopN
import Derived.Maps.OwnSet
import Derived.Recover
import Derived.Shelf.Strings.Builder1
import Derived.Shelf.Strings.Count
import Derived.Shelf.Strings.Search3
import Derived.Shelf.Strings.SlTrimAscii
import Derived.Test.YtpmnfhifmmfglacDoorChecked
import Derived.Test.YtpmnfhifmmfglacDoorProg
import Derived.WalkSpells
import Derived.WideMake
import Derived.Test.YtpmnfhifmmfglacDoorDiffBackK1
import Derived.Test.YtpmnfhifmmfglacDoorDiffBackK2
set_option linter.unusedVariables false
set_option linter.unusedSimpArgs false
set_option linter.unusedSectionVars false
namespace Go.Proofs.YtpmnfhifmmfglacDoor
open Go
/-- How many bits a number has. -/
def bl (n : Nat) : Nat := if n = 0 then 0 else Nat.log2 n + 1
theorem bl_half {n : Nat} (h : 0 < n) : bl n = bl (n / 2) + 1 := by
  unfold bl
  rw [if_neg (by omega)]
  by_cases h2 : 2 ≤ n
  · rw [if_neg (by omega), Nat.log2_def, if_pos h2]
  · obtain rfl : n = 1 := by omega
    rfl
theorem bl_pow : ∀ (k n : Nat), bl n ≤ k ↔ n < 2 ^ k
  | 0, n => by
    unfold bl
    split
    · subst n; simp
    · rw [Nat.pow_zero]; omega
  | k + 1, n => by
    rcases Nat.eq_zero_or_pos n with rfl | h
    · have := Nat.two_pow_pos (k + 1); simp [bl, this]
    · have ih := bl_pow k (n / 2)
      rw [bl_half h, Nat.pow_succ]
      constructor
      · intro q
        have := ih.1 (by omega)
        omega
      · intro q
        have := ih.2 (by omega)
        omega
theorem bl_8 {n : Nat} (h : 256 ≤ n) : bl n = bl (n / 256) + 8 := by
  rw [bl_half (n := n) (by omega), bl_half (n := n / 2) (by omega), bl_half (n := n / 2 / 2) (by omega), bl_half (n := n / 2 / 2 / 2) (by omega), bl_half (n := n / 2 / 2 / 2 / 2) (by omega), bl_half (n := n / 2 / 2 / 2 / 2 / 2) (by omega), bl_half (n := n / 2 / 2 / 2 / 2 / 2 / 2) (by omega), bl_half (n := n / 2 / 2 / 2 / 2 / 2 / 2 / 2) (by omega)]
  have : n / 2 / 2 / 2 / 2 / 2 / 2 / 2 / 2 = n / 256 := by omega
  rw [this]
theorem tab8_fin : ∀ n : Fin 256, tab8[n.val]? = some (UInt8.ofNat (bl n.val)) ∧ bl n.val ≤ 8 := by decide +kernel
theorem tab8_at {n : Nat} (h : n < 256) : idx tab8 (IntKind.u8.wrap (n : Int)) = some (UInt8.ofNat (bl n)) ∧ IntKind.i64.wrap ((UInt8.ofNat (bl n)).toNat : Int) = ((bl n : Nat) : Int) := by
  obtain ⟨h1, h2⟩ := tab8_fin ⟨n, h⟩
  rw [u8_nat, Nat.mod_eq_of_lt h, idx_nat]
  refine ⟨h1, ?_⟩
  have : (UInt8.ofNat (bl n)).toNat = bl n := by
    rw [UInt8.toNat_ofNat', Nat.mod_eq_of_lt]
    have : bl n ≤ 8 := h2
    omega
  rw [this, w64 (by have : bl n ≤ 8 := h2; omega)]
theorem shrU {h k : Nat} (hk : k ≤ 64) : shrI .u64 (h : Int) (k : Int) = ((h / 2 ^ k : Nat) : Int) := by
  unfold shrI
  have : min ((k : Int)).toNat IntKind.u64.bits = k := by
    rw [Int.toNat_natCast]
    exact Nat.min_eq_left hk
  rw [this]
  rw [show (2 : Int) ^ k = ((2 ^ k : Nat) : Int) by simp, Int.fdiv_eq_ediv_of_nonneg _ (Int.natCast_nonneg _), Int.natCast_ediv]
theorem len_eq (N : Nat) {n : Nat} (h : n ≤ 65535) : D_math_bits_Len N (n : Int) = some ((bl n : Nat) : Int) := by
  have h16 : bl n ≤ 16 := (bl_pow 16 n).2 (by omega)
  unfold D_math_bits_Len D_math_bits_Len64
  rw [cF (dF (by omega)), cF (dF (by omega))]
  by_cases h1 : 256 ≤ n
  · have hd : n / 2 ^ 8 < 256 := by omega
    obtain ⟨e1, e2⟩ := tab8_at hd
    rw [cT (dT (by omega)), show ((8 : Int)) = ((8 : Nat) : Int) from rfl, shrU (by omega), bsome, show IntKind.i64.wrap (0 + ((8 : Nat) : Int)) = 8 by decide, bsome, e1, bsome, e2, show n / 2 ^ 8 = n / 256 from rfl, bl_8 h1]
    rw [bl_8 h1] at h16
    rw [w64 (by omega), bsome, bsome]
    congr 1
    omega
  · obtain ⟨e1, e2⟩ := tab8_at (show n < 256 by omega)
    rw [cF (dF (by omega)), e1, bsome, e2, w64 (by omega), bsome, bsome]
    congr 1
    omega
/-- The class of a difference. -/
def cl (d : Int) : Nat := bl (max d (-d)).toNat
theorem cl_le {d : Int} (h : -32768 < d ∧ d ≤ 32768) : cl d ≤ 16 := (bl_pow 16 _).2 (by omega)
/-- What is behind a class's word. -/
def mor (d : Int) : List UInt8 := if cl d = 0 ∨ cl d = 16 then [] else chs (dig 2 (cl d) (if 0 < d then d else d + ((2 ^ cl d : Nat) : Int) - 1).toNat)
theorem cl_lt {d : Int} : -((2 ^ cl d : Nat) : Int) < d ∧ d < ((2 ^ cl d : Nat) : Int) := by
  have h := (bl_pow (cl d) (max d (-d)).toNat).1 (Nat.le_refl _)
  have h2 : (((max d (-d)).toNat : Nat) : Int) < ((2 ^ cl d : Nat) : Int) := Int.ofNat_lt.2 h
  omega
theorem cl_zero {d : Int} : cl d = 0 ↔ d = 0 := by
  have := bl_pow 0 (max d (-d)).toNat
  unfold cl
  constructor
  · intro h; have := this.1 (by omega); omega
  · intro h; have := this.2 (by omega); omega
theorem numv {d : Int} (h : cl d ≠ 0) (h2 : cl d ≠ 16) (hd : -32768 < d ∧ d ≤ 32768) : numErr (if 0 < d then d else d + ((2 ^ cl d : Nat) : Int) - 1) ((cl d : Nat) : Int) = 0 := by
  have hc := cl_le hd
  have hl := cl_lt (d := d)
  have h0 : d ≠ 0 := fun e => h (cl_zero.2 e)
  unfold numErr
  rw [if_pos (by omega), Int.toNat_natCast, if_pos]
  split
  · omega
  · omega
/-- The difference. -/
def dfn (n g : Int) : Int := if 32768 < (n - g) % 65536 then (n - g) % 65536 - 65536 else (n - g) % 65536
theorem dfn_in (n g : Int) : -32768 < dfn n g ∧ dfn n g ≤ 32768 := by unfold dfn; split <;> omega
/-- All differences. -/
def ds (W : Nat) (P : List Int) (kind : Int) : List Int := (List.range P.length).map fun i => dfn (P.getD i 0) (gs W P kind i)
def dOK (W : List (List UInt8)) (d : Int) : Bool := decide (cl d < W.length) && !(W.getD (cl d) []).isEmpty
def dbits (W : List (List UInt8)) (d : Int) : List UInt8 := W.getD (cl d) [] ++ mor d
def dcat (W : List (List UInt8)) (l : List Int) : List UInt8 := l.flatMap (dbits W)
theorem dcat_cons (W : List (List UInt8)) (d : Int) (l : List Int) : dcat W (d :: l) = dbits W d ++ dcat W l := rfl
theorem mor_len {d : Int} (h : -32768 < d ∧ d ≤ 32768) : (mor d).length ≤ 16 := by
  unfold mor
  split
  · simp
  · rw [chs_len, dig_len]; exact cl_le h
theorem getD_bits {W : List (List UInt8)} (hb : bitW W) (i : Nat) : (W.getD i []).length ≤ 15 ∧ isB (W.getD i []) = true := by
  rw [List.getD_eq_getElem?_getD]
  by_cases h : i < W.length
  · rw [List.getElem?_eq_getElem h]; exact ⟨(hb _ (List.getElem_mem h)).2, (hb _ (List.getElem_mem h)).1⟩
  · rw [List.getElem?_eq_none (by omega)]; exact ⟨by simp, rfl⟩
theorem dbits_len {W : List (List UInt8)} (hb : bitW W) {d : Int} (h : -32768 < d ∧ d ≤ 32768) : (dbits W d).length ≤ 31 := by
  unfold dbits
  rw [List.length_append]
  have := mor_len h
  have := (getD_bits hb (cl d)).1
  omega
theorem dOK_at {W : List (List UInt8)} {d : Int} (h : dOK W d = true) : ∃ u, W[cl d]? = some u ∧ u ≠ [] ∧ W.getD (cl d) [] = u ∧ cl d < W.length := by
  unfold dOK at h
  rw [Bool.and_eq_true] at h
  have hq := of_decide_eq_true h.1
  refine ⟨W[cl d], List.getElem?_eq_getElem hq, ?_, ?_, hq⟩
  · have h2 := h.2
    rw [List.getD_eq_getElem?_getD, List.getElem?_eq_getElem hq] at h2
    intro e
    rw [Option.getD_some, e] at h2
    cases h2
  · rw [List.getD_eq_getElem?_getD, List.getElem?_eq_getElem hq]; rfl
theorem dOK_no {W : List (List UInt8)} {d : Int} (h : ¬ dOK W d = true) (h2 : cl d < W.length) : W[cl d]? = some [] := by
  rw [List.getElem?_eq_getElem h2]
  unfold dOK at h
  rw [dT h2, Bool.true_and, List.getD_eq_getElem?_getD, List.getElem?_eq_getElem h2, Option.getD_some] at h
  cases hc : W[cl d]
  · rfl
  · rw [hc] at h; simp at h
theorem ds_in (W : Nat) (P : List Int) (kind : Int) : ∀ d ∈ ds W P kind, -32768 < d ∧ d ≤ 32768 := fun d hd => by
  obtain ⟨i, _, rfl⟩ := List.mem_map.1 hd
  exact dfn_in _ _
theorem ds_len (W : Nat) (P : List Int) (kind : Int) : (ds W P kind).length = P.length := by simp [ds]
theorem ds_at (W : Nat) (P : List Int) (kind : Int) {i : Nat} (h : i < P.length) : (ds W P kind)[i]? = some (dfn (P.getD i 0) (gs W P kind i)) := by
  unfold ds
  rw [List.getElem?_map, List.getElem?_range h]; rfl
/-- Bits as bytes. -/
def byB (b : List UInt8) : List UInt8 := (gr ((b.length + 7) / 8) (btsOf b)).map UInt8.ofNat
def writeDR (W H : Int) (P : List Int) (kind : Int) (c : List Int) : List UInt8 × Int :=
  if plF W H P = false then ([], 1) else if ¬ (1 ≤ kind ∧ kind ≤ 7) then ([], 6) else if chkErr c ≠ 0 then ([], chkErr c) else
  if (ds W.toNat P kind).all (dOK (wordsOf c)) = true then (byB (dcat (wordsOf c) (ds W.toNat P kind)), 0) else ([], 4)
theorem mor_bits (d : Int) : isB (mor d) = true := by
  unfold mor
  split
  · rfl
  · exact isB_chs (dig_lt (by decide) _ _)
theorem dcat_bits {W : List (List UInt8)} (hb : bitW W) : ∀ l : List Int, isB (dcat W l) = true
  | [] => rfl
  | d :: l => by
    rw [dcat_cons, isB_app, dcat_bits hb l, Bool.and_true]
    unfold dbits
    rw [isB_app, (getD_bits hb (cl d)).2, mor_bits]; rfl
theorem dcat_len {W : List (List UInt8)} (hb : bitW W) : ∀ {l : List Int}, (∀ d ∈ l, -32768 < d ∧ d ≤ 32768) → (dcat W l).length ≤ 31 * l.length
  | [], _ => by simp [dcat]
  | d :: l, h => by
    have h1 := dcat_len hb (l := l) fun d hd => h d (by simp [hd])
    have h2 := dbits_len hb (h d (by simp))
    rw [dcat_cons, List.length_append, List.length_cons]; omega
end Go.Proofs.YtpmnfhifmmfglacDoor

namespace Go.Proofs.YtpmnfhifmmfglacDoor
open Go
/-- The bits of bytes. -/
def bitS (s : List UInt8) : List UInt8 := chs (dig 2 (8 * s.length) (byt s s.length))
theorem bitS_len (s : List UInt8) : (bitS s).length = 8 * s.length := by unfold bitS; rw [chs_len, dig_len]
theorem bitS_isB (s : List UInt8) : isB (bitS s) = true := isB_chs (dig_lt (by decide) _ _)
theorem bitS_nil : bitS [] = [] := rfl
theorem byt_all (s : List UInt8) : byt s s.length = num 256 (s.map UInt8.toNat) := by unfold byt; rw [List.take_length]
theorem bitS_cons (c : UInt8) (s : List UInt8) : bitS (c :: s) = bitS [c] ++ bitS s := by
  unfold bitS
  rw [← chs_app, byt_all, byt_all [c], List.map_cons, List.map_singleton, num_cons, List.length_map, pow256, ← byt_all s, dig_next (show byt s s.length < 2 ^ (8 * s.length) from byt_lt (d := 1) (by decide) s)]
  rw [show 8 * (c :: s).length = 8 * [c].length + 8 * s.length by simp; omega, show num 256 [c.toNat] = c.toNat by simp [num]]
theorem bts_chs {l : List Nat} (h : ∀ y ∈ l, y < 2) : btsOf (chs l) = l := by
  unfold btsOf chs
  rw [List.map_map]
  conv => rhs; rw [← List.map_id l]
  refine List.map_congr_left fun y hy => ?_
  have := h y hy
  show (UInt8.ofNat (48 + y)).toNat - 48 = y
  rw [UInt8.toNat_ofNat', Nat.mod_eq_of_lt (by omega)]
  omega
theorem gr_inj {M : Nat} {l m : List Nat} (hl : l.length = 8 * M) (hm : m.length = 8 * M) (h2 : ∀ y ∈ l, y < 2) (h3 : ∀ y ∈ m, y < 2) (h : gr M l = gr M m) : l = m := by
  have e1 := dig_num (B := 2) l h2
  have e2 := dig_num (B := 2) m h3
  have n1 := num_lt (B := 2) l h2
  have n2 := num_lt (B := 2) m h3
  rw [hl] at e1 n1
  rw [hm] at e2 n2
  have h4 : gr M (dig 2 (8 * M) (num 2 l)) = gr M (dig 2 (8 * M) (num 2 m)) := by rw [e1, e2, h]
  rw [gr_dig, gr_dig] at h4
  have h5 := congrArg (num 256) h4
  rw [num_dig, num_dig, pow256, Nat.mod_eq_of_lt n1, Nat.mod_eq_of_lt n2] at h5
  rw [← e1, ← e2, h5]
theorem gr_bitS (s : List UInt8) : (gr s.length (btsOf (bitS s))).map UInt8.ofNat = s := by
  unfold bitS
  rw [bts_chs (dig_lt (by decide) _ _), gr_dig, byt_all]
  have := dig_num (B := 256) (s.map UInt8.toNat) fun y hy => by
    obtain ⟨c, _, rfl⟩ := List.mem_map.1 hy
    exact c.toNat_lt
  rw [List.length_map] at this
  rw [this, toNat_ofNat]
theorem gr_bd {M : Nat} {l : List Nat} (h : ∀ y ∈ l, y < 2) : ∀ y ∈ gr M l, y < 256 := fun y hy => by
  unfold gr at hy
  obtain ⟨g, _, rfl⟩ := List.mem_map.1 hy
  have := num_lt (B := 2) ((List.range 8).map fun t => l.getD (8 * g + t) 0) fun y hy => by
    obtain ⟨t, _, rfl⟩ := List.mem_map.1 hy
    rw [List.getD_eq_getElem?_getD]
    by_cases hq : 8 * g + t < l.length
    · rw [List.getElem?_eq_getElem hq]; exact h _ (List.getElem_mem hq)
    · rw [List.getElem?_eq_none (by omega)]; exact (by decide : (0:Nat) < 2)
  simpa using this
theorem bts_zero : ∀ {R : List UInt8}, isB R = true → btsOf R = List.replicate R.length 0 → R = List.replicate R.length 48
  | [], _, _ => rfl
  | c :: R, h, h2 => by
    have e := chs_bts h
    rw [h2] at e
    rw [← e]
    unfold chs
    rw [List.map_replicate, List.length_replicate]; rfl
theorem fin_iff {s D R : List UInt8} (h : bitS s = D ++ R) : byB D = s ↔ R.length ≤ 7 ∧ R = List.replicate R.length 48 := by
  have hB := bitS_isB s
  rw [h, isB_app, Bool.and_eq_true] at hB
  have hL := bitS_len s
  rw [h, List.length_append] at hL
  have hb : btsOf (bitS s) = btsOf D ++ btsOf R := by rw [h]; unfold btsOf; rw [List.map_append]
  have hs := gr_bitS s
  have pad : gr s.length (btsOf D ++ List.replicate R.length 0) = gr s.length (btsOf D) := gr_pad _ _ _
  constructor
  · intro e
    have hl := congrArg List.length e
    unfold byB at hl e
    rw [List.length_map] at hl
    have hgl : ∀ M l, (gr M l).length = M := fun M l => by simp [gr]
    rw [hgl] at hl
    refine ⟨by omega, ?_⟩
    rw [hl] at e
    have e2 : gr s.length (btsOf D) = gr s.length (btsOf (bitS s)) := by
      have := congrArg (List.map UInt8.toNat) (e.trans hs.symm)
      rwa [ofNat_toNat (gr_bd (btsOf_lt hB.1)), ofNat_toNat (gr_bd (btsOf_lt (bitS_isB s)))] at this
    rw [← pad, hb] at e2
    have bl : ∀ b : List UInt8, (btsOf b).length = b.length := fun b => by simp [btsOf]
    have z2 : ∀ y ∈ btsOf D ++ List.replicate R.length 0, y < 2 := fun y hy => by
      rcases List.mem_append.1 hy with q | q
      · exact btsOf_lt hB.1 y q
      · rw [(List.mem_replicate.1 q).2]; decide
    have z3 : ∀ y ∈ btsOf D ++ btsOf R, y < 2 := fun y hy => by
      rcases List.mem_append.1 hy with q | q
      · exact btsOf_lt hB.1 y q
      · exact btsOf_lt hB.2 y q
    have := gr_inj (by rw [List.length_append, bl, List.length_replicate]; omega) (by rw [List.length_append, bl, bl]; omega) z2 z3 e2
    exact bts_zero hB.2 (List.append_cancel_left this).symm
  · rintro ⟨h7, hz⟩
    have e : btsOf R = List.replicate R.length 0 := by
      conv => lhs; rw [hz]
      unfold btsOf
      rw [List.map_replicate]; rfl
    unfold byB
    rw [show (D.length + 7) / 8 = s.length by omega, ← pad, ← e, ← hb]
    exact hs
def vd (t : List UInt8) : Int := if 2 * num 2 (btsOf t) < 2 ^ t.length then (num 2 (btsOf t) : Int) - ((2 ^ t.length : Nat) : Int) + 1 else (num 2 (btsOf t) : Int)
theorem cl_of {d : Int} {c : Nat} (h : 1 ≤ c) (h2 : ((2 ^ (c - 1) : Nat) : Int) ≤ max d (-d)) (h3 : max d (-d) < ((2 ^ c : Nat) : Int)) : cl d = c := by
  have a := bl_pow c (max d (-d)).toNat
  have b := bl_pow (c - 1) (max d (-d)).toNat
  have a1 : (max d (-d)).toNat < 2 ^ c := by omega
  have b1 : ¬ (max d (-d)).toNat < 2 ^ (c - 1) := by omega
  have a2 := a.2 a1
  have b2 : ¬ bl (max d (-d)).toNat ≤ c - 1 := fun q => b1 (b.1 q)
  unfold cl
  omega
theorem vd_spec {t : List UInt8} (hb : isB t = true) (hl : t.length ≤ 15) : cl (vd t) = t.length ∧ mor (vd t) = t ∧ -32768 < vd t ∧ vd t < 32768 := by
  have hn := num_lt (B := 2) (btsOf t) (btsOf_lt hb)
  have bl : (btsOf t).length = t.length := by simp [btsOf]
  rw [bl] at hn
  by_cases h0 : t.length = 0
  · obtain rfl : t = [] := List.length_eq_zero_iff.1 h0
    exact ⟨rfl, rfl, by decide, by decide⟩
  have hp : 2 ^ t.length = 2 * 2 ^ (t.length - 1) := by rw [← Nat.pow_succ']; congr 1; omega
  have hle : 2 ^ t.length ≤ 32768 := Nat.le_trans (Nat.pow_le_pow_right (by decide) hl) (by decide)
  have hpos : 0 < 2 ^ (t.length - 1) := Nat.two_pow_pos _
  have hr : -32768 < vd t ∧ vd t < 32768 := by unfold vd; split <;> omega
  have hc : cl (vd t) = t.length := by
    refine cl_of (by omega) ?_ ?_
    · unfold vd; split <;> omega
    · unfold vd; split <;> omega
  refine ⟨hc, ?_, hr⟩
  unfold mor
  rw [if_neg (by omega), hc]
  have : (if 0 < vd t then vd t else vd t + ((2 ^ t.length : Nat) : Int) - 1).toNat = num 2 (btsOf t) := by
    by_cases hq : 2 * num 2 (btsOf t) < 2 ^ t.length
    · have e : vd t = (num 2 (btsOf t) : Int) - ((2 ^ t.length : Nat) : Int) + 1 := by unfold vd; rw [if_pos hq]
      rw [e, if_neg (by omega)]
      omega
    · have e : vd t = (num 2 (btsOf t) : Int) := by unfold vd; rw [if_neg hq]
      rw [e, if_pos (by omega)]
      omega
  rw [this, ← bl, dig_num _ (btsOf_lt hb), chs_bts hb]
theorem top_spec : cl 32768 = 16 ∧ mor 32768 = [] := ⟨by decide +kernel, by
  unfold mor
  rw [if_pos (.inr (by decide +kernel))]⟩
def rdStep (W : List (List UInt8)) (R : List UInt8) : Option (Int × List UInt8) := match frI W R with
  | none => none
  | some c => if c = 16 then some (32768, R.drop (W.getD c []).length) else if (R.drop (W.getD c []).length).length < c then none else some (vd ((R.drop (W.getD c []).length).take c), (R.drop (W.getD c []).length).drop c)
def rdD (W : List (List UInt8)) (w : Nat) (kind : Int) : Nat → List Int → List UInt8 → Option (List Int × List UInt8)
  | 0, P, R => some (P, R)
  | n + 1, P, R => match rdStep W R with
    | none => none
    | some (d, R2) => rdD W w kind n (P ++ [(gs w P kind P.length + d) % 65536]) R2
theorem gs_app {w : Nat} (hw : 1 ≤ w) (P Q : List Int) (kind : Int) {i : Nat} (h : i ≤ P.length) : gs w (P ++ Q) kind i = gs w P kind i := by
  unfold gs
  by_cases h0 : i = 0
  · rw [if_pos h0, if_pos h0]
  have e : ∀ j, j < P.length → (P ++ Q).getD j 0 = P.getD j 0 := fun j hj => by
    rw [List.getD_eq_getElem?_getD, List.getD_eq_getElem?_getD, List.getElem?_append_left hj]
  rw [if_neg h0, if_neg h0, e (i - 1) (by omega), e (i - w) (by omega), e (i - w - 1) (by omega)]
theorem ds_snoc {w : Nat} (hw : 1 ≤ w) (P : List Int) (kind x : Int) : ds w (P ++ [x]) kind = ds w P kind ++ [dfn x (gs w P kind P.length)] := by
  unfold ds
  rw [List.length_append, List.length_singleton, List.range_succ, List.map_append, List.map_singleton]
  congr 1
  · refine List.map_congr_left fun i hi => ?_
    have hi := List.mem_range.1 hi
    rw [gs_app hw _ _ _ (by omega), List.getD_eq_getElem?_getD, List.getD_eq_getElem?_getD, List.getElem?_append_left hi]
  · rw [gs_app hw _ _ _ (Nat.le_refl _), List.getD_eq_getElem?_getD, List.getElem?_append_right (Nat.le_refl _)]
    simp
theorem dfn_back {g d : Int} (h : -32768 < d ∧ d ≤ 32768) : dfn ((g + d) % 65536) g = d := by
  unfold dfn
  split <;> omega
theorem step_ok {W : List (List UInt8)} (hb : bitW W) (hW : W.length ≤ 17) {R R2 : List UInt8} {d : Int} (hR : isB R = true) (h : rdStep W R = some (d, R2)) :
    (-32768 < d ∧ d ≤ 32768) ∧ dOK W d = true ∧ R = dbits W d ++ R2 := by
  unfold rdStep at h
  rcases hf : frI W R with _ | c
  · rw [hf] at h; cases h
  rw [hf] at h
  dsimp only at h
  obtain ⟨u, hu, hu0, hub⟩ := frI_some hf
  have hc : c < W.length := by
    rcases Nat.lt_or_ge c W.length with q | q
    · exact q
    · rw [List.getElem?_eq_none q] at hu; cases hu
  have hg : W.getD c [] = u := by rw [List.getD_eq_getElem?_getD, hu]; rfl
  obtain ⟨T, rfl⟩ := hub
  rw [isB_app, Bool.and_eq_true] at hR
  rw [hg, List.drop_left] at h
  have ok : ∀ e, cl e = c → dOK W e = true := fun e he => by
    unfold dOK
    rw [he, dT hc, Bool.true_and, hg]
    cases u
    · exact absurd rfl hu0
    · rfl
  by_cases h16 : c = 16
  · rw [if_pos h16] at h
    injection h with h; injection h with h1 h2
    subst h1 h2
    refine ⟨by decide, ok _ (by rw [top_spec.1, h16]), ?_⟩
    unfold dbits
    rw [top_spec.1, top_spec.2, ← h16, hg, List.append_nil]
  · rw [if_neg h16] at h
    by_cases hl : T.length < c
    · rw [if_pos hl] at h; cases h
    rw [if_neg hl] at h
    injection h with h; injection h with h1 h2
    have ht : isB (T.take c) = true := by
      have := hR.2
      rw [← List.take_append_drop c T, isB_app, Bool.and_eq_true] at this
      exact this.1
    have hlen : (T.take c).length = c := by rw [List.length_take]; omega
    obtain ⟨a1, a2, a3⟩ := vd_spec ht (by omega)
    rw [hlen] at a1
    subst h1 h2
    refine ⟨by omega, ok _ a1, ?_⟩
    unfold dbits
    rw [a1, a2, hg, List.append_assoc, List.take_append_drop]
theorem dcat_snoc (W : List (List UInt8)) (l : List Int) (d : Int) : dcat W (l ++ [d]) = dcat W l ++ dbits W d := by
  unfold dcat
  rw [List.flatMap_append]
  simp
theorem rdD_ok {W : List (List UInt8)} (hb : bitW W) (hW : W.length ≤ 17) {w : Nat} (hw : 1 ≤ w) {kind : Int} : ∀ (n : Nat) (P : List Int) (R D : List UInt8) (P2 : List Int) (R2 : List UInt8), isB R = true → (∀ e ∈ P, 0 ≤ e ∧ e ≤ 65535) → (ds w P kind).all (dOK W) = true →
    rdD W w kind n P R = some (P2, R2) → P2.length = P.length + n ∧ (∀ e ∈ P2, 0 ≤ e ∧ e ≤ 65535) ∧ (ds w P2 kind).all (dOK W) = true ∧ dcat W (ds w P kind) ++ R = dcat W (ds w P2 kind) ++ R2 ∧ isB R2 = true := by
  intro n
  induction n with
  | zero =>
    intro P R D P2 R2 hR hP ha h
    unfold rdD at h
    injection h with h; injection h with h1 h2
    subst h1 h2
    exact ⟨rfl, hP, ha, rfl, hR⟩
  | succ n ih =>
    intro P R D P2 R2 hR hP ha h
    unfold rdD at h
    rcases hs : rdStep W R with _ | ⟨d, R1⟩
    · rw [hs] at h; cases h
    rw [hs] at h
    dsimp only at h
    obtain ⟨hd, hok, hRR⟩ := step_ok hb hW hR hs
    have hR1 : isB R1 = true := by
      rw [hRR, isB_app, Bool.and_eq_true] at hR
      exact hR.2
    have e := dfn_back (g := gs w P kind P.length) hd
    obtain ⟨b1, b2, b3, b4, b5⟩ := ih (P ++ [(gs w P kind P.length + d) % 65536]) R1 D P2 R2 hR1 (fun x hx => by
      rcases List.mem_append.1 hx with q | q
      · exact hP x q
      · rw [List.mem_singleton.1 q]; omega) (by
      rw [ds_snoc hw, e, List.all_append, ha, Bool.true_and, List.all_cons, hok]; rfl) h
    refine ⟨by rw [b1, List.length_append, List.length_singleton]; omega, b2, b3, ?_, b5⟩
    rw [← b4, ds_snoc hw, e, dcat_snoc, List.append_assoc, ← hRR]
end Go.Proofs.YtpmnfhifmmfglacDoor

namespace Go.Proofs.YtpmnfhifmmfglacDoor
open Go
theorem bwr_eq {a b : List UInt8} (h : a.length + b.length ≤ 140737488355328) : bwr a b = some (a ++ b) := by unfold bwr; rw [if_pos h]
theorem wbody (N : Nat) (hN : 100 ≤ N) {W : List (List UInt8) × Int} (hb : bitW W.1) {d : Int} (hd : -32768 < d ∧ d ≤ 32768) {acc : List UInt8} (ha : acc.length ≤ 1000000) (K : List UInt8 → Option (List UInt8 × Int)) :
    (Option.bind (D_math_bits_Len N (IntKind.u64.wrap (max d (IntKind.i64.wrap (0 - d))))) fun r12 =>
    cond (decide ((W.1.length : Int) ≤ r12)) (
    some (([] : List UInt8), (4 : Int))) (
    Option.bind (idx W.1 r12) fun e7 =>
    cond (decide (e7 = ([] : List UInt8))) (
    some (([] : List UInt8), (4 : Int))) (
    Option.bind (idx W.1 r12) fun e8 =>
    Option.bind (bwr acc e8) fun b7 =>
    cond (decide (0 < r12)) (
    cond (decide (r12 < 16)) (
    cond (decide (d < 0)) (
    Option.bind (nn r12) fun _ =>
    Option.bind (some (IntKind.i64.wrap (d + (IntKind.i64.wrap ((shlI .i64 1 r12) - 1))))) fun x8 =>
    Option.bind (D_bits_Number N x8 r12) fun r13 =>
    Option.bind (bwr b7 r13.1) fun b8 => K b8) (
    Option.bind (D_bits_Number N d r12) fun r14 =>
    Option.bind (bwr b7 r14.1) fun b9 => K b9)) (K b7)) (K b7)))) = if dOK W.1 d = true then K (acc ++ dbits W.1 d) else some ([], 4) := by
  have hc := cl_le hd
  have hmx : IntKind.u64.wrap (max d (IntKind.i64.wrap (0 - d))) = (((max d (-d)).toNat : Nat) : Int) := by
    rw [w64 (x := 0 - d) (by omega), IntWalk.u64_in _ (by omega)]; omega
  rw [hmx, len_eq N (by omega), bsome, show bl (max d (-d)).toNat = cl d from rfl]
  by_cases h1 : W.1.length ≤ cl d
  · rw [cT (dT (by omega)), if_neg]
    rw [show dOK W.1 d = false by unfold dOK; rw [dF (by omega)]; rfl]; simp
  rw [cF (dF (by omega)), idx_nat]
  by_cases h2 : dOK W.1 d = true
  rotate_left
  · rw [dOK_no h2 (by omega), bsome, cT (dT rfl), if_neg h2]
  obtain ⟨u, hu, hu0, hg, _⟩ := dOK_at h2
  have h15 := (getD_bits hb (cl d)).1
  rw [hg] at h15
  have hm := mor_len hd
  have hl := cl_lt (d := d)
  have hp := pow_le16 (d := cl d) hc
  rw [hu, bsome, cF (dF hu0), bsome, bwr_eq (by omega), bsome, if_pos h2]
  have e0 : acc ++ dbits W.1 d = acc ++ u ++ mor d := by unfold dbits; rw [hg, List.append_assoc]
  rw [e0]
  by_cases h3 : cl d = 0
  · rw [cF (dF (by omega)), show mor d = [] by unfold mor; rw [if_pos (.inl h3)], List.append_nil]
  rw [cT (dT (by omega))]
  by_cases h4 : cl d = 16
  · rw [cF (dF (by omega)), show mor d = [] by unfold mor; rw [if_pos (.inr h4)], List.append_nil]
  have hv := numv h3 h4 hd
  have h0 : d ≠ 0 := fun e => h3 (cl_zero.2 e)
  have hmo : mor d = chs (dig 2 (cl d) (if 0 < d then d else d + ((2 ^ cl d : Nat) : Int) - 1).toNat) := by unfold mor; rw [if_neg (by omega)]
  rw [cT (dT (by omega))]
  by_cases h5 : d < 0
  · rw [if_neg (by omega)] at hv hmo
    rw [cT (dT h5), nn_nat, bsome, one_shl hc, w64 (x := _ - 1) (by omega), show d + (((2 ^ cl d : Nat) : Int) - 1) = d + ((2 ^ cl d : Nat) : Int) - 1 by omega, w64 (by omega), bsome, number_code N hN, hv, if_pos rfl, bsome, Int.toNat_natCast, ← hmo, bwr_eq (by rw [List.length_append]; show acc.length + u.length + (mor d).length ≤ _; omega), bsome]
  · rw [if_pos (by omega)] at hv hmo
    rw [cF (dF h5), number_code N hN, hv, if_pos rfl, bsome, Int.toNat_natCast, ← hmo, bwr_eq (by rw [List.length_append]; show acc.length + u.length + (mor d).length ≤ _; omega), bsome]
theorem wcode_l1 (N : Nat) (hN : 100 ≤ N) {W : List (List UInt8) × Int} (hb : bitW W.1) {w : Nat} (hw : 1 ≤ w ∧ w ≤ 64) {kind : Int} (hk : 1 ≤ kind ∧ kind ≤ 7) (H : Int) {P : List Int} (hP : ∀ e ∈ P, 0 ≤ e ∧ e ≤ 65535) (hl : P.length ≤ 4096) (kk) : ∀ (j k fuel : Nat) (acc : List UInt8), k + j = P.length → j < fuel → acc.length ≤ 31 * k →
    D_diff_Write_l1 N (w : Int) H P kind W kk fuel (acc, (k : Int)) = if ((ds w P kind).drop k).all (dOK W.1) = true then kk (acc ++ dcat W.1 ((ds w P kind).drop k), (P.length : Int)) else some ([], 4) := by
  intro j
  have hdl := ds_len w P kind
  induction j with
  | zero =>
    intro k fuel acc hkj hf ha
    obtain ⟨fuel, rfl⟩ : ∃ q, fuel = q + 1 := ⟨fuel - 1, by omega⟩
    obtain rfl : k = P.length := by omega
    unfold D_diff_Write_l1
    rw [cF (dF (by omega)), ← hdl, List.drop_length, if_pos (by rfl)]
    simp [dcat]
  | succ j ih =>
    intro k fuel acc hkj hf ha
    obtain ⟨fuel, rfl⟩ : ∃ q, fuel = q + 1 := ⟨fuel - 1, by omega⟩
    have hlt : k < P.length := by omega
    have hnx : IntKind.i64.wrap ((k : Int) + 1) = ((k + 1 : Nat) : Int) := by rw [w64 (by omega)]; rfl
    obtain ⟨p1, p2⟩ := P_at hP hlt
    have hg := gs_in hP (kind := kind) hw.1 hlt
    have hdr : (ds w P kind).drop k = dfn (P.getD k 0) (gs w P kind k) :: (ds w P kind).drop (k + 1) := by
      rw [List.drop_eq_getElem_cons (by omega)]
      congr 1
      have := ds_at w P kind hlt
      rw [List.getElem?_eq_getElem (by omega)] at this
      exact Option.some.inj this
    have hd := dfn_in (P.getD k 0) (gs w P kind k)
    have fin : (if dOK W.1 (dfn (P.getD k 0) (gs w P kind k)) = true then D_diff_Write_l1 N (w : Int) H P kind W kk fuel (acc ++ dbits W.1 (dfn (P.getD k 0) (gs w P kind k)), ((k + 1 : Nat) : Int)) else some ([], 4)) = if ((ds w P kind).drop k).all (dOK W.1) = true then kk (acc ++ dcat W.1 ((ds w P kind).drop k), (P.length : Int)) else some ([], 4) := by
      rw [hdr, List.all_cons, dcat_cons]
      by_cases h : dOK W.1 (dfn (P.getD k 0) (gs w P kind k)) = true
      · have := dbits_len hb hd
        rw [if_pos h, ih (k + 1) fuel _ (by omega) (by omega) (by rw [List.length_append]; omega), h, Bool.true_and, List.append_assoc]
      · rw [if_neg h, (Bool.not_eq_true _).mp h, Bool.false_and, if_neg (by decide)]
    unfold D_diff_Write_l1
    have hx : IntKind.i64.wrap (IntKind.u16.wrap (IntKind.i64.wrap (P.getD k 0 - gs w P kind k))) = (P.getD k 0 - gs w P kind k) % 65536 := by
      rw [w64 (x := P.getD k 0 - _) (by omega), show IntKind.u16.wrap (P.getD k 0 - gs w P kind k) = (P.getD k 0 - gs w P kind k) % 65536 by simp [IntKind.wrap, IntKind.bits, IntKind.signed], w64 (by omega)]
    rw [cT (dT (by omega)), p1, bsome, guess_code hP N hw hk H hlt hl, bsome, hx, bsome, hnx]
    refine Eq.trans ?_ fin
    by_cases h : 32768 < (P.getD k 0 - gs w P kind k) % 65536
    · have e : dfn (P.getD k 0) (gs w P kind k) = (P.getD k 0 - gs w P kind k) % 65536 - 65536 := by unfold dfn; rw [if_pos h]
      rw [cT (dT h), w64 (x := _ - 65536) (by omega), bsome, ← e]
      exact wbody N hN hb hd (by omega) fun b => D_diff_Write_l1 N (w : Int) H P kind W kk fuel (b, ((k + 1 : Nat) : Int))
    · have e : dfn (P.getD k 0) (gs w P kind k) = (P.getD k 0 - gs w P kind k) % 65536 := by unfold dfn; rw [if_neg h]
      rw [cF (dF h), ← e]
      exact wbody N hN hb hd (by omega) fun b => D_diff_Write_l1 N (w : Int) H P kind W kk fuel (b, ((k + 1 : Nat) : Int))
theorem writeDiff_code (N : Nat) (hN : 200000 ≤ N) (W H : Int) (P : List Int) (kind : Int) (c : List Int) : D_diff_Write N W H P kind c = some (writeDR W H P kind c) := by
  unfold D_diff_Write writeDR
  rw [dfine_eq N (by omega), bsome]
  by_cases hp : plF W H P = true
  rotate_left
  · rw [(Bool.not_eq_true _).mp hp, Bool.not_false, cT rfl, if_pos rfl]
  rw [hp, Bool.not_true, cF rfl, if_neg (by decide)]
  by_cases h1 : kind < 1
  · rw [cT (dT h1), if_pos (by omega)]
  rw [cF (dF h1)]
  by_cases h2 : 7 < kind
  · rw [cT (dT h2), if_pos (by omega)]
  rw [cF (dF h2), if_neg (by omega), words_code N (by omega), bsome]
  by_cases h3 : chkErr c = 0
  rotate_left
  · rw [cT (by rw [dF h3]; rfl), if_pos h3]
  obtain ⟨w, k, rfl, rfl, a1, a2, a3, a4, a5, a6, hP⟩ := plF_nat hp
  rw [cF (by rw [dT h3]; rfl), if_neg (by omega), Int.toNat_natCast]
  have hdl := ds_len w P kind
  have key := wcode_l1 N (by omega) (W := (wordsOf c, chkErr c)) (wordsOf_bits c) ⟨a1, a2⟩ (kind := kind) (by omega) (k : Int) hP (by omega) (fun (l3, i2) => Option.bind (D_bits_Bytes N l3) fun r18 => some (r18.1, (0 : Int))) P.length 0 N [] (by omega) (by omega) (by simp)
  refine Eq.trans key ?_
  rw [List.drop_zero]
  dsimp only
  by_cases h4 : (ds w P kind).all (dOK (wordsOf c)) = true
  · rw [if_pos h4, if_pos h4]
    have hcl := dcat_len (wordsOf_bits c) (ds_in w P kind)
    rw [List.nil_append, bytes_code N (by omega) (by omega), bsome, if_pos (dcat_bits (wordsOf_bits c) _)]
    rfl
  · rw [if_neg h4, if_neg h4]
theorem diffBegun_200 : D_darkslidelaw_diffBegun 200000 = some true := by kernel_rfl
end Go.Proofs.YtpmnfhifmmfglacDoor

namespace Go.Proofs.YtpmnfhifmmfglacDoor
open Go
theorem sli_t1 {α : Type} {xs : List α} (h : 1 ≤ xs.length) : sli xs 0 1 = some (xs.take 1) := sli_take (k := 1) h
theorem sli_d1 {α : Type} {xs : List α} (h : 1 ≤ xs.length) : sli xs 1 (xs.length : Int) = some (xs.drop 1) := sli_drop (k := 1) h
theorem addS_eq {a b : List UInt8} (h : a.length + b.length ≤ 9223372036854775807) : addS a b = some (a ++ b) := by unfold addS; rw [if_pos h]
theorem bits1 (N : Nat) (hN : 100 ≤ N) (c : UInt8) : D_bits_Bits N [c] = some (bitS [c]) := bits_eq N (s := [c]) (by simp) (by simp; omega)
theorem l3_l4 (N : Nat) (kk) : ∀ (fuel : Nat) (x : List UInt8 × List UInt8), D_diff_Read_l3 N kk fuel x = D_diff_Read_l4 N 1 kk fuel x
  | 0, _ => rfl
  | fuel + 1, (a, b) => by
    unfold D_diff_Read_l3 D_diff_Read_l4
    simp only [l3_l4 N kk fuel]
/-- What a taking fills up. -/
theorem fill_l4 (N : Nat) (hN : 100 ≤ N) {n : Nat} (hn : n ≤ 15) : ∀ (j fuel : Nat) (b s : List UInt8), n ≤ b.length + 8 * j → j < fuel → b.length ≤ n + 7 →
    ∃ b2 s2, (∀ kk, D_diff_Read_l4 N (n : Int) kk fuel (b, s) = kk (b2, s2)) ∧ b ++ bitS s = b2 ++ bitS s2 ∧ b2.length ≤ n + 7 ∧ (b2.length < n → s2 = []) := by
  intro j
  induction j with
  | zero =>
    intro fuel b s hj hf hb
    obtain ⟨fuel, rfl⟩ : ∃ q, fuel = q + 1 := ⟨fuel - 1, by omega⟩
    refine ⟨b, s, fun kk => ?_, rfl, hb, fun h => by omega⟩
    unfold D_diff_Read_l4
    rw [cF (dF (by omega))]
  | succ j ih =>
    intro fuel b s hj hf hb
    obtain ⟨fuel, rfl⟩ : ∃ q, fuel = q + 1 := ⟨fuel - 1, by omega⟩
    by_cases h : b.length < n
    rotate_left
    · refine ⟨b, s, fun kk => ?_, rfl, hb, fun h2 => absurd h2 h⟩
      unfold D_diff_Read_l4
      rw [cF (dF (by omega))]
    cases s with
    | nil =>
      refine ⟨b, [], fun kk => ?_, rfl, hb, fun _ => rfl⟩
      unfold D_diff_Read_l4
      rw [cT (dT (by omega)), cF (by rw [dT rfl]; rfl)]
    | cons c s =>
      have h8 : (bitS [c]).length = 8 := bitS_len [c]
      obtain ⟨b2, s2, h1, h2, h3, h4⟩ := ih fuel (b ++ bitS [c]) s (by rw [List.length_append]; omega) (by omega) (by rw [List.length_append]; omega)
      refine ⟨b2, s2, fun kk => ?_, ?_, h3, h4⟩
      · rw [← h1 kk]
        conv => lhs; unfold D_diff_Read_l4
        rw [cT (dT (by omega)), cT (by rw [dF (by simp)]; rfl), sli_t1 (by simp), bsome, show (c :: s).take 1 = [c] from rfl, bits1 N hN, bsome, addS_eq (by omega), bsome, sli_d1 (by simp), bsome]
        rfl
      · rw [bitS_cons, ← List.append_assoc, h2]
theorem take_l {b T : List UInt8} {n : Nat} (h : n ≤ b.length) : (b ++ T).take n = b.take n ∧ (b ++ T).drop n = b.drop n ++ T := ⟨List.take_append_of_le_length h, List.drop_append_of_le_length h⟩
theorem frE5 {W : List (List UInt8)} {b : List UInt8} (h : frE W b = 5) : ∃ w ∈ W, w ≠ [] ∧ b <+: w := by
  unfold frE at h
  split at h
  · rename_i q
    rw [List.any_eq_true] at q
    obtain ⟨w, hw, h2⟩ := q
    rw [Bool.and_eq_true, List.isPrefixOf_iff_prefix] at h2
    exact ⟨w, hw, by intro e; rw [e] at h2; simp at h2, h2.2⟩
  · cases h
theorem frE_not {W : List (List UInt8)} {b : List UInt8} (h : frE W b ≠ 5) : ∀ w ∈ W, w ≠ [] → ¬ b <+: w := fun w hw h0 hp => by
  refine h ?_
  unfold frE
  rw [if_pos]
  rw [List.any_eq_true]
  exact ⟨w, hw, by rw [Bool.and_eq_true, List.isPrefixOf_iff_prefix]; exact ⟨by cases w; exact absurd rfl h0; rfl, hp⟩⟩
theorem frI_no {W : List (List UInt8)} {b : List UInt8} (h : ∀ w ∈ W, w ≠ [] → ¬ w <+: b) : frI W b = none := by
  unfold frI
  rw [List.findIdx?_eq_none_iff]
  intro w hw
  rw [Bool.eq_false_iff]
  intro q
  obtain ⟨h0, h1⟩ := isW_iff.1 q
  exact h w hw h0 h1
theorem next_l2 (N : Nat) (hN : 5000 ≤ N) {c : List Int} (hc : chkErr c = 0) {R : List UInt8} (hR : isB R = true) : ∀ (j k fuel : Nat) (b s : List UInt8), k + j = 16 → k ≤ R.length → j < fuel → b.length ≤ 7 → R.drop k = b ++ bitS s → (∀ w ∈ wordsOf c, w ≠ [] → w.length ≤ k → ¬ (k ≠ w.length ∧ w <+: R)) →
    ∃ b2 s2 w2, b2.length ≤ 7 ∧ ((∃ i u, frI (wordsOf c) R = some i ∧ (wordsOf c)[i]? = some u ∧ (∀ i4 i5 kk, D_diff_Read_l2 N c kk fuel (b, s, i4, i5, R.take k) = kk (b2, s2, (i : Int), 0, w2)) ∧ R.drop u.length = b2 ++ bitS s2) ∨
      (frI (wordsOf c) R = none ∧ ∀ i4 i5 kk, D_diff_Read_l2 N c kk fuel (b, s, i4, i5, R.take k) = kk (b2, s2, 0, 1, w2))) := by
  intro j
  have hbW := wordsOf_bits c
  have hpf := wordsOf_pf c
  generalize hWW : wordsOf c = W at *
  induction j with
  | zero =>
    intro k fuel b s hkj hkR hf hb hd hno
    obtain ⟨fuel, rfl⟩ : ∃ q, fuel = q + 1 := ⟨fuel - 1, by omega⟩
    have hlk : (R.take k).length = k := by rw [List.length_take]; omega
    have hBt : isB (R.take k) = true := by rw [← List.take_append_drop k R, isB_app, Bool.and_eq_true] at hR; exact hR.1
    have hrd : D_code_Read N c (R.take k) 1 = some (rdL W 1 [] (R.take k)) := by
      rw [read_code N c _ 1 (by omega) ⟨hN, by omega⟩]
      unfold readR
      rw [if_neg (by omega), if_neg (by omega), if_pos hBt, hWW]; rfl
    have hnone : ∀ w ∈ W, w ≠ [] → ¬ w <+: R := fun w hw h0 hp => hno w hw h0 (by have := (hbW w hw).2; omega) ⟨by have := (hbW w hw).2; omega, hp⟩
    have h1 : frI W (R.take k) = none := frI_no fun w hw h0 hp => hnone w hw h0 (hp.trans (List.take_prefix _ _))
    have h2 : frE W (R.take k) ≠ 5 := fun h => by
      obtain ⟨w, hw, _, hp⟩ := frE5 h
      have := hp.length_le
      have := (hbW w hw).2
      omega
    have hrd2 : rdL W 1 [] (R.take k) = ([], [], frE W (R.take k)) := by unfold rdL; rw [h1]
    obtain ⟨b2, s2, f1, f2, f3, f4⟩ := fill_l4 N (by omega) (n := 1) (by omega) 1 N b s (by omega) (by omega) (by omega)
    have f1' : ∀ kk, D_diff_Read_l4 N 1 kk N (b, s) = kk (b2, s2) := f1
    by_cases h3 : b2.length < 1
    · refine ⟨b2, s2, R.take k, by omega, .inr ⟨frI_no hnone, fun i4 i5 kk => ?_⟩⟩
      unfold D_diff_Read_l2
      rw [hrd, bsome, hrd2]
      dsimp only
      rw [cF (dF (frE_ne W _)), l3_l4, f1']
      dsimp only
      rw [cT (dT (by omega)), dF h2]; rfl
    · refine ⟨b2.drop 1, s2, R.take k, by rw [List.length_drop]; omega, .inr ⟨frI_no hnone, fun i4 i5 kk => ?_⟩⟩
      unfold D_diff_Read_l2
      rw [hrd, bsome, hrd2]
      dsimp only
      rw [cF (dF (frE_ne W _)), l3_l4, f1']
      dsimp only
      rw [cF (dF (by omega)), sli_t1 (by omega), bsome, sli_d1 (by omega), bsome, cT (by rw [dF h2]; rfl)]
  | succ j ih =>
    intro k fuel b s hkj hkR hf hb hd hno
    obtain ⟨fuel, rfl⟩ : ∃ q, fuel = q + 1 := ⟨fuel - 1, by omega⟩
    have hlk : (R.take k).length = k := by rw [List.length_take]; omega
    have hBt : isB (R.take k) = true := by
      have := hR
      rw [← List.take_append_drop k R, isB_app, Bool.and_eq_true] at this; exact this.1
    have hrd : D_code_Read N c (R.take k) 1 = some (rdL W 1 [] (R.take k)) := by
      rw [read_code N c _ 1 (by omega) ⟨hN, by omega⟩]
      unfold readR
      rw [if_neg (by omega), if_neg (by omega), if_pos hBt, hWW]; rfl
    rcases h1 : frI W (R.take k) with _ | i
    rotate_left
    · obtain ⟨u, hu, hu0, hub⟩ := frI_some h1
      have huR := hub.trans (List.take_prefix k R)
      have hul : u.length = k := by
        have hle := hub.length_le
        have := hno u (List.mem_of_getElem? hu) hu0 (by omega)
        by_cases e : k = u.length
        · exact e.symm
        · exact absurd ⟨e, huR⟩ this
      refine ⟨b, s, R.take k, hb, .inl ⟨i, u, frI_of hpf hu hu0 huR, hu, fun i4 i5 kk => ?_, by rw [hul, hd]⟩⟩
      unfold D_diff_Read_l2
      rw [hrd, bsome]
      have hrd2 : rdL W 1 [] (R.take k) = ([(i : Int)], (R.take k).drop (W.getD i []).length, 0) := by unfold rdL; rw [h1]; rfl
      rw [hrd2]
      rfl
    have hnone : ∀ w ∈ W, w ≠ [] → w.length ≤ k → ¬ w <+: R := fun w hw h0 hl hp => frI_none h1 w hw h0 (by
      rw [List.prefix_iff_eq_take.1 hp]
      have : R.take w.length = (R.take k).take w.length := by rw [List.take_take, Nat.min_eq_left hl]
      rw [this]
      exact List.take_prefix _ _)
    have hrd2 : rdL W 1 [] (R.take k) = ([], [], frE W (R.take k)) := by unfold rdL; rw [h1]
    obtain ⟨b2, s2, f1, f2, f3, f4⟩ := fill_l4 N (by omega) (n := 1) (by omega) 1 N b s (by omega) (by omega) (by omega)
    have f1' : ∀ kk, D_diff_Read_l4 N 1 kk N (b, s) = kk (b2, s2) := f1
    by_cases h3 : b2.length < 1
    · have hs2 := f4 h3
      have hb2 : b2 = [] := List.length_eq_zero_iff.1 (by omega)
      have hfull : R.length ≤ k := by
        rw [f2, hb2, hs2] at hd
        have := congrArg List.length hd
        rw [List.length_drop] at this
        simp [bitS_nil] at this
        omega
      have hno2 : frI W R = none := by rw [List.take_of_length_le hfull] at h1; exact h1
      refine ⟨b2, s2, R.take k, by omega, .inr ⟨hno2, fun i4 i5 kk => ?_⟩⟩
      unfold D_diff_Read_l2
      rw [hrd, bsome, hrd2]
      dsimp only
      rw [cF (dF (frE_ne W _)), l3_l4, f1']
      dsimp only
      rw [cT (dT (by omega))]
      cases (!decide (frE W (R.take k) = 5)) <;> rfl
    by_cases h2 : frE W (R.take k) = 5
    rotate_left
    · have hno2 : frI W R = none := frI_no fun w hw h0 hp => by
        rcases Nat.lt_or_ge k w.length with hl | hl
        · refine frE_not h2 w hw h0 ?_
          exact List.prefix_of_prefix_length_le (List.take_prefix k R) hp (by omega)
        · exact hnone w hw h0 hl hp
      refine ⟨b2.drop 1, s2, R.take k, by rw [List.length_drop]; omega, .inr ⟨hno2, fun i4 i5 kk => ?_⟩⟩
      unfold D_diff_Read_l2
      rw [hrd, bsome, hrd2]
      dsimp only
      rw [cF (dF (frE_ne W _)), l3_l4, f1']
      dsimp only
      rw [cF (dF (by omega)), sli_t1 (by omega), bsome, sli_d1 (by omega), bsome, cT (by rw [dF h2]; rfl)]
    obtain ⟨t1, t2⟩ := take_l (b := b2) (T := bitS s2) (n := 1) (by omega)
    rw [f2] at hd
    have hlt : k < R.length := by
      have := congrArg List.length hd
      rw [List.length_drop, List.length_append] at this
      omega
    have htk : R.take k ++ b2.take 1 = R.take (k + 1) := by
      rw [← t1, ← hd, List.take_add]
    have hdk : R.drop (k + 1) = b2.drop 1 ++ bitS s2 := by rw [← t2, ← hd, List.drop_drop]
    obtain ⟨b3, s3, w3, g1, g2⟩ := ih (k + 1) fuel (b2.drop 1) s2 (by omega) (by omega) (by omega) (by rw [List.length_drop]; omega) hdk (fun w hw h0 hl hx => by
      rcases Nat.lt_or_ge k w.length with q | q
      · exact hx.1 (by omega)
      · exact hnone w hw h0 q hx.2)
    have step : ∀ i4 i5 kk, D_diff_Read_l2 N c kk (fuel + 1) (b, s, i4, i5, R.take k) = D_diff_Read_l2 N c kk fuel (b2.drop 1, s2, i4, i5, R.take (k + 1)) := fun i4 i5 kk => by
      conv => lhs; unfold D_diff_Read_l2
      rw [hrd, bsome, hrd2]
      dsimp only
      rw [cF (dF (frE_ne W _)), l3_l4, f1']
      dsimp only
      rw [cF (dF (by omega)), sli_t1 (by omega), bsome, sli_d1 (by omega), bsome, cF (by rw [dT h2]; rfl), addS_eq (by rw [hlk, List.length_take]; omega), bsome, htk]
    refine ⟨b3, s3, w3, g1, ?_⟩
    rcases g2 with ⟨i, u, a1, a2, a3, a4⟩ | ⟨a1, a2⟩
    · exact .inl ⟨i, u, a1, a2, fun i4 i5 kk => by rw [step, a3], a4⟩
    · exact .inr ⟨a1, fun i4 i5 kk => by rw [step, a2]⟩
theorem lead_bit {t : List UInt8} (hb : isB t = true) (h : 1 ≤ t.length) : ∃ x, t[0]? = some x ∧ (((x.toNat : Int) = 48) ↔ 2 * num 2 (btsOf t) < 2 ^ t.length) := by
  cases t with
  | nil => simp at h
  | cons x t =>
    refine ⟨x, rfl, ?_⟩
    have hl := num_lt (B := 2) (btsOf t) (btsOf_lt (by unfold isB at hb ⊢; rw [List.all_cons, Bool.and_eq_true] at hb; exact hb.2))
    have bl : (btsOf t).length = t.length := by simp [btsOf]
    have hx : x = 48 ∨ x = 49 := by unfold isB at hb; rw [List.all_cons, Bool.and_eq_true] at hb; exact of_decide_eq_true hb.1
    rw [show btsOf (x :: t) = (x.toNat - 48) :: btsOf t from rfl, num_cons, List.length_cons, Nat.pow_succ, bl]
    rw [bl] at hl
    rcases hx with rfl | rfl
    · rw [show (48 : UInt8).toNat = 48 from rfl]
      constructor
      · intro _; omega
      · intro _; rfl
    · rw [show (49 : UInt8).toNat = 49 from rfl]
      constructor
      · intro h; omega
      · intro h; omega
theorem vd_lead {t : List UInt8} (h : 2 * num 2 (btsOf t) < 2 ^ t.length) : vd t = (num 2 (btsOf t) : Int) - (((2 ^ t.length : Nat) : Int) - 1) := by unfold vd; rw [if_pos h]; omega
theorem vd_high {t : List UInt8} (h : ¬ 2 * num 2 (btsOf t) < 2 ^ t.length) : vd t = (num 2 (btsOf t) : Int) := by unfold vd; rw [if_neg h]
theorem set_snoc {P : List Int} {x y : Int} : (P ++ [x]).set P.length y = P ++ [y] := by
  rw [List.set_append_right _ _ (Nat.le_refl _), Nat.sub_self]; rfl
theorem codeR_l1 (N : Nat) (hN : 5000 ≤ N) {c : List Int} (hc : chkErr c = 0) {w h : Nat} (hw : 1 ≤ w ∧ w ≤ 64) (hh : 1 ≤ h ∧ h ≤ 64) {kind : Int} (hk : 1 ≤ kind ∧ kind ≤ 7) (kk) : ∀ (j fuel : Nat) (P : List Int) (b s : List UInt8), P.length + j = w * h → j < fuel → (∀ e ∈ P, 0 ≤ e ∧ e ≤ 65535) → b.length ≤ 7 → isB (b ++ bitS s) = true →
    (rdD (wordsOf c) w kind j P (b ++ bitS s) = none ∧ D_diff_Read_l1 N (w : Int) (h : Int) kind c kk fuel (P, b, s, (P.length : Int)) = some (0, 0, [], 1)) ∨
    (∃ P2 b2 s2, rdD (wordsOf c) w kind j P (b ++ bitS s) = some (P2, b2 ++ bitS s2) ∧ b2.length ≤ 7 ∧ D_diff_Read_l1 N (w : Int) (h : Int) kind c kk fuel (P, b, s, (P.length : Int)) = kk (P2, b2, s2, ((w * h : Nat) : Int))) := by
  have hm := Nat.mul_le_mul hw.2 hh.2
  have hwh : IntKind.i64.wrap ((w : Int) * (h : Int)) = ((w * h : Nat) : Int) := by rw [show (w : Int) * (h : Int) = ((w * h : Nat) : Int) by simp, w64 (by omega)]
  have hbW := wordsOf_bits c
  have hWl : (wordsOf c).length ≤ 17 := by
    rw [wordsOf_len hc]
    obtain ⟨ns, rfl, _, _, h17, _⟩ := chk_ok hc
    rw [toI_len]; exact h17
  intro j
  induction j with
  | zero =>
    intro fuel P b s hj hf hP hb hB
    obtain ⟨fuel, rfl⟩ : ∃ q, fuel = q + 1 := ⟨fuel - 1, by omega⟩
    refine .inr ⟨P, b, s, rfl, hb, ?_⟩
    unfold D_diff_Read_l1
    rw [hwh, cF (dF (by omega)), show P.length = w * h by omega]
  | succ j ih =>
    intro fuel P b s hj hf hP hb hB
    obtain ⟨fuel, rfl⟩ : ∃ q, fuel = q + 1 := ⟨fuel - 1, by omega⟩
    have hlt : P.length < w * h := by omega
    have hnx : IntKind.i64.wrap ((P.length : Int) + 1) = ((P.length + 1 : Nat) : Int) := by rw [w64 (by omega)]; rfl
    have hP0 : ∀ e ∈ P ++ [0], 0 ≤ e ∧ e ≤ 65535 := fun e he => by
      rcases List.mem_append.1 he with q | q
      · exact hP e q
      · rw [List.mem_singleton.1 q]; decide
    have hP1 : (P ++ [(0 : Int)]).length = P.length + 1 := by simp
    have hg : D_diff_guess N (w : Int) (h : Int) (P ++ [0]) kind (P.length : Int) = some (gs w P kind P.length) := by
      rw [guess_code hP0 N hw hk _ (by omega) (by omega), gs_app hw.1 _ _ _ (Nat.le_refl _)]
    have hgi : -65535 ≤ gs w P kind P.length ∧ gs w P kind P.length ≤ 131070 := by
      rw [← gs_app hw.1 P [0] kind (Nat.le_refl _)]
      exact gs_in hP0 hw.1 (by omega)
    have hset : ∀ y : Int, setL (P ++ [0]) (P.length : Int) y = some (P ++ [y]) := fun y => by
      rw [setL_eq (by omega), Int.toNat_natCast, set_snoc]
    have hix : idx (P ++ [(0 : Int)]) (P.length : Int) = some 0 := by rw [idx_nat]; simp
    have hval : ∀ d : Int, -32768 < d ∧ d ≤ 32768 → IntKind.i64.wrap (IntKind.u16.wrap (IntKind.i64.wrap (gs w P kind P.length + d))) = (gs w P kind P.length + d) % 65536 := fun d hd => by
      rw [w64 (x := gs w P kind P.length + d) (by omega), show IntKind.u16.wrap (gs w P kind P.length + d) = (gs w P kind P.length + d) % 65536 by simp [IntKind.wrap, IntKind.bits, IntKind.signed], w64 (by omega)]
    have go : ∀ (d : Int) (b2 s2 : List UInt8), b2.length ≤ 7 → rdStep (wordsOf c) (b ++ bitS s) = some (d, b2 ++ bitS s2) → 
        D_diff_Read_l1 N (w : Int) (h : Int) kind c kk (fuel + 1) (P, b, s, (P.length : Int)) = D_diff_Read_l1 N (w : Int) (h : Int) kind c kk fuel (P ++ [(gs w P kind P.length + d) % 65536], b2, s2, ((P.length + 1 : Nat) : Int)) →
        (rdD (wordsOf c) w kind (j + 1) P (b ++ bitS s) = none ∧ D_diff_Read_l1 N (w : Int) (h : Int) kind c kk (fuel + 1) (P, b, s, (P.length : Int)) = some (0, 0, [], 1)) ∨
        (∃ P2 b2 s2, rdD (wordsOf c) w kind (j + 1) P (b ++ bitS s) = some (P2, b2 ++ bitS s2) ∧ b2.length ≤ 7 ∧ D_diff_Read_l1 N (w : Int) (h : Int) kind c kk (fuel + 1) (P, b, s, (P.length : Int)) = kk (P2, b2, s2, ((w * h : Nat) : Int))) := by
      intro d b2 s2 h1 h2 h3
      obtain ⟨hd, _, hRR⟩ := step_ok hbW hWl hB h2
      have hB2 : isB (b2 ++ bitS s2) = true := by
        rw [hRR, isB_app, Bool.and_eq_true] at hB
        exact hB.2
      have hl : (P ++ [(gs w P kind P.length + d) % 65536]).length = P.length + 1 := by simp
      have := ih fuel (P ++ [(gs w P kind P.length + d) % 65536]) b2 s2 (by omega) (by omega) (fun e he => by
        rcases List.mem_append.1 he with q | q
        · exact hP e q
        · rw [List.mem_singleton.1 q]; omega) h1 hB2
      have e : rdD (wordsOf c) w kind (j + 1) P (b ++ bitS s) = rdD (wordsOf c) w kind j (P ++ [(gs w P kind P.length + d) % 65536]) (b2 ++ bitS s2) := by
        conv => lhs; unfold rdD
        rw [h2]
      rw [hl] at this
      rw [e, h3]
      exact this
    have bad : rdStep (wordsOf c) (b ++ bitS s) = none → rdD (wordsOf c) w kind (j + 1) P (b ++ bitS s) = none := fun q => by unfold rdD; rw [q]
    obtain ⟨b2, s2, w2, n1, n2⟩ := next_l2 N hN hc hB 16 0 N b s rfl (by omega) (by omega) hb rfl (fun u hu h0 hl hx => hx.1 (by omega))
    have start : D_diff_Read_l1 N (w : Int) (h : Int) kind c kk (fuel + 1) (P, b, s, (P.length : Int)) = D_diff_Read_l1 N (w : Int) (h : Int) kind c kk (fuel + 1) (P, b, s, (P.length : Int)) := rfl
    rcases n2 with ⟨i, u, a1, a2, a3, a4⟩ | ⟨a1, a2⟩
    rotate_left
    · refine .inl ⟨bad (by unfold rdStep; rw [a1]), ?_⟩
      unfold D_diff_Read_l1
      rw [hwh, cT (dT (by omega)), app_eq (by simp; omega), bsome]
      refine (a2 0 0 _).trans ?_
      rfl
    have hgd : (wordsOf c).getD i [] = u := by rw [List.getD_eq_getElem?_getD, a2]; rfl
    have hil : i < (wordsOf c).length := (List.getElem?_eq_some_iff.1 a2).1
    have hst : rdStep (wordsOf c) (b ++ bitS s) = if i = 16 then some (32768, b2 ++ bitS s2) else if (b2 ++ bitS s2).length < i then none else some (vd ((b2 ++ bitS s2).take i), (b2 ++ bitS s2).drop i) := by
      unfold rdStep
      rw [a1]
      dsimp only
      rw [hgd, a4]
    by_cases h16 : i = 16
    · refine go 32768 b2 s2 n1 (by rw [hst, if_pos h16]) ?_
      conv => lhs; unfold D_diff_Read_l1
      rw [hwh, cT (dT (by omega)), app_eq (by simp; omega), bsome]
      refine (a3 0 0 _).trans ?_
      dsimp only
      rw [cF (by rfl), cT (dT (by omega)), hg, bsome, hix, bsome, hval _ (by decide), hset, bsome, hnx]
    rw [if_neg h16] at hst
    by_cases h0 : i = 0
    · subst h0
      refine go 0 b2 s2 n1 (by rw [hst, if_neg (by omega), List.take_zero, List.drop_zero]; rfl) ?_
      conv => lhs; unfold D_diff_Read_l1
      rw [hwh, cT (dT (by omega)), app_eq (by simp; omega), bsome]
      refine (a3 0 0 _).trans ?_
      dsimp only
      rw [cF (by rfl), cF (dF (by omega)), cF (dF (by omega)), hg, bsome, hix, bsome, hval _ (by decide), hset, bsome, hnx]
    obtain ⟨b3, s3, f1, f2, f3, f4⟩ := fill_l4 N (by omega) (n := i) (by omega) 2 N b2 s2 (by omega) (by omega) (by omega)
    rw [f2] at hst
    by_cases hs : b3.length < i
    · have hs3 := f4 hs
      refine .inl ⟨bad (by rw [hst, hs3, bitS_nil, List.append_nil, if_pos hs]), ?_⟩
      unfold D_diff_Read_l1
      rw [hwh, cT (dT (by omega)), app_eq (by simp; omega), bsome]
      refine (a3 0 0 _).trans ?_
      dsimp only
      rw [cF (by rfl), cF (dF (by omega)), cT (dT (by omega)), f1]
      dsimp only
      rw [cT (dT (by omega))]
    obtain ⟨t1, t2⟩ := take_l (b := b3) (T := bitS s3) (n := i) (by omega)
    have hB3 : isB (b3.take i) = true := by
      have e : b ++ bitS s = u ++ (b3.take i ++ (b3.drop i ++ bitS s3)) := by
        obtain ⟨u2, hu2, _, hub⟩ := frI_some a1
        rw [a2] at hu2
        cases hu2
        obtain ⟨T, hT⟩ := hub
        rw [← hT, List.drop_left] at a4
        rw [← hT, a4, f2, ← List.append_assoc (b3.take i), List.take_append_drop]
      rw [e, isB_app, isB_app, Bool.and_eq_true, Bool.and_eq_true] at hB
      exact hB.2.1
    have hlen : (b3.take i).length = i := by rw [List.length_take]; omega
    rw [if_neg (by rw [List.length_append]; omega), t1, t2] at hst
    obtain ⟨_, _, v1, v2⟩ := vd_spec hB3 (by omega)
    have hvl := num_lt (B := 2) (btsOf (b3.take i)) (btsOf_lt hB3)
    have bl : (btsOf (b3.take i)).length = i := by simp only [btsOf, List.length_map]; exact hlen
    rw [bl] at hvl
    have hp16 := pow_le16 (d := i) (by omega)
    obtain ⟨x, x1, x2⟩ := lead_bit hB3 (by omega)
    rw [hlen] at x2
    refine go (vd (b3.take i)) (b3.drop i) s3 (by rw [List.length_drop]; omega) hst ?_
    conv => lhs; unfold D_diff_Read_l1
    rw [hwh, cT (dT (by omega)), app_eq (by simp; omega), bsome]
    refine (a3 0 0 _).trans ?_
    dsimp only
    rw [cF (by rfl), cF (dF (by omega)), cT (dT (by omega)), f1]
    dsimp only
    rw [cF (dF (by omega)), sli_take (by omega), bsome, sli_drop (by omega), bsome, value_code N (by omega) (by omega), bsome, if_pos hB3, if_pos (by omega), show idx (b3.take i) 0 = (b3.take i)[0]? from idx_nat _ 0, x1, bsome]
    dsimp only
    by_cases hx : 2 * num 2 (btsOf (b3.take i)) < 2 ^ i
    · have hv := vd_lead (t := b3.take i) (by rw [hlen]; exact hx)
      rw [hlen] at hv
      rw [cT (dT (x2.2 hx)), nn_nat, bsome, one_shl (by omega), w64 (x := _ - 1) (by omega), w64 (x := _ - _) (by omega), bsome, hg, bsome, hix, bsome, ← hv, hval _ (by omega), hset, bsome, hnx]
    · have hv := vd_high (t := b3.take i) (by rw [hlen]; exact hx)
      rw [cF (dF (fun q => hx (x2.1 q))), hg, bsome, hix, bsome, ← hv, hval _ (by omega), hset, bsome, hnx]
end Go.Proofs.YtpmnfhifmmfglacDoor

namespace Go.Proofs.YtpmnfhifmmfglacDoor
open Go
/-- What Read answers. -/
def readDR (s : List UInt8) (W H kind : Int) (c : List Int) : Int × Int × List Int × Int :=
  if ¬ (1 ≤ W ∧ W ≤ 64) then (0, 0, [], 3) else if ¬ (1 ≤ H ∧ H ≤ 64) then (0, 0, [], 3) else if ¬ (1 ≤ kind ∧ kind ≤ 7) then (0, 0, [], 6) else if chkErr c ≠ 0 then (0, 0, [], chkErr c) else
  match rdD (wordsOf c) W.toNat kind (W.toNat * H.toNat) [] (bitS s) with
  | none => (0, 0, [], 1)
  | some (P, R) => if R.length ≤ 7 ∧ R = List.replicate R.length 48 then (W, H, P, 0) else (0, 0, [], 1)
theorem ib49 : ∀ {b : List UInt8}, isB b = true → (decide (0 ≤ Go.Lib.indexByte b 49)) = !decide (b = List.replicate b.length 48)
  | [], _ => rfl
  | x :: b, h => by
    have hx : x = 48 ∨ x = 49 := by unfold isB at h; rw [List.all_cons, Bool.and_eq_true] at h; exact of_decide_eq_true h.1
    have hb : isB b = true := by unfold isB at h ⊢; rw [List.all_cons, Bool.and_eq_true] at h; exact h.2
    have ih := ib49 hb
    have ge := Go.Lib.indexByte_ge b 49
    rcases hx with rfl | rfl
    · have e : decide (0 ≤ Go.Lib.indexByte (48 :: b) 49) = decide (0 ≤ Go.Lib.indexByte b 49) := by
        rw [decide_eq_decide]
        show 0 ≤ (if ((48 : UInt8) == 49) = true then (0 : Int) else if (Go.Lib.indexByte b 49 == -1) = true then -1 else Go.Lib.indexByte b 49 + 1) ↔ _
        rw [if_neg (by decide)]
        by_cases hq : Go.Lib.indexByte b 49 = -1
        · rw [if_pos (by rw [hq]; rfl), hq]
        · rw [if_neg (by simpa using hq)]; omega
      rw [e, ih]
      congr 1
      rw [decide_eq_decide, List.length_cons, List.replicate_succ]
      simp
    · rw [dF (show ¬ ((49 : UInt8) :: b = List.replicate ((49 : UInt8) :: b).length 48) by rw [List.length_cons, List.replicate_succ]; intro q; injection q with q _; revert q; decide)]
      exact dT (by show 0 ≤ (if ((49 : UInt8) == 49) = true then (0 : Int) else _); rw [if_pos (by decide)]; exact Int.le_refl _)
theorem readDiff_code (N : Nat) (hN : 200000 ≤ N) (s : List UInt8) (W H kind : Int) (c : List Int) : D_diff_Read N s W H kind c = some (readDR s W H kind c) := by
  unfold D_diff_Read readDR
  by_cases h1 : W < 1
  · rw [cT (dT h1), if_pos (by omega)]
  rw [cF (dF h1)]
  by_cases h2 : 64 < W
  · rw [cT (dT h2), if_pos (by omega)]
  rw [cF (dF h2), if_neg (by omega)]
  by_cases h3 : H < 1
  · rw [cT (dT h3), if_pos (by omega)]
  rw [cF (dF h3)]
  by_cases h4 : 64 < H
  · rw [cT (dT h4), if_pos (by omega)]
  rw [cF (dF h4), if_neg (by omega)]
  by_cases h5 : kind < 1
  · rw [cT (dT h5), if_pos (by omega)]
  rw [cF (dF h5)]
  by_cases h6 : 7 < kind
  · rw [cT (dT h6), if_pos (by omega)]
  rw [cF (dF h6), if_neg (by omega), check_code N (by omega), bsome]
  by_cases h7 : chkErr c = 0
  rotate_left
  · rw [cT (by rw [dF h7]; rfl), if_pos h7]
  rw [cF (by rw [dT h7]; rfl), if_neg (by omega)]
  obtain ⟨w, rfl⟩ := Int.eq_ofNat_of_zero_le (show 0 ≤ W by omega)
  obtain ⟨h, rfl⟩ := Int.eq_ofNat_of_zero_le (show 0 ≤ H by omega)
  have hm := Nat.mul_le_mul (show w ≤ 64 by omega) (show h ≤ 64 by omega)
  rw [Int.toNat_natCast, Int.toNat_natCast]
  have hB : isB ([] ++ bitS s) = true := bitS_isB s
  have key := codeR_l1 N (by omega) h7 (w := w) (h := h) (by omega) (by omega) (kind := kind) (by omega) (fun (x_P4, x27, x28, i8) =>
    cond (!decide (x28 = ([] : List UInt8))) (
    some (0, 0, ([] : List Int), 1)) (
    Option.bind (D_strings_Contains N x27 ([49] : List UInt8)) fun r23 =>
    cond (r23) (
    some (0, 0, ([] : List Int), 1)) (
    some ((w : Int), (h : Int), x_P4, 0)))) (w * h) N [] [] s (by simp) (by omega) (by simp) (by simp) hB
  rw [List.nil_append] at key
  rcases key with ⟨k1, k2⟩ | ⟨P2, b2, s2, k1, k2, k3⟩
  · rw [k1]; exact k2
  refine Eq.trans k3 ?_
  rw [k1]
  dsimp only
  have hB2 : isB (b2 ++ bitS s2) = true := (rdD_ok (wordsOf_bits c) (by
    rw [wordsOf_len h7]
    obtain ⟨ns, rfl, _, _, h17, _⟩ := chk_ok h7
    rw [toI_len]; exact h17) (by omega) _ _ _ [] _ _ (bitS_isB s) (by simp) rfl k1).2.2.2.2
  by_cases hs : s2 = []
  rotate_left
  · have : 1 ≤ s2.length := by
      rcases Nat.eq_zero_or_pos s2.length with q | q
      · exact absurd (List.length_eq_zero_iff.1 q) hs
      · exact q
    rw [cT (by rw [dF hs]; rfl), if_neg]
    rw [List.length_append, bitS_len]
    omega
  subst hs
  rw [bitS_nil, List.append_nil] at hB2 ⊢
  rw [cF (by rfl), show D_strings_Contains N b2 [49] = some (decide (0 ≤ Go.Lib.indexByte b2 49)) from rfl, bsome, ib49 hB2]
  by_cases hz : b2 = List.replicate b2.length 48
  · rw [dT hz, if_pos ⟨k2, hz⟩]; rfl
  · rw [dF hz, if_neg (fun q => hz q.2)]; rfl
theorem writeDR_ok {w h : Nat} (hw : 1 ≤ w ∧ w ≤ 64) (hh : 1 ≤ h ∧ h ≤ 64) {P : List Int} (hP : ∀ e ∈ P, 0 ≤ e ∧ e ≤ 65535) (hl : P.length = w * h) {kind : Int} (hk : 1 ≤ kind ∧ kind ≤ 7) {c : List Int} (hc : chkErr c = 0) (ha : (ds w P kind).all (dOK (wordsOf c)) = true) : writeDR (w : Int) (h : Int) P kind c = (byB (dcat (wordsOf c) (ds w P kind)), 0) := by
  have hp : plF (w : Int) (h : Int) P = true := by
    unfold plF
    rw [dT (show sideOK (w : Int) (h : Int) P.length from ⟨by omega, by omega, by omega, by omega, by rw [hl]; simp⟩), Bool.true_and, List.all_eq_true]
    exact fun e he => dT (hP e he)
  unfold writeDR
  rw [hp, if_neg (by decide), if_neg (by omega), if_neg (by omega), Int.toNat_natCast, if_pos ha]
theorem same_pl (N : Nat) (hN : 5000 ≤ N) (W H : Int) {P : List Int} (hl : P.length ≤ 4096) : D_darkslideref_SamePlanes N W H P W H P = some true := by
  unfold D_darkslideref_SamePlanes
  rw [cT (dT rfl), cT (dT rfl), sameI2 N P (by omega) (by omega)]; rfl
end Go.Proofs.YtpmnfhifmmfglacDoor

namespace Go.Proofs.YtpmnfhifmmfglacDoor
open Go
theorem bitS_byB {D : List UInt8} (h : isB D = true) : bitS (byB D) = D ++ List.replicate (8 * ((D.length + 7) / 8) - D.length) 48 := by
  have bl : (btsOf D).length = D.length := by simp [btsOf]
  generalize hM : (D.length + 7) / 8 = M
  have hlen : (byB D).length = M := by unfold byB; rw [List.length_map, hM]; simp [gr]
  have hX : isB (D ++ List.replicate (8 * M - D.length) 48) = true := by
    rw [isB_app, h, Bool.true_and]
    unfold isB
    rw [List.all_eq_true]
    intro x hx
    rw [(List.mem_replicate.1 hx).2]; rfl
  have e1 : btsOf (D ++ List.replicate (8 * M - D.length) 48) = btsOf D ++ List.replicate (8 * M - D.length) 0 := by
    unfold btsOf
    rw [List.map_append, List.map_replicate]; rfl
  have e2 : (gr M (btsOf (bitS (byB D)))).map UInt8.ofNat = (gr M (btsOf D)).map UInt8.ofNat := by
    have := gr_bitS (byB D)
    rw [hlen] at this
    rw [this]
    unfold byB
    rw [hM]
  have e3 : gr M (btsOf (bitS (byB D))) = gr M (btsOf (D ++ List.replicate (8 * M - D.length) 48)) := by
    have := congrArg (List.map UInt8.toNat) e2
    rw [ofNat_toNat (gr_bd (btsOf_lt (bitS_isB _))), ofNat_toNat (gr_bd (btsOf_lt h))] at this
    rw [this, e1, gr_pad]
  have e4 := gr_inj (by simp only [btsOf, List.length_map, bitS_len]; rw [hlen]) (by rw [e1, List.length_append, bl, List.length_replicate]; omega) (btsOf_lt (bitS_isB _)) (btsOf_lt hX) e3
  have := congrArg chs e4
  rw [chs_bts (bitS_isB _), chs_bts hX] at this
  exact this
theorem mor_len2 {d : Int} (h1 : cl d ≠ 16) (h : cl d ≠ 0) : (mor d).length = cl d := by
  unfold mor
  rw [if_neg (by omega), chs_len, dig_len]
theorem vd_mor {d : Int} (hd : -32768 < d ∧ d ≤ 32768) (h : cl d ≠ 16) : vd (mor d) = d := by
  by_cases h0 : cl d = 0
  · obtain rfl := cl_zero.1 h0
    unfold mor
    rw [if_pos (.inl h0)]; rfl
  have hl := mor_len2 h h0
  have hlt := cl_lt (d := d)
  have hc := cl_le hd
  have hne : d ≠ 0 := fun e => h0 (cl_zero.2 e)
  have hp : 2 ^ cl d = 2 * 2 ^ (cl d - 1) := by rw [← Nat.pow_succ']; congr 1; omega
  have hge : 2 ^ (cl d - 1) ≤ (max d (-d)).toNat := by
    rcases Nat.lt_or_ge (max d (-d)).toNat (2 ^ (cl d - 1)) with q | q
    · have : cl d ≤ cl d - 1 := (bl_pow (cl d - 1) _).2 q
      omega
    · exact q
  have hb : btsOf (mor d) = dig 2 (cl d) (if 0 < d then d else d + ((2 ^ cl d : Nat) : Int) - 1).toNat := by
    unfold mor
    rw [if_neg (by omega), bts_chs (dig_lt (by decide) _ _)]
  have hv : (if 0 < d then d else d + ((2 ^ cl d : Nat) : Int) - 1).toNat < 2 ^ cl d := by
    split <;> omega
  have hn : num 2 (btsOf (mor d)) = (if 0 < d then d else d + ((2 ^ cl d : Nat) : Int) - 1).toNat := by
    rw [hb, num_dig, Nat.mod_eq_of_lt hv]
  unfold vd
  rw [hn, hl]
  by_cases h5 : 0 < d
  · rw [if_pos h5, if_neg (by omega)]; omega
  · rw [if_neg h5, if_pos (by omega)]; omega
theorem cl16 {d : Int} (hd : -32768 < d ∧ d ≤ 32768) (h : cl d = 16) : d = 32768 := by
  rcases Nat.lt_or_ge (max d (-d)).toNat (2 ^ 15) with q | q
  · have : cl d ≤ 15 := (bl_pow 15 _).2 q
    omega
  · have : (32768 : Nat) ≤ (max d (-d)).toNat := q
    omega
theorem step_back {W : List (List UInt8)} (hp : PF W) {d : Int} (hd : -32768 < d ∧ d ≤ 32768) (h : dOK W d = true) (T : List UInt8) : rdStep W (dbits W d ++ T) = some (d, T) := by
  obtain ⟨u, hu, hu0, hg, _⟩ := dOK_at h
  have e : dbits W d ++ T = u ++ (mor d ++ T) := by unfold dbits; rw [hg, List.append_assoc]
  rw [e]
  unfold rdStep
  rw [frI_of hp hu hu0 (List.prefix_append u _)]
  dsimp only
  rw [hg, List.drop_left]
  by_cases h16 : cl d = 16
  · rw [if_pos h16, cl16 hd h16, top_spec.2]; rfl
  rw [if_neg h16]
  have hl : (mor d).length = cl d := by
    by_cases h0 : cl d = 0
    · unfold mor; rw [if_pos (.inl h0), h0]; rfl
    · exact mor_len2 h16 h0
  rw [if_neg (by rw [List.length_append]; omega), ← hl, List.take_left, List.drop_left, vd_mor hd h16]
theorem dfn_fwd {n g : Int} (h : 0 ≤ n ∧ n ≤ 65535) : (g + dfn n g) % 65536 = n := by
  unfold dfn
  split <;> omega
theorem ds_drop {w : Nat} {P : List Int} {kind : Int} {k : Nat} (h : k < P.length) : (ds w P kind).drop k = dfn (P.getD k 0) (gs w P kind k) :: (ds w P kind).drop (k + 1) := by
  have hdl := ds_len w P kind
  rw [List.drop_eq_getElem_cons (by omega)]
  congr 1
  have := ds_at w P kind h
  rw [List.getElem?_eq_getElem (by omega)] at this
  exact Option.some.inj this
theorem rd_back {W : List (List UInt8)} (hp : PF W) {w : Nat} (hw : 1 ≤ w) {kind : Int} {P : List Int} (hP : ∀ e ∈ P, 0 ≤ e ∧ e ≤ 65535) (ha : (ds w P kind).all (dOK W) = true) (T : List UInt8) : ∀ (j k : Nat), k + j = P.length → rdD W w kind j (P.take k) (dcat W ((ds w P kind).drop k) ++ T) = some (P, T) := by
  intro j
  have hdl := ds_len w P kind
  induction j with
  | zero =>
    intro k hk
    obtain rfl : k = P.length := by omega
    unfold rdD
    rw [← hdl, List.drop_length, hdl, List.take_length]; rfl
  | succ j ih =>
    intro k hk
    have hlt : k < P.length := by omega
    have hdr := ds_drop (w := w) (kind := kind) hlt
    have hok : dOK W (dfn (P.getD k 0) (gs w P kind k)) = true := List.all_eq_true.1 ha _ (by
      have : dfn (P.getD k 0) (gs w P kind k) ∈ (ds w P kind).drop k := by rw [hdr]; simp
      exact List.mem_of_mem_drop this)
    have hkl : (P.take k).length = k := by rw [List.length_take]; omega
    have hgs : gs w (P.take k) kind k = gs w P kind k := by
      have := gs_app hw (P.take k) (P.drop k) kind (i := k) (by omega)
      rw [List.take_append_drop] at this
      exact this.symm
    have hpk := (P_at hP hlt).2
    have htk : P.take k ++ [P.getD k 0] = P.take (k + 1) := by
      rw [List.take_add_one, List.getElem?_eq_getElem hlt, List.getD_eq_getElem?_getD, List.getElem?_eq_getElem hlt]; rfl
    unfold rdD
    rw [hdr, dcat_cons, List.append_assoc, step_back hp (dfn_in _ _) hok]
    dsimp only
    rw [hkl, hgs, dfn_fwd hpk, htk]
    exact ih (k + 1) (by omega)
theorem write_read (W H : Int) (P : List Int) (kind : Int) (c : List Int) (h : (writeDR W H P kind c).2 = 0) : readDR (writeDR W H P kind c).1 W H kind c = (W, H, P, 0) ∧ P.length ≤ 4096 := by
  unfold writeDR at h ⊢
  by_cases hp : plF W H P = true
  rotate_left
  · rw [if_pos ((Bool.not_eq_true _).mp hp)] at h; cases h
  rw [if_neg (by rw [hp]; decide)] at h ⊢
  by_cases h1 : 1 ≤ kind ∧ kind ≤ 7
  rotate_left
  · rw [if_pos h1] at h; cases h
  rw [if_neg (by omega)] at h ⊢
  by_cases h2 : chkErr c = 0
  rotate_left
  · rw [if_pos h2] at h; exact absurd h h2
  rw [if_neg (by omega)] at h ⊢
  by_cases h3 : (ds W.toNat P kind).all (dOK (wordsOf c)) = true
  rotate_left
  · rw [if_neg h3] at h; cases h
  rw [if_pos h3]
  obtain ⟨w, k, rfl, rfl, a1, a2, a3, a4, a5, a6, hP⟩ := plF_nat hp
  rw [Int.toNat_natCast] at h3 ⊢
  refine ⟨?_, by omega⟩
  unfold readDR
  rw [if_neg (by omega), if_neg (by omega), if_neg (by omega), if_neg (by omega), Int.toNat_natCast, Int.toNat_natCast]
  dsimp only
  rw [bitS_byB (dcat_bits (wordsOf_bits c) _)]
  have key := rd_back (wordsOf_pf c) a1 hP h3 (List.replicate (8 * (((dcat (wordsOf c) (ds w P kind)).length + 7) / 8) - (dcat (wordsOf c) (ds w P kind)).length) 48) (w * k) 0 (by omega)
  rw [List.take_zero, List.drop_zero] at key
  rw [key]
  dsimp only
  rw [if_pos]
  rw [List.length_replicate]
  exact ⟨by omega, rfl⟩
theorem read_writeD (s : List UInt8) (W H kind : Int) (c : List Int) (h : (readDR s W H kind c).2.2.2 = 0) : writeDR (readDR s W H kind c).1 (readDR s W H kind c).2.1 (readDR s W H kind c).2.2.1 kind c = (s, 0) := by
  unfold readDR at h ⊢
  by_cases h1 : 1 ≤ W ∧ W ≤ 64
  rotate_left
  · rw [if_pos h1] at h; cases h
  rw [if_neg (by omega)] at h ⊢
  by_cases h2 : 1 ≤ H ∧ H ≤ 64
  rotate_left
  · rw [if_pos h2] at h; cases h
  rw [if_neg (by omega)] at h ⊢
  by_cases h3 : 1 ≤ kind ∧ kind ≤ 7
  rotate_left
  · rw [if_pos h3] at h; cases h
  rw [if_neg (by omega)] at h ⊢
  by_cases h7 : chkErr c = 0
  rotate_left
  · rw [if_pos h7] at h; exact absurd h h7
  rw [if_neg (by omega)] at h ⊢
  obtain ⟨w, rfl⟩ := Int.eq_ofNat_of_zero_le (show 0 ≤ W by omega)
  obtain ⟨k, rfl⟩ := Int.eq_ofNat_of_zero_le (show 0 ≤ H by omega)
  rw [Int.toNat_natCast, Int.toNat_natCast] at h ⊢
  have hWl : (wordsOf c).length ≤ 17 := by
    rw [wordsOf_len h7]
    obtain ⟨ns, rfl, _, _, h17, _⟩ := chk_ok h7
    rw [toI_len]; exact h17
  rcases hr : rdD (wordsOf c) w kind (w * k) [] (bitS s) with _ | ⟨P2, R2⟩
  · rw [hr] at h; cases h
  rw [hr] at h
  dsimp only at h ⊢
  by_cases hz : R2.length ≤ 7 ∧ R2 = List.replicate R2.length 48
  rotate_left
  · rw [if_neg hz] at h; cases h
  rw [if_pos hz]
  obtain ⟨q1, q2, q3, q4, q5⟩ := rdD_ok (wordsOf_bits c) hWl (by omega) _ _ _ [] _ _ (bitS_isB s) (by simp) rfl hr
  rw [List.length_nil, Nat.zero_add] at q1
  dsimp only
  rw [writeDR_ok (by omega) (by omega) q2 q1 h3 h7 q3, (fin_iff q4).2 hz]
theorem diffBack_true (W H : Int) (P : List Int) (kind : Int) (c : List Int) (s : List UInt8) (w h : Int) : D_darkslidelaw_DiffBack 200000 W H P kind c s w h = some true := by
  have rest : (Option.bind (D_diff_Read 200000 s w h kind c) fun r9 =>
      cond (!decide (r9.2.2.2 = 0)) (
      Option.bind (D_darkslidelaw_diffBegun 200000 ) fun r10 =>
      some r10) (
      Option.bind (D_diff_Write 200000 r9.1 r9.2.1 r9.2.2.1 kind c) fun r11 =>
      Option.bind (D_darkslidelaw_diffBegun 200000 ) fun r12 =>
      cond (r12) (
      cond (decide (r11.2 = 0)) (
      some (decide (r11.1 = s))) (
      some false)) (
      some false))) = some true := by
    rw [readDiff_code _ (by decide), bsome, diffBegun_200]
    by_cases h0 : (readDR s w h kind c).2.2.2 = 0
    · rw [cF (by rw [dT h0]; rfl), writeDiff_code _ (by decide), bsome, read_writeD s w h kind c h0, bsome, cT rfl]
      exact congrArg some (dT rfl)
    · rw [cT (by rw [dF h0]; rfl)]; rfl
  unfold D_darkslidelaw_DiffBack
  rw [writeDiff_code _ (by decide), bsome]
  by_cases h0 : (writeDR W H P kind c).2 = 0
  · obtain ⟨e1, e2⟩ := write_read W H P kind c h0
    rw [cT (dT h0), readDiff_code 200000 (by decide) (writeDR W H P kind c).1, e1, bsome]
    dsimp only
    rw [cF (by rfl), same_pl _ (by decide) W H e2, bsome, cF (by rfl)]
    exact rest
  · rw [cF (dF h0)]
    exact rest
end Go.Proofs.YtpmnfhifmmfglacDoor

namespace Go.Proofs.YtpmnfhifmmfglacDoor
open Go.RowKit
section
variable {P : Program} {ops : Array Oper} {Q O : Exit → Act → World → Prop} {S : World → Prop} {rob need : Nat → Bool} {R : Act → World → Prop}
def rdy (ops : Array Oper) (rem : List Nat) (i : Nat) : Bool := rem.all fun j => !waits ops i j
def wpTr (P : Program) (O : Exit → Act → World → Prop) (ops : Array Oper) (S : World → Prop) (rob need : Nat → Bool) (R : Act → World → Prop) : Nat → List Nat → Act → World → Prop
  | 0, rem, a, w => rem = [] ∧ R a w
  | n + 1, rem, a, w =>
    (∃ i ∈ rem, rob i = true ∧ rdy ops rem i = true ∧ ∃ o, ops[i]? = some o ∧ ∃ v, YldS P ops S o v a ∧ wpTr P O ops S rob need R n (rem.erase i) (a.put o.dst v) w) ∨
    ((∀ i ∈ rem, rob i = true → rdy ops rem i = false) ∧ ∀ c ∈ rem, rob c = false → rdy ops rem c = true → wpOp P ops O c (fun a' w' => (need c = true → S w') ∧ wpTr P O ops S rob need R n (rem.erase c) a' w') a w)
def trPair (ops : Array Oper) (rob : Nat → Bool) (i j : Nat) : Bool :=
  match ops[i]?, ops[j]? with
  | some oi, some oj => waits ops i j || ((!rob i || oi.apart ops oj) && (!rob j || oj.apart ops oi))
  | _, _ => false
def trOK (ops : Array Oper) (rob need : Nat → Bool) : Bool :=
  Region.noSelect ops && txtBack ops && ((List.range ops.size).all fun i => (List.range i).all fun j => trPair ops rob i j) &&
  (List.range ops.size).all fun i => rob i || need i || !freeOf ops rob i
/-- Ways out that ask nothing of the slots. -/
def Dull (O : Exit → Act → World → Prop) : Prop := (∀ e a d v w, O e (a.put d v) w → O e a w) ∧ ¬ LetsOut O
theorem dull_no : Dull NoOut := ⟨fun _ _ _ _ _ h => h.elim, fun ⟨_, _, h⟩ => h.elim⟩
theorem wpOp_aheadO (hO : Dull O) {j : Nat} {oi oj : Oper} {v : Value} (hj : ops[j]? = some oj) (hap : oi.apart ops oj = true)
    (hsi : ∀ cs b, oi.op ≠ .select cs b) (hsj : ∀ cs b, oj.op ≠ .select cs b) {K : Act → World → Prop} {a : Act} {w : World}
    (hy : YldS P ops S oi v a) (h : wpOp P ops O j K (a.put oi.dst v) w) :
    wpOp P ops O j (fun a' w' => YldS P ops S oi v a' ∧ K (a'.put oi.dst v) w') a w := by
  obtain ⟨h1, h2, h3⟩ := Oper.apart_spec hap
  have keep : ∀ (a : Act), YldS P ops S oi v a → ∀ u, YldS P ops S oi v (a.put oj.dst u) := fun a hy u =>
    hy.same (execOp_put oi hsi a oj.dst u h3) (wanted_put oi a oj.dst u h3)
  have keepD : ∀ d, YldS P ops S oi v { a with defers := d :: a.defers } := fun d => hy.same rfl rfl
  unfold wpOp at *
  simp only [hj] at *
  rw [wanted_put oj a oi.dst v h1] at h
  split
  · rename_i hw
    simp only [hw, if_true] at h
    rcases h with h | ⟨_, hl⟩
    case inr => exact absurd hl hO.2
    refine .inl ?_
    unfold Oper.wp at *
    rw [execOp_put oj hsj a oi.dst v h1] at h
    generalize (execOp a.eval oj).run P w = r at *
    cases r with
    | ok n w' =>
      cases n <;> simp only [Oper.upon] at h ⊢
      case value u => exact ⟨keep a hy u, by rw [← Act.put_comm a v u h2]; exact h⟩
      case skip => exact ⟨keep a hy _, by rw [← Act.put_comm a v undef h2]; exact h⟩
      case defer d =>
        refine ⟨keep _ (keepD d) _, ?_⟩
        rw [← Act.put_comm _ v undef h2, ← Act.put_defers]
        exact h
      case enter f args =>
        refine Calls.mono h fun e w'' he => ?_
        cases e with
        | returned u => exact ⟨keep a hy u, by rw [← Act.put_comm a v u h2]; exact he⟩
        | panicked c => exact hO.1 _ _ _ _ _ he
        | outgrown => exact absurd he hO.2
      case row row args => exact Rows.mono h fun u w'' he => ⟨keep a hy u, by rw [← Act.put_comm a v u h2]; exact he⟩
    | halt x w' => cases x <;> simp only [Oper.upon] at h ⊢; exact hO.1 _ _ _ _ _ h
  · rename_i hw
    simp only [hw] at h
    exact ⟨keep a hy _, by rw [← Act.put_comm a v undef h2]; exact h⟩
theorem wpOp_outO (hO : Dull O) (hQ : ∀ e a w, O e a w → Q e a w) {i : Nat} {K : Act → World → Prop} {a : Act} {w : World} (h : wpOp P ops O i K a w) : wpOp P ops Q i K a w := by
  unfold wpOp at *
  split
  · rename_i h0
    simp only [h0] at h
    exact h
  · rename_i o ho
    simp only [ho] at h
    split
    · rename_i hw
      rw [if_pos hw] at h
      rcases h with h | ⟨_, hl⟩
      case inr => exact absurd hl hO.2
      refine .inl ?_
      unfold Oper.wp at *
      generalize (execOp a.eval o).run P w = r at *
      cases r with
      | ok n w' =>
        cases n <;> simp only [Oper.upon] at h ⊢ <;> first
          | exact h
          | (refine Calls.mono h fun e w'' he => ?_
             cases e with
             | returned u => exact he
             | panicked c => exact hQ _ _ _ he
             | outgrown => exact absurd he hO.2)
      | halt x w' => cases x <;> simp only [Oper.upon] at h ⊢; exact hQ _ _ _ h
    · rename_i hw
      rw [if_neg hw] at h
      exact h
theorem rdy_erase {rem : List Nat} {i k : Nat} (h : rdy ops rem i = true) : rdy ops (rem.erase k) i = true := by
  unfold rdy at *
  rw [List.all_eq_true] at *
  exact fun j hj => h j (List.mem_of_mem_erase hj)
theorem rdy_waits {rem : List Nat} {i j : Nat} (h : rdy ops rem i = true) (hj : j ∈ rem) : waits ops i j = false := by
  unfold rdy at h
  rw [List.all_eq_true] at h
  simpa using h j hj
theorem tr_pull {i : Nat} {oi : Oper} (hi : ops[i]? = some oi) (hr : rob i = true) (hsel : ∀ (j : Nat) (o : Oper) cs b, ops[j]? = some o → o.op ≠ .select cs b)
    (hpair : ∀ j k oj ok, j ≠ k → ops[j]? = some oj → ops[k]? = some ok → waits ops j k = false → waits ops k j = false → (rob j = true → oj.apart ops ok = true)) :
    ∀ (n : Nat) (rem : List Nat) (a : Act) (w : World), i ∈ rem → rdy ops rem i = true → wpTr P O ops S rob need R (n + 1) rem a w → ∃ v, YldS P ops S oi v a ∧ wpTr P O ops S rob need R n (rem.erase i) (a.put oi.dst v) w := by
  intro n
  induction n with
  | zero =>
    intro rem a w him hrd h
    rcases h with ⟨i0, hi0, hr0, hd0, o0, ho0, u, hu, h⟩ | ⟨hno, _⟩
    · obtain ⟨hnil, hR⟩ := h
      have : i0 = i := by
        by_cases e : i0 = i
        · exact e
        · have : i ∈ rem.erase i0 := (List.mem_erase_of_ne (fun h => e h.symm)).2 him
          rw [hnil] at this; cases this
      subst this
      obtain rfl : o0 = oi := Option.some.inj (ho0.symm.trans hi)
      exact ⟨u, hu, hnil, hR⟩
    · rw [hno i him hr] at hrd; cases hrd
  | succ n ih =>
    intro rem a w him hrd h
    rcases h with ⟨i0, hi0, hr0, hd0, o0, ho0, u, hu, h⟩ | ⟨hno, _⟩
    · by_cases e : i0 = i
      · subst e
        obtain rfl : o0 = oi := Option.some.inj (ho0.symm.trans hi)
        exact ⟨u, hu, h⟩
      · have him' : i ∈ rem.erase i0 := (List.mem_erase_of_ne (fun h => e h.symm)).2 him
        obtain ⟨v, hv, h⟩ := ih _ _ _ him' (rdy_erase hrd) h
        have w1 := rdy_waits hrd hi0
        have w2 := rdy_waits hd0 him
        have ap1 := hpair i i0 oi o0 (fun h => e h.symm) hi ho0 w1 w2 hr
        have ap2 := hpair i0 i o0 oi e ho0 hi w2 w1 hr0
        obtain ⟨p1, p2, p3⟩ := Oper.apart_spec ap1
        obtain ⟨q1, q2, q3⟩ := Oper.apart_spec ap2
        have hv' : YldS P ops S oi v a := hv.same (execOp_put oi (fun cs b => hsel i oi cs b hi) a o0.dst u p3).symm (wanted_put oi a o0.dst u p3).symm
        refine ⟨v, hv', .inl ⟨i0, (List.mem_erase_of_ne e).2 hi0, hr0, rdy_erase hd0, o0, ho0, u, ?_, ?_⟩⟩
        · exact hu.same (execOp_put o0 (fun cs b => hsel i0 o0 cs b ho0) a oi.dst v q3) (wanted_put o0 a oi.dst v q3)
        · rw [List.erase_comm, Act.put_comm a v u p2]; exact h
    · rw [hno i him hr] at hrd; cases hrd
theorem tr_push (hO : Dull O) {c : Nat} {oc : Oper} (hc : ops[c]? = some oc) (hrc : rob c = false) (hsel : ∀ (j : Nat) (o : Oper) cs b, ops[j]? = some o → o.op ≠ .select cs b)
    (hpair : ∀ j k oj ok, j ≠ k → ops[j]? = some oj → ops[k]? = some ok → waits ops j k = false → waits ops k j = false → (rob j = true → oj.apart ops ok = true)) :
    ∀ (n : Nat) (rem : List Nat) (a : Act) (w : World), c ∈ rem → rdy ops rem c = true → wpTr P O ops S rob need R (n + 1) rem a w → wpOp P ops O c (fun a' w' => (need c = true → S w') ∧ wpTr P O ops S rob need R n (rem.erase c) a' w') a w := by
  intro n
  induction n with
  | zero =>
    intro rem a w hcm hrd h
    rcases h with ⟨i0, hi0, hr0, hd0, o0, ho0, u, hu, h⟩ | ⟨_, h⟩
    · obtain ⟨hnil, hR⟩ := h
      have e : i0 ≠ c := fun e => by subst e; rw [hrc] at hr0; cases hr0
      have : c ∈ rem.erase i0 := (List.mem_erase_of_ne (fun h => e h.symm)).2 hcm
      rw [hnil] at this; cases this
    · exact h c hcm hrc hrd
  | succ n ih =>
    intro rem a w hcm hrd h
    rcases h with ⟨i0, hi0, hr0, hd0, o0, ho0, u, hu, h⟩ | ⟨_, h⟩
    · have e : i0 ≠ c := fun e => by subst e; rw [hrc] at hr0; cases hr0
      have hcm' : c ∈ rem.erase i0 := (List.mem_erase_of_ne (fun h => e h.symm)).2 hcm
      have h2 := ih _ _ _ hcm' (rdy_erase hrd) h
      have w1 := rdy_waits hrd hi0
      have w2 := rdy_waits hd0 hcm
      have ap := hpair i0 c o0 oc e ho0 hc w2 w1 hr0
      have h3 := wpOp_aheadO hO hc ap (fun cs b => hsel i0 o0 cs b ho0) (fun cs b => hsel c oc cs b hc) hu h2
      refine wpOp_mono ?_ h3
      rintro a' w' ⟨hy, hn, hk⟩
      refine ⟨hn, .inl ⟨i0, (List.mem_erase_of_ne e).2 hi0, hr0, rdy_erase hd0, o0, ho0, u, hy, ?_⟩⟩
      rw [List.erase_comm]; exact hk
    · exact h c hcm hrc hrd
theorem filter_ne_erase {l : List Nat} (hl : l.Nodup) (i : Nat) : l.filter (· != i) = l.erase i := by
  rw [List.Nodup.erase_eq_filter hl]
theorem wpAny_of_tr (hO : Dull O) (hQ : ∀ e a w, O e a w → Q e a w) (hok : trOK ops rob need = true) : ∀ (fuel : Nat) (listed : Array Bool) (a : Act) (w : World), listed.size = ops.size → Closed ops listed → (remOf ops listed).length = fuel →
    (∀ r ∈ remOf ops listed, rob r = true → S w) → wpTr P O ops S rob need (Q .normal) fuel (remOf ops listed) a w → wpAny P .any ops Q fuel listed a w := by
  simp only [trOK, Bool.and_eq_true] at hok
  obtain ⟨⟨⟨hsel0, hback⟩, hpair0⟩, hneed⟩ := hok
  have hsel := Region.noSelect_spec hsel0
  have hp : ∀ i < ops.size, ∀ j < i, trPair ops rob i j = true := fun i hi j hj => List.all_eq_true.1 (List.all_eq_true.1 hpair0 i (List.mem_range.2 hi)) j (List.mem_range.2 hj)
  have hpair : ∀ j k oj ok, j ≠ k → ops[j]? = some oj → ops[k]? = some ok → waits ops j k = false → waits ops k j = false → (rob j = true → oj.apart ops ok = true) := by
    intro j k oj ok hjk hj hk w1 w2 hr
    have hjl := (Array.getElem?_eq_some_iff.1 hj).1
    have hkl := (Array.getElem?_eq_some_iff.1 hk).1
    rcases Nat.lt_or_gt_of_ne hjk with hlt | hlt
    · have h := hp k hkl j hlt
      unfold trPair at h
      simp only [hj, hk, w2, Bool.false_or, Bool.and_eq_true, Bool.or_eq_true, Bool.not_eq_true'] at h
      rcases h.2 with h0 | h0
      · rw [hr] at h0; cases h0
      · exact h0
    · have h := hp j hjl k hlt
      unfold trPair at h
      simp only [hj, hk, w1, Bool.false_or, Bool.and_eq_true, Bool.or_eq_true, Bool.not_eq_true'] at h
      rcases h.1 with h0 | h0
      · rw [hr] at h0; cases h0
      · exact h0
  have hbk : ∀ i o, ops[i]? = some o → ∀ e ∈ o.after, Region.binds .any e = true → e.on < i := fun i o ho e he hb => by
    have hi : i < ops.size := (Array.getElem?_eq_some_iff.1 ho).1
    have h := List.all_eq_true.1 hback i (List.mem_range.2 hi)
    simp only [ho] at h
    have h2 := Array.all_eq_true_iff_forall_mem.1 h e he
    simpa [hb] using h2
  have hnd : ∀ i < ops.size, rob i = false → ∀ r < ops.size, rob r = true → waits ops i r = false → need i = true := fun i hi hri r hr hrr hw => by
    have h := List.all_eq_true.1 hneed i (List.mem_range.2 hi)
    simp only [hri, Bool.false_or, Bool.or_eq_true, Bool.not_eq_true'] at h
    refine h.resolve_right fun h0 => ?_
    have : freeOf ops rob i = true := by
      refine List.any_eq_true.2 ⟨r, List.mem_range.2 hr, ?_⟩
      have : r ≠ i := fun e => by subst e; rw [hri] at hrr; cases hrr
      simp [hrr, hw, this]
    rw [this] at h0
    cases h0
  intro fuel
  induction fuel with
  | zero =>
    intro listed a w hs hc hlen _ h
    have hnil : remOf ops listed = [] := List.eq_nil_of_length_eq_zero hlen
    obtain ⟨_, h⟩ := h
    refine ⟨?_, h⟩
    refine List.eq_nil_iff_forall_not_mem.2 fun i hi => ?_
    obtain ⟨h0, o, ho, _⟩ := mem_ready.1 hi
    have : i ∈ remOf ops listed := mem_remOf.2 ⟨(Array.getElem?_eq_some_iff.1 ho).1, h0⟩
    rw [hnil] at this
    cases this
  | succ fuel ih =>
    intro listed a w hs hc hlen hS h
    refine ⟨fun h0 => ?_, fun i hi => ?_⟩
    · exfalso
      match hr : remOf ops listed, hlen with
      | i0 :: rest, _ =>
        have hm0 : i0 ∈ remOf ops listed := by rw [hr]; exact List.mem_cons_self ..
        obtain ⟨hlt, hun⟩ := mem_remOf.1 hm0
        have hsorted := remOf_sorted (ops := ops) listed
        rw [hr, List.pairwise_cons] at hsorted
        have : i0 ∈ Region.ready .any ops listed := by
          refine mem_ready.2 ⟨hun, ops[i0], Array.getElem?_eq_getElem hlt, fun e he hb => ?_⟩
          have hlt2 := hbk i0 _ (Array.getElem?_eq_getElem hlt) e he hb
          cases hl : listed.getD e.on false with
          | true => rfl
          | false =>
            have hm : e.on ∈ remOf ops listed := mem_remOf.2 ⟨by omega, by rw [listed_eq (by omega)]; exact hl⟩
            rw [hr] at hm
            rcases List.mem_cons.1 hm with hm | hm
            · omega
            · have := hsorted.1 _ hm; omega
        rw [h0] at this
        cases this
    · obtain ⟨hun, oi, hoi, hall⟩ := mem_ready.1 hi
      have hilt : i < ops.size := (Array.getElem?_eq_some_iff.1 hoi).1
      have him : i ∈ remOf ops listed := mem_remOf.2 ⟨hilt, hun⟩
      have hnodup : (remOf ops listed).Nodup := (remOf_sorted (ops := ops) listed).imp fun h => Nat.ne_of_lt h
      have hrem' : remOf ops (listed.setIfInBounds i true) = (remOf ops listed).erase i := by rw [remOf_set hs hilt, filter_ne_erase hnodup]
      have hlen' : (remOf ops (listed.setIfInBounds i true)).length = fuel := by
        rw [hrem', List.length_erase_of_mem him]; omega
      have hs' : (listed.setIfInBounds i true).size = ops.size := by simpa using hs
      have hc' : Closed ops (listed.setIfInBounds i true) := by
        intro k hk j hj
        by_cases hik : i = k
        · subst hik; exact getD_set_true (ready_waits hi hj)
        · rw [getD_set_ne false hik] at hk; exact getD_set_true (hc k hk j hj)
      have hrd : rdy ops (remOf ops listed) i = true := by
        unfold rdy
        rw [List.all_eq_true]
        intro j hj
        obtain ⟨h1, h2⟩ := mem_remOf.1 hj
        cases hw : waits ops i j with
        | false => rfl
        | true =>
          have := ready_waits hi hw
          rw [← listed_eq (by omega), h2] at this; cases this
      cases hri : rob i with
      | true =>
        have hSw : S w := hS i him hri
        obtain ⟨v, hv, hrest⟩ := tr_pull hoi hri hsel hpair fuel _ a w him hrd h
        refine hv.run hoi hSw (ih _ _ _ hs' hc' hlen' (fun _ _ _ => hSw) (by rw [hrem']; exact hrest))
      | false =>
        have h2 := tr_push hO hoi hri hsel hpair fuel _ a w him hrd h
        refine wpOp_outO hO hQ (wpOp_mono ?_ h2)
        rintro a' w' ⟨hn, hk⟩
        refine ih _ _ _ hs' hc' hlen' ?_ (by rw [hrem']; exact hk)
        intro r hr hrr
        rw [hrem'] at hr
        have hrm := List.mem_of_mem_erase hr
        exact hn (hnd i hilt hri r (mem_remOf.1 hrm).1 hrr (rdy_waits hrd hrm))
theorem wp_region_tO (hO : Dull O) (hQ : ∀ e a w, O e a w → Q e a w) {id : Nat} {a : Act} {w : World} {l : List Oper} (S : World → Prop) (f : List Nat) (n : Nat) (rem : List Nat) (hm : P.follows .mixedOrders = true) (hok : trOK l.toArray (robOf f) (needOf f) = true)
    (hl : List.range l.toArray.size = rem) (hn : rem.length = n) (hS : S w.drew) (h : wpTr P O l.toArray S (robOf f) (needOf f) (Q .normal) n rem a w.drew) : (Code.region id l.toArray true).wp P Q a w := by
  refine wp_region_any hm ?_
  have hrem : remOf l.toArray (Array.replicate l.toArray.size false) = List.range l.toArray.size := by
    unfold remOf
    refine List.filter_eq_self.2 fun i hi => ?_
    have := List.mem_range.1 hi
    simp at this
    simp [this]
  refine wpAny_of_tr hO hQ hok l.toArray.size (Array.replicate l.toArray.size false) a _ (by simp) ?_ (by rw [hrem]; simp) (fun _ _ _ => hS) ?_
  · intro i hi
    rw [getD_replicate_f] at hi
    cases hi
  · rw [hrem, hl]
    have : l.toArray.size = n := by rw [← hn, ← hl]; simp
    rw [this]; exact h
theorem wp_region_tr {id : Nat} {a : Act} {w : World} {l : List Oper} (S : World → Prop) (f : List Nat) (n : Nat) (rem : List Nat) (hm : P.follows .mixedOrders = true) (hok : trOK l.toArray (robOf f) (needOf f) = true)
    (hl : List.range l.toArray.size = rem) (hn : rem.length = n) (hS : S w.drew) (h : wpTr P NoOut l.toArray S (robOf f) (needOf f) (Q .normal) n rem a w.drew) : (Code.region id l.toArray true).wp P Q a w :=
  wp_region_tO dull_no (fun _ _ _ h => h.elim) S f n rem hm hok hl hn hS h
theorem put_defers (a : Act) (d : Option Nat) (v : Value) : (a.put d v).defers = a.defers := by cases d <;> rfl
variable {D : List Deferred} {a : Act} {w : World} {N : Nat} {l : List (Nat × Value)} {o : Oper} {v : Value} {post : Value → World → Prop} {d i c n : Nat} {rem rem' : List Nat} {f : List Nat}
theorem R_rd (i : Nat) (rem' : List Nat) (hc : (rem.elem i && robOf f i && rdy ops rem i && rem.erase i == rem') = true) (ho : ops[i]? = some o) (K : Kd D a N l) (hw : Region.wanted o (yielded ops a.tmps) = true) (hd : o.dst = some d) (hN : Nat.blt d N = true) (hr : Rd P S a o v)
    (k : ∀ a', Kd D a' N ((d, v) :: l) → wpTr P O ops S (robOf f) (needOf f) R n rem' a' w) : wpTr P O ops S (robOf f) (needOf f) R (n + 1) rem a w := by
  simp only [Bool.and_eq_true, beq_iff_eq, List.elem_iff] at hc
  obtain ⟨⟨⟨h1, h2⟩, h3⟩, rfl⟩ := hc
  refine .inl ⟨i, h1, h2, h3, o, ho, v, .inl ⟨hw, hr⟩, ?_⟩
  have := K.put (d := o.dst) (by rw [hd]; exact hN) v
  rw [hd] at this ⊢
  exact k _ this
def AllC (p : Nat → Prop) : List Nat → Prop
  | [] => True
  | c :: cs => p c ∧ AllC p cs
theorem allC_mem {p : Nat → Prop} : ∀ {cs : List Nat}, AllC p cs → ∀ c ∈ cs, p c
  | [], _, c, h => by cases h
  | d :: cs, h, c, hc => by
    rcases List.mem_cons.1 hc with rfl | hc
    · exact h.1
    · exact allC_mem h.2 c hc
/-- One of several comes first. -/
theorem R_br (cs : List Nat) (hc : ((rem.all fun i => !robOf f i || !rdy ops rem i) && (rem.filter fun c => !robOf f c && rdy ops rem c) == cs) = true)
    (h : AllC (fun c => wpOp P ops O c (fun a' w' => (needOf f c = true → S w') ∧ wpTr P O ops S (robOf f) (needOf f) R n (rem.erase c) a' w') a w) cs) : wpTr P O ops S (robOf f) (needOf f) R (n + 1) rem a w := by
  simp only [Bool.and_eq_true, beq_iff_eq] at hc
  obtain ⟨h1, rfl⟩ := hc
  refine .inr ⟨fun i hi hr => ?_, fun c hcm hr hrd => allC_mem h c (List.mem_filter.2 ⟨hcm, by simp [hr, hrd]⟩)⟩
  have := List.all_eq_true.1 h1 i hi
  simpa [hr] using this
theorem R_ac (rem' : List Nat) (hc : (rem.erase c == rem') = true) (ho : ops[c]? = some o) (K : Kd D a N l) (hw : Region.wanted o (yielded ops a.tmps) = true) (hd : o.dst = some d) (hN : Nat.blt d N = true) (h : Ac P o a w post)
    (k : ∀ v a' w', post v w' → Kd D a' N ((d, v) :: l) → (needOf f c = true → S w') ∧ wpTr P O ops S (robOf f) (needOf f) R n rem' a' w') : wpOp P ops O c (fun a' w' => (needOf f c = true → S w') ∧ wpTr P O ops S (robOf f) (needOf f) R n (rem.erase c) a' w') a w := by
  obtain rfl : rem.erase c = rem' := by simpa using hc
  unfold wpOp
  simp only [ho, hw, if_true]
  refine .inl (h _ _ fun v w' hp => ?_)
  have := K.put (d := o.dst) (by rw [hd]; exact hN) v
  rw [hd] at this ⊢
  exact k v _ w' hp this
theorem R_a0 (rem' : List Nat) (hc : (rem.erase c == rem') = true) (ho : ops[c]? = some o) (K : Kd D a N l) (hw : Region.wanted o (yielded ops a.tmps) = true) (hd : o.dst = none) (h : Ac P o a w post)
    (k : ∀ v a' w', post v w' → Kd D a' N l → (needOf f c = true → S w') ∧ wpTr P O ops S (robOf f) (needOf f) R n rem' a' w') : wpOp P ops O c (fun a' w' => (needOf f c = true → S w') ∧ wpTr P O ops S (robOf f) (needOf f) R n (rem.erase c) a' w') a w := by
  obtain rfl : rem.erase c = rem' := by simpa using hc
  unfold wpOp
  simp only [ho, hw, if_true]
  refine .inl (h _ _ fun v w' hp => ?_)
  rw [hd]
  exact k v _ w' hp K
theorem R_end (h : R a w) : wpTr P O ops S (robOf f) (needOf f) R 0 [] a w := ⟨rfl, h⟩
end
end Go.Proofs.YtpmnfhifmmfglacDoor

namespace Go.Proofs.YtpmnfhifmmfglacDoor
open Go.RowKit
section
variable {P : Program} {S : World → Prop} {base : Nat} {W w : World} {L : List Ent} {D : List Deferred} {a : Act} {N : Nat} {l : List (Nat × Value)} {o : Oper} {v v' : Value} {x y ix : Operand} {k : IntKind} {m n : Int} {t e t' : TypeId} {g off : Nat} {cs : List Value} {α : Type} {C : Cod α} {xs ys zs : List α} {A B : Option Addr} {c c' : Nat}
/-- A loop of which the rounds are walked one by one. -/
theorem X_rounds {p : Code} {Q : Exit → Act → World → Prop} {w : World} (n : Nat) (h : Code.rounds P p Q n a w) : (Code.loop p).wp P Q a w := wp_loop_rounds n h
theorem X_round {p : Code} {Q : Exit → Act → World → Prop} {w : World} {n : Nat} (h : p.wp P (Exit.then (Code.rounds P p Q n) Q) a w) : Code.rounds P p Q (n + 1) a w := h
end
end Go.Proofs.YtpmnfhifmmfglacDoor

namespace Go.Proofs.YtpmnfhifmmfglacDoor
open Go.RowKit
abbrev I (n : Int) : Value := .int .i64 n
/-- A reading operation's answer, or nothing where its guard bars it. -/
inductive Stp (P : Program) (ops : Array Oper) (S : World → Prop) (D : List Deferred) (N : Nat) (l : List (Nat × Value)) (o : Oper) (v : Value) : Prop where
  | yes (hw : ∀ a, Kd D a N l → Region.wanted o (yielded ops a.tmps) = true) (hr : ∀ a, Kd D a N l → Rd P S a o v)
  | no (hw : ∀ a, Kd D a N l → Region.wanted o (yielded ops a.tmps) = false) (hv : undef = v)
section
variable {P : Program} {base : Nat} {W w : World} {L : List Ent} {S : World → Prop} {D : List Deferred} {a : Act} {N : Nat} {l : List (Nat × Value)} {o : Oper} {v : Value} {post : Value → World → Prop}
  {ops : Array Oper} {Q : Exit → Act → World → Prop} {R : Act → World → Prop} {rest : List Oper} {d : Nat} {f : List Nat}
theorem X_o (K : Kd D a N l) (M : Mem base W w L) (k : ∀ a', Kd D a' N ((d, v) :: l) → wpList P ops Q rest a' w) (hd : o.dst = some d := by exact rfl) (hN : Nat.blt d N = true := by exact rfl)
    (hs : Stp P ops (fun w => Mem base W w L) D N l o v := by
      first
      | exact .no (fun a K => K.no rfl rfl rfl rfl) rfl
      | exact .no (fun a K => K.nou rfl rfl rfl) rfl
      | exact .yes (by first | exact fun a K => want_no rfl | exact fun a K => K.yes rfl rfl rfl) (by
         first
         | exact fun a K => rd_move rfl K rfl
         | exact fun a K => rd_assign rfl K rfl
         | exact fun a K => rd_pickT rfl K rfl rfl
         | exact fun a K => rd_pickF rfl K rfl rfl
         | exact fun a K => rd_nil rfl K rfl
         | exact fun a K => rd_extract rfl K rfl rfl
         | exact fun a K => rd_not rfl K rfl
         | exact fun a K => rd_add rfl K rfl rfl
         | exact fun a K => rd_lss rfl K rfl rfl
         | exact fun a K => rd_sub rfl K rfl rfl
         | exact fun a K => rd_mul rfl K rfl rfl
         | exact fun a K => rd_eql rfl K rfl rfl
         | exact fun a K => rd_neq rfl K rfl rfl
         | exact fun a K => rd_gtr rfl K rfl rfl
         | exact fun a K => rd_leq rfl K rfl rfl
         | exact fun a K => rd_geq rfl K rfl rfl
         | exact fun a K => rd_min rfl K rfl rfl
         | exact fun a K => rd_max rfl K rfl rfl
         | exact fun a K => rd_and rfl K rfl rfl)) : wpList P ops Q (o :: rest) a w := by
  cases hs with
  | yes hw hr => exact X_rd K (hw a K) hd hN (hr a K) M k
  | no hw hv => subst hv; exact X_no K (hw a K) hd hN k
theorem Y_o (M : Mem base W w L) (k : ∀ a', Kd D a' N ((d, v) :: l) → wpList P ops Q rest a' w) (hd : o.dst = some d := by exact rfl) (hN : Nat.blt d N = true := by exact rfl)
    (hs : Stp P ops (fun w => Mem base W w L) D N l o v := by
      first
      | exact .no (fun a K => K.no rfl rfl rfl rfl) rfl
      | exact .no (fun a K => K.nou rfl rfl rfl) rfl
      | exact .yes (by first | exact fun a K => want_no rfl | exact fun a K => K.yes rfl rfl rfl) (by
         first
         | exact fun a K => rd_move rfl K rfl
         | exact fun a K => rd_assign rfl K rfl
         | exact fun a K => rd_pickT rfl K rfl rfl
         | exact fun a K => rd_pickF rfl K rfl rfl
         | exact fun a K => rd_nil rfl K rfl
         | exact fun a K => rd_extract rfl K rfl rfl
         | exact fun a K => rd_not rfl K rfl
         | exact fun a K => rd_add rfl K rfl rfl
         | exact fun a K => rd_lss rfl K rfl rfl
         | exact fun a K => rd_sub rfl K rfl rfl
         | exact fun a K => rd_mul rfl K rfl rfl
         | exact fun a K => rd_eql rfl K rfl rfl
         | exact fun a K => rd_neq rfl K rfl rfl
         | exact fun a K => rd_gtr rfl K rfl rfl
         | exact fun a K => rd_leq rfl K rfl rfl
         | exact fun a K => rd_geq rfl K rfl rfl
         | exact fun a K => rd_min rfl K rfl rfl
         | exact fun a K => rd_max rfl K rfl rfl
         | exact fun a K => rd_and rfl K rfl rfl)) : ∀ a, Kd D a N l → wpList P ops Q (o :: rest) a w := fun a K => X_o K M k hd hN hs
theorem Y_r (hr : ∀ a, Kd D a N l → Rd P (fun w => Mem base W w L) a o v) (M : Mem base W w L) (k : ∀ a', Kd D a' N ((d, v) :: l) → wpList P ops Q rest a' w)
    (hw : ∀ a, Kd D a N l → Region.wanted o (yielded ops a.tmps) = true := by first | exact fun a K => want_no rfl | exact fun a K => K.yes rfl rfl rfl) (hd : o.dst = some d := by exact rfl) (hN : Nat.blt d N = true := by exact rfl) :
    ∀ a, Kd D a N l → wpList P ops Q (o :: rest) a w := fun a K => X_rd K (hw a K) hd hN (hr a K) M k
theorem X_r (K : Kd D a N l) (hr : Rd P (fun w => Mem base W w L) a o v) (M : Mem base W w L) (k : ∀ a', Kd D a' N ((d, v) :: l) → wpList P ops Q rest a' w)
    (hw : ∀ a, Kd D a N l → Region.wanted o (yielded ops a.tmps) = true := by first | exact fun a K => want_no rfl | exact fun a K => K.yes rfl rfl rfl) (hd : o.dst = some d := by exact rfl) (hN : Nat.blt d N = true := by exact rfl) :
    wpList P ops Q (o :: rest) a w := X_rd K (hw a K) hd hN hr M k
theorem X_a (K : Kd D a N l) (h : Ac P o a w post) (k : ∀ v a' w', post v w' → Kd D a' N ((d, v) :: l) → wpList P ops Q rest a' w')
    (hw : ∀ a, Kd D a N l → Region.wanted o (yielded ops a.tmps) = true := by first | exact fun a K => want_no rfl | exact fun a K => K.yes rfl rfl rfl) (hd : o.dst = some d := by exact rfl) (hN : Nat.blt d N = true := by exact rfl) :
    wpList P ops Q (o :: rest) a w := X_ac K (hw a K) hd hN h k
theorem X_b (K : Kd D a N l) (h : Ac P o a w post) (k : ∀ v a' w', post v w' → Kd D a' N l → wpList P ops Q rest a' w')
    (hw : ∀ a, Kd D a N l → Region.wanted o (yielded ops a.tmps) = true := by first | exact fun a K => want_no rfl | exact fun a K => K.yes rfl rfl rfl) (hd : o.dst = none := by exact rfl) :
    wpList P ops Q (o :: rest) a w := X_a0 K (hw a K) hd h k
theorem T_o (K : Kd D a N l) (k : ∀ a', Kd D a' N ((d, v) :: l) → wpTl P ops S R (marked f rest) a' w) (hd : o.dst = some d := by exact rfl) (hN : Nat.blt d N = true := by exact rfl)
    (hs : Stp P ops S D N l o v := by
      first
      | exact .no (fun a K => K.no rfl rfl rfl rfl) rfl
      | exact .no (fun a K => K.nou rfl rfl rfl) rfl
      | exact .yes (by first | exact fun a K => want_no rfl | exact fun a K => K.yes rfl rfl rfl) (by
         first
         | exact fun a K => rd_move rfl K rfl
         | exact fun a K => rd_assign rfl K rfl
         | exact fun a K => rd_pickT rfl K rfl rfl
         | exact fun a K => rd_pickF rfl K rfl rfl
         | exact fun a K => rd_nil rfl K rfl
         | exact fun a K => rd_extract rfl K rfl rfl
         | exact fun a K => rd_not rfl K rfl
         | exact fun a K => rd_add rfl K rfl rfl
         | exact fun a K => rd_lss rfl K rfl rfl
         | exact fun a K => rd_sub rfl K rfl rfl
         | exact fun a K => rd_mul rfl K rfl rfl
         | exact fun a K => rd_eql rfl K rfl rfl
         | exact fun a K => rd_neq rfl K rfl rfl
         | exact fun a K => rd_gtr rfl K rfl rfl
         | exact fun a K => rd_leq rfl K rfl rfl
         | exact fun a K => rd_geq rfl K rfl rfl
         | exact fun a K => rd_min rfl K rfl rfl
         | exact fun a K => rd_max rfl K rfl rfl
         | exact fun a K => rd_and rfl K rfl rfl)) : wpTl P ops S R (marked (0 :: f) (o :: rest)) a w := by
  cases hs with
  | yes hw hr => exact T_rd K (hw a K) hd hN (hr a K) k
  | no hw hv => subst hv; exact T_no K (hw a K) hd hN k
theorem U_o (k : ∀ a', Kd D a' N ((d, v) :: l) → wpTl P ops S R (marked f rest) a' w) (hd : o.dst = some d := by exact rfl) (hN : Nat.blt d N = true := by exact rfl)
    (hs : Stp P ops S D N l o v := by
      first
      | exact .no (fun a K => K.no rfl rfl rfl rfl) rfl
      | exact .no (fun a K => K.nou rfl rfl rfl) rfl
      | exact .yes (by first | exact fun a K => want_no rfl | exact fun a K => K.yes rfl rfl rfl) (by
         first
         | exact fun a K => rd_move rfl K rfl
         | exact fun a K => rd_assign rfl K rfl
         | exact fun a K => rd_pickT rfl K rfl rfl
         | exact fun a K => rd_pickF rfl K rfl rfl
         | exact fun a K => rd_nil rfl K rfl
         | exact fun a K => rd_extract rfl K rfl rfl
         | exact fun a K => rd_not rfl K rfl
         | exact fun a K => rd_add rfl K rfl rfl
         | exact fun a K => rd_lss rfl K rfl rfl
         | exact fun a K => rd_sub rfl K rfl rfl
         | exact fun a K => rd_mul rfl K rfl rfl
         | exact fun a K => rd_eql rfl K rfl rfl
         | exact fun a K => rd_neq rfl K rfl rfl
         | exact fun a K => rd_gtr rfl K rfl rfl
         | exact fun a K => rd_leq rfl K rfl rfl
         | exact fun a K => rd_geq rfl K rfl rfl
         | exact fun a K => rd_min rfl K rfl rfl
         | exact fun a K => rd_max rfl K rfl rfl
         | exact fun a K => rd_and rfl K rfl rfl)) : ∀ a, Kd D a N l → wpTl P ops S R (marked (0 :: f) (o :: rest)) a w := fun a K => T_o K k hd hN hs
theorem U_r (hr : ∀ a, Kd D a N l → Rd P S a o v) (k : ∀ a', Kd D a' N ((d, v) :: l) → wpTl P ops S R (marked f rest) a' w)
    (hw : ∀ a, Kd D a N l → Region.wanted o (yielded ops a.tmps) = true := by first | exact fun a K => want_no rfl | exact fun a K => K.yes rfl rfl rfl) (hd : o.dst = some d := by exact rfl) (hN : Nat.blt d N = true := by exact rfl) :
    ∀ a, Kd D a N l → wpTl P ops S R (marked (0 :: f) (o :: rest)) a w := fun a K => T_rd K (hw a K) hd hN (hr a K) k
theorem T_r (K : Kd D a N l) (hr : Rd P S a o v) (k : ∀ a', Kd D a' N ((d, v) :: l) → wpTl P ops S R (marked f rest) a' w)
    (hw : ∀ a, Kd D a N l → Region.wanted o (yielded ops a.tmps) = true := by first | exact fun a K => want_no rfl | exact fun a K => K.yes rfl rfl rfl) (hd : o.dst = some d := by exact rfl) (hN : Nat.blt d N = true := by exact rfl) :
    wpTl P ops S R (marked (0 :: f) (o :: rest)) a w := T_rd K (hw a K) hd hN hr k
theorem T_a (K : Kd D a N l) (h : Ac P o a w post) (k : ∀ v a' w', post v w' → Kd D a' N ((d, v) :: l) → S w' ∧ wpTl P ops S R (marked f rest) a' w')
    (hw : ∀ a, Kd D a N l → Region.wanted o (yielded ops a.tmps) = true := by first | exact fun a K => want_no rfl | exact fun a K => K.yes rfl rfl rfl) (hd : o.dst = some d := by exact rfl) (hN : Nat.blt d N = true := by exact rfl) :
    wpTl P ops S R (marked (1 :: f) (o :: rest)) a w := T_ac K (hw a K) hd hN h k
theorem T_b (K : Kd D a N l) (h : Ac P o a w post) (k : ∀ v a' w', post v w' → Kd D a' N l → wpTl P ops S R (marked f rest) a' w')
    (hw : ∀ a, Kd D a N l → Region.wanted o (yielded ops a.tmps) = true := by first | exact fun a K => want_no rfl | exact fun a K => K.yes rfl rfl rfl) (hd : o.dst = none := by exact rfl) :
    wpTl P ops S R (marked (2 :: f) (o :: rest)) a w := T_a0z K (hw a K) hd h k
end
end Go.Proofs.YtpmnfhifmmfglacDoor

namespace Go.Proofs.YtpmnfhifmmfglacDoor
open Go.RowKit
theorem bs_size (l : List UInt8) : (bs l).size = l.length := by simp [bs, ByteArray.size]
theorem bs_toList (l : List UInt8) : (bs l).toList = l := ByteArray.toList_mk l
theorem bs_append (l m : List UInt8) : bs l ++ bs m = bs (l ++ m) := by
  apply ByteArray.ext
  simp [bs, ByteArray.data_append]
section
variable {P : Program} {base : Nat} {W w : World} {L : List Ent} {S : World → Prop} {D : List Deferred} {a : Act} {N : Nat} {l : List (Nat × Value)} {o : Oper} {x y ix : Operand} {t t' e : TypeId} {m n p q : Int} {k k' : IntKind}
  {xs ys zs : List UInt8} {A : Option Addr} {c : Nat} {ns : List Int}
theorem rd_lenT (ho : o.op = .call { callee := .builtin .len, args := #[x], argTypes := #[t] }) (h : P.underlying t = some .string) (K : Kd D a N l) (hx : evo l x = some (.string (bs xs))) : Rd P S a o (.int .i64 xs.length) := by
  have := rd_lenS (P := P) (S := S) ho h K hx
  rw [bs_size] at this
  exact this
theorem rd_ixT (ho : o.op = .index t x ix) (ht : P.underlying t = some .string) (K : Kd D a N l) (hx : evo l x = some (.string (bs xs))) (hi : evo l ix = some (.int k n)) {b : UInt8} (he : idx xs n = some b) : Rd P S a o (.int .u8 (b.toNat : Int)) :=
  rd_ixS ho ht K hx hi he
theorem rd_addS (ho : o.op = .binOp .add t x y t') (K : Kd D a N l) (hx : evo l x = some (.string (bs xs))) (hy : evo l y = some (.string (bs ys))) (hz : addS xs ys = some zs) : Rd P S a o (.string (bs zs)) := by
  obtain ⟨rfl, h⟩ := addS_spec hz
  refine rd_bin ho K hx hy fun w => ?_
  have h1 := bs_size xs
  have h2 := bs_size ys
  simp [eqGuard, binOp_string_add, Op.stringOp, bs_append]
  omega
theorem rd_eqlS (ho : o.op = .binOp .eql t x y t') (K : Kd D a N l) (hx : evo l x = some (.string (bs xs))) (hy : evo l y = some (.string (bs ys))) : Rd P S a o (.bool (decide (xs = ys))) :=
  rd_bin ho K hx hy fun w => by
    have e : (xs == ys) = decide (xs = ys) := by rw [Bool.eq_iff_iff]; simp
    rw [Sem.run_bind]; simp [eqGuard, binOp_string_eql, bs_toList, e]
theorem rd_neqS (ho : o.op = .binOp .neq t x y t') (K : Kd D a N l) (hx : evo l x = some (.string (bs xs))) (hy : evo l y = some (.string (bs ys))) : Rd P S a o (.bool (!decide (xs = ys))) :=
  rd_bin ho K hx hy fun w => by
    have e : (xs == ys) = decide (xs = ys) := by rw [Bool.eq_iff_iff]; simp
    rw [Sem.run_bind]; simp [eqGuard, binOp_string_neq, bs_toList, e]
theorem rd_convBS {b : Nat} (ho : o.op = .convert t t' x) (ht : slT P t e 1 b = true) (he : P.underlying e = some (.int .u8)) (hd : P.underlying t' = some .string) (K : Kd D a N l) (hx : evo l x = some (.slice A ns.length c)) (hb : ∀ w, S w → SL w (cI .u8) A ns) : Rd P S a o (.string (bs (toB ns))) := fun w hS => by
  obtain ⟨hu, _⟩ := slT_spec ht
  unfold execOp
  simp only [ho, K.ev hx]
  have key : (convert t t' (.slice A ns.length c)).run P w = .ok (.string (bs (toB ns))) w := by
    by_cases h0 : 0 < ns.length
    · obtain ⟨b, off, rfl, hc⟩ := hb w hS h0
      refine run_convert_bytes_arg w t e hu he b off ns.length c ns rfl (fun i hi => ?_) t' hd
      refine hc i _ ?_
      have := Cod.all_get (cI .u8) ns i 0 ns[i] (.int .u8 ns[i]) (List.getElem?_eq_getElem hi) rfl
      rw [List.getD_eq_getElem?_getD, List.getElem?_eq_getElem hi]
      have h1 : (cI .u8).size = 1 := rfl
      rw [h1, Nat.mul_one, Nat.add_zero] at this
      exact this
    · have hn : ns = [] := List.eq_nil_of_length_eq_zero (by omega)
      subst hn
      cases A with
      | none => exact run_convert_bytes_nil w t e hu he _ _ t' hd
      | some ad =>
        rw [run_convert_bytes_string w t t' e (some ad) _ c hu he hd]
        exact run_bytesToString w ad 0 c [] (run_loadCells_list (P := P) w ad [] (fun j v hj => by simp at hj))
  simp [key]
theorem rd_sliceS {lo hi : Option Operand} (ho : o.op = .slice t x lo hi none) (ht : P.underlying t = some .string) (K : Kd D a N l) (hx : evo l x = some (.string (bs xs)))
    (hlo : (match lo with | some z => evo l z = some (.int k p) | none => p = 0)) (hhi : (match hi with | some z => evo l z = some (.int k' q) | none => q = xs.length)) (hy : sli xs p q = some ys) : Rd P S a o (.string (bs ys)) := fun w _ => by
  obtain ⟨h0, h1, h2, rfl⟩ := sli_spec hy
  have hs : ((bs xs).size : Int) = xs.length := by rw [bs_size]
  have hex : (bs xs).extract p.toNat q.toNat = bs ((xs.take q.toNat).drop p.toNat) := by
    rw [show bs xs = ByteArray.mk xs.toArray from rfl, ByteArray.extract_mk, List.drop_take]; rfl
  have hS : ∀ a b c, (Instr.sliceAt t (.string (bs xs)) a b c).run P w = (Instr.slice t (.string (bs xs)) a b c).run P w := fun a b c => by rw [run_sliceAt_string w t _ a b c ht]
  unfold execOp
  cases lo with
  | none =>
    simp only at hlo; subst hlo
    cases hi with
    | none =>
      simp only at hhi; subst hhi
      have := run_slice_string_all (P := P) w t (bs xs) ht
      rw [bs_size] at this
      rw [Int.toNat_zero, Int.toNat_natCast] at hex
      rw [hex] at this
      simp only [ho, K.ev hx, Sem.run_bind, Option.map, hS, this]
      simp
    | some z =>
      simp only at hhi
      have := run_slice_string_to_if (P := P) w t (bs xs) k' q ht
      rw [if_pos ⟨by omega, by omega⟩] at this
      rw [Int.toNat_zero] at hex
      rw [hex] at this
      simp only [ho, K.ev hx, K.ev hhi, Sem.run_bind, Option.map, hS, this]
      simp
  | some z =>
    simp only at hlo
    cases hi with
    | none =>
      simp only at hhi; subst hhi
      have := run_slice_string_from_if (P := P) w t (bs xs) k p ht
      rw [if_pos ⟨by omega, by omega⟩, bs_size] at this
      rw [Int.toNat_natCast] at hex
      rw [hex] at this
      simp only [ho, K.ev hx, K.ev hlo, Sem.run_bind, Option.map, hS, this]
      simp
    | some z2 =>
      simp only at hhi
      have := run_slice_string (P := P) w t (bs xs) k k' p q ht h0 h1 (by omega)
      rw [hex] at this
      simp only [ho, K.ev hx, K.ev hlo, K.ev hhi, Sem.run_bind, Option.map, hS, this]
      simp
theorem ofB_cells (s : List UInt8) : Lib.strCells (bs s) = (cI .u8).all (ofB s) := by
  show s.map (fun b => Value.int .u8 b.toNat) = _
  induction s with
  | nil => rfl
  | cons x s ih =>
    show _ = (cI .u8).enc (x.toNat : Int) ++ (cI .u8).all (ofB s)
    rw [List.map_cons, ih]; rfl
theorem ofB_len (s : List UInt8) : (ofB s).length = s.length := by simp [ofB]
theorem app_place {i : TypeInfo} {v v' : Value} {n : Nat} {vs : List Value} {w' : World} (s : ByteArray) (ht : P.underlying t = some (.slice e)) (hu : P.underlying t' = some .string) (hi : P.info? e = some i) (hz : i.zero = some (.int .u8 0)) (hsize : i.size = 1) (hby : i.bytes = 1)
    (hown : w.ownsRow 0 e 1 v n vs) (hb : n + s.size ≤ 140737488355328) (ty : TypeId) (hr : (Builtin.append_ #[t, t'] ty #[v, .string s]).run P w = .ok v' w') (h0 : v ≠ .slice none 0 0 ∨ 0 < s.size) : v'.ownBlock = v.ownBlock ∨ v'.ownBlock = some w.heap.size := by
  have hxl : vs.length = n := by simpa using hown.1
  rcases hown.2 with ⟨rfl, rfl⟩ | ⟨g, cap, cur, rfl, hbg, hg, hnc, hcm, hcs, htake⟩
  · have hm : 0 < s.size := by
      rcases h0 with h0 | h0
      · exact absurd rfl h0
      · exact h0
    have := run_append_nil_string (P := P) w t t' ty e i (.int .u8 0) ht hu hi hz s (by omega) (by omega) (by rw [hby]; omega)
    rw [hr] at this
    injection this with h1 _
    right; rw [h1]; rfl
  · by_cases hroom : n + s.size ≤ cap
    · have := Lib.run_append_room_string (P := P) w t t' ty e i ht hu hi hsize g n cap cur hg s hroom (by omega)
      rw [hr] at this
      injection this with h1 _
      left; rw [h1]; rfl
    · have holds : ∀ j u, vs[j]? = some u → w.cell? ((⟨g, 0, none⟩ : Addr).add j) = some u := hown.cells (g := g) rfl
      have := Lib.run_append_grow_string (P := P) w t t' ty e i (.int .u8 0) ht hu hi hz ⟨g, 0, none⟩ n cap vs (by rw [hsize]; simpa using hxl) holds s (by omega) (by omega) (by rw [hby]; exact growslice_fits (by omega) (by omega))
      rw [hr] at this
      injection this with h1 _
      right; rw [h1]; rfl
theorem ac_appS {zs : List Int} (ho : o.op = .call { callee := .builtin .append, args := #[x, y], argTypes := #[t, t'] }) (ht : slT P t e 1 1 = true) (hu : P.underlying t' = some .string) (hz : (P.info? e).bind (·.zero) = some (.int .u8 0)) (K : Kd D a N l)
    (hx : evo l x = some (.slice A ns.length c)) (hy : evo l y = some (.string (bs ys))) (i : Nat) (M : Mem base W w L) (hi : L[i]? = some (.row e 1 A ns.length c ((cI .u8).all ns))) (hlen : app 1 ns (ofB ys) = some zs) :
    Ac P o a w fun v w' => ∃ A' c'', v = .slice A' zs.length c'' ∧ Mem base W w' (L.set i (.row e 1 A' zs.length c'' ((cI .u8).all zs))) := by
  obtain ⟨rfl, hbytes⟩ := app_spec hlen
  rw [ofB_len] at hbytes
  obtain ⟨hsl, inf, hinf, hsz, hby⟩ := slT_spec ht
  have hzz : inf.zero = some (.int .u8 0) := by rw [hinf] at hz; exact hz
  have hown := M.has i _ hi
  have hsize : (bs ys).size = ys.length := bs_size ys
  have hb2 : ns.length + (bs ys).size ≤ 140737488355328 := by rw [hsize]; omega
  obtain ⟨v', w', hr, h2, h3, h4⟩ := Lib.run_append_own_string (P := P) w 0 t t' o.type e inf hsl hu hinf hzz hsz hby (.slice A ns.length c) ns.length ((cI .u8).all ns) hown (bs ys) (by simp only [maxLen]; omega) hb2 (Nat.zero_le _)
  rw [ofB_cells, hsize, ← Cod.all_append] at h2
  by_cases h0 : (Value.slice A ns.length c) = .slice none 0 0 ∧ ys = []
  · obtain ⟨h00, rfl⟩ := h0
    injection h00 with e1 e2 e3
    subst e1 e3
    have hns : ns = [] := List.eq_nil_of_length_eq_zero e2
    subst hns
    have hr2 : (Builtin.append_ #[t, t'] o.type #[.slice none ([] : List Int).length 0, .string (bs [])]).run P w = .ok (.slice none 0 0) w := by
      have hf := Lib.run_firstCells_string (P := P) w 1 (bs [])
      have hm : (bs []).size = 0 := rfl
      rw [hm] at hf
      simp [Builtin.append_, run_underlying hsl, run_underlying hu, sizeOf, typeInfo, hinf, hsz, Builtin.lenOf, hm, hf]
    refine ac_val (v := .slice none 0 0) (w' := w) ?_ ⟨none, 0, rfl, ?_⟩
    · unfold execOp
      simp only [ho, resolve, invoke, builtin, Sem.run_bind, Sem.run_pure, Result.andThen_ok, List.map_toArray, List.map_cons, List.map_nil, K.ev hx, K.ev hy]
      rw [hr2]; rfl
    · have : L.set i (.row e 1 none (([] : List Int) ++ ofB []).length 0 ((cI .u8).all ([] ++ ofB []))) = L := by
        obtain ⟨hlt, he⟩ := List.getElem?_eq_some_iff.1 hi
        exact he ▸ List.set_getElem_self hlt
      rw [this]; exact M
  have hne : (Value.slice A ns.length c) ≠ .slice none 0 0 ∨ 0 < (bs ys).size := by
    by_cases hy0 : ys = []
    · left; exact fun e => h0 ⟨e, hy0⟩
    · right; rw [hsize]; exact List.length_pos_iff.2 hy0
  have hpl := app_place (bs ys) hsl hu hinf hzz hsz hby hown hb2 o.type hr hne
  have hv' : v' ≠ .slice none 0 0 := fun e => by
    obtain ⟨q1, q2⟩ := h4.1 e
    rw [hsize] at q2
    exact h0 ⟨q1, List.eq_nil_of_length_eq_zero q2⟩
  rcases h2.2 with ⟨e1, _⟩ | ⟨g, cap, cur, rfl, _⟩
  · exact absurd e1 hv'
  refine ac_val (v := .slice (some ⟨g, 0, none⟩) (ns.length + ys.length) cap) (w' := w') ?_ ⟨some ⟨g, 0, none⟩, cap, by rw [List.length_append, ofB_len], ?_⟩
  · unfold execOp
    simp only [ho, resolve, invoke, builtin, Sem.run_bind, Sem.run_pure, Result.andThen_ok, List.map_toArray, List.map_cons, List.map_nil, K.ev hx, K.ev hy]
    rw [hr]; rfl
  · have h3' : w.grownBy w' (A.map (·.block)) := by
      cases A with
      | none => exact h3
      | some ad => exact h3
    rw [List.length_append, ofB_len]
    refine M.grown i hi h3' h2 ?_
    rcases hpl with hpl | hpl
    · left
      cases A with
      | none => simp [Value.ownBlock] at hpl
      | some ad => simpa [Value.ownBlock] using hpl.symm
    · right
      simp [Value.ownBlock] at hpl
      omega
end
end Go.Proofs.YtpmnfhifmmfglacDoor

namespace Go.Proofs.YtpmnfhifmmfglacDoor
open Go.RowKit Go.WideMaps
section
variable {P : Program} {base : Nat} {W w : World} {L : List Ent} {S : World → Prop} {D : List Deferred} {a : Act} {N : Nat} {l : List (Nat × Value)} {o : Oper} {x y z : Operand} {t k e T : TypeId} {g n c : Nat} {A : Option Addr}
  {m m' : List (List UInt8 × Int)} {s : List UInt8} {r : Int × Bool} {v : Int}
theorem Mem.swap {e e' : Ent} (M : Mem base W w L) (i : Nat) (hi : L[i]? = some e) (h : Ent.holds w e') (hf : e'.foot = e.foot) : Mem base W w (L.set i e') :=
  M.turn0 i hi (Below.refl _ _) h (fun _ _ _ => rfl) (fun g hg => .inl (hf ▸ hg)) M.oth
theorem Mem.asBld (e : TypeId) (M : Mem base W w (.blk g T [.pointer none, .slice none 0 0] :: L)) : Mem base W w (.row e 1 none ([] : List UInt8).length 0 ((cI .u8).all (ofB ([] : List UInt8))) :: .bld g T none ([] : List UInt8).length 0 :: L) :=
  Mem.nilrow e 1 (cI .u8) (M.swap 0 rfl (show Ent.holds w (.bld g T none 0 0) from ⟨none, .inl rfl, M.has 0 _ rfl⟩) rfl)
theorem Mem.unBld (M : Mem base W w L) (i : Nat) (hi : L[i]? = some (.blk g T [.pointer (some ⟨g, 0, none⟩), .slice A n c])) : Mem base W w (L.set i (.bld g T A n c)) :=
  M.swap i hi (show Ent.holds w (.bld g T A n c) from ⟨_, .inr rfl, M.has i _ hi⟩) rfl
theorem Mem.builder {b : List UInt8} (M : Mem base W w (.bld g T A b.length c :: .row e 1 A b.length c ((cI .u8).all (ofB b)) :: L)) : Lib.IsBuilder T e base g (Lib.byteCells b) w := by
  obtain ⟨p, hp, hb⟩ := M.has 0 _ rfl
  have hrow : w.ownsRow 0 e 1 (.slice A b.length c) b.length ((cI .u8).all (ofB b)) := M.has 1 _ rfl
  rw [← ofB_cells] at hrow
  have hup := M.up 0 _ g rfl rfl
  have hat : Lib.BuilderAt T e base g (.pointer p) (Lib.byteCells b) w := by
    refine ⟨hup, .slice A b.length c, hb, ?_, ?_⟩
    · rw [Lib.byteCells_length]
      obtain ⟨h1, h2⟩ := hrow
      refine ⟨h1, ?_⟩
      rcases h2 with h2 | ⟨g', cap, cur, q1, q2, q3⟩
      · exact .inl h2
      · refine .inr ⟨g', cap, cur, q1, ?_, q3⟩
        injection q1 with q1 _ _
        exact M.up 1 _ g' rfl (by simp [Ent.foot, q1])
    · intro h
      cases A with
      | none => simp [Value.ownBlock] at h
      | some ad =>
        have h' : ad.block = g := by simpa [Value.ownBlock] using h
        have := M.one 0 1 _ _ g rfl rfl rfl (by simp [Ent.foot, h'])
        omega
  rcases hp with rfl | rfl
  · exact .inl hat
  · exact .inr hat
theorem rd_ixP {α : Type} {C : Cod α} {xs : List α} {el : α} {b s' : Nat} {i : Int} {kk : IntKind} {w' : World} (ho : o.op = .indexAddr t x y) (ht : slT P t e s' b = true) (K : Kd D a N l) (hx : evo l x = some (.slice A xs.length c)) (hi : evo l y = some (.int kk i)) (hb : SL w' C A xs) (he : idx xs i = some el) : Rd P S a o (.pointer (some ((adr A).add (i.toNat * s')))) := fun w hS => by
  obtain ⟨hu, inf, hinf, hs, _⟩ := slT_spec ht
  obtain ⟨h0, hlt, hel⟩ := idx_spec he
  obtain ⟨b', o', hA, hc⟩ := hb (by omega)
  have h1 : i < xs.length := by omega
  unfold execOp
  subst hA
  simp [ho, K.ev hx, K.ev hi, Instr.indexAt, asIntOf, run_underlying hu, sizeOf, typeInfo, hinf, hs, h0, h1, adr]
theorem R_rdA {O : Exit → Act → World → Prop} {ops : Array Oper} {f : List Nat} {d cc n' : Nat} {u : Value} {R : Act → World → Prop} {rem : List Nat} (rem' : List Nat) (hc : (rem.erase cc == rem') = true) (ho : ops[cc]? = some o) (K : Kd D a N l) (hw : Region.wanted o (yielded ops a.tmps) = true) (hd : o.dst = some d) (hN : Nat.blt d N = true)
    (hr : Rd P (fun w => Mem base W w L) a o u) (M : Mem base W w L) (k : ∀ a', Kd D a' N ((d, u) :: l) → (needOf f cc = true → S w) ∧ wpTr P O ops S (robOf f) (needOf f) R n' rem' a' w) :
    wpOp P ops O cc (fun a' w' => (needOf f cc = true → S w') ∧ wpTr P O ops S (robOf f) (needOf f) R n' (rem.erase cc) a' w') a w :=
  R_ac rem' hc ho K hw hd hN (post := fun v' w' => v' = u ∧ w' = w) (ac_val (hr w M) ⟨rfl, rfl⟩) fun v' a' w' hp K' => by obtain ⟨rfl, rfl⟩ := hp; exact k a' K'
/-- A loop that is left by a return alone. -/
theorem X_lpR {Q : Exit → Act → World → Prop} {St Rt : Type} {Rel : St → Act → World → Prop} {kk : St → Option Rt} {lf : (St → Option Rt) → Nat → St → Option Rt} {r : Rt} {p : Code} {n : Nat} {st : St}
    (h : lf kk n st = some r) (hz : ∀ kk st, lf kk 0 st = none) (h0 : Rel st a w) (hk : ∀ st a w, Rel st a w → kk st = some r → Q .ret a w)
    (round : ∀ (kk : St → Option Rt) n st a w, (∀ st a w, Rel st a w → kk st = some r → Q .ret a w) → Rel st a w → lf kk (n + 1) st = some r → p.wp P (Exit.then (fun a w => ∃ st, Rel st a w ∧ lf kk n st = some r) Q) a w) : (Code.loop p).wp P Q a w := by
  refine X_loop (I := fun n a w => ∃ st, Rel st a w ∧ lf kk n st = some r) n ⟨st, h0, h⟩ (fun a w ⟨st, _, h⟩ => by rw [hz] at h; cases h) ?_
  rintro n a w ⟨st, hr, h⟩
  exact round kk n st a w hk hr h
theorem inS (i : Nat) (h : L[i]? = some (.smp P k e g m)) : ∀ w, Mem base W w L → SMap P k e w g m := fun _ M => M.has i _ h
theorem SMap.new (w : World) : SMap P k e (w.alloc (.map #[] 0)) w.heap.size [] := ⟨.map [], World.ownsMap_made w P k _, fun s => ⟨rfl, fun z => rfl⟩⟩
theorem ac_makeMap (ho : o.op = .makeMap t none) (k e : TypeId) (M : Mem base W w L) : Ac P o a w fun v w' => ∃ g, v = .map (some g) ∧ Mem base W w' (.smp P k e g [] :: L) := by
  refine ac_val (v := .map (some w.heap.size)) (w' := w.alloc (.map #[] 0)) ?_ ⟨_, rfl, ?_⟩
  · unfold execOp
    simp [ho, run_makeMap_plain]
  · refine (M.below ((Below.refl _ _).alloc (Nat.le_refl _) _)).cons (show Ent.holds _ (.smp P k e w.heap.size []) from SMap.new w) fun g hg => ?_
    simp [Ent.foot] at hg
    subst hg
    exact ⟨M.sz, fun i e' h he => by have := M.feet i e' _ h he; omega⟩
theorem rd_look (ho : o.op = .lookup t x y true) (ht : P.underlying t = some (.map k e)) (hk : P.underlying k = some .string) (he : P.underlying e = some (.int .i64)) (hz : (P.info? e).bind (·.zero) = some (.int .i64 0)) (K : Kd D a N l)
    (hx : evo l x = some (.map (some g))) (hy : evo l y = some (.string (bs s))) (hM : ∀ w, S w → SMap P k e w g m) (hl : mlook m s = some r) : Rd P S a o (.tuple #[.int .i64 r.1, .bool r.2]) := fun w hS => by
  obtain ⟨rfl, hs⟩ := mlook_spec hl
  obtain ⟨D, hown, hD⟩ := hM w hS
  have hz : ∀ w, (zeroValue e).run P w = .ok (.int .i64 0) w := fun w => by
    simp only [Option.bind_eq_some_iff] at hz
    obtain ⟨inf, hinf, hz0⟩ := hz
    simp [zeroValue, typeInfo, hinf, hz0]
  have hkey : keyOf P k (.string (bs s)) = some (.string s) := keyOf_string_mk hk (by rw [bs_size]; unfold maxLen; omega)
  obtain ⟨v, ps, hrun, hv⟩ := hown.look_ok (Maps.string_keyed hk) ht (hz w) (plainElem_int he (by decide)) hkey
  obtain ⟨c, rfl, hc, _⟩ := plainElem_int_inv he hv
  obtain ⟨h1, h2⟩ := hD s
  simp only [Prod.mk.injEq] at hc
  have hcc : c = (mget m s).getD 0 := by
    have h3 := h2 (.lit (.int .i64 0))
    rw [hc.1] at h3
    cases hm : mget m s with
    | none => rw [hm] at h3; simp at h3; simp [h3]
    | some q => rw [hm] at h3; simp at h3; simp [h3]
  subst hcc
  rw [h1] at hrun
  unfold execOp
  simp [ho, K.ev hx, K.ev hy, hrun]
theorem ac_mapSet (ho : o.op = .mapUpdate t x y z) (ht : P.underlying t = some (.map k e)) (hk : P.underlying k = some .string) (he : P.underlying e = some (.int .i64)) (K : Kd D a N l)
    (hx : evo l x = some (.map (some g))) (hy : evo l y = some (.string (bs s))) (hv : evo l z = some (.int .i64 v)) (i : Nat) (M : Mem W.heap.size W w L) (hi : L[i]? = some (.smp P k e g m)) (hp : mput m s v = some m') :
    Ac P o a w fun _ w' => Mem W.heap.size W w' (L.set i (.smp P k e g m')) := by
  obtain ⟨rfl, h1, h2, h3, h4⟩ := mput_spec hp
  obtain ⟨D, hown, hD⟩ := M.has i _ hi
  have hkey : keyOf P k (.string (bs s)) = some (.string s) := keyOf_string_mk hk (by rw [bs_size]; unfold maxLen; omega)
  obtain ⟨w', hrun, hown', hg⟩ := hown.update (Maps.string_keyed hk) ht (by unfold maxLen; omega) hkey (plainElem_int he (WalkArith.wf_i64 ⟨h3, h4⟩))
  refine ac_skip (w' := w') ?_ (M.turnS rfl i hi ((Below.refl _ w).grown hg M.sz fun k hk => M.up i _ k hi (by cases hk; rfl)) (show Ent.holds w' (.smp P k e g ((s, v) :: m)) from ⟨_, hown', fun s' => ?_⟩) (fun j hj hne => hg.block j hj fun h => hne (by cases h; rfl)) (fun g' hg' => .inl hg'))
  · unfold execOp
    simp [ho, K.ev hx, K.ev hy, K.ev hv, hrun]
  · have hkl : WideAt.IsKeyLit (.string s) := trivial
    by_cases hs : s = s'
    · subst hs
      refine ⟨?_, fun z => ?_⟩
      · rw [Maps.has_put_same hown.isMap hkl]; simp [mget]
      · rw [Maps.atKey_put_same hown.isMap hkl]; simp [mget]
    · have hne : (Lit.string s' : Lit) ≠ .string s := fun h => hs (by injection h with h; exact h.symm)
      obtain ⟨q1, q2⟩ := hD s'
      refine ⟨?_, fun z => ?_⟩
      · rw [Maps.has_put_other hne, q1]; simp [mget, hs]
      · rw [Maps.atKey_put_other hne, q2]; simp [mget, hs]
end
end Go.Proofs.YtpmnfhifmmfglacDoor

namespace Go.Proofs.YtpmnfhifmmfglacDoor
open Go.RowKit
theorem z2 : zeroT Tryd.prog 2 = some [.int .i64 0] := by kernel_rfl
theorem sc3 : scT Tryd.prog 3 = true := by kernel_rfl
theorem z3 : zeroT Tryd.prog 3 = some [.int .i64 0] := by kernel_rfl
theorem zi3 : (Tryd.prog.info? 3).bind (·.zero) = some (.int .i64 0) := by kernel_rfl
theorem ik3 : Tryd.prog.underlying 3 = some (.int .i64) := by kernel_rfl
theorem sz3 : (Tryd.prog.info? 3).map (·.size) = some 1 := by kernel_rfl
theorem z4 : zeroT Tryd.prog 4 = some [.bool false] := by kernel_rfl
theorem sc5 : scT Tryd.prog 5 = true := by kernel_rfl
theorem z5 : zeroT Tryd.prog 5 = some [.int .u8 0] := by kernel_rfl
theorem ik5 : Tryd.prog.underlying 5 = some (.int .u8) := by kernel_rfl
theorem zu5 : (Tryd.prog.info? 5).bind (·.zero) = some (.int .u8 0) := by kernel_rfl
theorem sz5 : (Tryd.prog.info? 5).map (·.size) = some 1 := by kernel_rfl
theorem sc9 : scT Tryd.prog 9 = true := by kernel_rfl
theorem z9 : zeroT Tryd.prog 9 = some [.string (bs ([] : List UInt8))] := by kernel_rfl
theorem st9 : Tryd.prog.underlying 9 = some .string := by kernel_rfl
theorem sz9 : (Tryd.prog.info? 9).map (·.size) = some 1 := by kernel_rfl
theorem z20 : zeroT Tryd.prog 20 = some [.nilIface] := by kernel_rfl
theorem z21 : zeroT Tryd.prog 21 = some [.int .i32 0] := by kernel_rfl
theorem sc22 : scT Tryd.prog 22 = true := by kernel_rfl
theorem sl22 : slT Tryd.prog 22 3 1 8 = true := by kernel_rfl
theorem un22 : ∃ e, Tryd.prog.underlying 22 = some (.slice e) := ⟨_, (slT_spec sl22).1⟩
theorem sl31 : slT Tryd.prog 31 9 1 16 = true := by kernel_rfl
theorem un31 : ∃ e, Tryd.prog.underlying 31 = some (.slice e) := ⟨_, (slT_spec sl31).1⟩
theorem z37 : zeroT Tryd.prog 37 = some [.int .i64 0, .int .i64 0, .slice none 0 0] := by kernel_rfl
theorem ty38 : aggT Tryd.prog 38 3 = true := by kernel_rfl
theorem z38 : zeroT Tryd.prog 38 = some [.int .i64 0, .int .i64 0, .slice none 0 0] := by kernel_rfl
theorem fld38_0 : fldT Tryd.prog 38 0 = some 0 := by kernel_rfl
theorem fld38_1 : fldT Tryd.prog 38 1 = some 1 := by kernel_rfl
theorem fld38_2 : fldT Tryd.prog 38 2 = some 2 := by kernel_rfl
theorem sc52 : scT Tryd.prog 52 = true := by kernel_rfl
theorem sl52 : slT Tryd.prog 52 5 1 1 = true := by kernel_rfl
theorem un52 : ∃ e, Tryd.prog.underlying 52 = some (.slice e) := ⟨_, (slT_spec sl52).1⟩
theorem mp64 : Tryd.prog.underlying 64 = some (.map 9 3) := by kernel_rfl
theorem z70 : zeroT Tryd.prog 70 = some [.nilFunc] := by kernel_rfl
theorem z72 : zeroT Tryd.prog 72 = some [.nilFunc] := by kernel_rfl
theorem ik74 : Tryd.prog.underlying 74 = some (.int .u16) := by kernel_rfl
theorem z75 : zeroT Tryd.prog 75 = some [.nilFunc] := by kernel_rfl
theorem ik76 : Tryd.prog.underlying 76 = some (.int .u64) := by kernel_rfl
theorem ar91 : Tryd.prog.underlying 91 = some (.array 8 3) := by kernel_rfl
theorem z116 : zeroT Tryd.prog 116 = some [.nilFunc] := by kernel_rfl
theorem z119 : zeroT Tryd.prog 119 = some [.int .u8 0, .int .u8 0] := by kernel_rfl
theorem z124 : zeroT Tryd.prog 124 = some [] := by kernel_rfl
theorem z127 : zeroT Tryd.prog 127 = some [.nilFunc] := by kernel_rfl
theorem fok11 : FnOK Tryd.prog 11 = true := by kernel_rfl
theorem fok14 : FnOK Tryd.prog 14 = true := by kernel_rfl
theorem fok15 : FnOK Tryd.prog 15 = true := by kernel_rfl
theorem fok18 : FnOK Tryd.prog 18 = true := by kernel_rfl
theorem fok20 : FnOK Tryd.prog 20 = true := by kernel_rfl
theorem fok22 : FnOK Tryd.prog 22 = true := by kernel_rfl
theorem fok24 : FnOK Tryd.prog 24 = true := by kernel_rfl
theorem fok26 : FnOK Tryd.prog 26 = true := by kernel_rfl
theorem fok27 : FnOK Tryd.prog 27 = true := by kernel_rfl
theorem fok28 : FnOK Tryd.prog 28 = true := by kernel_rfl
theorem fok32 : FnOK Tryd.prog 32 = true := by kernel_rfl
theorem fok33 : FnOK Tryd.prog 33 = true := by kernel_rfl
theorem fok37 : FnOK Tryd.prog 37 = true := by kernel_rfl
theorem fok38 : FnOK Tryd.prog 38 = true := by kernel_rfl
theorem fok39 : FnOK Tryd.prog 39 = true := by kernel_rfl
theorem fok40 : FnOK Tryd.prog 40 = true := by kernel_rfl
theorem fok41 : FnOK Tryd.prog 41 = true := by kernel_rfl
theorem fok42 : FnOK Tryd.prog 42 = true := by kernel_rfl
theorem fok43 : FnOK Tryd.prog 43 = true := by kernel_rfl
theorem fok44 : FnOK Tryd.prog 44 = true := by kernel_rfl
theorem fok45 : FnOK Tryd.prog 45 = true := by kernel_rfl
theorem fok48 : FnOK Tryd.prog 48 = true := by kernel_rfl
theorem fok53 : FnOK Tryd.prog 53 = true := by kernel_rfl
theorem fok54 : FnOK Tryd.prog 54 = true := by kernel_rfl
theorem fok55 : FnOK Tryd.prog 55 = true := by kernel_rfl
theorem fok56 : FnOK Tryd.prog 56 = true := by kernel_rfl
theorem fok57 : FnOK Tryd.prog 57 = true := by kernel_rfl
theorem fok60 : FnOK Tryd.prog 60 = true := by kernel_rfl
theorem fok62 : FnOK Tryd.prog 62 = true := by kernel_rfl
theorem fok64 : FnOK Tryd.prog 64 = true := by kernel_rfl
theorem fok65 : FnOK Tryd.prog 65 = true := by kernel_rfl
theorem fok66 : FnOK Tryd.prog 66 = true := by kernel_rfl
theorem fok68 : FnOK Tryd.prog 68 = true := by kernel_rfl
theorem fok72 : FnOK Tryd.prog 72 = true := by kernel_rfl
theorem fok73 : FnOK Tryd.prog 73 = true := by kernel_rfl
theorem fok74 : FnOK Tryd.prog 74 = true := by kernel_rfl
end Go.Proofs.YtpmnfhifmmfglacDoor

namespace Go.Proofs.YtpmnfhifmmfglacDoor
open Go.Shelf Go.RowKit
def lays160_ren : Go.Shelf.Ren := ⟨fun | 160 => 72 | 232 => 78 | 231 => 77 | 227 => 79 | 234 => 81 | 233 => 80 | 236 => 83 | 235 => 82 | 228 => 91 | 271 => 94 | 151 => 93 | 197 => 92 | 120 => 100 | 152 => 99 | 260 => 98 | 137 => 101 | 119 => 102 | 224 => 89 | 225 => 88 | 217 => 87 | 266 => 96 | n => n, fun | 9 => 9 | 4 => 4 | 3 => 3 | 5 => 5 | 117 => 105 | 116 => 104 | 0 => 0 | 124 => 108 | 21 => 21 | 105 => 111 | 46 => 76 | 119 => 117 | 139 => 120 | 138 => 119 | n => n, fun | 3 => 1 | 4 => 2 | n => n⟩
theorem lays160 : Go.Proofs.Lays.n160 Tryd.prog lays160_ren := {
  mixed := by kernel_rfl
  f119 := Tryd.func102.trans (congrArg some (by kernel_rfl))
  f120 := Tryd.func100.trans (congrArg some (by kernel_rfl))
  f137 := Tryd.func101.trans (congrArg some (by kernel_rfl))
  f151 := Tryd.func93.trans (congrArg some (by kernel_rfl))
  f152 := Tryd.func99.trans (congrArg some (by kernel_rfl))
  f160 := Tryd.func72.trans (congrArg some (by kernel_rfl))
  f197 := Tryd.func92.trans (congrArg some (by kernel_rfl))
  f217 := Tryd.func87.trans (congrArg some (by kernel_rfl))
  f224 := Tryd.func89.trans (congrArg some (by kernel_rfl))
  f225 := Tryd.func88.trans (congrArg some (by kernel_rfl))
  f227 := Tryd.func79.trans (congrArg some (by kernel_rfl))
  f228 := Tryd.func91.trans (congrArg some (by kernel_rfl))
  f231 := Tryd.func77.trans (congrArg some (by kernel_rfl))
  f232 := Tryd.func78.trans (congrArg some (by kernel_rfl))
  f233 := Tryd.func80.trans (congrArg some (by kernel_rfl))
  f234 := Tryd.func81.trans (congrArg some (by kernel_rfl))
  f235 := Tryd.func82.trans (congrArg some (by kernel_rfl))
  f236 := Tryd.func83.trans (congrArg some (by kernel_rfl))
  f260 := Tryd.func98.trans (congrArg some (by kernel_rfl))
  f266 := Tryd.func96.trans (congrArg some (by kernel_rfl))
  f271 := Tryd.func94.trans (congrArg some (by kernel_rfl))
  t0 := Tryd.underlying0
  a0 := Tryd.isAgg0
  z0 := Tryd.sizeOf0
  v0 := Tryd.zeroValue0
  t3 := Tryd.underlying3
  a3 := Tryd.isAgg3
  z3 := Tryd.sizeOf3
  v3 := Tryd.zeroValue3
  t4 := Tryd.underlying4
  a4 := Tryd.isAgg4
  z4 := Tryd.sizeOf4
  v4 := Tryd.zeroValue4
  t5 := Tryd.underlying5
  a5 := Tryd.isAgg5
  z5 := Tryd.sizeOf5
  v5 := Tryd.zeroValue5
  t9 := Tryd.underlying9
  a9 := Tryd.isAgg9
  z9 := Tryd.sizeOf9
  v9 := Tryd.zeroValue9
  t21 := Tryd.underlying21
  a21 := Tryd.isAgg21
  z21 := Tryd.sizeOf21
  v21 := Tryd.zeroValue21
  t46 := Tryd.underlying76
  a46 := Tryd.isAgg76
  z46 := Tryd.sizeOf76
  v46 := Tryd.zeroValue76
  t105 := Tryd.underlying111
  a105 := Tryd.isAgg111
  z105 := Tryd.sizeOf111
  v105 := Tryd.zeroValue111
  t116 := Tryd.underlying104
  a116 := Tryd.isAgg104
  z116 := Tryd.sizeOf104
  t117 := Tryd.underlying105
  a117 := Tryd.isAgg105
  z117 := Tryd.sizeOf105
  v117 := Tryd.zeroValue105
  t119 := Tryd.underlying117
  a119 := Tryd.isAgg117
  z119 := Tryd.sizeOf117
  t124 := Tryd.underlying108
  a124 := Tryd.isAgg108
  z124 := Tryd.sizeOf108
  v124 := Tryd.zeroValue108
  t138 := Tryd.underlying119
  a138 := Tryd.isAgg119
  z138 := Tryd.sizeOf119
  v138 := Tryd.zeroValue119
  t139 := Tryd.underlying120
  a139 := Tryd.isAgg120
  z139 := Tryd.sizeOf120
  v139 := Tryd.zeroValue120
  g3 := by kernel_rfl
  g4 := by kernel_rfl }
def lays138_ren : Go.Shelf.Ren := ⟨fun | 138 => 73 | 195 => 84 | 218 => 85 | 143 => 70 | 219 => 76 | 217 => 87 | 225 => 88 | 224 => 89 | 267 => 90 | 266 => 96 | 314 => 97 | n => n, fun | 9 => 9 | 3 => 3 | 4 => 4 | 5 => 5 | 0 => 0 | 46 => 76 | 146 => 114 | 51 => 93 | n => n, fun | 1 => 0 | n => n⟩
theorem lays138 : Go.Proofs.Lays.n138 Tryd.prog lays138_ren := {
  mixed := by kernel_rfl
  f138 := Tryd.func73.trans (congrArg some (by kernel_rfl))
  f143 := Tryd.func70.trans (congrArg some (by kernel_rfl))
  f195 := Tryd.func84.trans (congrArg some (by kernel_rfl))
  f217 := Tryd.func87.trans (congrArg some (by kernel_rfl))
  f218 := Tryd.func85.trans (congrArg some (by kernel_rfl))
  f219 := Tryd.func76.trans (congrArg some (by kernel_rfl))
  f224 := Tryd.func89.trans (congrArg some (by kernel_rfl))
  f225 := Tryd.func88.trans (congrArg some (by kernel_rfl))
  f266 := Tryd.func96.trans (congrArg some (by kernel_rfl))
  f267 := Tryd.func90.trans (congrArg some (by kernel_rfl))
  f314 := Tryd.func97.trans (congrArg some (by kernel_rfl))
  t0 := Tryd.underlying0
  a0 := Tryd.isAgg0
  z0 := Tryd.sizeOf0
  v0 := Tryd.zeroValue0
  t3 := Tryd.underlying3
  a3 := Tryd.isAgg3
  z3 := Tryd.sizeOf3
  v3 := Tryd.zeroValue3
  t4 := Tryd.underlying4
  a4 := Tryd.isAgg4
  z4 := Tryd.sizeOf4
  v4 := Tryd.zeroValue4
  t5 := Tryd.underlying5
  a5 := Tryd.isAgg5
  z5 := Tryd.sizeOf5
  v5 := Tryd.zeroValue5
  t9 := Tryd.underlying9
  a9 := Tryd.isAgg9
  z9 := Tryd.sizeOf9
  v9 := Tryd.zeroValue9
  t46 := Tryd.underlying76
  a46 := Tryd.isAgg76
  z46 := Tryd.sizeOf76
  v46 := Tryd.zeroValue76
  t51 := Tryd.underlying93
  a51 := Tryd.isAgg93
  z51 := Tryd.sizeOf93
  v51 := Tryd.zeroValue93
  t146 := Tryd.underlying114
  a146 := Tryd.isAgg114
  z146 := Tryd.sizeOf114
  v146 := Tryd.zeroValue114
  g1 := by kernel_rfl }
def lays169_ren : Go.Shelf.Ren := ⟨fun | 169 => 28 | n => n, fun | 70 => 51 | 9 => 9 | 0 => 0 | 72 => 54 | 37 => 52 | 127 => 87 | 3 => 3 | 5 => 5 | n => n, fun | n => n⟩
theorem lays169 : Go.Proofs.Lays.n169 Tryd.prog lays169_ren := {
  mixed := by kernel_rfl
  f169 := Tryd.func28.trans (congrArg some (by kernel_rfl))
  t0 := Tryd.underlying0
  a0 := Tryd.isAgg0
  z0 := Tryd.sizeOf0
  v0 := Tryd.zeroValue0
  t3 := Tryd.underlying3
  a3 := Tryd.isAgg3
  z3 := Tryd.sizeOf3
  v3 := Tryd.zeroValue3
  t9 := Tryd.underlying9
  a9 := Tryd.isAgg9
  z9 := Tryd.sizeOf9
  v9 := Tryd.zeroValue9
  t37 := Tryd.underlying52
  a37 := Tryd.isAgg52
  z37 := Tryd.sizeOf52
  v37 := Tryd.zeroValue52
  t70 := Tryd.underlying51
  a70 := Tryd.isAgg51
  z70 := Tryd.sizeOf51
  v70 := Tryd.zeroValue51
  t72 := Tryd.underlying54
  a72 := Tryd.isAgg54
  z72 := Tryd.sizeOf54
  v72 := Tryd.zeroValue54
  t127 := Tryd.underlying87
  a127 := Tryd.isAgg87
  z127 := Tryd.sizeOf87
  v127 := Tryd.zeroValue87 }
def lays144_ren : Go.Shelf.Ren := ⟨fun | 144 => 57 | 143 => 70 | 219 => 76 | 217 => 87 | 225 => 88 | 224 => 89 | 267 => 90 | 266 => 96 | 314 => 97 | n => n, fun | 9 => 9 | 4 => 4 | 3 => 3 | 5 => 5 | 46 => 76 | 146 => 114 | 51 => 93 | n => n, fun | 1 => 0 | n => n⟩
theorem lays144 : Go.Proofs.Lays.n144 Tryd.prog lays144_ren := {
  mixed := by kernel_rfl
  f143 := Tryd.func70.trans (congrArg some (by kernel_rfl))
  f144 := Tryd.func57.trans (congrArg some (by kernel_rfl))
  f217 := Tryd.func87.trans (congrArg some (by kernel_rfl))
  f219 := Tryd.func76.trans (congrArg some (by kernel_rfl))
  f224 := Tryd.func89.trans (congrArg some (by kernel_rfl))
  f225 := Tryd.func88.trans (congrArg some (by kernel_rfl))
  f266 := Tryd.func96.trans (congrArg some (by kernel_rfl))
  f267 := Tryd.func90.trans (congrArg some (by kernel_rfl))
  f314 := Tryd.func97.trans (congrArg some (by kernel_rfl))
  t3 := Tryd.underlying3
  a3 := Tryd.isAgg3
  z3 := Tryd.sizeOf3
  v3 := Tryd.zeroValue3
  t4 := Tryd.underlying4
  a4 := Tryd.isAgg4
  z4 := Tryd.sizeOf4
  v4 := Tryd.zeroValue4
  t5 := Tryd.underlying5
  a5 := Tryd.isAgg5
  z5 := Tryd.sizeOf5
  v5 := Tryd.zeroValue5
  t9 := Tryd.underlying9
  a9 := Tryd.isAgg9
  z9 := Tryd.sizeOf9
  v9 := Tryd.zeroValue9
  t46 := Tryd.underlying76
  a46 := Tryd.isAgg76
  z46 := Tryd.sizeOf76
  v46 := Tryd.zeroValue76
  t51 := Tryd.underlying93
  a51 := Tryd.isAgg93
  z51 := Tryd.sizeOf93
  v51 := Tryd.zeroValue93
  t146 := Tryd.underlying114
  a146 := Tryd.isAgg114
  z146 := Tryd.sizeOf114
  v146 := Tryd.zeroValue114
  g1 := by kernel_rfl }
def lays166_ren : Go.Shelf.Ren := ⟨fun | 166 => 27 | 240 => 60 | 276 => 71 | 169 => 28 | n => n, fun | 0 => 0 | 3 => 3 | 4 => 4 | 5 => 5 | 9 => 9 | 20 => 20 | 37 => 52 | 70 => 51 | 72 => 54 | 75 => 56 | 80 => 59 | 164 => 97 | 127 => 87 | n => n, fun | n => n⟩
theorem lays166 : Go.Proofs.Lays.n166 Tryd.prog lays166_ren := {
  mixed := by kernel_rfl
  f166 := Tryd.func27.trans (congrArg some (by kernel_rfl))
  f240 := Tryd.func60.trans (congrArg some (by kernel_rfl))
  f276 := Tryd.func71.trans (congrArg some (by kernel_rfl))
  t0 := Tryd.underlying0
  a0 := Tryd.isAgg0
  z0 := Tryd.sizeOf0
  v0 := Tryd.zeroValue0
  t3 := Tryd.underlying3
  a3 := Tryd.isAgg3
  z3 := Tryd.sizeOf3
  v3 := Tryd.zeroValue3
  t4 := Tryd.underlying4
  a4 := Tryd.isAgg4
  z4 := Tryd.sizeOf4
  v4 := Tryd.zeroValue4
  t9 := Tryd.underlying9
  a9 := Tryd.isAgg9
  z9 := Tryd.sizeOf9
  v9 := Tryd.zeroValue9
  t20 := Tryd.underlying20
  a20 := Tryd.isAgg20
  z20 := Tryd.sizeOf20
  v20 := Tryd.zeroValue20
  t37 := Tryd.underlying52
  a37 := Tryd.isAgg52
  z37 := Tryd.sizeOf52
  v37 := Tryd.zeroValue52
  t70 := Tryd.underlying51
  a70 := Tryd.isAgg51
  z70 := Tryd.sizeOf51
  v70 := Tryd.zeroValue51
  t72 := Tryd.underlying54
  a72 := Tryd.isAgg54
  z72 := Tryd.sizeOf54
  v72 := Tryd.zeroValue54
  t75 := Tryd.underlying56
  a75 := Tryd.isAgg56
  z75 := Tryd.sizeOf56
  v75 := Tryd.zeroValue56
  t164 := Tryd.underlying97
  a164 := Tryd.isAgg97
  z164 := Tryd.sizeOf97
  v164 := Tryd.zeroValue97 }
theorem Builder_Extra_166 : Builder.Extra Tryd.prog lays166_ren where
  sizeBuilder := by kernel_rfl
  liesBuilder := by kernel_rfl
  t5 := Tryd.underlying5
  a5 := Tryd.isAgg5
  z5 := Tryd.sizeOf5
  v5 := Tryd.zeroValue5
  infoByte := by kernel_rfl
  cellsByte := by kernel_rfl
  sizeByte := by kernel_rfl
  neB5 := by decide
theorem Builder_Extra_169 : Builder.Extra Tryd.prog lays169_ren where
  sizeBuilder := by kernel_rfl
  liesBuilder := by kernel_rfl
  t5 := Tryd.underlying5
  a5 := Tryd.isAgg5
  z5 := Tryd.sizeOf5
  v5 := Tryd.zeroValue5
  infoByte := by kernel_rfl
  cellsByte := by kernel_rfl
  sizeByte := by kernel_rfl
  neB5 := by decide
theorem Builder_String (B b : Nat) (l : List UInt8) (w : World) (h : Lib.IsBuilder 54 5 B b (Lib.byteCells l) w) (hBw : B ≤ w.heap.size) :
    Calls Tryd.prog 28 #[.pointer (some ⟨b, 0, none⟩)] w fun e w' => e = .returned (.string ⟨l.toArray⟩) ∧ Below B w w' := Any.Builder_String_any lays169 Builder_Extra_169 B b l w h hBw
end Go.Proofs.YtpmnfhifmmfglacDoor

namespace Go.Proofs.YtpmnfhifmmfglacDoor
open Go.RowKit Go.Shelf
theorem W_strings_Trim (N : Nat) (s cutset : List UInt8) (w0 : World) (r : List UInt8) (h : D_strings_Trim N s cutset = some r) :
    Calls Tryd.prog 72 #[.string (bs s), .string (bs cutset)] w0 fun e w' => ∃ v, e = .returned v ∧ v = .string (bs r) ∧ Mem w0.heap.size w0 w' [] := by
  unfold D_strings_Trim at h
  split at h
  · rename_i hc
    cases h
    obtain ⟨h1, h2, h3⟩ := hc
    refine (Any.strings_Trim_laid lays160 (by kernel_rfl) (bs s) (bs cutset) w0 (by rw [bs_size]; exact h1) (by rw [bs_size]; exact h2) (fun j b hb => ?_)).mono ?_
    · exact of_decide_eq_true (List.all_eq_true.1 h3 b (List.mem_of_getElem? hb))
    · rintro e w' ⟨rfl, hb⟩
      exact ⟨_, rfl, rfl, Mem.fin0 hb⟩
  · cases h
theorem W_strings_Count (N : Nat) (s substr : List UInt8) (w0 : World) (r : Int) (h : D_strings_Count N s substr = some r) :
    Calls Tryd.prog 73 #[.string (bs s), .string (bs substr)] w0 fun e w' => ∃ v, e = .returned v ∧ v = .int .i64 r ∧ Mem w0.heap.size w0 w' [] := by
  unfold D_strings_Count at h
  split at h
  · rename_i c
    cases h
    refine (Any.strings_Count_one lays138 (bs s) c w0).mono ?_
    rintro e w' ⟨rfl, rfl⟩
    exact ⟨_, rfl, rfl, Mem.start w'⟩
  · cases h
end Go.Proofs.YtpmnfhifmmfglacDoor

namespace Go.Proofs.YtpmnfhifmmfglacDoor
open Go.RowKit Go.Shelf
section
variable {base : Nat} {W w : World} {L : List Ent} {g c n : Nat} {A : Option Addr} {b d b2 : List UInt8}
theorem W_bld_check (M : Mem base W w (.bld g 54 A n c :: L)) :
    Calls Tryd.prog 60 #[.pointer (some ⟨g, 0, none⟩)] w fun e w' => ∃ v, e = .returned v ∧ Mem base W w' (.blk g 54 [.pointer (some ⟨g, 0, none⟩), .slice A n c] :: L) := by
  obtain ⟨p, hp, hb⟩ := M.has 0 _ rfl
  have hb' : w.heap[g]? = some (.cells #[.pointer p, .slice A n c] 54 (0, 0)) := hb
  have M1 : Mem base W w (.blk g 54 [.pointer p, .slice A n c] :: L) := M.swap 0 rfl hb rfl
  rcases hp with rfl | rfl
  · refine (Any.Builder_copyCheck_fresh { lays166 with } Builder_Extra_166.toX72 g w (M1.cell (i := 0) rfl (k := 0) rfl) (by simp [World.shape?, hb', lays166_ren]) (by simp [World.frozen?, hb'])).mono ?_
    rintro e w' ⟨rfl, rfl⟩
    exact ⟨_, rfl, M1.set 0 rfl 0 _⟩
  · refine (Any.Builder_copyCheck_used { lays166 with } Builder_Extra_166.toX72 g w (M1.cell (i := 0) rfl (k := 0) rfl)).mono ?_
    rintro e w' ⟨rfl, rfl⟩
    exact ⟨_, rfl, M1⟩
set_option maxRecDepth 100000 in
set_option maxHeartbeats 4000000 in
theorem W_bld_write (M : Mem base W w (.bld g 54 A b.length c :: .row 5 1 A b.length c ((cI .u8).all (ofB b)) :: L)) (h : bwr b d = some b2) :
    Calls Tryd.prog 27 #[.pointer (some ⟨g, 0, none⟩), .string (bs d)] w fun e w' => ∃ v, e = .returned v ∧ ∃ A' c', Mem base W w' (.bld g 54 A' b2.length c' :: .row 5 1 A' b2.length c' ((cI .u8).all (ofB b2)) :: L) := by
  obtain ⟨rfl, hl⟩ := bwr_spec h
  have happ : app 1 (ofB b) (ofB d) = some (ofB b ++ ofB d) := by
    unfold app
    rw [if_pos (by rw [ofB_len, ofB_len]; omega)]
  replace M : Mem base W w (.bld g 54 A (ofB b).length c :: .row 5 1 A (ofB b).length c ((cI .u8).all (ofB b)) :: L) := by rw [ofB_len]; exact M
  refine X_enter Tryd.func27 rfl Tryd.ntmps27 rfl ?_
  intro a K
  have K : Kn a 19 [(0, .pointer (some ⟨g, 0, none⟩)), (1, .string (bs d))] := K
  refine wp_seq (X_reg ?_)
  refine X_o K M ?_; clear K
  refine Y_o M ?_; intro a K
  refine wpList_nil (then_n (wp_seq (X_reg ?_)))
  refine X_o K M ?_; clear K; intro a K
  refine X_a K (ac_call (vs := [.pointer (some ⟨g, 0, none⟩)]) (cap := []) rfl fok60 K rfl rfl (W_bld_check M)) ?_
  clear K M; rintro _ a w M K
  refine wpList_nil (then_n (wp_seq (X_reg ?_)))
  refine X_o K M ?_; clear K
  refine Y_o M ?_
  refine Y_o M ?_
  refine Y_r (fun _ K => rd_field rfl (show fldT Tryd.prog 54 1 = some 1 by kernel_rfl) K rfl) M ?_
  refine Y_r (fun _ K => rd_ldC rfl sc52 K rfl (inM 0 rfl) rfl) M ?_
  refine Y_o M ?_; intro a K
  refine X_a K (ac_appS rfl sl52 st9 zu5 K rfl rfl 1 M rfl happ) ?_
  clear K M; rintro _ a w ⟨A', c', rfl, M⟩ K
  refine X_o K M ?_; clear K
  refine Y_r (fun _ K => rd_field rfl (show fldT Tryd.prog 54 1 = some 1 by kernel_rfl) K rfl) M ?_; intro a K
  refine X_b K (ac_storeC rfl sc52 K rfl rfl rfl 0 M rfl rfl) ?_
  clear K M; rintro _ a w M K
  refine wpList_nil (then_n (wp_seq (X_reg ?_)))
  refine X_o K M ?_; clear K
  refine Y_r (fun _ K => rd_lenT rfl st9 K rfl) M ?_
  refine Y_o M ?_
  refine Y_o M ?_; intro a K
  refine wpList_nil (then_n (wp_ret ?_))
  replace M : Mem base W w (.blk g 54 [.pointer (some ⟨g, 0, none⟩), .slice A' (ofB b ++ ofB d).length c'] :: .row 5 1 A' (ofB b ++ ofB d).length c' ((cI .u8).all (ofB b ++ ofB d)) :: L) := M
  have M2 : Mem base W w (.bld g 54 A' (ofB b ++ ofB d).length c' :: .row 5 1 A' (ofB b ++ ofB d).length c' ((cI .u8).all (ofB b ++ ofB d)) :: L) := M.unBld 0 rfl
  have e : (ofB b ++ ofB d) = ofB (b ++ d) := (List.map_append ..).symm
  rw [e, ofB_len] at M2
  exact ret2 K rfl (res_tmp K rfl) (res_tmp K rfl) ⟨_, rfl, A', c', M2⟩
theorem W_bld_string (M : Mem W.heap.size W w (.bld g 54 A b.length c :: .row 5 1 A b.length c ((cI .u8).all (ofB b)) :: L)) :
    Calls Tryd.prog 28 #[.pointer (some ⟨g, 0, none⟩)] w fun e w' => ∃ v, e = .returned v ∧ v = .string (bs b) ∧ Mem W.heap.size W w' [] := by
  refine (Builder_String W.heap.size g b w M.builder M.sz).mono ?_
  rintro e w' ⟨rfl, h2⟩
  exact ⟨_, rfl, rfl, Mem.fin0 (M.low.trans h2)⟩
end
end Go.Proofs.YtpmnfhifmmfglacDoor
