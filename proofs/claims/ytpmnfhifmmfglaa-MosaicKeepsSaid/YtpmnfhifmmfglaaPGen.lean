/- Lists by their places, right pictures, numbers: plain words for all laws. -/
import Derived.Test.YtpmnfhifmmfglaaPBase
set_option linter.unusedVariables false
set_option linter.unusedSimpArgs false
set_option linter.unusedSectionVars false
namespace Go.Proofs.Ytpmnfhifmmfglaa
open Go

def okPx (p : Int × Int × Int) : Bool := decide (0 ≤ p.1 ∧ p.1 ≤ 65535 ∧ 0 ≤ p.2.1 ∧ p.2.1 ≤ 65535 ∧ 0 ≤ p.2.2 ∧ p.2.2 ≤ 65535)
def sideOK (W H : Int) (n : Nat) : Prop := 1 ≤ W ∧ W ≤ 64 ∧ 1 ≤ H ∧ H ≤ 64 ∧ (n : Int) = W * H
instance (W H : Int) (n : Nat) : Decidable (sideOK W H n) := by unfold sideOK; infer_instance
def picF (W H : Int) (P : List (Int × Int × Int)) : Bool := decide (sideOK W H P.length) && P.all okPx
theorem mul_bd {W H : Int} (h : 1 ≤ W ∧ W ≤ 64 ∧ 1 ≤ H ∧ H ≤ 64) : 1 ≤ W * H ∧ W * H ≤ 4096 := by
  obtain ⟨h1, h2, h3, h4⟩ := h
  have a := Int.mul_le_mul h2 h4 (by omega) (by omega)
  have b := Int.mul_le_mul h1 h3 (by omega) (by omega)
  omega
theorem side_len {W H : Int} {n : Nat} (h : sideOK W H n) : n ≤ 4096 ∧ 1 ≤ n := by
  obtain ⟨h1, h2, h3, h4, h5⟩ := h
  have := mul_bd ⟨h1, h2, h3, h4⟩
  omega
theorem picF_side {W H : Int} {P : List (Int × Int × Int)} (h : picF W H P = true) : sideOK W H P.length := by
  simp only [picF, Bool.and_eq_true, decide_eq_true_eq] at h; exact h.1
theorem picF_all {W H : Int} {P : List (Int × Int × Int)} (h : picF W H P = true) {k : Nat} {p : Int × Int × Int} (hk : P[k]? = some p) : 0 ≤ p.1 ∧ p.1 ≤ 65535 ∧ 0 ≤ p.2.1 ∧ p.2.1 ≤ 65535 ∧ 0 ≤ p.2.2 ∧ p.2.2 ≤ 65535 := by
  simp only [picF, Bool.and_eq_true] at h
  have := List.all_eq_true.1 h.2 p (List.mem_of_getElem? hk)
  simpa [okPx] using this

abbrev Px := Int × Int × Int
def px0 : Px := (0, 0, 0)
/-- The rows of a picture of W columns and H rows, out of its pixels by place. -/
def mkL (W H : Nat) (f : Nat → Nat → Px) : List Px := (List.range (W * H)).map fun i => f (i % W) (i / W)
theorem mkL_len (W H : Nat) (f : Nat → Nat → Px) : (mkL W H f).length = W * H := by simp [mkL]
theorem mkL_get {W H : Nat} (f : Nat → Nat → Px) {i : Nat} (h : i < W * H) : (mkL W H f)[i]? = some (f (i % W) (i / W)) := by simp [mkL, h]
theorem lt_of_place {W H i : Nat} (h : i < W * H) : i % W < W ∧ i / W < H ∧ 0 < W := by
  have hW : 0 < W := by
    rcases Nat.eq_zero_or_pos W with h0 | h0
    · subst h0; simp at h
    · exact h0
  exact ⟨Nat.mod_lt _ hW, Nat.div_lt_of_lt_mul h, hW⟩
theorem mkL_ext {W H : Nat} {f g : Nat → Nat → Px} (h : ∀ x y, x < W → y < H → f x y = g x y) : mkL W H f = mkL W H g := by
  refine List.map_congr_left fun i hi => ?_
  obtain ⟨h1, h2, _⟩ := lt_of_place (List.mem_range.1 hi)
  exact h _ _ h1 h2
def pxOf (P : List Px) (W : Nat) (x y : Nat) : Px := P.getD (y * W + x) px0
theorem mkL_self {P : List Px} {W H : Nat} (h : P.length = W * H) : mkL W H (pxOf P W) = P := by
  apply List.ext_getElem?
  intro i
  by_cases hi : i < W * H
  · rw [mkL_get _ hi]
    simp only [pxOf]
    rw [Nat.div_add_mod']
    rw [List.getD_eq_getElem?_getD, List.getElem?_eq_getElem (by omega)]
    rfl
  · rw [List.getElem?_eq_none (by rw [mkL_len]; omega), List.getElem?_eq_none (by omega)]
theorem dm {W x : Nat} (y : Nat) (h : x < W) : (y * W + x) % W = x ∧ (y * W + x) / W = y := by
  have h1 : (y * W + x) % W = x := by rw [Nat.add_comm, Nat.add_mul_mod_self_right, Nat.mod_eq_of_lt h]
  have h2 : (y * W + x) / W = y := by rw [Nat.add_comm, Nat.add_mul_div_right _ _ (by omega), Nat.div_eq_of_lt h, Nat.zero_add]
  exact ⟨h1, h2⟩
theorem place_lt {W H x y : Nat} (hx : x < W) (hy : y < H) : y * W + x < W * H := by
  have := Nat.mul_le_mul_right W (show y + 1 ≤ H from hy)
  rw [Nat.add_mul, Nat.one_mul, Nat.mul_comm H W] at this
  omega
theorem pxOf_mkL {W H : Nat} (f : Nat → Nat → Px) {x y : Nat} (hx : x < W) (hy : y < H) : pxOf (mkL W H f) W x y = f x y := by
  obtain ⟨h1, h2⟩ := dm y hx
  rw [pxOf, List.getD_eq_getElem?_getD, mkL_get f (place_lt hx hy), h1, h2]; rfl

/-- Pixels laid one by one at places. -/
def scat (P : List Px) (p : Nat → Nat) (n : Nat) : Nat → List Px
  | 0 => List.replicate n px0
  | k + 1 => (scat P p n k).set (p k) (P.getD k px0)
theorem scat_len (P : List Px) (p : Nat → Nat) (n : Nat) : ∀ k, (scat P p n k).length = n
  | 0 => by simp [scat]
  | k + 1 => by simp [scat, scat_len P p n k]
theorem scat_at (P : List Px) (p : Nat → Nat) (n : Nat) (hp : ∀ i, i < n → p i < n) (hinj : ∀ i j, i < n → j < n → p i = p j → i = j) : ∀ k, k ≤ n → ∀ i, i < k → (scat P p n k)[p i]? = some (P.getD i px0)
  | 0, _, i, hi => by omega
  | k + 1, hk, i, hi => by
    rw [scat, List.getElem?_set]
    by_cases h : p k = p i
    · rw [if_pos h, if_pos (by rw [scat_len]; exact hp k (by omega))]
      rw [hinj k i (by omega) (by omega) h]
    · rw [if_neg h]
      have : i ≠ k := fun e => h (by rw [e])
      exact scat_at P p n hp hinj k (by omega) i (by omega)
/-- ... and read by the way back. -/
theorem scat_full {P : List Px} {W H W' H' : Nat} {p : Nat → Nat} {g : Nat → Nat → Nat} (hn : W * H = W' * H') (hp : ∀ i, i < W * H → p i < W * H) (hg : ∀ x y, x < W' → y < H' → g x y < W * H ∧ p (g x y) = y * W' + x)
    (hinj : ∀ i j, i < W * H → j < W * H → p i = p j → i = j) : scat P p (W * H) (W * H) = mkL W' H' fun x y => P.getD (g x y) px0 := by
  apply List.ext_getElem?
  intro i
  by_cases hi : i < W * H
  · have hi' : i < W' * H' := by omega
    obtain ⟨h1, h2, _⟩ := lt_of_place hi'
    obtain ⟨g1, g2⟩ := hg _ _ h1 h2
    rw [mkL_get _ hi']
    have := scat_at P p (W * H) hp hinj (W * H) (Nat.le_refl _) _ g1
    rw [g2, Nat.div_add_mod'] at this
    exact this
  · rw [List.getElem?_eq_none (by rw [scat_len]; omega), List.getElem?_eq_none (by rw [mkL_len]; omega)]

theorem sub_inj {a b n : Nat} (ha : a < n) (hb : b < n) (h : n - 1 - a = n - 1 - b) : a = b := by omega
theorem tdm {W : Nat} (k : Nat) (hW : 0 < W) : Int.tmod (k : Int) (W : Int) = ((k % W : Nat) : Int) ∧ Int.tdiv (k : Int) (W : Int) = ((k / W : Nat) : Int) := by
  constructor
  · rw [Int.tmod_eq_emod_of_nonneg (by omega)]; rfl
  · rw [Int.tdiv_eq_ediv_of_nonneg (by omega)]; rfl

theorem side_nat (W H : Nat) (P : List Px) (hs : sideOK W H P.length) : 1 ≤ W ∧ W ≤ 64 ∧ 1 ≤ H ∧ H ≤ 64 ∧ P.length = W * H ∧ W * H ≤ 4096 := by
  obtain ⟨h1, h2, h3, h4, h5⟩ := hs
  have h6 : P.length = W * H := by exact_mod_cast h5
  have h7 := Nat.mul_le_mul (show W ≤ 64 by omega) (show H ≤ 64 by omega)
  exact ⟨by omega, by omega, by omega, by omega, h6, by omega⟩
theorem mkL_side {W H : Nat} (h : 1 ≤ W ∧ W ≤ 64 ∧ 1 ≤ H ∧ H ≤ 64) (f : Nat → Nat → Px) : sideOK (W : Int) (H : Int) (mkL W H f).length := by
  rw [mkL_len]
  exact ⟨by omega, by omega, by omega, by omega, by rw [Int.natCast_mul]⟩
/-- A list by its places, as far as it has come. -/
def pre {α : Type} (W : Nat) (f : Nat → Nat → α) (n : Nat) : List α := (List.range n).map fun k => f (k % W) (k / W)
theorem pre_len {α : Type} (W : Nat) (f : Nat → Nat → α) (n : Nat) : (pre W f n).length = n := by simp [pre]
theorem pre_succ {α : Type} {W : Nat} (f : Nat → Nat → α) (y : Nat) {x : Nat} (hx : x < W) : pre W f (y * W + (x + 1)) = pre W f (y * W + x) ++ [f x y] := by
  obtain ⟨h1, h2⟩ := dm y hx
  rw [show y * W + (x + 1) = (y * W + x) + 1 by omega, pre, List.range_succ, List.map_append, List.map_singleton, h1, h2]; rfl
theorem pre_row {α : Type} {W : Nat} (f : Nat → Nat → α) (y : Nat) : pre W f (y * W + W) = pre W f ((y + 1) * W + 0) := by
  rw [Nat.add_mul, Nat.one_mul]; rfl
theorem list_split {α : Type} (P : List α) (z : α) (a w : Nat) (h : a + w ≤ P.length) : (P.take (a + w)).drop a = (List.range w).map fun u => P.getD (a + u) z := by
  apply List.ext_getElem?
  intro i
  by_cases hi : i < w
  · rw [List.getElem?_drop, List.getElem?_take, if_pos (by omega), List.getElem?_map, List.getElem?_range hi, Option.map_some, List.getD_eq_getElem?_getD, List.getElem?_eq_getElem (by omega)]; rfl
  · rw [List.getElem?_eq_none (by simp; omega), List.getElem?_eq_none (by simp; omega)]
theorem pre_rowF {α : Type} (w : Nat) (g : Nat → Nat → α) (k : Nat) : pre w g ((k + 1) * w) = pre w g (k * w) ++ (List.range w).map fun u => g u k := by
  have key : ∀ m, m ≤ w → pre w g (k * w + m) = pre w g (k * w) ++ (List.range m).map fun u => g u k := by
    intro m
    induction m with
    | zero => intro _; simp
    | succ m ih =>
      intro hm
      rw [pre_succ g k (show m < w by omega), ih (by omega), List.range_succ, List.map_append, List.append_assoc]; rfl
  have := key w (Nat.le_refl _)
  rw [← this]
  rw [Nat.add_mul, Nat.one_mul]
theorem mkL_pre (W H : Nat) (f : Nat → Nat → Px) : mkL W H f = pre W f (H * W) := by rw [mkL, pre, Nat.mul_comm]
theorem picF_mk {W H : Nat} {f : Nat → Nat → Px} (h : 1 ≤ W ∧ W ≤ 64 ∧ 1 ≤ H ∧ H ≤ 64) (hf : ∀ x y, x < W → y < H → okPx (f x y) = true) : picF W H (mkL W H f) = true := by
  simp only [picF, Bool.and_eq_true, decide_eq_true_eq]
  refine ⟨mkL_side h f, List.all_eq_true.2 fun p hp => ?_⟩
  obtain ⟨i, hi, rfl⟩ := List.mem_map.1 hp
  obtain ⟨h1, h2, _⟩ := lt_of_place (List.mem_range.1 hi)
  exact hf _ _ h1 h2
theorem bind2 {α β γ : Type} (x : Option α) (f : α → Option β) (g : β → Option γ) : (Option.bind x fun a => Option.bind (f a) g) = Option.bind (Option.bind x f) g := by cases x <;> rfl
theorem okPx_of {W H : Int} {P : List Px} (hp : picF W H P = true) {i : Nat} {p : Px} (hi : P[i]? = some p) : okPx p = true := by
  have := picF_all hp hi; simpa [okPx] using this
theorem mul_in {x y : Int} {a b : Nat} (hx : -(a : Int) ≤ x ∧ x ≤ a) (hy : -(b : Int) ≤ y ∧ y ≤ b) : -((a * b : Nat) : Int) ≤ x * y ∧ x * y ≤ ((a * b : Nat) : Int) := by
  have h1 : x.natAbs ≤ a := by omega
  have h2 : y.natAbs ≤ b := by omega
  have h3 := Nat.mul_le_mul h1 h2
  rw [← Int.natAbs_mul] at h3
  omega
theorem fill_step {α : Type} (g : Nat → α) (z : α) {n k : Nat} (hk : k < n) : setL ((List.range k).map g ++ List.replicate (n - k) z) (k : Int) (g k) = some ((List.range (k + 1)).map g ++ List.replicate (n - (k + 1)) z) := by
  rw [setL_eq (by simp; omega), Int.toNat_natCast]
  obtain ⟨m, rfl⟩ : ∃ m, n = k + 1 + m := ⟨n - (k + 1), by omega⟩
  rw [show k + 1 + m - k = m + 1 by omega, show k + 1 + m - (k + 1) = m by omega, List.range_succ, List.map_append, List.append_assoc, List.replicate_succ]
  congr 1
  rw [List.set_append_right _ _ (by simp)]
  simp
theorem map_snoc {α : Type} (g : Nat → α) (k : Nat) : (List.range k).map g ++ [g k] = (List.range (k + 1)).map g := by
  rw [List.range_succ, List.map_append]; rfl
theorem shr_eq (m : Int) (n : Nat) (hn : n ≤ 64) : shrI .i64 m (n : Int) = m / 2 ^ n := by
  unfold shrI
  rw [Int.toNat_natCast, show min n IntKind.i64.bits = n from Nat.min_eq_left hn]
  exact Int.fdiv_eq_ediv_of_nonneg _ (Int.le_of_lt (Int.pow_pos (by decide)))
theorem shr12 (m : Int) : shrI .i64 m 12 = m / 4096 := shr_eq m 12 (by decide)
theorem shr8 (m : Int) : shrI .i64 m 8 = m / 256 := shr_eq m 8 (by decide)
theorem shr4 (m : Int) : shrI .i64 m 4 = m / 16 := shr_eq m 4 (by decide)
end Go.Proofs.Ytpmnfhifmmfglaa
