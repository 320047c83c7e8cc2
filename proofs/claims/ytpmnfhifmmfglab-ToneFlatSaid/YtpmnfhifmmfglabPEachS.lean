/- Each pixel of a picture becomes another one. -/
import Derived.Test.YtpmnfhifmmfglabPTake
set_option linter.unusedVariables false
set_option linter.unusedSimpArgs false
set_option linter.unusedSectionVars false
namespace Go.Proofs.Ytpmnfhifmmfglab
open Go

theorem eachS_l1 (N : Nat) {W H : Nat} {P : List Px} (hs : sideOK W H P.length) (SW SH : Int) (SP : List Px) (SA : Int) (g : Nat → Px) (hg : ∀ i p, P[i]? = some p → D_tone_Sharpen_2 N p.1 p.2.1 p.2.2 ((i % W : Nat) : Int) ((i / W : Nat) : Int) SW SH SP SA = some (g i)) (kk : List Px × Int → Option (Int × Int × List Px × Int)) : ∀ (d k fuel : Nat), k + d = P.length → d < fuel →
    D_tone_each__tone_Sharpen_2_l1 N W P SW SH SP SA kk fuel ((List.range k).map g ++ List.replicate (P.length - k) px0, (k : Int)) = kk ((List.range P.length).map g, (P.length : Int)) := by
  obtain ⟨h1, h2, h3, h4, h5, h6⟩ := side_nat W H P hs
  intro d
  induction d with
  | zero =>
    intro k fuel hk hf
    obtain ⟨fuel, rfl⟩ : ∃ m, fuel = m + 1 := ⟨fuel - 1, by omega⟩
    obtain rfl : k = P.length := by omega
    unfold D_tone_each__tone_Sharpen_2_l1
    rw [cF (dF (by omega)), Nat.sub_self, List.replicate_zero, List.append_nil]
  | succ d ih =>
    intro k fuel hk hf
    obtain ⟨fuel, rfl⟩ : ∃ m, fuel = m + 1 := ⟨fuel - 1, by omega⟩
    have hlt : k < P.length := by omega
    obtain ⟨e1, e2⟩ := tdm k (show 0 < W by omega)
    have hq : k / W < H := Nat.div_lt_of_lt_mul (by omega)
    have hq0 : (0 : Int) ≤ ((k / W : Nat) : Int) := Int.natCast_nonneg _
    unfold D_tone_each__tone_Sharpen_2_l1
    rw [cT (dT (by omega)), idx_nat, List.getElem?_eq_getElem hlt, bsome, nz_eq (by omega), bsome, bsome, e1, e2, w64 (x := ((k / W : Nat) : Int)) (by omega)]
    rw [hg k _ (List.getElem?_eq_getElem hlt), bsome, idx_nat, List.getElem?_eq_getElem (by simp; omega), bsome]
    rw [fill_step g px0 hlt, bsome, w64 (by omega)]
    exact ih (k + 1) fuel (by omega) (by omega)
theorem eachS_eq (N : Nat) {W H : Nat} {P : List Px} (hN : 5000 ≤ N) (SW SH : Int) (SP : List Px) (SA : Int) (hp : picF W H P = true) (g : Nat → Px) (hg : ∀ i p, P[i]? = some p → D_tone_Sharpen_2 N p.1 p.2.1 p.2.2 ((i % W : Nat) : Int) ((i / W : Nat) : Int) SW SH SP SA = some (g i)) :
    D_tone_each__tone_Sharpen_2 N W H P SW SH SP SA = some ((W : Int), (H : Int), (List.range P.length).map g, 0) := by
  have hs := picF_side hp
  have hl := side_len hs
  obtain ⟨a, b, l, ht⟩ := take_code N W H P hN
  rw [hp, if_pos rfl] at ht
  unfold D_tone_each__tone_Sharpen_2
  rw [ht, bsome, cF (by rfl), bsome, mk_eq (by omega), bsome, Int.toNat_natCast]
  exact eachS_l1 N hs SW SH SP SA g hg _ P.length 0 N (by omega) (by omega)
theorem eachS_no (N : Nat) {W H : Int} {P : List Px} (hN : 5000 ≤ N) (SW SH : Int) (SP : List Px) (SA : Int) (hp : picF W H P = false) : D_tone_each__tone_Sharpen_2 N W H P SW SH SP SA = some (0, 0, [], 1) := by
  obtain ⟨a, b, l, ht⟩ := take_code N W H P hN
  rw [hp] at ht
  unfold D_tone_each__tone_Sharpen_2
  rw [ht]
  rfl

end Go.Proofs.Ytpmnfhifmmfglab
