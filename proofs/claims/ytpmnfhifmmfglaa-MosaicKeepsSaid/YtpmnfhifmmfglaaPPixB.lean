/- The body of the loop over the places around one goes through at every place of the plane. -/
import Derived.Test.YtpmnfhifmmfglaaPTake
set_option linter.unusedVariables false
set_option linter.unusedSimpArgs false
set_option linter.unusedSectionVars false
namespace Go.Proofs.Ytpmnfhifmmfglaa
open Go
theorem pix_at {W H : Int} {P : List Int} {x y u v : Int} (hC : pixC W H P x y) (hq : 0 ≤ u ∧ u < W ∧ 0 ≤ v ∧ v < H) : IntKind.i64.wrap (IntKind.i64.wrap (v * W) + u) = v * W + u ∧ 0 ≤ v * W + u ∧ v * W + u < P.length ∧ idx P (v * W + u) = some (P.getD (v * W + u).toNat 0) := by
  obtain ⟨h1, h2, h3, h4, h5, h6, h7⟩ := hC
  have m0 : 0 ≤ v * W := Int.mul_nonneg hq.2.2.1 (by omega)
  have m1 : v * W + W ≤ H * W := by
    have := Int.mul_le_mul_of_nonneg_right (show v + 1 ≤ H by omega) (show 0 ≤ W by omega)
    rwa [Int.add_mul, Int.one_mul] at this
  have m2 : H * W ≤ 64 * 64 := Int.mul_le_mul h6 h3 (by omega) (by omega)
  have m3 : (P.length : Int) = H * W := by rw [h7, Int.mul_comm]
  refine ⟨by rw [w64 (x := v * W) (by omega), w64 (by omega)], by omega, by omega, ?_⟩
  unfold idx
  rw [if_pos (by omega), List.getD_eq_getElem?_getD, List.getElem?_eq_getElem (by omega)]; rfl
theorem D_mosaic_pixel_b_some (N : Nat) (W : Int) (P : List Int) (o : Int) {H x y u v : Int} (hC : pixC W H P x y) (hq : 0 ≤ u ∧ u < W ∧ 0 ≤ v ∧ v < H) (x1 x2 x3 x4 x5 x6 : Int) : ∃ r, D_mosaic_pixel_b N W P o u v x1 x2 x3 x4 x5 x6 = some r := by
  obtain ⟨r, hr⟩ := colour_some N o u v
  obtain ⟨h1, _, _, h2⟩ := pix_at hC hq
  unfold D_mosaic_pixel_b
  rw [hr, bsome, h1, h2]
  simp only [bsome]
  cases decide (r.1 = 0) <;> cases decide (r.1 = 1) <;> exact ⟨_, rfl⟩
end Go.Proofs.Ytpmnfhifmmfglaa
