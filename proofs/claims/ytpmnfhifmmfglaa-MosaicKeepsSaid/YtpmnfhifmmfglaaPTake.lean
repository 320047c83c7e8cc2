/- What Take tells of a picture's rightness. -/
import Derived.Test.YtpmnfhifmmfglaaPPic
set_option linter.unusedVariables false
set_option linter.unusedSimpArgs false
set_option linter.unusedSectionVars false
namespace Go.Proofs.Ytpmnfhifmmfglaa
open Go

theorem colour_some (N : Nat) (phase x y : Int) : ∃ r, D_sensor_Colour N phase x y = some r := by
  unfold D_sensor_Colour
  by_cases h1 : phase < 0
  · rw [cT (dT h1)]; exact ⟨_, rfl⟩
  rw [cF (dF h1)]
  by_cases h2 : 3 < phase
  · rw [cT (dT h2)]; exact ⟨_, rfl⟩
  rw [cF (dF h2)]
  by_cases h3 : x < 0
  · rw [cT (dT h3)]; exact ⟨_, rfl⟩
  rw [cF (dF h3)]
  by_cases h4 : y < 0
  · rw [cT (dT h4)]; exact ⟨_, rfl⟩
  rw [cF (dF h4)]
  exact ⟨_, rfl⟩
/-- Take goes through, whatever it takes. -/
theorem take_l1 (N : Nat) (W : Int) (P : List (Int × Int × Int)) (phase : Int) (kk : (List Int × Int) → Option (Int × Int × List Int × Int)) (hW : 1 ≤ W) (hP : P.length ≤ 4096) : ∀ (d k fuel : Nat) (l : List Int), k + d = P.length → d < fuel → l.length = k → ∃ l', D_mosaic_Take_l1 N W P phase kk fuel (l, (k : Int)) = kk (l', (P.length : Int)) := by
  intro d
  induction d with
  | zero =>
    intro k fuel l hk hf hl
    obtain ⟨fuel, rfl⟩ : ∃ m, fuel = m + 1 := ⟨fuel - 1, by omega⟩
    have hk' : k = P.length := by omega
    subst hk'
    refine ⟨l, ?_⟩
    unfold D_mosaic_Take_l1
    rw [cF (dF (by omega))]
  | succ d ih =>
    intro k fuel l hk hf hl
    obtain ⟨fuel, rfl⟩ : ∃ m, fuel = m + 1 := ⟨fuel - 1, by omega⟩
    have hlt : k < P.length := by omega
    unfold D_mosaic_Take_l1
    obtain ⟨r, hr⟩ := colour_some N phase (Int.tmod k W) (IntKind.i64.wrap (Int.tdiv k W))
    rw [cT (dT (by omega)), nz_eq (by omega), bsome, bsome, hr, bsome, idx_nat, List.getElem?_eq_getElem hlt, bsome]
    rw [app_eq (by simp; omega), app_eq (by simp; omega), app_eq (by simp; omega), bsome, bsome, bsome, w64 (by omega)]
    have key : ∀ x : Int, ∃ l', D_mosaic_Take_l1 N W P phase kk fuel (l ++ [x], (k : Int) + 1) = kk (l', (P.length : Int)) := fun x => ih (k + 1) fuel (l ++ [x]) (by omega) (by omega) (by simp [hl])
    cases decide (r.1 = 0)
    · cases decide (r.1 = 1)
      · exact key _
      · exact key _
    · exact key _
theorem take_code (N : Nat) (W H : Int) (P : List (Int × Int × Int)) (hN : 5000 ≤ N) : ∃ a b l, D_mosaic_Take N W H P 0 = some (a, b, l, if picF W H P then 0 else 1) := by
  unfold D_mosaic_Take
  rw [fine_eq N W H P hN, bsome]
  cases hp : picF W H P
  · exact ⟨_, _, _, rfl⟩
  · have hs := picF_side hp
    have hl := side_len hs
    rw [cF (by rfl), cF (by rfl), cF (by rfl)]
    obtain ⟨l', h⟩ := take_l1 N W P 0 (fun (out_P8, i2) => some (W, H, out_P8, 0)) hs.1 (by omega) P.length 0 N [] (by omega) (by omega) rfl
    exact ⟨W, H, l', h⟩

end Go.Proofs.Ytpmnfhifmmfglaa
