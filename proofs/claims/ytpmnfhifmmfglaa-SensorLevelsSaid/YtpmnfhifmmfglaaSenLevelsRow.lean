/- It is proved that the law SensorLevels answers true for every plane, every four blacks and every white, and leaves its arguments as they were. Conditions: none. -/
import Derived.Test.YtpmnfhifmmfglaaRow
import Derived.Test.YtpmnfhifmmfglaaSenLevels
namespace Go.Proofs.Ytpmnfhifmmfglaa
open Go.ChangeShapes Go.WideShapes Go.ChangeAt Go.RowKit Go.Joins

theorem planeFine_nat {W H : Int} {xs : List Int} (h : planeFine W H xs = true) : ∃ m l : Nat, W = m ∧ H = l := by
  obtain ⟨⟨h1, _, h3, _⟩, _⟩ := planeFine_iff.1 h
  exact ⟨W.toNat, H.toNat, by omega, by omega⟩

theorem senLevels_any (W H b0 b1 b2 b3 white : Int) (A : Option Addr) (n c : Nat) (xs : List Int) (w : World) (h : RI w 0 A n xs) (hn : n ≤ maxLen) :
    Calls Try.prog 3 #[.agg #[.int .i64 W, .int .i64 H, .slice A n c], .agg #[.int .i64 b0, .int .i64 b1, .int .i64 b2, .int .i64 b3], .int .i64 white] w fun e w' => e = .returned (.bool true) ∧ Below w.heap.size w w' := by
  cases hf : planeFine W H xs
  · exact senLevels_err _ _ _ _ _ _ _ _ _ _ _ 1 (by decide) (fun wx hb => level_form _ _ _ _ _ _ _ _ _ _ _ _ (h.below hb (Nat.le_refl _)) hn hf) (fun wx hb => levelError_form _ _ _ _ _ _ _ _ _ _ _ _ (h.below hb (Nat.le_refl _)) hn hf)
  · by_cases ho : levOK b0 b1 b2 b3 white
    · obtain ⟨m, l, rfl, rfl⟩ := planeFine_nat hf
      exact senLevels_ok _ _ _ _ _ _ _ _ _ _ _ _ h hn hf ho
    · exact senLevels_err _ _ _ _ _ _ _ _ _ _ _ 3 (by decide) (fun wx hb => level_range _ _ _ _ _ _ _ _ _ _ _ _ (h.below hb (Nat.le_refl _)) hn hf ho) (fun wx hb => levelError_range _ _ _ _ _ _ _ _ _ _ _ _ (h.below hb (Nat.le_refl _)) hn hf ho)

theorem fourOf {xs : List Int} (h : xs.length = 4) : ∃ a b c d, xs = [a, b, c, d] := by
  match xs, h with
  | [a, b, c, d], _ => exact ⟨a, b, c, d, rfl⟩

set_option maxRecDepth 100000 in
theorem sensorLevels_lifted (os : Os) (started : os.Started) (H : Type) (enc : TypeId × Value → H) :
    ReturnsInHanded {} Try.checked os 3 .any (Rows.sensorLevelsSpec.pre6 enc Try.prog Try.f3 Rows.sensorLevelsRow.domain false) (Rows.sensorLevelsSpec.post enc Try.prog Try.f3 false true false false) := by
  refine returnsInHanded_of_change (C := Try.checked) Try.own started (by kernel_rfl) Try.func3
    (ChangeSpec.witness6 (enc := enc) (C := Try.checked) false ⟨#[], #[.agg #[.int .i64 0, .int .i64 0, .slice none 0 0], .agg #[.int .i64 0, .int .i64 0, .int .i64 0, .int .i64 0], .int .i64 0], []⟩ 8 (by kernel_rfl) (by kernel_rfl) (by kernel_rfl) (by kernel_rfl)) ?_
  intro W base args ds gs before hval0 hW _ _
  have hval : ∀ (j : Nat) t v, Try.f3.params[j]? = some t → args[j]? = some v → Value.okWide Try.prog W .any base t v := hval0
  have hW' := hW
  obtain ⟨p, q, hA0, hV, rfl, _, _⟩ := hW
  have hA : DataW.TrodAll enc Try.prog W 0 (fun _ => true) true Try.f3.params.toList args.toList ds p := hA0
  rw [Try.params3] at hA hval
  obtain ⟨v0, v1, v2, d0, d1, d2, p0, p1, p2, rfl, rfl, rfl, h0, h1, h2⟩ := trodAll_three hA
  obtain ⟨rfl, rfl⟩ := trodVars_none hV
  obtain ⟨a, b, A, n, c, xs, rfl, hr, hn, _, _⟩ := open_plane (hval 0 _ _ rfl rfl) h0
  obtain ⟨bs, hbs, rfl, _⟩ := open_int_array Try.underlying25 Try.underlying3 (by kernel_rfl) (by kernel_rfl) (hval 1 _ _ rfl rfl) h1
  obtain ⟨b0, b1, b2, b3, rfl⟩ := fourOf hbs
  obtain ⟨white, rfl, _, _, _⟩ := open_int Try.underlying3 (hval 2 _ _ rfl rfl) h2
  clear hA0 hval0
  refine (senLevels_any a b b0 b1 b2 b3 white A n c xs W hr hn).mono fun e W' ⟨he, hw⟩ => ?_
  subst he
  exact ⟨_, rfl, law_end (tb := 4) Try.laid (by kernel_rfl) rfl Try.underlying4 rfl hW' rfl rfl rfl hw⟩

theorem sensorLevels_holds : Rows.SensorLevelsSaid :=
  OpenClaim.holds_of_wide 3 Try.f3 rfl rfl rfl rfl rfl rfl rfl ⟨rfl, rfl, rfl, rfl, rfl⟩ rfl rfl rfl rfl rfl (by kernel_rfl) Try.func3 (by kernel_rfl)
    (of_decide_eq_true (by kernel_rfl)) (by unfold Func.isWrapper; first | (rw [if_pos (by decide +kernel)]; kernel_rfl) | (rw [if_neg (by decide +kernel)]; exact ⟨rfl, rfl⟩))
    (fun os started H enc _ => sensorLevels_lifted os started H enc)
#print axioms sensorLevels_holds
end Go.Proofs.Ytpmnfhifmmfglaa
