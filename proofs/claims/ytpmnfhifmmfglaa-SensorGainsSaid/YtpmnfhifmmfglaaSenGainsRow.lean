/- It is proved that the law SensorGains answers true for every plane, phase, every three gains and every place, and leaves its arguments as they were. Conditions: none. -/
import Derived.Test.YtpmnfhifmmfglaaRow
import Derived.Test.YtpmnfhifmmfglaaSenGains
namespace Go.Proofs.Ytpmnfhifmmfglaa
open Go.ChangeShapes Go.WideShapes Go.ChangeAt Go.RowKit Go.Joins

theorem senGains_any (W H phase g0 g1 g2 x y : Int) (A : Option Addr) (n c : Nat) (xs : List Int) (w : World) (h : RI w 0 A n xs) (hn : n ≤ maxLen) (hx : wf64 x) (hy : wf64 y) :
    Calls Try.prog 5 #[.agg #[.int .i64 W, .int .i64 H, .slice A n c], .int .i64 phase, .agg #[.int .i64 g0, .int .i64 g1, .int .i64 g2], .int .i64 x, .int .i64 y] w fun e w' => e = .returned (.bool true) ∧ Below w.heap.size w w' := by
  cases hf : planeFine W H xs
  · exact senGains_err _ _ _ _ _ _ _ _ _ _ _ _ 1 (by decide) hx.2 hy.2 (fun wx hb => gain_form _ _ _ _ _ _ _ _ _ _ _ (h.below hb (Nat.le_refl _)) hn hf) (fun wx hb => gainError_form _ _ _ _ _ _ _ _ _ _ _ (h.below hb (Nat.le_refl _)) hn hf)
  · by_cases ho : gainOK phase g0 g1 g2
    · obtain ⟨⟨h1, _, h3, _⟩, _⟩ := planeFine_iff.1 hf
      obtain ⟨m, rfl⟩ := Int.eq_ofNat_of_zero_le (show 0 ≤ W by omega)
      obtain ⟨l, rfl⟩ := Int.eq_ofNat_of_zero_le (show 0 ≤ H by omega)
      exact senGains_ok _ _ _ _ _ _ _ _ _ _ _ _ _ h hn hf ho hx.2 hy.2
    · refine senGains_err _ _ _ _ _ _ _ _ _ _ _ _ 3 (by decide) hx.2 hy.2 (fun wx hb => gain_range _ _ _ _ _ _ _ _ _ _ _ (h.below hb (Nat.le_refl _)) hn hf ho) (fun wx hb => ?_)
      have := gainError_rest W H phase g0 g1 g2 _ _ c _ wx (h.below hb (Nat.le_refl _)) hn hf
      rwa [if_neg ho] at this

theorem threeOf {xs : List Int} (h : xs.length = 3) : ∃ a b c, xs = [a, b, c] := by
  match xs, h with
  | [a, b, c], _ => exact ⟨a, b, c, rfl⟩

set_option maxRecDepth 100000 in
theorem sensorGains_lifted (os : Os) (started : os.Started) (H : Type) (enc : TypeId × Value → H) :
    ReturnsInHanded {} Try.checked os 5 .any (Rows.sensorGainsSpec.pre6 enc Try.prog Try.f5 Rows.sensorGainsRow.domain false) (Rows.sensorGainsSpec.post enc Try.prog Try.f5 false true false false) := by
  refine returnsInHanded_of_change (C := Try.checked) Try.own started (by kernel_rfl) Try.func5
    (ChangeSpec.witness6 (enc := enc) (C := Try.checked) false ⟨#[], #[.agg #[.int .i64 0, .int .i64 0, .slice none 0 0], .int .i64 0, .agg #[.int .i64 0, .int .i64 0, .int .i64 0], .int .i64 0, .int .i64 0], []⟩ 8 (by kernel_rfl) (by kernel_rfl) (by kernel_rfl) (by kernel_rfl)) ?_
  intro W base args ds gs before hval0 hW _ _
  have hval : ∀ (j : Nat) t v, Try.f5.params[j]? = some t → args[j]? = some v → Value.okWide Try.prog W .any base t v := hval0
  have hW' := hW
  obtain ⟨p, q, hA0, hV, rfl, _, _⟩ := hW
  have hA : DataW.TrodAll enc Try.prog W 0 (fun _ => true) true Try.f5.params.toList args.toList ds p := hA0
  rw [Try.params5] at hA hval
  obtain ⟨rfl, rfl⟩ := trodVars_none hV
  clear hA0 hval0
  obtain ⟨v0, vs0, d0, ds0, p0, q0, hargs, rfl, rfl, h0, r0⟩ := trodAll_cons hA
  obtain ⟨v1, vs1, d1, ds1, p1, q1, rfl, rfl, rfl, h1, r1⟩ := trodAll_cons r0
  obtain ⟨v2, vs2, d2, ds2, p2, q2, rfl, rfl, rfl, h2, r2⟩ := trodAll_cons r1
  obtain ⟨v3, vs3, d3, ds3, p3, q3, rfl, rfl, rfl, h3, r3⟩ := trodAll_cons r2
  obtain ⟨v4, vs4, d4, ds4, p4, q4, rfl, rfl, rfl, h4, r4⟩ := trodAll_cons r3
  obtain ⟨rfl, rfl, rfl⟩ := trodAll_nil r4
  obtain rfl : args = #[v0, v1, v2, v3, v4] := by rw [← Array.toList_inj]; exact hargs
  clear hargs
  obtain ⟨a, b, A, n, c, xs, rfl, hr, hn, _, _⟩ := open_plane (hval 0 _ _ rfl rfl) h0
  obtain ⟨phase, rfl, _, _, _⟩ := open_int Try.underlying3 (hval 1 _ _ rfl rfl) h1
  obtain ⟨bs, hbs, rfl, _⟩ := open_int_array Try.underlying39 Try.underlying3 (by kernel_rfl) (by kernel_rfl) (hval 2 _ _ rfl rfl) h2
  obtain ⟨g0, g1, g2, rfl⟩ := threeOf hbs
  obtain ⟨x, rfl, _, _, wx⟩ := open_int Try.underlying3 (hval 3 _ _ rfl rfl) h3
  obtain ⟨y, rfl, _, _, wy⟩ := open_int Try.underlying3 (hval 4 _ _ rfl rfl) h4
  refine (senGains_any a b phase g0 g1 g2 x y A n c xs W hr hn (wf64_of wx) (wf64_of wy)).mono fun e W' ⟨he, hw⟩ => ?_
  subst he
  exact ⟨_, rfl, law_end (tb := 4) Try.laid (by kernel_rfl) rfl Try.underlying4 rfl hW' rfl rfl rfl hw⟩

theorem sensorGains_holds : Rows.SensorGainsSaid :=
  OpenClaim.holds_of_wide 5 Try.f5 rfl rfl rfl rfl rfl rfl rfl ⟨rfl, rfl, rfl, rfl, rfl⟩ rfl rfl rfl rfl rfl (by kernel_rfl) Try.func5 (by kernel_rfl)
    (of_decide_eq_true (by kernel_rfl)) (by unfold Func.isWrapper; first | (rw [if_pos (by decide +kernel)]; kernel_rfl) | (rw [if_neg (by decide +kernel)]; exact ⟨rfl, rfl⟩))
    (fun os started H enc _ => sensorGains_lifted os started H enc)
#print axioms sensorGains_holds
end Go.Proofs.Ytpmnfhifmmfglaa
