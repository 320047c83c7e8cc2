/- It is proved that the law ToneFlat answers true for all its arguments, and leaves them as they were. Conditions: none. -/
import Derived.Test.YtpmnfhifmmfglabOpens
import Derived.Test.YtpmnfhifmmfglabPSharpLaw
import Derived.Test.YtpmnfhifmmfglabWLawToneflat
set_option linter.unusedVariables false
set_option linter.unusedSimpArgs false
set_option linter.unusedSectionVars false
namespace Go.Proofs.Ytpmnfhifmmfglab
open Go.ChangeShapes Go.WideShapes Go.ChangeAt Go.RowKit Go.Joins

set_option maxRecDepth 100000 in
theorem toneFlat_lifted (os : Os) (started : os.Started) (H : Type) (enc : TypeId × Value → H) :
    ReturnsInHanded {} Try.checked os 4 .any (Rows.toneFlatSpec.pre6 enc Try.prog Try.f4 Rows.toneFlatRow.domain false) (Rows.toneFlatSpec.post enc Try.prog Try.f4 false true false false) := by
  refine returnsInHanded_of_change (C := Try.checked) Try.own started (by kernel_rfl) Try.func4
    (ChangeSpec.witness6 (enc := enc) (C := Try.checked) false ⟨#[], #[.agg #[.int .i64 0, .int .i64 0, .int .i64 0], .int .i64 0, .int .i64 0, .int .i64 0, .agg #[.int .i64 0, .int .i64 0, .slice none 0 0]], []⟩ 8 (by kernel_rfl) (by kernel_rfl) (by kernel_rfl) (by kernel_rfl)) ?_
  intro W base args ds gs before hval0 hW _ _
  have hval : ∀ (j : Nat) t v, Try.f4.params[j]? = some t → args[j]? = some v → Value.okWide Try.prog W .any base t v := hval0
  have hW' := hW
  obtain ⟨p, q, hA0, hV, rfl, _, _⟩ := hW
  have hA : DataW.TrodAll enc Try.prog W 0 (fun _ => true) true Try.f4.params.toList args.toList ds p := hA0
  rw [Try.params4] at hA hval
  obtain ⟨rfl, rfl⟩ := trodVars_none hV
  clear hA0 hval0
  obtain ⟨v0, vs0, d0, ds0, p0, q0, hargs, rfl, rfl, h0, r0⟩ := trodAll_cons hA
  obtain ⟨v1, vs1, d1, ds1, p1, q1, rfl, rfl, rfl, h1, r1⟩ := trodAll_cons r0
  obtain ⟨v2, vs2, d2, ds2, p2, q2, rfl, rfl, rfl, h2, r2⟩ := trodAll_cons r1
  obtain ⟨v3, vs3, d3, ds3, p3, q3, rfl, rfl, rfl, h3, r3⟩ := trodAll_cons r2
  obtain ⟨v4, vs4, d4, ds4, p4, q4, rfl, rfl, rfl, h4, r4⟩ := trodAll_cons r3
  obtain ⟨rfl, rfl, rfl⟩ := trodAll_nil r4
  obtain rfl : args = #[v0, v1, v2, v3, v4] := by rw [← Array.toList_inj]; exact hargs
  clear hargs
  obtain ⟨u0, rfl, n0, y0, t0⟩ := top_struct Try.underlying34 (hval 0 _ _ rfl rfl) h0
  obtain ⟨z_d_R, z_d_G, z_d_B, rfl, f_d_R, f_d_G, f_d_B⟩ := ot34 _ _ _ t0
  obtain ⟨u1, rfl, n1, y1, t1⟩ := top_int Try.underlying3 (hval 1 _ _ rfl rfl) h1
  obtain ⟨z_o, e1, f_o⟩ := ot3 _ _ _ t1
  obtain rfl := (List.cons.inj e1).1
  obtain ⟨u2, rfl, n2, y2, t2⟩ := top_int Try.underlying3 (hval 2 _ _ rfl rfl) h2
  obtain ⟨z_p2, e2, f_p2⟩ := ot3 _ _ _ t2
  obtain rfl := (List.cons.inj e2).1
  obtain ⟨u3, rfl, n3, y3, t3⟩ := top_int Try.underlying3 (hval 3 _ _ rfl rfl) h3
  obtain ⟨z_p3, e3, f_p3⟩ := ot3 _ _ _ t3
  obtain rfl := (List.cons.inj e3).1
  obtain ⟨u4, rfl, n4, y4, t4⟩ := top_struct Try.underlying24 (hval 4 _ _ rfl rfl) h4
  obtain ⟨z_p4_W, z_p4_H, z_p4_P, A_p4_P, c_p4_P, rfl, f_p4_W, f_p4_H, f_p4_P⟩ := ot24 _ _ _ t4
  refine (W_darkslidelaw_ToneFlat 5000 z_d_R z_d_G z_d_B z_o z_p2 z_p3 z_p4_W z_p4_H z_p4_P A_p4_P c_p4_P W f_p4_P.1 f_p4_P.2.1 true (toneFlat_true z_d_R z_d_G z_d_B z_o z_p2 z_p3 z_p4_W z_p4_H z_p4_P)).mono fun e W' ⟨v, he, hv, hM⟩ => ?_
  subst hv
  subst he
  have hw := hM.low
  exact ⟨_, rfl, law_end (tb := 4) Try.laid (by kernel_rfl) rfl Try.underlying4 rfl hW' rfl rfl rfl hw⟩

theorem toneFlat_holds : Rows.ToneFlatSaid :=
  OpenClaim.holds_of_wide 4 Try.f4 rfl rfl rfl rfl rfl rfl rfl ⟨rfl, rfl, rfl, rfl, rfl⟩ rfl rfl rfl rfl rfl (by kernel_rfl) Try.func4 (by kernel_rfl)
    (of_decide_eq_true (by kernel_rfl)) (by unfold Func.isWrapper; first | (rw [if_pos (by decide +kernel)]; kernel_rfl) | (rw [if_neg (by decide +kernel)]; exact ⟨rfl, rfl⟩))
    (fun os started H enc _ => toneFlat_lifted os started H enc)
#print axioms toneFlat_holds
end Go.Proofs.Ytpmnfhifmmfglab
