/- It is proved that the law LineStrips answers true for all its arguments, and leaves them as they were. Conditions: none. -/
import Derived.Test.YtpmnfhifmmfglabLineStripsK2
import Derived.Test.YtpmnfhifmmfglabLineStripsK4
import Derived.Test.YtpmnfhifmmfglabLineStripsK10
set_option linter.unusedVariables false
set_option linter.unusedSimpArgs false
set_option linter.unusedSectionVars false
namespace Go.Proofs.Ytpmnfhifmmfglab
open Go.ChangeShapes Go.WideShapes Go.ChangeAt Go.RowKit Go.Joins
set_option maxRecDepth 100000 in
theorem lineStrips_lifted (os : Os) (started : os.Started) (H : Type) (enc : TypeId × Value → H) :
    ReturnsInHanded {} Try.checked os 7 .any (Rows.lineStripsSpec.pre6 enc Try.prog Try.f7 Rows.lineStripsRow.domain false) (Rows.lineStripsSpec.post enc Try.prog Try.f7 false true false false) := by
  refine returnsInHanded_of_change (C := Try.checked) Try.own started (by kernel_rfl) Try.func7
    (ChangeSpec.witness6 (enc := enc) (C := Try.checked) false ⟨#[], #[.agg #[.int .i64 0, .int .i64 0, .int .i64 0, .int .i64 0, .int .i64 0, .int .i64 0, .slice none 0 0, .int .i64 0, .int .i64 0, .int .i64 0, .int .i64 0, .int .i64 0, .int .i64 0, .int .i64 0, .int .i64 0, .int .i64 0, .int .i64 0, .int .i64 0, .int .i64 0, .slice none 0 0, .int .i64 0], .agg #[.int .i64 0, .int .i64 0, .slice none 0 0], .int .i64 0], []⟩ 8 (by kernel_rfl) (by kernel_rfl) (by kernel_rfl) (by kernel_rfl)) ?_
  intro W base args ds gs before hval0 hW _ _
  have hval : ∀ (j : Nat) t v, Try.f7.params[j]? = some t → args[j]? = some v → Value.okWide Try.prog W .any base t v := hval0
  have hW' := hW
  obtain ⟨p, q, hA0, hV, rfl, _, _⟩ := hW
  have hA : DataW.TrodAll enc Try.prog W 0 (fun _ => true) true Try.f7.params.toList args.toList ds p := hA0
  rw [Try.params7] at hA hval
  obtain ⟨rfl, rfl⟩ := trodVars_none hV
  clear hA0 hval0
  obtain ⟨v0, vs0, d0, ds0, p0, q0, hargs, rfl, rfl, h0, r0⟩ := trodAll_cons hA
  obtain ⟨v1, vs1, d1, ds1, p1, q1, rfl, rfl, rfl, h1, r1⟩ := trodAll_cons r0
  obtain ⟨v2, vs2, d2, ds2, p2, q2, rfl, rfl, rfl, h2, r2⟩ := trodAll_cons r1
  obtain ⟨rfl, rfl, rfl⟩ := trodAll_nil r2
  obtain rfl : args = #[v0, v1, v2] := by rw [← Array.toList_inj]; exact hargs
  clear hargs
  obtain ⟨u0, rfl, n0, y0, t0⟩ := top_struct Try.underlying42 (hval 0 _ _ rfl rfl) h0
  obtain ⟨z_n_Phase, z_n_Black0, z_n_Black1, z_n_Black2, z_n_Black3, z_n_White, z_n_Spots, A_n_Spots, c_n_Spots, z_n_Gains0, z_n_Gains1, z_n_Gains2, z_n_Matrix0, z_n_Matrix1, z_n_Matrix2, z_n_Matrix3, z_n_Matrix4, z_n_Matrix5, z_n_Matrix6, z_n_Matrix7, z_n_Matrix8, z_n_Curve, A_n_Curve, c_n_Curve, z_n_Amount, rfl, f_n_Phase, f_n_Black0, f_n_Black1, f_n_Black2, f_n_Black3, f_n_White, f_n_Spots, f_n_Gains0, f_n_Gains1, f_n_Gains2, f_n_Matrix0, f_n_Matrix1, f_n_Matrix2, f_n_Matrix3, f_n_Matrix4, f_n_Matrix5, f_n_Matrix6, f_n_Matrix7, f_n_Matrix8, f_n_Curve, f_n_Amount⟩ := ot42 _ _ _ t0
  obtain ⟨u1, rfl, n1, y1, t1⟩ := top_struct Try.underlying45 (hval 1 _ _ rfl rfl) h1
  obtain ⟨z_p_W, z_p_H, z_p_P, A_p_P, c_p_P, rfl, f_p_W, f_p_H, f_p_P⟩ := ot45 _ _ _ t1
  obtain ⟨u2, rfl, n2, y2, t2⟩ := top_int Try.underlying3 (hval 2 _ _ rfl rfl) h2
  obtain ⟨z_rows, e2, f_rows⟩ := ot3 _ _ _ t2
  obtain rfl := (List.cons.inj e2).1
  refine (W_darkslidelaw_LineStrips 5000 z_n_Phase z_n_Black0 z_n_Black1 z_n_Black2 z_n_Black3 z_n_White z_n_Spots A_n_Spots c_n_Spots z_n_Gains0 z_n_Gains1 z_n_Gains2 z_n_Matrix0 z_n_Matrix1 z_n_Matrix2 z_n_Matrix3 z_n_Matrix4 z_n_Matrix5 z_n_Matrix6 z_n_Matrix7 z_n_Matrix8 z_n_Curve A_n_Curve c_n_Curve z_n_Amount z_p_W z_p_H z_p_P A_p_P c_p_P z_rows W f_n_Spots.1 f_n_Spots.2.1 f_n_Curve.1 f_n_Curve.2.1 f_p_P.1 f_p_P.2.1 true (lineStrips_true z_n_Phase z_n_Black0 z_n_Black1 z_n_Black2 z_n_Black3 z_n_White z_n_Spots z_n_Gains0 z_n_Gains1 z_n_Gains2 z_n_Matrix0 z_n_Matrix1 z_n_Matrix2 z_n_Matrix3 z_n_Matrix4 z_n_Matrix5 z_n_Matrix6 z_n_Matrix7 z_n_Matrix8 z_n_Curve z_n_Amount z_p_W z_p_H z_p_P z_rows (Nat.le_trans f_p_P.2.1 (Nat.le_trans f_p_P.2.2.1 (by decide))))).mono fun e W' ⟨v, he, hv, hM⟩ => ?_
  subst hv
  subst he
  have hw := hM.low
  exact ⟨_, rfl, law_end (tb := 4) Try.laid (by kernel_rfl) rfl Try.underlying4 rfl hW' rfl rfl rfl hw⟩
theorem lineStrips_holds : Rows.LineStripsSaid :=
  OpenClaim.holds_of_wide 7 Try.f7 rfl rfl rfl rfl rfl rfl rfl ⟨rfl, rfl, rfl, rfl, rfl⟩ rfl rfl rfl rfl rfl (by kernel_rfl) Try.func7 (by kernel_rfl)
    (of_decide_eq_true (by kernel_rfl)) (by unfold Func.isWrapper; first | (rw [if_pos (by decide +kernel)]; kernel_rfl) | (rw [if_neg (by decide +kernel)]; exact ⟨rfl, rfl⟩))
    (fun os started H enc _ => lineStrips_lifted os started H enc)
#print axioms lineStrips_holds
end Go.Proofs.Ytpmnfhifmmfglab
