/- It is proved that the law LineFar answers true for all its arguments, and leaves them as they were. Conditions: none. -/
import Derived.Test.YtpmnfhifmmfglabLineFarK2
import Derived.Test.YtpmnfhifmmfglabLineFarK3
import Derived.Test.YtpmnfhifmmfglabLineFarK8
set_option linter.unusedVariables false
set_option linter.unusedSimpArgs false
set_option linter.unusedSectionVars false
namespace Go.Proofs.Ytpmnfhifmmfglab
open Go.ChangeShapes Go.WideShapes Go.ChangeAt Go.RowKit Go.Joins
set_option maxRecDepth 100000 in
theorem lineFar_lifted (os : Os) (started : os.Started) (H : Type) (enc : TypeId × Value → H) :
    ReturnsInHanded {} Try.checked os 9 .any (Rows.lineFarSpec.pre6 enc Try.prog Try.f9 Rows.lineFarRow.domain false) (Rows.lineFarSpec.post enc Try.prog Try.f9 false true false false) := by
  refine returnsInHanded_of_change (C := Try.checked) Try.own started (by kernel_rfl) Try.func9
    (ChangeSpec.witness6 (enc := enc) (C := Try.checked) false ⟨#[], #[.agg #[.int .i64 0, .int .i64 0, .int .i64 0, .int .i64 0, .int .i64 0, .int .i64 0, .slice none 0 0, .int .i64 0, .int .i64 0, .int .i64 0, .int .i64 0, .int .i64 0, .int .i64 0, .int .i64 0, .int .i64 0, .int .i64 0, .int .i64 0, .int .i64 0, .int .i64 0, .slice none 0 0, .int .i64 0], .agg #[.int .i64 0, .int .i64 0, .slice none 0 0], .int .i64 0, .int .i64 0], []⟩ 8 (by kernel_rfl) (by kernel_rfl) (by kernel_rfl) (by kernel_rfl)) ?_
  intro W base args ds gs before hval0 hW _ _
  have hval : ∀ (j : Nat) t v, Try.f9.params[j]? = some t → args[j]? = some v → Value.okWide Try.prog W .any base t v := hval0
  have hW' := hW
  obtain ⟨p, q, hA0, hV, rfl, _, _⟩ := hW
  have hA : DataW.TrodAll enc Try.prog W 0 (fun _ => true) true Try.f9.params.toList args.toList ds p := hA0
  rw [Try.params9] at hA hval
  obtain ⟨rfl, rfl⟩ := trodVars_none hV
  clear hA0 hval0
  obtain ⟨v0, vs0, d0, ds0, p0, q0, hargs, rfl, rfl, h0, r0⟩ := trodAll_cons hA
  obtain ⟨v1, vs1, d1, ds1, p1, q1, rfl, rfl, rfl, h1, r1⟩ := trodAll_cons r0
  obtain ⟨v2, vs2, d2, ds2, p2, q2, rfl, rfl, rfl, h2, r2⟩ := trodAll_cons r1
  obtain ⟨v3, vs3, d3, ds3, p3, q3, rfl, rfl, rfl, h3, r3⟩ := trodAll_cons r2
  obtain ⟨rfl, rfl, rfl⟩ := trodAll_nil r3
  obtain rfl : args = #[v0, v1, v2, v3] := by rw [← Array.toList_inj]; exact hargs
  clear hargs
  obtain ⟨u0, rfl, n0, y0, t0⟩ := top_struct Try.underlying42 (hval 0 _ _ rfl rfl) h0
  obtain ⟨z_d_Phase, z_d_Black0, z_d_Black1, z_d_Black2, z_d_Black3, z_d_White, z_d_Spots, A_d_Spots, c_d_Spots, z_d_Gains0, z_d_Gains1, z_d_Gains2, z_d_Matrix0, z_d_Matrix1, z_d_Matrix2, z_d_Matrix3, z_d_Matrix4, z_d_Matrix5, z_d_Matrix6, z_d_Matrix7, z_d_Matrix8, z_d_Curve, A_d_Curve, c_d_Curve, z_d_Amount, rfl, f_d_Phase, f_d_Black0, f_d_Black1, f_d_Black2, f_d_Black3, f_d_White, f_d_Spots, f_d_Gains0, f_d_Gains1, f_d_Gains2, f_d_Matrix0, f_d_Matrix1, f_d_Matrix2, f_d_Matrix3, f_d_Matrix4, f_d_Matrix5, f_d_Matrix6, f_d_Matrix7, f_d_Matrix8, f_d_Curve, f_d_Amount⟩ := ot42 _ _ _ t0
  obtain ⟨u1, rfl, n1, y1, t1⟩ := top_struct Try.underlying45 (hval 1 _ _ rfl rfl) h1
  obtain ⟨z_o_W, z_o_H, z_o_P, A_o_P, c_o_P, rfl, f_o_W, f_o_H, f_o_P⟩ := ot45 _ _ _ t1
  obtain ⟨u2, rfl, n2, y2, t2⟩ := top_int Try.underlying3 (hval 2 _ _ rfl rfl) h2
  obtain ⟨z_p2, e2, f_p2⟩ := ot3 _ _ _ t2
  obtain rfl := (List.cons.inj e2).1
  obtain ⟨u3, rfl, n3, y3, t3⟩ := top_int Try.underlying3 (hval 3 _ _ rfl rfl) h3
  obtain ⟨z_p3, e3, f_p3⟩ := ot3 _ _ _ t3
  obtain rfl := (List.cons.inj e3).1
  refine (W_darkslidelaw_LineFar 5000 z_d_Phase z_d_Black0 z_d_Black1 z_d_Black2 z_d_Black3 z_d_White z_d_Spots A_d_Spots c_d_Spots z_d_Gains0 z_d_Gains1 z_d_Gains2 z_d_Matrix0 z_d_Matrix1 z_d_Matrix2 z_d_Matrix3 z_d_Matrix4 z_d_Matrix5 z_d_Matrix6 z_d_Matrix7 z_d_Matrix8 z_d_Curve A_d_Curve c_d_Curve z_d_Amount z_o_W z_o_H z_o_P A_o_P c_o_P z_p2 z_p3 W f_d_Spots.1 f_d_Spots.2.1 f_d_Curve.1 f_d_Curve.2.1 f_o_P.1 f_o_P.2.1 true (lineFar_true z_d_Phase z_d_Black0 z_d_Black1 z_d_Black2 z_d_Black3 z_d_White z_d_Spots z_d_Gains0 z_d_Gains1 z_d_Gains2 z_d_Matrix0 z_d_Matrix1 z_d_Matrix2 z_d_Matrix3 z_d_Matrix4 z_d_Matrix5 z_d_Matrix6 z_d_Matrix7 z_d_Matrix8 z_d_Curve z_d_Amount z_o_W z_o_H z_o_P z_p2 z_p3 f_p2 f_p3)).mono fun e W' ⟨v, he, hv, hM⟩ => ?_
  subst hv
  subst he
  have hw := hM.low
  exact ⟨_, rfl, law_end (tb := 4) Try.laid (by kernel_rfl) rfl Try.underlying4 rfl hW' rfl rfl rfl hw⟩
theorem lineFar_holds : Rows.LineFarSaid :=
  OpenClaim.holds_of_wide 9 Try.f9 rfl rfl rfl rfl rfl rfl rfl ⟨rfl, rfl, rfl, rfl, rfl⟩ rfl rfl rfl rfl rfl (by kernel_rfl) Try.func9 (by kernel_rfl)
    (of_decide_eq_true (by kernel_rfl)) (by unfold Func.isWrapper; first | (rw [if_pos (by decide +kernel)]; kernel_rfl) | (rw [if_neg (by decide +kernel)]; exact ⟨rfl, rfl⟩))
    (fun os started H enc _ => lineFar_lifted os started H enc)
#print axioms lineFar_holds
end Go.Proofs.Ytpmnfhifmmfglab
