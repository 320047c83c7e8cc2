/- It is proved that the law MosaicKeeps answers true for all its arguments, and leaves them as they were. Conditions: none. -/
import Derived.Test.YtpmnfhifmmfglaaOpens
import Derived.Test.YtpmnfhifmmfglaaPMosLaw
import Derived.Test.YtpmnfhifmmfglaaWLawMosaickeeps
set_option linter.unusedVariables false
set_option linter.unusedSimpArgs false
set_option linter.unusedSectionVars false
namespace Go.Proofs.Ytpmnfhifmmfglaa
open Go.ChangeShapes Go.WideShapes Go.ChangeAt Go.RowKit Go.Joins

set_option maxRecDepth 100000 in
theorem mosaicKeeps_lifted (os : Os) (started : os.Started) (H : Type) (enc : TypeId × Value → H) :
    ReturnsInHanded {} Try.checked os 10 .any (Rows.mosaicKeepsSpec.pre6 enc Try.prog Try.f10 Rows.mosaicKeepsRow.domain false) (Rows.mosaicKeepsSpec.post enc Try.prog Try.f10 false true false false) := by
  refine returnsInHanded_of_change (C := Try.checked) Try.own started (by kernel_rfl) Try.func10
    (ChangeSpec.witness6 (enc := enc) (C := Try.checked) false ⟨#[], #[.agg #[.int .i64 0, .int .i64 0, .slice none 0 0], .int .i64 0, .int .i64 0], []⟩ 8 (by kernel_rfl) (by kernel_rfl) (by kernel_rfl) (by kernel_rfl)) ?_
  intro W base args ds gs before hval0 hW _ _
  have hval : ∀ (j : Nat) t v, Try.f10.params[j]? = some t → args[j]? = some v → Value.okWide Try.prog W .any base t v := hval0
  have hW' := hW
  obtain ⟨p, q, hA0, hV, rfl, _, _⟩ := hW
  have hA : DataW.TrodAll enc Try.prog W 0 (fun _ => true) true Try.f10.params.toList args.toList ds p := hA0
  rw [Try.params10] at hA hval
  obtain ⟨rfl, rfl⟩ := trodVars_none hV
  clear hA0 hval0
  obtain ⟨v0, vs0, d0, ds0, p0, q0, hargs, rfl, rfl, h0, r0⟩ := trodAll_cons hA
  obtain ⟨v1, vs1, d1, ds1, p1, q1, rfl, rfl, rfl, h1, r1⟩ := trodAll_cons r0
  obtain ⟨v2, vs2, d2, ds2, p2, q2, rfl, rfl, rfl, h2, r2⟩ := trodAll_cons r1
  obtain ⟨rfl, rfl, rfl⟩ := trodAll_nil r2
  obtain rfl : args = #[v0, v1, v2] := by rw [← Array.toList_inj]; exact hargs
  clear hargs
  obtain ⟨u0, rfl, n0, y0, t0⟩ := top_struct Try.underlying24 (hval 0 _ _ rfl rfl) h0
  obtain ⟨z_d_W, z_d_H, z_d_P, A_d_P, c_d_P, rfl, f_d_W, f_d_H, f_d_P⟩ := ot24 _ _ _ t0
  obtain ⟨u1, rfl, n1, y1, t1⟩ := top_int Try.underlying3 (hval 1 _ _ rfl rfl) h1
  obtain ⟨z_o, e1, f_o⟩ := ot3 _ _ _ t1
  obtain rfl := (List.cons.inj e1).1
  obtain ⟨u2, rfl, n2, y2, t2⟩ := top_int Try.underlying3 (hval 2 _ _ rfl rfl) h2
  obtain ⟨z_p2, e2, f_p2⟩ := ot3 _ _ _ t2
  obtain rfl := (List.cons.inj e2).1
  refine (W_darkslidelaw_MosaicKeeps 5000 z_d_W z_d_H z_d_P A_d_P c_d_P z_o z_p2 W f_d_P.1 f_d_P.2.1 true (mosaicKeeps_true z_d_W z_d_H z_d_P z_o z_p2 (Nat.le_trans f_d_P.2.1 (Nat.le_trans f_d_P.2.2.1 (by decide))) f_p2)).mono fun e W' ⟨v, he, hv, hM⟩ => ?_
  subst hv
  subst he
  have hw := hM.low
  exact ⟨_, rfl, law_end (tb := 4) Try.laid (by kernel_rfl) rfl Try.underlying4 rfl hW' rfl rfl rfl hw⟩

theorem mosaicKeeps_holds : Rows.MosaicKeepsSaid :=
  OpenClaim.holds_of_wide 10 Try.f10 rfl rfl rfl rfl rfl rfl rfl ⟨rfl, rfl, rfl, rfl, rfl⟩ rfl rfl rfl rfl rfl (by kernel_rfl) Try.func10 (by kernel_rfl)
    (of_decide_eq_true (by kernel_rfl)) (by unfold Func.isWrapper; first | (rw [if_pos (by decide +kernel)]; kernel_rfl) | (rw [if_neg (by decide +kernel)]; exact ⟨rfl, rfl⟩))
    (fun os started H enc _ => mosaicKeeps_lifted os started H enc)
#print axioms mosaicKeeps_holds
end Go.Proofs.Ytpmnfhifmmfglaa
