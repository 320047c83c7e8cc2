/- It is proved that the law TurnCuts answers true for all its arguments, and leaves them as they were. Conditions: none. -/
import Derived.Test.YtpmnfhifmmfglaaOpens
import Derived.Test.YtpmnfhifmmfglaaPCut
import Derived.Test.YtpmnfhifmmfglaaWLawTurncuts
namespace Go.Proofs.Ytpmnfhifmmfglaa
open Go.ChangeShapes Go.WideShapes Go.ChangeAt Go.RowKit Go.Joins

set_option maxRecDepth 100000 in
theorem turnCuts_lifted (os : Os) (started : os.Started) (H : Type) (enc : TypeId × Value → H) :
    ReturnsInHanded {} Try.checked os 6 .any (Rows.turnCutsSpec.pre6 enc Try.prog Try.f6 Rows.turnCutsRow.domain false) (Rows.turnCutsSpec.post enc Try.prog Try.f6 false true false false) := by
  refine returnsInHanded_of_change (C := Try.checked) Try.own started (by kernel_rfl) Try.func6
    (ChangeSpec.witness6 (enc := enc) (C := Try.checked) false ⟨#[], #[.agg #[.int .i64 0, .int .i64 0, .slice none 0 0], .agg #[.int .i64 0, .int .i64 0, .int .i64 0, .int .i64 0]], []⟩ 8 (by kernel_rfl) (by kernel_rfl) (by kernel_rfl) (by kernel_rfl)) ?_
  intro W base args ds gs before hval0 hW _ _
  have hval : ∀ (j : Nat) t v, Try.f6.params[j]? = some t → args[j]? = some v → Value.okWide Try.prog W .any base t v := hval0
  have hW' := hW
  obtain ⟨p, q, hA0, hV, rfl, _, _⟩ := hW
  have hA : DataW.TrodAll enc Try.prog W 0 (fun _ => true) true Try.f6.params.toList args.toList ds p := hA0
  rw [Try.params6] at hA hval
  obtain ⟨rfl, rfl⟩ := trodVars_none hV
  clear hA0 hval0
  obtain ⟨v0, vs0, d0, ds0, p0, q0, hargs, rfl, rfl, h0, r0⟩ := trodAll_cons hA
  obtain ⟨v1, vs1, d1, ds1, p1, q1, rfl, rfl, rfl, h1, r1⟩ := trodAll_cons r0
  obtain ⟨rfl, rfl, rfl⟩ := trodAll_nil r1
  obtain rfl : args = #[v0, v1] := by rw [← Array.toList_inj]; exact hargs
  clear hargs
  obtain ⟨u0, rfl, n0, y0, t0⟩ := top_struct Try.underlying49 (hval 0 _ _ rfl rfl) h0
  obtain ⟨z_q_W, z_q_H, z_q_P, A_q_P, c_q_P, rfl, f_q_W, f_q_H, f_q_P⟩ := ot49 _ _ _ t0
  obtain ⟨u1, rfl, n1, y1, t1⟩ := top_struct Try.underlying51 (hval 1 _ _ rfl rfl) h1
  obtain ⟨z_r_X, z_r_Y, z_r_W, z_r_H, rfl, f_r_X, f_r_Y, f_r_W, f_r_H⟩ := ot51 _ _ _ t1
  refine (W_darkslidelaw_TurnCuts 5000 z_q_W z_q_H z_q_P A_q_P c_q_P z_r_X z_r_Y z_r_W z_r_H W f_q_P.1 f_q_P.2.1 true (turnCuts_true z_q_W z_q_H z_q_P z_r_X z_r_Y z_r_W z_r_H f_r_W f_r_H)).mono fun e W' ⟨v, he, hv, hM⟩ => ?_
  subst hv
  subst he
  have hw := hM.low
  exact ⟨_, rfl, law_end (tb := 4) Try.laid (by kernel_rfl) rfl Try.underlying4 rfl hW' rfl rfl rfl hw⟩

theorem turnCuts_holds : Rows.TurnCutsSaid :=
  OpenClaim.holds_of_wide 6 Try.f6 rfl rfl rfl rfl rfl rfl rfl ⟨rfl, rfl, rfl, rfl, rfl⟩ rfl rfl rfl rfl rfl (by kernel_rfl) Try.func6 (by kernel_rfl)
    (of_decide_eq_true (by kernel_rfl)) (by unfold Func.isWrapper; first | (rw [if_pos (by decide +kernel)]; kernel_rfl) | (rw [if_neg (by decide +kernel)]; exact ⟨rfl, rfl⟩))
    (fun os started H enc _ => turnCuts_lifted os started H enc)
#print axioms turnCuts_holds
end Go.Proofs.Ytpmnfhifmmfglaa
