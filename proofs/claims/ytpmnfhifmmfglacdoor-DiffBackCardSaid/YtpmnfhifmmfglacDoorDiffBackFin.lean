/- It is proved that the law DiffBack answers true for all its arguments, and leaves them as they were; the package variables that its row lists are tied to the text of the program. Conditions: none. -/
import Derived.Test.YtpmnfhifmmfglacDoorDiffBackK1
import Derived.Test.YtpmnfhifmmfglacDoorDiffBackK3
import Derived.Test.YtpmnfhifmmfglacDoorDiffBackK5
set_option linter.unusedVariables false
set_option linter.unusedSimpArgs false
set_option linter.unusedSectionVars false
namespace Go.Proofs.YtpmnfhifmmfglacDoor
open Go.ChangeShapes Go.WideShapes Go.ChangeAt Go.RowKit Go.Joins
/-- A world for the witness: its tables hold what their initialisers lay. -/
noncomputable def diffBack_world (os : Os) : World := { World.holding Tryd.prog os ⟨#[], #[], []⟩ with heap := (((World.holding Tryd.prog os ⟨#[], #[], []⟩).heap).modify 2 fun | .cells _ t frozen => .cells (cellsOf Rows.laid_unicode_utf8_acceptRanges).toArray t frozen | o => o).modify 1 fun | .cells _ t frozen => .cells (cellsOf Rows.laid_unicode_utf8_first).toArray t frozen | o => o }
theorem diffBack_met (os : Os) : laidMet Tryd.prog Rows.diffBackRow.laid ((diffBack_world os).forCall (fun _ _ => 0) ⟨#[], #[.agg #[.int .i64 0, .int .i64 0, .slice none 0 0], .int .i64 0, .slice none 0 0, .string (bs ([] : List UInt8)), .int .i64 0, .int .i64 0], []⟩).memory := laidMet_of_run' 8 (by kernel_rfl) (by kernel_rfl)
theorem diffBack_reads (os : Os) {H : Type} (enc : TypeId × Value → H) : ∃ places, DataW.whole enc Tryd.prog ((diffBack_world os).forCall (fun _ _ => 0) ⟨#[], #[.agg #[.int .i64 0, .int .i64 0, .slice none 0 0], .int .i64 0, .slice none 0 0, .string (bs ([] : List UInt8)), .int .i64 0, .int .i64 0], []⟩).memory Tryd.f8.params.toList Rows.diffBackSpec.vars false (#[.agg #[.int .i64 0, .int .i64 0, .slice none 0 0], .int .i64 0, .slice none 0 0, .string (bs ([] : List UInt8)), .int .i64 0, .int .i64 0] : Array Value).toList 8 = some ([.agg [.lit (.int .i64 0), .lit (.int .i64 0), .nil], .lit (.int .i64 0), .nil, .lit (.string []), .lit (.int .i64 0), .lit (.int .i64 0)], [], places) := ⟨[], by kernel_rfl⟩
set_option maxRecDepth 100000 in
theorem diffBack_lifted (os : Os) (started : os.Started) (H : Type) (enc : TypeId × Value → H) (F : Stop.Interp) :
    ReturnsInHanded {} Tryd.checked os 8 .any ((OpenSpec.ofChange Rows.diffBackSpec).preRow enc Tryd.prog Tryd.f8 Rows.diffBackRow.domain false Rows.diffBackRow.laid) (((OpenSpec.ofChange Rows.diffBackSpec).at F).post enc Tryd.prog Tryd.f8 false true false false) := by
  obtain ⟨places, hx⟩ := diffBack_reads os enc
  refine returnsInHanded_of_row (C := Tryd.checked) (s := (OpenSpec.ofChange Rows.diffBackSpec)) Tryd.own started (by kernel_rfl) Tryd.func8
    (witness_row_at (enc := enc) (C := Tryd.checked) false (diffBack_world os) #[.agg #[.int .i64 0, .int .i64 0, .slice none 0 0], .int .i64 0, .slice none 0 0, .string (bs ([] : List UInt8)), .int .i64 0, .int .i64 0] rfl (by kernel_rfl) (by kernel_rfl) (by kernel_rfl)
      (OpenSpec.preRow_of_cond 8 hx (by kernel_rfl) (fun k hk => by cases hk) (by kernel_rfl) (diffBack_met os))) ?_
  intro W base args ds gs before hval0 hW _ hcond _ hL _ _
  have hval : ∀ (j : Nat) t v, Tryd.f8.params[j]? = some t → args[j]? = some v → Value.okWide Tryd.prog W .any base t v := hval0
  have hW' := hW
  obtain ⟨p, q, hA0, hV, rfl, _, _⟩ := hW
  have hA : DataW.TrodAll enc Tryd.prog W 0 (fun _ => true) true Tryd.f8.params.toList args.toList ds p := hA0
  rw [Tryd.params8] at hA hval
  obtain ⟨rfl, rfl⟩ := trodVars_none hV
  clear hA0 hval0
  obtain ⟨v0, vs0, d0, ds0, p0, q0, hargs, rfl, rfl, h0, r0⟩ := trodAll_cons hA
  obtain ⟨v1, vs1, d1, ds1, p1, q1, rfl, rfl, rfl, h1, r1⟩ := trodAll_cons r0
  obtain ⟨v2, vs2, d2, ds2, p2, q2, rfl, rfl, rfl, h2, r2⟩ := trodAll_cons r1
  obtain ⟨v3, vs3, d3, ds3, p3, q3, rfl, rfl, rfl, h3, r3⟩ := trodAll_cons r2
  obtain ⟨v4, vs4, d4, ds4, p4, q4, rfl, rfl, rfl, h4, r4⟩ := trodAll_cons r3
  obtain ⟨v5, vs5, d5, ds5, p5, q5, rfl, rfl, rfl, h5, r5⟩ := trodAll_cons r4
  obtain ⟨rfl, rfl, rfl⟩ := trodAll_nil r5
  obtain rfl : args = #[v0, v1, v2, v3, v4, v5] := by rw [← Array.toList_inj]; exact hargs
  clear hargs
  obtain ⟨u0, rfl, n0, y0, t0⟩ := top_struct Tryd.underlying38 (hval 0 _ _ rfl rfl) h0
  obtain ⟨z_d_W, z_d_H, z_d_P, A_d_P, c_d_P, rfl, f_d_W, f_d_H, f_d_P⟩ := ot38 _ _ _ t0
  obtain ⟨u1, rfl, n1, y1, t1⟩ := top_int Tryd.underlying3 (hval 1 _ _ rfl rfl) h1
  obtain ⟨z_o, e1, f_o⟩ := ot3 _ _ _ t1
  obtain rfl := (List.cons.inj e1).1
  obtain ⟨u2, rfl, n2, y2, t2⟩ := top_slice Tryd.underlying22 (hval 2 _ _ rfl rfl) h2
  obtain ⟨z_p2, A_p2, c_p2, e2, f_p2⟩ := ot22 _ _ _ t2
  obtain rfl := (List.cons.inj e2).1
  obtain ⟨u3, rfl, n3, y3, t3⟩ := top_string Tryd.underlying9 (hval 3 _ _ rfl rfl) h3
  obtain ⟨z_p3, e3, f_p3⟩ := ot9 _ _ _ t3
  obtain rfl := (List.cons.inj e3).1
  obtain ⟨u4, rfl, n4, y4, t4⟩ := top_int Tryd.underlying3 (hval 4 _ _ rfl rfl) h4
  obtain ⟨z_p4, e4, f_p4⟩ := ot3 _ _ _ t4
  obtain rfl := (List.cons.inj e4).1
  obtain ⟨u5, rfl, n5, y5, t5⟩ := top_int Tryd.underlying3 (hval 5 _ _ rfl rfl) h5
  obtain ⟨z_p5, e5, f_p5⟩ := ot3 _ _ _ t5
  obtain rfl := (List.cons.inj e5).1
  refine (W_darkslidelaw_DiffBack 200000 z_d_W z_d_H z_d_P A_d_P c_d_P z_o z_p2 A_p2 c_p2 z_p3 z_p4 z_p5 W f_d_P.1 f_d_P.2.1 f_p2.1 f_p2.2.1 true (diffBack_true z_d_W z_d_H z_d_P z_o z_p2 z_p3 z_p4 z_p5)).mono fun e W' ⟨v, he, hv, hM⟩ => ?_
  subst hv
  subst he
  have hw := hM.low
  exact ⟨_, rfl, law_end (s := Rows.diffBackSpec) (tb := 4) Tryd.laid (by kernel_rfl) rfl Tryd.underlying4 rfl hW' rfl rfl rfl hw⟩
theorem diffBack_said : Rows.DiffBackSaid :=
  OpenClaim.holds_of_cond 8 Tryd.f8 rfl rfl rfl rfl rfl rfl rfl ⟨rfl, rfl, rfl, rfl, rfl⟩ rfl rfl rfl rfl rfl (by kernel_rfl) Tryd.func8 (by kernel_rfl)
    (of_decide_eq_true (by kernel_rfl)) (by unfold Func.isWrapper; first | (rw [if_pos (by decide +kernel)]; kernel_rfl) | (rw [if_neg (by decide +kernel)]; exact ⟨rfl, rfl⟩))
    (fun os started H enc _ F => by rw [OpenClaim.pre_eq_preRow]; exact diffBack_lifted os started H enc F)
/-- No parameter wants a stand-in; the program's own looks are off. -/
theorem diffBack_plain (f : FuncId) (fn : Func) (hf : Tryd.pinned.checked.prog.funcNamed "darkslide/darkslidelaw.DiffBack" = some f) (hfn : Tryd.pinned.checked.prog.funcs[f]? = some fn) :
    false = Tryd.pinned.checked.prog.looks [] ∧ ∀ (j : Nat) t, fn.params[j]? = some t → Tryd.pinned.checked.prog.wantsStandIn t = false := by
  obtain rfl : f = 8 := Option.some.inj ((show Tryd.prog.funcNamed "darkslide/darkslidelaw.DiffBack" = some 8 by kernel_rfl).symm.trans hf) |>.symm
  obtain rfl : fn = Tryd.f8 := (Option.some.inj (Tryd.func8.symm.trans hfn)).symm
  refine ⟨by kernel_rfl, fun j t ht => ?_⟩
  rw [Tryd.params8] at ht
  have hm := Array.mem_of_getElem? ht
  simp only [List.mem_toArray, List.mem_cons, List.not_mem_nil, or_false] at hm
  rcases hm with rfl | rfl | rfl | rfl | rfl | rfl
  · exact (show Tryd.prog.wantsStandIn 38 = false by kernel_rfl)
  · exact (show Tryd.prog.wantsStandIn 3 = false by kernel_rfl)
  · exact (show Tryd.prog.wantsStandIn 22 = false by kernel_rfl)
  · exact (show Tryd.prog.wantsStandIn 9 = false by kernel_rfl)
  · exact (show Tryd.prog.wantsStandIn 3 = false by kernel_rfl)
  · exact (show Tryd.prog.wantsStandIn 3 = false by kernel_rfl)
theorem diffBack_holds : Rows.DiffBackCardSaid :=
  Claim7.holds_tied_plain_at .later [] _ _ _ _ diffBack_said (fun _ h => by cases h) (by kernel_rfl) (fun _ h => by cases h) diffBack_row_tie rfl ⟨rfl, rfl⟩ (by kernel_rfl) rfl diffBack_plain (by kernel_rfl)
#print axioms diffBack_holds
end Go.Proofs.YtpmnfhifmmfglacDoor
