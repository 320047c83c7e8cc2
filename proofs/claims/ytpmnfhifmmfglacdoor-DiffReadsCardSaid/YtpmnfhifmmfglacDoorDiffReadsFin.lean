/- It is proved that the law DiffReads answers true for all its arguments, and leaves them as they were; the package variables that its row lists are tied to the text of the program. Conditions: none. -/
import Derived.Test.YtpmnfhifmmfglacDoorDiffReadsK1
import Derived.Test.YtpmnfhifmmfglacDoorDiffReadsK3
import Derived.Test.YtpmnfhifmmfglacDoorDiffReadsK6
set_option linter.unusedVariables false
set_option linter.unusedSimpArgs false
set_option linter.unusedSectionVars false
namespace Go.Proofs.YtpmnfhifmmfglacDoor
open Go.ChangeShapes Go.WideShapes Go.ChangeAt Go.RowKit Go.Joins
/-- A world for the witness: its tables hold what their initialisers lay. -/
noncomputable def diffReads_world (os : Os) : World := { World.holding Tryd.prog os ⟨#[], #[], []⟩ with heap := (((World.holding Tryd.prog os ⟨#[], #[], []⟩).heap).modify 2 fun | .cells _ t frozen => .cells (cellsOf Rows.laid_unicode_utf8_acceptRanges).toArray t frozen | o => o).modify 1 fun | .cells _ t frozen => .cells (cellsOf Rows.laid_unicode_utf8_first).toArray t frozen | o => o }
theorem diffReads_met (os : Os) : laidMet Tryd.prog Rows.diffReadsRow.laid ((diffReads_world os).forCall (fun _ _ => 0) ⟨#[], #[.string (bs ([] : List UInt8)), .int .i64 0, .int .i64 0, .int .i64 0, .slice none 0 0], []⟩).memory := laidMet_of_run' 8 (by kernel_rfl) (by kernel_rfl)
theorem diffReads_reads (os : Os) {H : Type} (enc : TypeId × Value → H) : ∃ places, DataW.whole enc Tryd.prog ((diffReads_world os).forCall (fun _ _ => 0) ⟨#[], #[.string (bs ([] : List UInt8)), .int .i64 0, .int .i64 0, .int .i64 0, .slice none 0 0], []⟩).memory Tryd.f7.params.toList Rows.diffReadsSpec.vars false (#[.string (bs ([] : List UInt8)), .int .i64 0, .int .i64 0, .int .i64 0, .slice none 0 0] : Array Value).toList 8 = some ([.lit (.string []), .lit (.int .i64 0), .lit (.int .i64 0), .lit (.int .i64 0), .nil], [], places) := ⟨[], by kernel_rfl⟩
set_option maxRecDepth 100000 in
theorem diffReads_lifted (os : Os) (started : os.Started) (H : Type) (enc : TypeId × Value → H) (F : Stop.Interp) :
    ReturnsInHanded {} Tryd.checked os 7 .any ((OpenSpec.ofChange Rows.diffReadsSpec).preRow enc Tryd.prog Tryd.f7 Rows.diffReadsRow.domain false Rows.diffReadsRow.laid) (((OpenSpec.ofChange Rows.diffReadsSpec).at F).post enc Tryd.prog Tryd.f7 false true false false) := by
  obtain ⟨places, hx⟩ := diffReads_reads os enc
  refine returnsInHanded_of_row (C := Tryd.checked) (s := (OpenSpec.ofChange Rows.diffReadsSpec)) Tryd.own started (by kernel_rfl) Tryd.func7
    (witness_row_at (enc := enc) (C := Tryd.checked) false (diffReads_world os) #[.string (bs ([] : List UInt8)), .int .i64 0, .int .i64 0, .int .i64 0, .slice none 0 0] rfl (by kernel_rfl) (by kernel_rfl) (by kernel_rfl)
      (OpenSpec.preRow_of_cond 8 hx (by kernel_rfl) (fun k hk => by cases hk) (by kernel_rfl) (diffReads_met os))) ?_
  intro W base args ds gs before hval0 hW _ hcond _ hL _ _
  have hval : ∀ (j : Nat) t v, Tryd.f7.params[j]? = some t → args[j]? = some v → Value.okWide Tryd.prog W .any base t v := hval0
  have hW' := hW
  obtain ⟨p, q, hA0, hV, rfl, _, _⟩ := hW
  have hA : DataW.TrodAll enc Tryd.prog W 0 (fun _ => true) true Tryd.f7.params.toList args.toList ds p := hA0
  rw [Tryd.params7] at hA hval
  obtain ⟨rfl, rfl⟩ := trodVars_none hV
  clear hA0 hval0
  obtain ⟨v0, vs0, d0, ds0, p0, q0, hargs, rfl, rfl, h0, r0⟩ := trodAll_cons hA
  obtain ⟨v1, vs1, d1, ds1, p1, q1, rfl, rfl, rfl, h1, r1⟩ := trodAll_cons r0
  obtain ⟨v2, vs2, d2, ds2, p2, q2, rfl, rfl, rfl, h2, r2⟩ := trodAll_cons r1
  obtain ⟨v3, vs3, d3, ds3, p3, q3, rfl, rfl, rfl, h3, r3⟩ := trodAll_cons r2
  obtain ⟨v4, vs4, d4, ds4, p4, q4, rfl, rfl, rfl, h4, r4⟩ := trodAll_cons r3
  obtain ⟨rfl, rfl, rfl⟩ := trodAll_nil r4
  obtain rfl : args = #[v0, v1, v2, v3, v4] := by rw [← Array.toList_inj]; exact hargs
  clear hargs
  obtain ⟨u0, rfl, n0, y0, t0⟩ := top_string Tryd.underlying9 (hval 0 _ _ rfl rfl) h0
  obtain ⟨z_s, e0, f_s⟩ := ot9 _ _ _ t0
  obtain rfl := (List.cons.inj e0).1
  obtain ⟨u1, rfl, n1, y1, t1⟩ := top_int Tryd.underlying3 (hval 1 _ _ rfl rfl) h1
  obtain ⟨z_w2, e1, f_w2⟩ := ot3 _ _ _ t1
  obtain rfl := (List.cons.inj e1).1
  obtain ⟨u2, rfl, n2, y2, t2⟩ := top_int Tryd.underlying3 (hval 2 _ _ rfl rfl) h2
  obtain ⟨z_h2, e2, f_h2⟩ := ot3 _ _ _ t2
  obtain rfl := (List.cons.inj e2).1
  obtain ⟨u3, rfl, n3, y3, t3⟩ := top_int Tryd.underlying3 (hval 3 _ _ rfl rfl) h3
  obtain ⟨z_kind, e3, f_kind⟩ := ot3 _ _ _ t3
  obtain rfl := (List.cons.inj e3).1
  obtain ⟨u4, rfl, n4, y4, t4⟩ := top_slice Tryd.underlying22 (hval 4 _ _ rfl rfl) h4
  obtain ⟨z_c, A_c, c_c, e4, f_c⟩ := ot22 _ _ _ t4
  obtain rfl := (List.cons.inj e4).1
  refine (W_darkslidelaw_DiffReads 200000 z_s z_w2 z_h2 z_kind z_c A_c c_c W f_c.1 f_c.2.1 true (diffReads_true z_s z_w2 z_h2 z_kind z_c)).mono fun e W' ⟨v, he, hv, hM⟩ => ?_
  subst hv
  subst he
  have hw := hM.low
  exact ⟨_, rfl, law_end (s := Rows.diffReadsSpec) (tb := 4) Tryd.laid (by kernel_rfl) rfl Tryd.underlying4 rfl hW' rfl rfl rfl hw⟩
theorem diffReads_said : Rows.DiffReadsSaid :=
  OpenClaim.holds_of_cond 7 Tryd.f7 rfl rfl rfl rfl rfl rfl rfl ⟨rfl, rfl, rfl, rfl, rfl⟩ rfl rfl rfl rfl rfl (by kernel_rfl) Tryd.func7 (by kernel_rfl)
    (of_decide_eq_true (by kernel_rfl)) (by unfold Func.isWrapper; first | (rw [if_pos (by decide +kernel)]; kernel_rfl) | (rw [if_neg (by decide +kernel)]; exact ⟨rfl, rfl⟩))
    (fun os started H enc _ F => by rw [OpenClaim.pre_eq_preRow]; exact diffReads_lifted os started H enc F)
/-- No parameter wants a stand-in; the program's own looks are off. -/
theorem diffReads_plain (f : FuncId) (fn : Func) (hf : Tryd.pinned.checked.prog.funcNamed "darkslide/darkslidelaw.DiffReads" = some f) (hfn : Tryd.pinned.checked.prog.funcs[f]? = some fn) :
    false = Tryd.pinned.checked.prog.looks [] ∧ ∀ (j : Nat) t, fn.params[j]? = some t → Tryd.pinned.checked.prog.wantsStandIn t = false := by
  obtain rfl : f = 7 := Option.some.inj ((show Tryd.prog.funcNamed "darkslide/darkslidelaw.DiffReads" = some 7 by kernel_rfl).symm.trans hf) |>.symm
  obtain rfl : fn = Tryd.f7 := (Option.some.inj (Tryd.func7.symm.trans hfn)).symm
  refine ⟨by kernel_rfl, fun j t ht => ?_⟩
  rw [Tryd.params7] at ht
  have hm := Array.mem_of_getElem? ht
  simp only [List.mem_toArray, List.mem_cons, List.not_mem_nil, or_false] at hm
  rcases hm with rfl | rfl | rfl | rfl | rfl
  · exact (show Tryd.prog.wantsStandIn 9 = false by kernel_rfl)
  · exact (show Tryd.prog.wantsStandIn 3 = false by kernel_rfl)
  · exact (show Tryd.prog.wantsStandIn 3 = false by kernel_rfl)
  · exact (show Tryd.prog.wantsStandIn 3 = false by kernel_rfl)
  · exact (show Tryd.prog.wantsStandIn 22 = false by kernel_rfl)
theorem diffReads_holds : Rows.DiffReadsCardSaid :=
  Claim7.holds_tied_plain_at .later [] _ _ _ _ diffReads_said (fun _ h => by cases h) (by kernel_rfl) (fun _ h => by cases h) diffReads_row_tie rfl ⟨rfl, rfl⟩ (by kernel_rfl) rfl diffReads_plain (by kernel_rfl)
#print axioms diffReads_holds
end Go.Proofs.YtpmnfhifmmfglacDoor
