/- It is proved that the law CodeWords answers true for all its arguments, and leaves them as they were; the package variables that its row lists are tied to the text of the program. Conditions: none. -/
import Derived.Test.YtpmnfhifmmfglabDoorCodeWordsK1
import Derived.Test.YtpmnfhifmmfglabDoorCodeWordsK2
import Derived.Test.YtpmnfhifmmfglabDoorCodeWordsK3
set_option linter.unusedVariables false
set_option linter.unusedSimpArgs false
set_option linter.unusedSectionVars false
namespace Go.Proofs.YtpmnfhifmmfglabDoor
open Go.ChangeShapes Go.WideShapes Go.ChangeAt Go.RowKit Go.Joins
/-- A world for the witness: its tables hold what their initialisers lay. -/
noncomputable def codeWords_world (os : Os) : World := { World.holding Tryd.prog os ⟨#[], #[], []⟩ with heap := (((World.holding Tryd.prog os ⟨#[], #[], []⟩).heap).modify 2 fun | .cells _ t frozen => .cells (cellsOf Rows.laid_unicode_utf8_acceptRanges).toArray t frozen | o => o).modify 1 fun | .cells _ t frozen => .cells (cellsOf Rows.laid_unicode_utf8_first).toArray t frozen | o => o }
theorem codeWords_met (os : Os) : laidMet Tryd.prog Rows.codeWordsRow.laid ((codeWords_world os).forCall (fun _ _ => 0) ⟨#[], #[.slice none 0 0], []⟩).memory := laidMet_of_run' 8 (by kernel_rfl) (by kernel_rfl)
theorem codeWords_reads (os : Os) {H : Type} (enc : TypeId × Value → H) : ∃ places, DataW.whole enc Tryd.prog ((codeWords_world os).forCall (fun _ _ => 0) ⟨#[], #[.slice none 0 0], []⟩).memory Tryd.f6.params.toList Rows.codeWordsSpec.vars false (#[.slice none 0 0] : Array Value).toList 8 = some ([.nil], [], places) := ⟨[], by kernel_rfl⟩
set_option maxRecDepth 100000 in
theorem codeWords_lifted (os : Os) (started : os.Started) (H : Type) (enc : TypeId × Value → H) (F : Stop.Interp) :
    ReturnsInHanded {} Tryd.checked os 6 .any ((OpenSpec.ofChange Rows.codeWordsSpec).preRow enc Tryd.prog Tryd.f6 Rows.codeWordsRow.domain false Rows.codeWordsRow.laid) (((OpenSpec.ofChange Rows.codeWordsSpec).at F).post enc Tryd.prog Tryd.f6 false true false false) := by
  obtain ⟨places, hx⟩ := codeWords_reads os enc
  refine returnsInHanded_of_row (C := Tryd.checked) (s := (OpenSpec.ofChange Rows.codeWordsSpec)) Tryd.own started (by kernel_rfl) Tryd.func6
    (witness_row_at (enc := enc) (C := Tryd.checked) false (codeWords_world os) #[.slice none 0 0] rfl (by kernel_rfl) (by kernel_rfl) (by kernel_rfl)
      (OpenSpec.preRow_of_cond 8 hx (by kernel_rfl) (fun k hk => by cases hk) (by kernel_rfl) (codeWords_met os))) ?_
  intro W base args ds gs before hval0 hW _ hcond _ hL _ _
  have hval : ∀ (j : Nat) t v, Tryd.f6.params[j]? = some t → args[j]? = some v → Value.okWide Tryd.prog W .any base t v := hval0
  have hW' := hW
  obtain ⟨p, q, hA0, hV, rfl, _, _⟩ := hW
  have hA : DataW.TrodAll enc Tryd.prog W 0 (fun _ => true) true Tryd.f6.params.toList args.toList ds p := hA0
  rw [Tryd.params6] at hA hval
  obtain ⟨rfl, rfl⟩ := trodVars_none hV
  clear hA0 hval0
  obtain ⟨v0, vs0, d0, ds0, p0, q0, hargs, rfl, rfl, h0, r0⟩ := trodAll_cons hA
  obtain ⟨rfl, rfl, rfl⟩ := trodAll_nil r0
  obtain rfl : args = #[v0] := by rw [← Array.toList_inj]; exact hargs
  clear hargs
  obtain ⟨u0, rfl, n0, y0, t0⟩ := top_slice Tryd.underlying35 (hval 0 _ _ rfl rfl) h0
  obtain ⟨z_l2, A_l2, c_l2, e0, f_l2⟩ := ot35 _ _ _ t0
  obtain rfl := (List.cons.inj e0).1
  refine (W_darkslidelaw_CodeWords 5000 z_l2 A_l2 c_l2 W f_l2.1 f_l2.2.1 true (codeWords_true z_l2)).mono fun e W' ⟨v, he, hv, hM⟩ => ?_
  subst hv
  subst he
  have hw := hM.low
  exact ⟨_, rfl, law_end (s := Rows.codeWordsSpec) (tb := 4) Tryd.laid (by kernel_rfl) rfl Tryd.underlying4 rfl hW' rfl rfl rfl hw⟩
theorem codeWords_said : Rows.CodeWordsSaid :=
  OpenClaim.holds_of_cond 6 Tryd.f6 rfl rfl rfl rfl rfl rfl rfl ⟨rfl, rfl, rfl, rfl, rfl⟩ rfl rfl rfl rfl rfl (by kernel_rfl) Tryd.func6 (by kernel_rfl)
    (of_decide_eq_true (by kernel_rfl)) (by unfold Func.isWrapper; first | (rw [if_pos (by decide +kernel)]; kernel_rfl) | (rw [if_neg (by decide +kernel)]; exact ⟨rfl, rfl⟩))
    (fun os started H enc _ F => by rw [OpenClaim.pre_eq_preRow]; exact codeWords_lifted os started H enc F)
/-- No parameter wants a stand-in; the program's own looks are off. -/
theorem codeWords_plain (f : FuncId) (fn : Func) (hf : Tryd.pinned.checked.prog.funcNamed "darkslide/darkslidelaw.CodeWords" = some f) (hfn : Tryd.pinned.checked.prog.funcs[f]? = some fn) :
    false = Tryd.pinned.checked.prog.looks [] ∧ ∀ (j : Nat) t, fn.params[j]? = some t → Tryd.pinned.checked.prog.wantsStandIn t = false := by
  obtain rfl : f = 6 := Option.some.inj ((show Tryd.prog.funcNamed "darkslide/darkslidelaw.CodeWords" = some 6 by kernel_rfl).symm.trans hf) |>.symm
  obtain rfl : fn = Tryd.f6 := (Option.some.inj (Tryd.func6.symm.trans hfn)).symm
  refine ⟨by kernel_rfl, fun j t ht => ?_⟩
  rw [Tryd.params6] at ht
  have hm := Array.mem_of_getElem? ht
  simp only [List.mem_toArray, List.mem_cons, List.not_mem_nil, or_false] at hm
  rcases hm with rfl
  · exact (show Tryd.prog.wantsStandIn 35 = false by kernel_rfl)
theorem codeWords_holds : Rows.CodeWordsCardSaid :=
  Claim7.holds_tied_plain_at .later [] _ _ _ _ codeWords_said (fun _ h => by cases h) (by kernel_rfl) (fun _ h => by cases h) codeWords_row_tie rfl ⟨rfl, rfl⟩ (by kernel_rfl) rfl codeWords_plain (by kernel_rfl)
#print axioms codeWords_holds
end Go.Proofs.YtpmnfhifmmfglabDoor
