/- It is proved that the law ShotWrites answers true for all its arguments, and leaves them as they were; the package variables that its row lists are tied to the text of the program. Conditions: none. -/
import Derived.Test.YtpmnfhifmmfglacGreatDoorShotWritesK4
import Derived.Test.YtpmnfhifmmfglacGreatDoorShotWritesK6
import Derived.Test.YtpmnfhifmmfglacGreatDoorShotWritesK12
set_option linter.unusedVariables false
set_option linter.unusedSimpArgs false
set_option linter.unusedSectionVars false
set_option maxRecDepth 100000
set_option maxHeartbeats 8000000
namespace Go.Proofs.YtpmnfhifmmfglacGreatDoor
section
open Go.ChangeAt Go.ChangeShapes Go.Joins Go.RowKit Go.WideShapes
noncomputable def shotWrites_world (os : Os) : World := { World.holding Tryz.prog os ⟨#[.cells #[.string (bs ([118, 97, 108, 117, 101, 32, 111, 117, 116, 32, 111, 102, 32, 114, 97, 110, 103, 101] : List UInt8))] 292, .cells #[.string (bs ([105, 110, 118, 97, 108, 105, 100, 32, 115, 121, 110, 116, 97, 120] : List UInt8))] 292], #[], []⟩ with heap := ((((((((World.holding Tryz.prog os ⟨#[.cells #[.string (bs ([118, 97, 108, 117, 101, 32, 111, 117, 116, 32, 111, 102, 32, 114, 97, 110, 103, 101] : List UInt8))] 292, .cells #[.string (bs ([105, 110, 118, 97, 108, 105, 100, 32, 115, 121, 110, 116, 97, 120] : List UInt8))] 292], #[], []⟩).heap).modify 4 fun | .cells _ t frozen => .cells (cellsOf Rows.laid_math_bits_deBruijn32tab).toArray t frozen | o => o).modify 5 fun | .cells _ t frozen => .cells (cellsOf Rows.laid_math_bits_deBruijn64tab).toArray t frozen | o => o).modify 0 fun | .cells _ t frozen => .cells (cellsOf Rows.laid_internal_strconv_uint64pow10).toArray t frozen | o => o).modify 7 fun | .cells _ t frozen => .cells (cellsOf Rows.laid_unicode_utf8_acceptRanges).toArray t frozen | o => o).modify 3 fun | .cells _ t frozen => .cells #[.iface 290 (.pointer (some ⟨(World.holding Tryz.prog os ⟨#[], #[], []⟩).heap.size + 0, 0, none⟩))] t frozen | o => o).modify 2 fun | .cells _ t frozen => .cells #[.iface 290 (.pointer (some ⟨(World.holding Tryz.prog os ⟨#[], #[], []⟩).heap.size + 1, 0, none⟩))] t frozen | o => o).modify 6 fun | .cells _ t frozen => .cells (cellsOf Rows.laid_unicode_utf8_first).toArray t frozen | o => o }
theorem shotWrites_met (os : Os) : laidMet Tryz.prog Rows.shotWritesRow.laid ((shotWrites_world os).forCall (fun _ _ => 0) ⟨#[], #[.agg #[.int .i64 0, .int .i64 0, .slice none 0 0], .bool false, .string (bs ([] : List UInt8))], []⟩).memory := laidMet_of_run' 8 (by kernel_rfl) (by kernel_rfl)
theorem shotWrites_reads (os : Os) {H : Type} (enc : TypeId × Value → H) : ∃ places, DataW.whole enc Tryz.prog ((shotWrites_world os).forCall (fun _ _ => 0) ⟨#[], #[.agg #[.int .i64 0, .int .i64 0, .slice none 0 0], .bool false, .string (bs ([] : List UInt8))], []⟩).memory Tryz.f8.params.toList Rows.shotWritesSpec.vars false (#[.agg #[.int .i64 0, .int .i64 0, .slice none 0 0], .bool false, .string (bs ([] : List UInt8))] : Array Value).toList 8 = some ([.agg [.lit (.int .i64 0), .lit (.int .i64 0), .nil], .lit (.bool false), .lit (.string [])], [], places) := ⟨[], by kernel_rfl⟩
theorem shotWrites_lifted (os : Os) (started : os.Started) (H : Type) (enc : TypeId × Value → H) (F : Stop.Interp) :
  ReturnsInHanded {} Tryz.checked os 8 .any ((OpenSpec.ofChange Rows.shotWritesSpec).preRow enc Tryz.prog Tryz.f8 Rows.shotWritesRow.domain false Rows.shotWritesRow.laid) (((OpenSpec.ofChange Rows.shotWritesSpec).at F).post enc Tryz.prog Tryz.f8 false true false false) := by
 obtain ⟨places, hx⟩ := shotWrites_reads os enc
 refine returnsInHanded_of_row (C := Tryz.checked) (s := (OpenSpec.ofChange Rows.shotWritesSpec)) Tryz.own started (by kernel_rfl) Tryz.func8
  (witness_row_at (enc := enc) (C := Tryz.checked) false (shotWrites_world os) #[.agg #[.int .i64 0, .int .i64 0, .slice none 0 0], .bool false, .string (bs ([] : List UInt8))] rfl (by kernel_rfl) (by kernel_rfl) (by kernel_rfl)
   (OpenSpec.preRow_of_cond 8 hx (by kernel_rfl) (fun k hk => by cases hk) (by kernel_rfl) (shotWrites_met os))) ?_
 intro W base args ds gs before hval0 hW _ hcond hsz hL _ _;have hval : ∀ (j : Nat) t v, Tryz.f8.params[j]? = some t → args[j]? = some v → Value.okWide Tryz.prog W .any base t v := hval0;have hW' := hW;obtain ⟨p, q, hA0, hV, rfl, _, _⟩ := hW;have hA : DataW.TrodAll enc Tryz.prog W 0 (fun _ => true) true Tryz.f8.params.toList args.toList ds p := hA0;rw [Tryz.params8] at hA hval;obtain ⟨rfl, rfl⟩ := trodVars_none hV;clear hA0 hval0;obtain ⟨v0, vs0, d0, ds0, p0, q0, hargs, rfl, rfl, h0, r0⟩ := trodAll_cons hA;obtain ⟨v1, vs1, d1, ds1, p1, q1, rfl, rfl, rfl, h1, r1⟩ := trodAll_cons r0;obtain ⟨v2, vs2, d2, ds2, p2, q2, rfl, rfl, rfl, h2, r2⟩ := trodAll_cons r1;obtain ⟨rfl, rfl, rfl⟩ := trodAll_nil r2;obtain rfl : args = #[v0, v1, v2] := by rw [← Array.toList_inj]; exact hargs
 clear hargs;obtain ⟨u0, rfl, n0, y0, t0⟩ := MS Tryz.underlying34 (hval 0 _ _ rfl rfl) h0;obtain ⟨Uj, Uk, Ul, jG, jH, rfl, Z9, aAa, Um⟩ := X9 _ _ _ t0;obtain ⟨u1, rfl, n1, y1, t1⟩ := P0 Tryz.underlying4 (hval 1 _ _ rfl rfl) h1;obtain ⟨z_o, e1, f_o⟩ := ot4 _ _ _ t1;obtain rfl := (List.cons.inj e1).1;obtain ⟨Vu, rfl, rfl, rfl, aAs⟩ := Go.ChangeMaps.open_string Tryz.underlying9 (hval 2 _ _ rfl rfl) h2;have ZE : Vu.data.toList.length ≤ 140737488355328 := Nat.le_of_lt (Nat.lt_of_le_of_lt (sized_string hsz (j := 2) (t := 9) rfl rfl) reachBytes_lt);have hL' : laidMet Tryz.prog Rows.shotWritesRow.laid W := hL
 have HG : Glob W := by
  refine ⟨Lib.tabIs_of_head (g := 0) (t := 276) (e := 231) (n := 20) (by kernel_rfl) (by kernel_rfl) (by kernel_rfl) (by kernel_rfl) (by kernel_rfl) (by kernel_rfl) (show laidMet _ (("internal/strconv.uint64pow10", Lib.tabData .u64 Lib.pow10Tab) :: _) W from hL'.tail.tail), ?_, ?_⟩
  ·exact Iz (g := 2) (ti := 150) (show laidMet _ (("strconv.ErrSyntax", .iface _ _) :: _) W from hL'.tail.tail.tail.tail.tail) (by kernel_rfl) (by kernel_rfl) Tryz.underlying150
  ·exact Iz (g := 3) (ti := 150) (show laidMet _ (("strconv.ErrRange", .iface _ _) :: _) W from hL'.tail.tail.tail.tail) (by kernel_rfl) (by kernel_rfl) Tryz.underlying150
 refine (BZ 8589934592 Uj Uk Ul jG jH z_o Vu.data.toList W Um.1 Um.2.1 HG true (Ie Uj Uk Ul z_o Vu.data.toList ZE)).mono fun e W' ⟨v, he, hv, hM⟩ => ?_
 subst hv;subst he;have hw := hM.low;exact ⟨_, rfl, R2 (s := Rows.shotWritesSpec) (tb := 4) Tryz.laid (by kernel_rfl) rfl Tryz.underlying4 rfl hW' rfl rfl rfl hw⟩
theorem shotWrites_said : Rows.ShotWritesSaid :=
 OpenClaim.holds_of_cond 8 Tryz.f8 rfl rfl rfl rfl rfl rfl rfl ⟨rfl, rfl, rfl, rfl, rfl⟩ rfl rfl rfl rfl rfl (by kernel_rfl) Tryz.func8 (by kernel_rfl)
  (of_decide_eq_true (by kernel_rfl)) (by unfold Func.isWrapper; first | (rw [if_pos (by decide +kernel)]; kernel_rfl) | (rw [if_neg (by decide +kernel)]; exact ⟨rfl, rfl⟩))
  (fun os started H enc _ F => by rw [OpenClaim.pre_eq_preRow]; exact shotWrites_lifted os started H enc F)
theorem shotWrites_plain (f : FuncId) (fn : Func) (hf : Tryz.pinned.checked.prog.funcNamed "darkslide/darkslidelaw.ShotWrites" = some f) (hfn : Tryz.pinned.checked.prog.funcs[f]? = some fn) :
  true = Tryz.pinned.checked.prog.looks [] ∧ ∀ (j : Nat) t, fn.params[j]? = some t → Tryz.pinned.checked.prog.wantsStandIn t = false := by
 obtain rfl : f = 8 := Option.some.inj ((show Tryz.prog.funcNamed "darkslide/darkslidelaw.ShotWrites" = some 8 by kernel_rfl).symm.trans hf) |>.symm;obtain rfl : fn = Tryz.f8 := (Option.some.inj (Tryz.func8.symm.trans hfn)).symm;refine ⟨by kernel_rfl, fun j t ht => ?_⟩;rw [Tryz.params8] at ht;have hm := Array.mem_of_getElem? ht;simp only [List.mem_toArray, List.mem_cons, List.not_mem_nil, or_false] at hm
 rcases hm with rfl | rfl | rfl
 ·exact (show Tryz.prog.wantsStandIn 34 = false by kernel_rfl)
 ·exact (show Tryz.prog.wantsStandIn 4 = false by kernel_rfl)
 ·exact (show Tryz.prog.wantsStandIn 9 = false by kernel_rfl)
theorem shotWrites_holds : Rows.ShotWritesCardSaid :=
 Claim7.holds_tied_plain_at .later [] _ _ _ _ shotWrites_said (fun _ h => by cases h) (by kernel_rfl) (fun _ h => by cases h) shotWrites_row_tie rfl ⟨rfl, rfl⟩ (by kernel_rfl) rfl shotWrites_plain (by kernel_rfl)
#print axioms shotWrites_holds
end
end Go.Proofs.YtpmnfhifmmfglacGreatDoor
