/- It is proved that the law CodeBack answers true for all its arguments, and leaves them as they were; the package variables that its row lists are tied to the text of the program. Conditions: none. -/
import Derived.Test.YtpmnfhifmmfglacDoorCodeBackK1
import Derived.Test.YtpmnfhifmmfglacDoorCodeBackK2
import Derived.Test.YtpmnfhifmmfglacDoorCodeBackK4
import Derived.SizedLaws
set_option linter.unusedVariables false
set_option linter.unusedSimpArgs false
set_option linter.unusedSectionVars false
namespace Go.Proofs.YtpmnfhifmmfglacDoor
open Go.ChangeShapes Go.WideShapes Go.ChangeAt Go.RowKit Go.Joins
/-- A world for the witness: its tables hold what their initialisers lay. -/
theorem wtArg {H : Type} {P : Program} {ts : List TypeId} {ds : List (DataW H)} (h : (DataW.weightsEach P ts ds).all (· ≤ reachBytes) = true) {j : Nat} {t : TypeId} {d : DataW H} (ht : ts[j]? = some t) (hd : ds[j]? = some d) : ∀ k ∈ d.weights P t, k ≤ reachBytes := fun k hk => by
 have := List.all_eq_true.1 h _ (DataW.weights_mem_each ht hd k hk)
 simpa using this
theorem wtSlice {H : Type} {enc : TypeId × Value → H} {P : Program} {W : World} {base : Nat} {sp : Nat → Bool} {held : Bool} {t : TypeId} {e : TypeId} {cs : List Value} {A : Option Addr} {m c n b B : Nat} {y : DataW H × List MemPlace} (ht : P.underlying t = some (.slice e)) (hb : P.bytesOf e = b) (hc : cs = [.slice A m c]) (h : DataW.trod enc P W base sp held n t cs = some y) (hw : ∀ k ∈ y.1.weights P t, k ≤ B) : m * b ≤ B := by
 subst hc
 rcases DataW.trod_slice ht h with ⟨q, _⟩ | ⟨a, len, cap, elems, rest, k, rfl, q, rfl, _, _, _, hl, _⟩
 · have q1 := (List.cons.inj q).1
   injection q1 with _ q2 _
   subst q2; omega
 · have q1 := (List.cons.inj q).1
   injection q1 with _ q2 _
   have h3 := hw ((elems.length + rest.length) * P.bytesOf e) (by simp [DataW.weights, ht])
   rw [hb] at h3
   exact Nat.le_trans (Nat.mul_le_mul_right b (by omega)) h3
theorem wtStruct {H : Type} {enc : TypeId × Value → H} {P : Program} {W : World} {base : Nat} {sp : Nat → Bool} {held : Bool} {t : TypeId} {fs : Array Field} {cs : List Value} {n i B : Nat} {f : Field} {y : DataW H × List MemPlace} (ht : P.underlying t = some (.struct fs)) (h : DataW.trod enc P W base sp held n t cs = some y) (hf : fs[i]? = some f) (hw : ∀ k ∈ y.1.weights P t, k ≤ B) : ∃ m yi, DataW.trod enc P W base sp held m f.type ((cs.drop f.offset).take (P.cellsOf f.type)) = some yi ∧ ∀ k ∈ yi.1.weights P f.type, k ≤ B := by
 obtain ⟨xs, m, rfl, rfl, _, hl, hp⟩ := DataW.trod_struct ht h
 have hi := (Array.getElem?_eq_some_iff.1 hf).1
 have h2 := hp i f hf
 rw [List.getElem?_eq_getElem (by omega)] at h2
 refine ⟨m, xs[i]'(by omega), h2, fun k hk => hw k ?_⟩
 simp only [DataW.weights, ht]
 refine DataW.weights_mem_each (j := i) (t := f.type) (d := (xs[i]'(by omega)).1) ?_ ?_ k hk
 · rw [List.getElem?_map, Array.getElem?_toList, hf]; rfl
 · rw [List.getElem?_map, List.getElem?_eq_getElem (by omega)]; rfl
noncomputable def codeBack_world (os : Os) : World := { World.holding Tryd.prog os ⟨#[], #[], []⟩ with heap := (((World.holding Tryd.prog os ⟨#[], #[], []⟩).heap).modify 2 fun | .cells _ t frozen => .cells (cellsOf Rows.laid_unicode_utf8_acceptRanges).toArray t frozen | o => o).modify 1 fun | .cells _ t frozen => .cells (cellsOf Rows.laid_unicode_utf8_first).toArray t frozen | o => o }
theorem codeBack_met (os : Os) : laidMet Tryd.prog Rows.codeBackRow.laid ((codeBack_world os).forCall (fun _ _ => 0) ⟨#[], #[.slice none 0 0, .slice none 0 0, .string (bs ([] : List UInt8)), .int .i64 0, .int .i64 0], []⟩).memory := laidMet_of_run' 8 (by kernel_rfl) (by kernel_rfl)
theorem codeBack_reads (os : Os) {H : Type} (enc : TypeId × Value → H) : ∃ places, DataW.whole enc Tryd.prog ((codeBack_world os).forCall (fun _ _ => 0) ⟨#[], #[.slice none 0 0, .slice none 0 0, .string (bs ([] : List UInt8)), .int .i64 0, .int .i64 0], []⟩).memory Tryd.f4.params.toList Rows.codeBackSpec.vars false (#[.slice none 0 0, .slice none 0 0, .string (bs ([] : List UInt8)), .int .i64 0, .int .i64 0] : Array Value).toList 8 = some ([.nil, .nil, .lit (.string []), .lit (.int .i64 0), .lit (.int .i64 0)], [], places) := ⟨[], by kernel_rfl⟩
set_option maxRecDepth 100000 in
theorem codeBack_lifted (os : Os) (started : os.Started) (H : Type) (enc : TypeId × Value → H) (F : Stop.Interp) :
    ReturnsInHanded {} Tryd.checked os 4 .any ((OpenSpec.ofChange Rows.codeBackSpec).preRow enc Tryd.prog Tryd.f4 Rows.codeBackRow.domain false Rows.codeBackRow.laid) (((OpenSpec.ofChange Rows.codeBackSpec).at F).post enc Tryd.prog Tryd.f4 false true false false) := by
  obtain ⟨places, hx⟩ := codeBack_reads os enc
  refine returnsInHanded_of_row (C := Tryd.checked) (s := (OpenSpec.ofChange Rows.codeBackSpec)) Tryd.own started (by kernel_rfl) Tryd.func4
    (witness_row_at (enc := enc) (C := Tryd.checked) false (codeBack_world os) #[.slice none 0 0, .slice none 0 0, .string (bs ([] : List UInt8)), .int .i64 0, .int .i64 0] rfl (by kernel_rfl) (by kernel_rfl) (by kernel_rfl)
      (OpenSpec.preRow_of_cond 8 hx (by kernel_rfl) (fun k hk => by cases hk) (by kernel_rfl) (codeBack_met os))) ?_
  intro W base args ds gs before hval0 hW _ hcond hsz hL _ _
  have hval : ∀ (j : Nat) t v, Tryd.f4.params[j]? = some t → args[j]? = some v → Value.okWide Tryd.prog W .any base t v := hval0
  have hW' := hW
  obtain ⟨p, q, hA0, hV, rfl, _, _⟩ := hW
  have hA : DataW.TrodAll enc Tryd.prog W 0 (fun _ => true) true Tryd.f4.params.toList args.toList ds p := hA0
  rw [Tryd.params4] at hA hval
  obtain ⟨rfl, rfl⟩ := trodVars_none hV
  clear hA0 hval0
  obtain ⟨v0, vs0, d0, ds0, p0, q0, hargs, rfl, rfl, h0, r0⟩ := trodAll_cons hA
  obtain ⟨v1, vs1, d1, ds1, p1, q1, rfl, rfl, rfl, h1, r1⟩ := trodAll_cons r0
  obtain ⟨v2, vs2, d2, ds2, p2, q2, rfl, rfl, rfl, h2, r2⟩ := trodAll_cons r1
  obtain ⟨v3, vs3, d3, ds3, p3, q3, rfl, rfl, rfl, h3, r3⟩ := trodAll_cons r2
  obtain ⟨v4, vs4, d4, ds4, p4, q4, rfl, rfl, rfl, h4, r4⟩ := trodAll_cons r3
  obtain ⟨rfl, rfl, rfl⟩ := trodAll_nil r4
  obtain rfl : args = #[v0, v1, v2, v3, v4] := by rw [← Array.toList_inj]; exact hargs
  clear hargs
  obtain ⟨u0, rfl, n0, y0, t0⟩ := top_slice Tryd.underlying22 (hval 0 _ _ rfl rfl) h0
  obtain ⟨z_d, A_d, c_d, e0, f_d⟩ := ot22 _ _ _ t0
  obtain rfl := (List.cons.inj e0).1
  obtain ⟨u1, rfl, n1, y1, t1⟩ := top_slice Tryd.underlying22 (hval 1 _ _ rfl rfl) h1
  obtain ⟨z_o, A_o, c_o, e1, f_o⟩ := ot22 _ _ _ t1
  obtain rfl := (List.cons.inj e1).1
  obtain ⟨z_p2, rfl, rfl, rfl, f_p2⟩ := Go.ChangeMaps.open_string Tryd.underlying9 (hval 2 _ _ rfl rfl) h2
  obtain ⟨u3, rfl, n3, y3, t3⟩ := top_int Tryd.underlying3 (hval 3 _ _ rfl rfl) h3
  obtain ⟨z_p3, e3, f_p3⟩ := ot3 _ _ _ t3
  obtain rfl := (List.cons.inj e3).1
  obtain ⟨u4, rfl, n4, y4, t4⟩ := top_int Tryd.underlying3 (hval 4 _ _ rfl rfl) h4
  obtain ⟨z_p4, e4, f_p4⟩ := ot3 _ _ _ t4
  obtain rfl := (List.cons.inj e4).1
  have u_p2 : z_p2.data.toList.length ≤ 140737488355328 := Nat.le_of_lt (Nat.lt_of_le_of_lt (sized_string hsz (j := 2) (t := 9) rfl rfl) reachBytes_lt)
  refine (W_darkslidelaw_CodeBack 1125899906842624 z_d A_d c_d z_o A_o c_o z_p2.data.toList z_p3 z_p4 W f_d.1 f_d.2.1 f_o.1 f_o.2.1 true (codeBack_true z_d z_o z_p2.data.toList z_p3 z_p4 u_p2 f_p3 f_p4)).mono fun e W' ⟨v, he, hv, hM⟩ => ?_
  subst hv
  subst he
  have hw := hM.low
  exact ⟨_, rfl, law_end (s := Rows.codeBackSpec) (tb := 4) Tryd.laid (by kernel_rfl) rfl Tryd.underlying4 rfl hW' rfl rfl rfl hw⟩
theorem codeBack_said : Rows.CodeBackSaid :=
  OpenClaim.holds_of_cond 4 Tryd.f4 rfl rfl rfl rfl rfl rfl rfl ⟨rfl, rfl, rfl, rfl, rfl⟩ rfl rfl rfl rfl rfl (by kernel_rfl) Tryd.func4 (by kernel_rfl)
    (of_decide_eq_true (by kernel_rfl)) (by unfold Func.isWrapper; first | (rw [if_pos (by decide +kernel)]; kernel_rfl) | (rw [if_neg (by decide +kernel)]; exact ⟨rfl, rfl⟩))
    (fun os started H enc _ F => by rw [OpenClaim.pre_eq_preRow]; exact codeBack_lifted os started H enc F)
/-- No parameter wants a stand-in; the program's own looks are off. -/
theorem codeBack_plain (f : FuncId) (fn : Func) (hf : Tryd.pinned.checked.prog.funcNamed "darkslide/darkslidelaw.CodeBack" = some f) (hfn : Tryd.pinned.checked.prog.funcs[f]? = some fn) :
    false = Tryd.pinned.checked.prog.looks [] ∧ ∀ (j : Nat) t, fn.params[j]? = some t → Tryd.pinned.checked.prog.wantsStandIn t = false := by
  obtain rfl : f = 4 := Option.some.inj ((show Tryd.prog.funcNamed "darkslide/darkslidelaw.CodeBack" = some 4 by kernel_rfl).symm.trans hf) |>.symm
  obtain rfl : fn = Tryd.f4 := (Option.some.inj (Tryd.func4.symm.trans hfn)).symm
  refine ⟨by kernel_rfl, fun j t ht => ?_⟩
  rw [Tryd.params4] at ht
  have hm := Array.mem_of_getElem? ht
  simp only [List.mem_toArray, List.mem_cons, List.not_mem_nil, or_false] at hm
  rcases hm with rfl | rfl | rfl | rfl | rfl
  · exact (show Tryd.prog.wantsStandIn 22 = false by kernel_rfl)
  · exact (show Tryd.prog.wantsStandIn 22 = false by kernel_rfl)
  · exact (show Tryd.prog.wantsStandIn 9 = false by kernel_rfl)
  · exact (show Tryd.prog.wantsStandIn 3 = false by kernel_rfl)
  · exact (show Tryd.prog.wantsStandIn 3 = false by kernel_rfl)
theorem codeBack_holds : Rows.CodeBackCardSaid :=
  Claim7.holds_tied_plain_at .later [] _ _ _ _ codeBack_said (fun _ h => by cases h) (by kernel_rfl) (fun _ h => by cases h) codeBack_row_tie rfl ⟨rfl, rfl⟩ (by kernel_rfl) rfl codeBack_plain (by kernel_rfl)
#print axioms codeBack_holds
end Go.Proofs.YtpmnfhifmmfglacDoor
