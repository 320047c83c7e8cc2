/- It is proved that the law RawFills answers true for all its arguments, and leaves them as they were; the package variables that its row lists are tied to the text of the program. Conditions: none. -/
import Derived.Test.YtpmnfhifmmfglacGreatDoorRawFillsK4
import Derived.Test.YtpmnfhifmmfglacGreatDoorRawFillsK7
import Derived.Test.YtpmnfhifmmfglacGreatDoorRawFillsK12
import Derived.SizedLaws
set_option linter.unusedVariables false
set_option linter.unusedSimpArgs false
set_option linter.unusedSectionVars false
set_option maxRecDepth 100000
set_option maxHeartbeats 8000000
namespace Go.Proofs.YtpmnfhifmmfglacGreatDoor
section
open Go.ChangeAt Go.ChangeShapes Go.Joins Go.RowKit Go.WideShapes
theorem wtArg {H : Type} {P : Program} {ts : List TypeId} {ds : List (DataW H)} (h : (DataW.weightsEach P ts ds).all (· ≤ reachBytes) = true) {j : Nat} {t : TypeId} {d : DataW H} (ht : ts[j]? = some t) (hd : ds[j]? = some d) : ∀ k ∈ d.weights P t, k ≤ reachBytes := fun k hk => by
 have := List.all_eq_true.1 h _ (DataW.weights_mem_each ht hd k hk)
 simpa using this
theorem wtSlice {H : Type} {enc : TypeId × Value → H} {P : Program} {W : World} {base : Nat} {sp : Nat → Bool} {held : Bool} {t : TypeId} {e : TypeId} {cs : List Value} {A : Option Addr} {m c n b B : Nat} {y : DataW H × List MemPlace} (ht : P.underlying t = some (.slice e)) (hb : P.bytesOf e = b) (hc : cs = [.slice A m c]) (h : DataW.trod enc P W base sp held n t cs = some y) (hw : ∀ k ∈ y.1.weights P t, k ≤ B) : m * b ≤ B := by
 subst hc
 rcases DataW.trod_slice ht h with ⟨q, _⟩ | ⟨a, len, cap, elems, rest, k, rfl, q, rfl, _, _, _, hl, _⟩
 · have q1 := (List.cons.inj q).1
   injection q1 with _ q2 _
   subst q2; omega
 · have q1 := (List.cons.inj q).1
   injection q1 with _ q2 _
   have h3 := hw ((elems.length + rest.length) * P.bytesOf e) (by simp [DataW.weights, ht])
   rw [hb] at h3
   exact Nat.le_trans (Nat.mul_le_mul_right b (by omega)) h3
theorem wtStruct {H : Type} {enc : TypeId × Value → H} {P : Program} {W : World} {base : Nat} {sp : Nat → Bool} {held : Bool} {t : TypeId} {fs : Array Field} {cs : List Value} {n i B : Nat} {f : Field} {y : DataW H × List MemPlace} (ht : P.underlying t = some (.struct fs)) (h : DataW.trod enc P W base sp held n t cs = some y) (hf : fs[i]? = some f) (hw : ∀ k ∈ y.1.weights P t, k ≤ B) : ∃ m yi, DataW.trod enc P W base sp held m f.type ((cs.drop f.offset).take (P.cellsOf f.type)) = some yi ∧ ∀ k ∈ yi.1.weights P f.type, k ≤ B := by
 obtain ⟨xs, m, rfl, rfl, _, hl, hp⟩ := DataW.trod_struct ht h
 have hi := (Array.getElem?_eq_some_iff.1 hf).1
 have h2 := hp i f hf
 rw [List.getElem?_eq_getElem (by omega)] at h2
 refine ⟨m, xs[i]'(by omega), h2, fun k hk => hw k ?_⟩
 simp only [DataW.weights, ht]
 refine DataW.weights_mem_each (j := i) (t := f.type) (d := (xs[i]'(by omega)).1) ?_ ?_ k hk
 · rw [List.getElem?_map, Array.getElem?_toList, hf]; rfl
 · rw [List.getElem?_map, List.getElem?_eq_getElem (by omega)]; rfl
noncomputable def rawFills_world (os : Os) : World := { World.holding Tryz.prog os ⟨#[], #[], []⟩ with heap := (((World.holding Tryz.prog os ⟨#[], #[], []⟩).heap).modify 7 fun | .cells _ t frozen => .cells (cellsOf Rows.laid_unicode_utf8_acceptRanges).toArray t frozen | o => o).modify 6 fun | .cells _ t frozen => .cells (cellsOf Rows.laid_unicode_utf8_first).toArray t frozen | o => o }
theorem rawFills_met (os : Os) : laidMet Tryz.prog Rows.rawFillsRow.laid ((rawFills_world os).forCall (fun _ _ => 0) ⟨#[], #[.agg #[.int .i64 0, .int .i64 0, .int .i64 0, .int .i64 0, .int .i64 0, .slice none 0 0, .slice none 0 0, .int .i64 0, .int .i64 0, .int .i64 0, .int .i64 0, .int .i64 0, .int .i64 0, .slice none 0 0, .int .i64 0, .int .i64 0, .int .i64 0, .int .i64 0, .int .i64 0, .int .i64 0, .int .i64 0, .int .i64 0, .int .i64 0, .int .i64 0, .int .i64 0, .int .i64 0, .slice none 0 0, .int .i64 0], .agg #[.int .i64 0, .int .i64 0, .slice none 0 0]], []⟩).memory := laidMet_of_run' 8 (by kernel_rfl) (by kernel_rfl)
theorem rawFills_reads (os : Os) {H : Type} (enc : TypeId × Value → H) : ∃ places, DataW.whole enc Tryz.prog ((rawFills_world os).forCall (fun _ _ => 0) ⟨#[], #[.agg #[.int .i64 0, .int .i64 0, .int .i64 0, .int .i64 0, .int .i64 0, .slice none 0 0, .slice none 0 0, .int .i64 0, .int .i64 0, .int .i64 0, .int .i64 0, .int .i64 0, .int .i64 0, .slice none 0 0, .int .i64 0, .int .i64 0, .int .i64 0, .int .i64 0, .int .i64 0, .int .i64 0, .int .i64 0, .int .i64 0, .int .i64 0, .int .i64 0, .int .i64 0, .int .i64 0, .slice none 0 0, .int .i64 0], .agg #[.int .i64 0, .int .i64 0, .slice none 0 0]], []⟩).memory Tryz.f5.params.toList Rows.rawFillsSpec.vars false (#[.agg #[.int .i64 0, .int .i64 0, .int .i64 0, .int .i64 0, .int .i64 0, .slice none 0 0, .slice none 0 0, .int .i64 0, .int .i64 0, .int .i64 0, .int .i64 0, .int .i64 0, .int .i64 0, .slice none 0 0, .int .i64 0, .int .i64 0, .int .i64 0, .int .i64 0, .int .i64 0, .int .i64 0, .int .i64 0, .int .i64 0, .int .i64 0, .int .i64 0, .int .i64 0, .int .i64 0, .slice none 0 0, .int .i64 0], .agg #[.int .i64 0, .int .i64 0, .slice none 0 0]] : Array Value).toList 8 = some ([.agg [.lit (.int .i64 0), .lit (.int .i64 0), .lit (.int .i64 0), .lit (.int .i64 0), .lit (.int .i64 0), .nil, .nil, .agg [.lit (.int .i64 0), .agg [.lit (.int .i64 0), .lit (.int .i64 0), .lit (.int .i64 0), .lit (.int .i64 0)], .lit (.int .i64 0), .nil, .agg [.lit (.int .i64 0), .lit (.int .i64 0), .lit (.int .i64 0)], .agg [.lit (.int .i64 0), .lit (.int .i64 0), .lit (.int .i64 0), .lit (.int .i64 0), .lit (.int .i64 0), .lit (.int .i64 0), .lit (.int .i64 0), .lit (.int .i64 0), .lit (.int .i64 0)], .nil, .lit (.int .i64 0)]], .agg [.lit (.int .i64 0), .lit (.int .i64 0), .nil]], [], places) := ⟨[], by kernel_rfl⟩
theorem rawFills_lifted (os : Os) (started : os.Started) (H : Type) (enc : TypeId × Value → H) (F : Stop.Interp) :
  ReturnsInHanded {} Tryz.checked os 5 .any ((OpenSpec.ofChange Rows.rawFillsSpec).preRow enc Tryz.prog Tryz.f5 Rows.rawFillsRow.domain false Rows.rawFillsRow.laid) (((OpenSpec.ofChange Rows.rawFillsSpec).at F).post enc Tryz.prog Tryz.f5 false true false false) := by
 obtain ⟨places, hx⟩ := rawFills_reads os enc
 refine returnsInHanded_of_row (C := Tryz.checked) (s := (OpenSpec.ofChange Rows.rawFillsSpec)) Tryz.own started (by kernel_rfl) Tryz.func5
  (witness_row_at (enc := enc) (C := Tryz.checked) false (rawFills_world os) #[.agg #[.int .i64 0, .int .i64 0, .int .i64 0, .int .i64 0, .int .i64 0, .slice none 0 0, .slice none 0 0, .int .i64 0, .int .i64 0, .int .i64 0, .int .i64 0, .int .i64 0, .int .i64 0, .slice none 0 0, .int .i64 0, .int .i64 0, .int .i64 0, .int .i64 0, .int .i64 0, .int .i64 0, .int .i64 0, .int .i64 0, .int .i64 0, .int .i64 0, .int .i64 0, .int .i64 0, .slice none 0 0, .int .i64 0], .agg #[.int .i64 0, .int .i64 0, .slice none 0 0]] rfl (by kernel_rfl) (by kernel_rfl) (by kernel_rfl)
   (OpenSpec.preRow_of_cond 8 hx (by kernel_rfl) (fun k hk => by cases hk) (by kernel_rfl) (rawFills_met os))) ?_
 intro W base args ds gs before hval0 hW _ hcond hsz hL _ _;have hval : ∀ (j : Nat) t v, Tryz.f5.params[j]? = some t → args[j]? = some v → Value.okWide Tryz.prog W .any base t v := hval0;have hW' := hW;obtain ⟨p, q, hA0, hV, rfl, _, _⟩ := hW;have hA : DataW.TrodAll enc Tryz.prog W 0 (fun _ => true) true Tryz.f5.params.toList args.toList ds p := hA0;rw [Tryz.params5] at hA hval;obtain ⟨rfl, rfl⟩ := trodVars_none hV;clear hA0 hval0;obtain ⟨v0, vs0, d0, ds0, p0, q0, hargs, rfl, rfl, h0, r0⟩ := trodAll_cons hA;obtain ⟨v1, vs1, d1, ds1, p1, q1, rfl, rfl, rfl, h1, r1⟩ := trodAll_cons r0;obtain ⟨rfl, rfl, rfl⟩ := trodAll_nil r1;obtain rfl : args = #[v0, v1] := by rw [← Array.toList_inj]; exact hargs
 clear hargs;obtain ⟨u0, rfl, n0, y0, t0, hy0⟩ := Ei Tryz.underlying37 (hval 0 _ _ rfl rfl) h0;obtain ⟨Sf, Sg, GL, JD, JE, DI, eE, eF, Bg, dH, dI, Cc, Bs, Bt, Bu, Bv, Cd, u5, bZ, cA, Bw, Bx, By, AC, AD, AE, AF, AG, AH, AI, AJ, AK, u6, cB, cC, Bz, rfl, aAb, aAc, Ug, W4, W5, JF, F7, Pp, MV, MW, MX, MY, Pq, Ce, MZ, M5, M6, MC, MD, ME, MF, MG, MH, MI, MJ, MK, Cf, M7⟩ := X8 _ _ _ t0;obtain ⟨u1, rfl, n1, y1, t1, hy1⟩ := Ei Tryz.underlying31 (hval 1 _ _ rfl rfl) h1;obtain ⟨Sh, Si, LL, nT, nU, rfl, aAd, aAe, LM⟩ := Yw _ _ _ t1;have hb0 : ∀ k ∈ y0.1.weights Tryz.prog 37, k ≤ reachBytes := by rw [hy0]; exact wtArg hsz (j := 0) (t := 37) rfl rfl
 have K5 : Bg.length * 16 ≤ 140737488355328 := by
  obtain ⟨_, Xi, QA, Xj⟩ := wtStruct (i := 6) Tryz.underlying37 t0 rfl hb0
  have hs := wtSlice (A := dH) (m := Bg.length) (c := dI) Tryz.underlying35 (show Tryz.prog.bytesOf 9 = 16 by kernel_rfl) (by show List.take (Tryz.prog.cellsOf 35) (List.drop 6 _) = _; simp only [Us]; rfl) QA Xj
  have := reachBytes_lt
  omega
 have hb1 : ∀ k ∈ y1.1.weights Tryz.prog 31, k ≤ reachBytes := by rw [hy1]; exact wtArg hsz (j := 1) (t := 31) rfl rfl
 refine (AB 8589934592 Sf Sg GL JD JE DI eE eF Bg dH dI Cc Bs Bt Bu Bv Cd u5 bZ cA Bw Bx By AC AD AE AF AG AH AI AJ AK u6 cB cC Bz Sh Si LL nT nU W JF.1 JF.2.1 F7.1 F7.2.1 Ce.1 Ce.2.1 Cf.1 Cf.2.1 LM.1 LM.2.1 true (Gj Sf Sg GL JD JE DI Bg Cc Bs Bt Bu Bv Cd u5 Bw Bx By AC AD AE AF AG AH AI AJ AK u6 Bz Sh Si LL (Nat.le_trans LM.2.1 (Nat.le_trans LM.2.2.1 (by decide))) K5)).mono fun e W' ⟨v, he, hv, hM⟩ => ?_
 subst hv;subst he;have hw := hM.low;exact ⟨_, rfl, PA (s := Rows.rawFillsSpec) (tb := 4) Tryz.laid (by kernel_rfl) rfl Tryz.underlying4 rfl hW' rfl rfl rfl hw⟩
theorem rawFills_said : Rows.RawFillsSaid :=
 OpenClaim.holds_of_cond 5 Tryz.f5 rfl rfl rfl rfl rfl rfl rfl ⟨rfl, rfl, rfl, rfl, rfl⟩ rfl rfl rfl rfl rfl (by kernel_rfl) Tryz.func5 (by kernel_rfl)
  (of_decide_eq_true (by kernel_rfl)) (by unfold Func.isWrapper; first | (rw [if_pos (by decide +kernel)]; kernel_rfl) | (rw [if_neg (by decide +kernel)]; exact ⟨rfl, rfl⟩))
  (fun os started H enc _ F => by rw [OpenClaim.pre_eq_preRow]; exact rawFills_lifted os started H enc F)
theorem rawFills_plain (f : FuncId) (fn : Func) (hf : Tryz.pinned.checked.prog.funcNamed "darkslide/darkslidelaw.RawFills" = some f) (hfn : Tryz.pinned.checked.prog.funcs[f]? = some fn) :
  true = Tryz.pinned.checked.prog.looks [] ∧ ∀ (j : Nat) t, fn.params[j]? = some t → Tryz.pinned.checked.prog.wantsStandIn t = false := by
 obtain rfl : f = 5 := Option.some.inj ((show Tryz.prog.funcNamed "darkslide/darkslidelaw.RawFills" = some 5 by kernel_rfl).symm.trans hf) |>.symm;obtain rfl : fn = Tryz.f5 := (Option.some.inj (Tryz.func5.symm.trans hfn)).symm;refine ⟨by kernel_rfl, fun j t ht => ?_⟩;rw [Tryz.params5] at ht;have hm := Array.mem_of_getElem? ht;simp only [List.mem_toArray, List.mem_cons, List.not_mem_nil, or_false] at hm
 rcases hm with rfl | rfl
 ·exact (show Tryz.prog.wantsStandIn 37 = false by kernel_rfl)
 ·exact (show Tryz.prog.wantsStandIn 31 = false by kernel_rfl)
theorem rawFills_holds : Rows.RawFillsCardSaid :=
 Claim7.holds_tied_plain_at .later [] _ _ _ _ rawFills_said (fun _ h => by cases h) (by kernel_rfl) (fun _ h => by cases h) rawFills_row_tie rfl ⟨rfl, rfl⟩ (by kernel_rfl) rfl rawFills_plain (by kernel_rfl)
#print axioms rawFills_holds
end
end Go.Proofs.YtpmnfhifmmfglacGreatDoor
