/- It is proved that the law RestPictures answers true for all its arguments, and leaves them as they were; the package variables that its row lists are tied to the text of the program. Conditions: none. -/
import Derived.Test.YtpmnfhifmmfglacGreatDoorRestPicturesK4
import Derived.Test.YtpmnfhifmmfglacGreatDoorRestPicturesK8
import Derived.Test.YtpmnfhifmmfglacGreatDoorRestPicturesK14
import Derived.SizedLaws
set_option linter.unusedVariables false
set_option linter.unusedSimpArgs false
set_option linter.unusedSectionVars false
set_option maxRecDepth 100000
set_option maxHeartbeats 8000000
namespace Go.Proofs.YtpmnfhifmmfglacGreatDoor
section
open Go.ChangeAt Go.ChangeShapes Go.Joins Go.RowKit Go.WideShapes
theorem wtArg {H : Type} {P : Program} {ts : List TypeId} {ds : List (DataW H)} (h : (DataW.weightsEach P ts ds).all (· ≤ reachBytes) = true) {j : Nat} {t : TypeId} {d : DataW H} (ht : ts[j]? = some t) (hd : ds[j]? = some d) : ∀ k ∈ d.weights P t, k ≤ reachBytes := fun k hk => by
 have := List.all_eq_true.1 h _ (DataW.weights_mem_each ht hd k hk)
 simpa using this
theorem wtSlice {H : Type} {enc : TypeId × Value → H} {P : Program} {W : World} {base : Nat} {sp : Nat → Bool} {held : Bool} {t : TypeId} {e : TypeId} {cs : List Value} {A : Option Addr} {m c n b B : Nat} {y : DataW H × List MemPlace} (ht : P.underlying t = some (.slice e)) (hb : P.bytesOf e = b) (hc : cs = [.slice A m c]) (h : DataW.trod enc P W base sp held n t cs = some y) (hw : ∀ k ∈ y.1.weights P t, k ≤ B) : m * b ≤ B := by
 subst hc
 rcases DataW.trod_slice ht h with ⟨q, _⟩ | ⟨a, len, cap, elems, rest, k, rfl, q, rfl, _, _, _, hl, _⟩
 · have q1 := (List.cons.inj q).1
   injection q1 with _ q2 _
   subst q2; omega
 · have q1 := (List.cons.inj q).1
   injection q1 with _ q2 _
   have h3 := hw ((elems.length + rest.length) * P.bytesOf e) (by simp [DataW.weights, ht])
   rw [hb] at h3
   exact Nat.le_trans (Nat.mul_le_mul_right b (by omega)) h3
theorem wtStruct {H : Type} {enc : TypeId × Value → H} {P : Program} {W : World} {base : Nat} {sp : Nat → Bool} {held : Bool} {t : TypeId} {fs : Array Field} {cs : List Value} {n i B : Nat} {f : Field} {y : DataW H × List MemPlace} (ht : P.underlying t = some (.struct fs)) (h : DataW.trod enc P W base sp held n t cs = some y) (hf : fs[i]? = some f) (hw : ∀ k ∈ y.1.weights P t, k ≤ B) : ∃ m yi, DataW.trod enc P W base sp held m f.type ((cs.drop f.offset).take (P.cellsOf f.type)) = some yi ∧ ∀ k ∈ yi.1.weights P f.type, k ≤ B := by
 obtain ⟨xs, m, rfl, rfl, _, hl, hp⟩ := DataW.trod_struct ht h
 have hi := (Array.getElem?_eq_some_iff.1 hf).1
 have h2 := hp i f hf
 rw [List.getElem?_eq_getElem (by omega)] at h2
 refine ⟨m, xs[i]'(by omega), h2, fun k hk => hw k ?_⟩
 simp only [DataW.weights, ht]
 refine DataW.weights_mem_each (j := i) (t := f.type) (d := (xs[i]'(by omega)).1) ?_ ?_ k hk
 · rw [List.getElem?_map, Array.getElem?_toList, hf]; rfl
 · rw [List.getElem?_map, List.getElem?_eq_getElem (by omega)]; rfl
noncomputable def restPictures_world (os:Os):World:={ World.holding Tryz.prog os ⟨#[],#[],[]⟩ with heap:=(((World.holding Tryz.prog os ⟨#[],#[],[]⟩).heap).modify 7 fun | .cells _ t frozen=>.cells (cellsOf Rows.laid_unicode_utf8_acceptRanges).toArray t frozen | o=>o).modify 6 fun | .cells _ t frozen=>.cells (cellsOf Rows.laid_unicode_utf8_first).toArray t frozen | o=>o }
theorem restPictures_met (os:Os):laidMet Tryz.prog Rows.restPicturesRow.laid ((restPictures_world os).forCall (fun _ _=>0) ⟨#[],#[.agg #[.int .i64 0,.int .i64 0,.int .i64 0,.int .i64 0,.int .i64 0,.int .i64 0,.slice none 0 0,.int .i64 0,.int .i64 0,.int .i64 0,.int .i64 0,.int .i64 0,.int .i64 0,.int .i64 0,.int .i64 0,.int .i64 0,.int .i64 0,.int .i64 0,.int .i64 0,.slice none 0 0,.int .i64 0],.agg #[.int .i64 0,.int .i64 0,.slice none 0 0],.int .i64 0,.agg #[.int .i64 0,.int .i64 0,.slice none 0 0],.agg #[.int .i64 0,.int .i64 0,.int .i64 0,.int .i64 0,.int .i64 0,.slice none 0 0,.slice none 0 0,.int .i64 0,.int .i64 0,.int .i64 0,.int .i64 0,.int .i64 0,.int .i64 0,.slice none 0 0,.int .i64 0,.int .i64 0,.int .i64 0,.int .i64 0,.int .i64 0,.int .i64 0,.int .i64 0,.int .i64 0,.int .i64 0,.int .i64 0,.int .i64 0,.int .i64 0,.slice none 0 0,.int .i64 0]],[]⟩).memory:=laidMet_of_run' 8 (by kernel_rfl) (by kernel_rfl)
theorem restPictures_reads (os:Os) {H:Type} (enc:TypeId × Value→H):∃places,DataW.whole enc Tryz.prog ((restPictures_world os).forCall (fun _ _=>0) ⟨#[],#[.agg #[.int .i64 0,.int .i64 0,.int .i64 0,.int .i64 0,.int .i64 0,.int .i64 0,.slice none 0 0,.int .i64 0,.int .i64 0,.int .i64 0,.int .i64 0,.int .i64 0,.int .i64 0,.int .i64 0,.int .i64 0,.int .i64 0,.int .i64 0,.int .i64 0,.int .i64 0,.slice none 0 0,.int .i64 0],.agg #[.int .i64 0,.int .i64 0,.slice none 0 0],.int .i64 0,.agg #[.int .i64 0,.int .i64 0,.slice none 0 0],.agg #[.int .i64 0,.int .i64 0,.int .i64 0,.int .i64 0,.int .i64 0,.slice none 0 0,.slice none 0 0,.int .i64 0,.int .i64 0,.int .i64 0,.int .i64 0,.int .i64 0,.int .i64 0,.slice none 0 0,.int .i64 0,.int .i64 0,.int .i64 0,.int .i64 0,.int .i64 0,.int .i64 0,.int .i64 0,.int .i64 0,.int .i64 0,.int .i64 0,.int .i64 0,.int .i64 0,.slice none 0 0,.int .i64 0]],[]⟩).memory Tryz.f3.params.toList Rows.restPicturesSpec.vars false (#[.agg #[.int .i64 0,.int .i64 0,.int .i64 0,.int .i64 0,.int .i64 0,.int .i64 0,.slice none 0 0,.int .i64 0,.int .i64 0,.int .i64 0,.int .i64 0,.int .i64 0,.int .i64 0,.int .i64 0,.int .i64 0,.int .i64 0,.int .i64 0,.int .i64 0,.int .i64 0,.slice none 0 0,.int .i64 0],.agg #[.int .i64 0,.int .i64 0,.slice none 0 0],.int .i64 0,.agg #[.int .i64 0,.int .i64 0,.slice none 0 0],.agg #[.int .i64 0,.int .i64 0,.int .i64 0,.int .i64 0,.int .i64 0,.slice none 0 0,.slice none 0 0,.int .i64 0,.int .i64 0,.int .i64 0,.int .i64 0,.int .i64 0,.int .i64 0,.slice none 0 0,.int .i64 0,.int .i64 0,.int .i64 0,.int .i64 0,.int .i64 0,.int .i64 0,.int .i64 0,.int .i64 0,.int .i64 0,.int .i64 0,.int .i64 0,.int .i64 0,.slice none 0 0,.int .i64 0]]:Array Value).toList 8=some ([.agg [.lit (.int .i64 0),.agg [.lit (.int .i64 0),.lit (.int .i64 0),.lit (.int .i64 0),.lit (.int .i64 0)],.lit (.int .i64 0),.nil,.agg [.lit (.int .i64 0),.lit (.int .i64 0),.lit (.int .i64 0)],.agg [.lit (.int .i64 0),.lit (.int .i64 0),.lit (.int .i64 0),.lit (.int .i64 0),.lit (.int .i64 0),.lit (.int .i64 0),.lit (.int .i64 0),.lit (.int .i64 0),.lit (.int .i64 0)],.nil,.lit (.int .i64 0)],.agg [.lit (.int .i64 0),.lit (.int .i64 0),.nil],.lit (.int .i64 0),.agg [.lit (.int .i64 0),.lit (.int .i64 0),.nil],.agg [.lit (.int .i64 0),.lit (.int .i64 0),.lit (.int .i64 0),.lit (.int .i64 0),.lit (.int .i64 0),.nil,.nil,.agg [.lit (.int .i64 0),.agg [.lit (.int .i64 0),.lit (.int .i64 0),.lit (.int .i64 0),.lit (.int .i64 0)],.lit (.int .i64 0),.nil,.agg [.lit (.int .i64 0),.lit (.int .i64 0),.lit (.int .i64 0)],.agg [.lit (.int .i64 0),.lit (.int .i64 0),.lit (.int .i64 0),.lit (.int .i64 0),.lit (.int .i64 0),.lit (.int .i64 0),.lit (.int .i64 0),.lit (.int .i64 0),.lit (.int .i64 0)],.nil,.lit (.int .i64 0)]]],[],places):=⟨[],by kernel_rfl⟩
theorem restPictures_lifted (os:Os) (started:os.Started) (H:Type) (enc:TypeId × Value→H) (F:Stop.Interp) :
  ReturnsInHanded {} Tryz.checked os 3 .any ((OpenSpec.ofChange Rows.restPicturesSpec).preRow enc Tryz.prog Tryz.f3 Rows.restPicturesRow.domain false Rows.restPicturesRow.laid) (((OpenSpec.ofChange Rows.restPicturesSpec).at F).post enc Tryz.prog Tryz.f3 false true false false):=by
 obtain ⟨places,hx⟩:=restPictures_reads os enc
 refine returnsInHanded_of_row (C:=Tryz.checked) (s:=(OpenSpec.ofChange Rows.restPicturesSpec)) Tryz.own started (by kernel_rfl) Tryz.func3
  (witness_row_at (enc:=enc) (C:=Tryz.checked) false (restPictures_world os) #[.agg #[.int .i64 0,.int .i64 0,.int .i64 0,.int .i64 0,.int .i64 0,.int .i64 0,.slice none 0 0,.int .i64 0,.int .i64 0,.int .i64 0,.int .i64 0,.int .i64 0,.int .i64 0,.int .i64 0,.int .i64 0,.int .i64 0,.int .i64 0,.int .i64 0,.int .i64 0,.slice none 0 0,.int .i64 0],.agg #[.int .i64 0,.int .i64 0,.slice none 0 0],.int .i64 0,.agg #[.int .i64 0,.int .i64 0,.slice none 0 0],.agg #[.int .i64 0,.int .i64 0,.int .i64 0,.int .i64 0,.int .i64 0,.slice none 0 0,.slice none 0 0,.int .i64 0,.int .i64 0,.int .i64 0,.int .i64 0,.int .i64 0,.int .i64 0,.slice none 0 0,.int .i64 0,.int .i64 0,.int .i64 0,.int .i64 0,.int .i64 0,.int .i64 0,.int .i64 0,.int .i64 0,.int .i64 0,.int .i64 0,.int .i64 0,.int .i64 0,.slice none 0 0,.int .i64 0]] rfl (by kernel_rfl) (by kernel_rfl) (by kernel_rfl)
   (OpenSpec.preRow_of_cond 8 hx (by kernel_rfl) (fun k hk=>by cases hk) (by kernel_rfl) (restPictures_met os))) ?_
 intro W base args ds gs before hval0 hW _ hcond hsz hL _ _;have hval:∀(j:Nat) t v,Tryz.f3.params[j]? = some t→args[j]? = some v→Value.okWide Tryz.prog W .any base t v:=hval0;have hW':=hW;obtain ⟨p,q,hA0,hV,rfl,_,_⟩:=hW;have hA:DataW.TrodAll enc Tryz.prog W 0 (fun _=>true) true Tryz.f3.params.toList args.toList ds p:=hA0;rw [Tryz.params3] at hA hval;obtain ⟨rfl,rfl⟩:=trodVars_none hV;clear hA0 hval0;obtain ⟨v0,vs0,d0,ds0,p0,q0,hargs,rfl,rfl,h0,r0⟩:=trodAll_cons hA;obtain ⟨v1,vs1,d1,ds1,p1,q1,rfl,rfl,rfl,h1,r1⟩:=trodAll_cons r0;obtain ⟨v2,vs2,d2,ds2,p2,q2,rfl,rfl,rfl,h2,r2⟩:=trodAll_cons r1;obtain ⟨v3,vs3,d3,ds3,p3,q3,rfl,rfl,rfl,h3,r3⟩:=trodAll_cons r2;obtain ⟨v4,vs4,d4,ds4,p4,q4,rfl,rfl,rfl,h4,r4⟩:=trodAll_cons r3;obtain ⟨rfl,rfl,rfl⟩:=trodAll_nil r4;obtain rfl:args = #[v0,v1,v2,v3,v4]:=by rw [←Array.toList_inj];exact hargs
 clear hargs;obtain ⟨u0,rfl,n0,y0,t0,hy0⟩:=Fl Tryz.underlying28 (hval 0 _ _ rfl rfl) h0;obtain ⟨PP,OB,OC,OD,OE,PQ,IT,PR,PS,OF,OG,OH,Mk,Ml,Mm,Mn,Mo,Mp,Mq,Mr,Ms,IU,PT,PU,OJ,rfl,aFF,aFt,aFu,aFv,aFw,aFG,PV,aFx,aFy,aFz,aDJ,aDK,aDL,aDM,aDN,aDO,aDP,aDQ,aDR,PW,aFA⟩:=aFZ _ _ _ t0;obtain ⟨u1,rfl,n1,y1,t1,hy1⟩:=Fl Tryz.underlying31 (hval 1 _ _ rfl rfl) h1;obtain ⟨aDS,aDT,V2,pP,kW,rfl,aJG,aJH,aDU⟩:=aIS _ _ _ t1;obtain ⟨u2,rfl,n2,y2,t2⟩:=aBk Tryz.underlying3 (hval 2 _ _ rfl rfl) h2;obtain ⟨aHE,e2,aJ0⟩:=HT _ _ _ t2;obtain rfl:=(List.cons.inj e2).1;obtain ⟨u3,rfl,n3,y3,t3,hy3⟩:=Fl Tryz.underlying34 (hval 3 _ _ rfl rfl) h3;obtain ⟨aAZ,aA0,Rs,DR,DS,rfl,aJw,aJx,aA1⟩:=aIX _ _ _ t3;obtain ⟨u4,rfl,n4,y4,t4,hy4⟩:=Fl Tryz.underlying37 (hval 4 _ _ rfl rfl) h4;obtain ⟨aA2,aA3,OK,PX,PY,IV,xN,xO,FE,tM,tN,HH,GI,GJ,GK,GL,HI,AQ,nT,nU,GM,GN,GO,FF,FG,FH,FI,FJ,FK,FL,FM,FN,AR,nV,nW,GP,rfl,aJy,aJz,aFB,aFH,aFI,PZ,Mt,XG,Xk,Xl,Xm,Xn,XH,HJ,Xo,Xp,Xq,V3,V4,V5,V6,V7,V8,V9,Wa,Wb,HM,Xr⟩:=aIu _ _ _ t4;have hb0 : ∀ k ∈ y0.1.weights Tryz.prog 28, k ≤ reachBytes := by rw [hy0]; exact wtArg hsz (j := 0) (t := 28) rfl rfl
 have hb1 : ∀ k ∈ y1.1.weights Tryz.prog 31, k ≤ reachBytes := by rw [hy1]; exact wtArg hsz (j := 1) (t := 31) rfl rfl
 have aHF : V2.length * 8 ≤ 140737488355328 := by
  obtain ⟨_, ya0, US, ba0⟩ := wtStruct (i := 2) Tryz.underlying31 t1 rfl hb1
  have hs := wtSlice (A:=pP) (m:=V2.length) (c:=kW) Tryz.underlying29 (show Tryz.prog.bytesOf 3 = 8 by kernel_rfl) (by show List.take (Tryz.prog.cellsOf 29) (List.drop 2 _)=_;simp only [aBl];rfl) US ba0
  have := reachBytes_lt
  omega
 have hb3 : ∀ k ∈ y3.1.weights Tryz.prog 34, k ≤ reachBytes := by rw [hy3]; exact wtArg hsz (j := 3) (t := 34) rfl rfl
 have aFC : Rs.length * 24 ≤ 140737488355328 := by
  obtain ⟨_, ya0, US, ba0⟩ := wtStruct (i := 2) Tryz.underlying34 t3 rfl hb3
  have hs := wtSlice (A:=DR) (m:=Rs.length) (c:=DS) Tryz.underlying32 (show Tryz.prog.bytesOf 42 = 24 by kernel_rfl) (by show List.take (Tryz.prog.cellsOf 32) (List.drop 2 _)=_;simp only [aGo];rfl) US ba0
  have := reachBytes_lt
  omega
 have hb4 : ∀ k ∈ y4.1.weights Tryz.prog 37, k ≤ reachBytes := by rw [hy4]; exact wtArg hsz (j := 4) (t := 37) rfl rfl
 have Ti : FE.length * 16 ≤ 140737488355328 := by
  obtain ⟨_, ya0, US, ba0⟩ := wtStruct (i := 6) Tryz.underlying37 t4 rfl hb4
  have hs := wtSlice (A:=tM) (m:=FE.length) (c:=tN) Tryz.underlying35 (show Tryz.prog.bytesOf 9 = 16 by kernel_rfl) (by show List.take (Tryz.prog.cellsOf 35) (List.drop 6 _)=_;simp only [aFV];rfl) US ba0
  have := reachBytes_lt
  omega
 refine (Eo 1125899906842624 PP OB OC OD OE PQ IT PR PS OF OG OH Mk Ml Mm Mn Mo Mp Mq Mr Ms IU PT PU OJ aDS aDT V2 pP kW aHE aAZ aA0 Rs DR DS aA2 aA3 OK PX PY IV xN xO FE tM tN HH GI GJ GK GL HI AQ nT nU GM GN GO FF FG FH FI FJ FK FL FM FN AR nV nW GP W PV.1 PV.2.1 PW.1 PW.2.1 aDU.1 aDU.2.1 aA1.1 aA1.2.1 PZ.1 PZ.2.1 Mt.1 Mt.2.1 HJ.1 HJ.2.1 HM.1 HM.2.1 true (W9 PP OB OC OD OE PQ IT OF OG OH Mk Ml Mm Mn Mo Mp Mq Mr Ms IU OJ aDS aDT V2 aHE aAZ aA0 Rs aA2 aA3 OK PX PY IV FE HH GI GJ GK GL HI AQ GM GN GO FF FG FH FI FJ FK FL FM FN AR GP aHF aFC Ti)).mono fun e W' ⟨v,he,hv,hM⟩=>?_
 subst hv;subst he;have hw:=hM.low;exact ⟨_,rfl,aA5 (s:=Rows.restPicturesSpec) (tb:=4) Tryz.laid (by kernel_rfl) rfl Tryz.underlying4 rfl hW' rfl rfl rfl hw⟩
theorem restPictures_said:Rows.RestPicturesSaid:=
 OpenClaim.holds_of_cond 3 Tryz.f3 rfl rfl rfl rfl rfl rfl rfl ⟨rfl,rfl,rfl,rfl,rfl⟩ rfl rfl rfl rfl rfl (by kernel_rfl) Tryz.func3 (by kernel_rfl)
  (of_decide_eq_true (by kernel_rfl)) (by unfold Func.isWrapper;first | (rw [if_pos (by decide +kernel)];kernel_rfl) | (rw [if_neg (by decide +kernel)];exact ⟨rfl,rfl⟩))
  (fun os started H enc _ F=>by rw [OpenClaim.pre_eq_preRow];exact restPictures_lifted os started H enc F)
theorem restPictures_plain (f:FuncId) (fn:Func) (hf:Tryz.pinned.checked.prog.funcNamed "darkslide/darkslidelaw.RestPictures" = some f) (hfn:Tryz.pinned.checked.prog.funcs[f]? = some fn) :
  true=Tryz.pinned.checked.prog.looks []∧∀(j:Nat) t,fn.params[j]? = some t→Tryz.pinned.checked.prog.wantsStandIn t=false:=by
 obtain rfl:f=3:=Option.some.inj ((show Tryz.prog.funcNamed "darkslide/darkslidelaw.RestPictures" = some 3 by kernel_rfl).symm.trans hf) |>.symm;obtain rfl:fn=Tryz.f3:=(Option.some.inj (Tryz.func3.symm.trans hfn)).symm;refine ⟨by kernel_rfl,fun j t ht=>?_⟩;rw [Tryz.params3] at ht;have hm:=Array.mem_of_getElem? ht;simp only [List.mem_toArray,List.mem_cons,List.not_mem_nil,or_false] at hm
 rcases hm with rfl | rfl | rfl | rfl | rfl
 ·exact (show Tryz.prog.wantsStandIn 28=false by kernel_rfl)
 ·exact (show Tryz.prog.wantsStandIn 31=false by kernel_rfl)
 ·exact (show Tryz.prog.wantsStandIn 3=false by kernel_rfl)
 ·exact (show Tryz.prog.wantsStandIn 34=false by kernel_rfl)
 ·exact (show Tryz.prog.wantsStandIn 37=false by kernel_rfl)
theorem restPictures_holds:Rows.RestPicturesCardSaid:=
 Claim7.holds_tied_plain_at .later [] _ _ _ _ restPictures_said (fun _ h=>by cases h) (by kernel_rfl) (fun _ h=>by cases h) restPictures_row_tie rfl ⟨rfl,rfl⟩ (by kernel_rfl) rfl restPictures_plain (by kernel_rfl)
#print axioms restPictures_holds
end
end Go.Proofs.YtpmnfhifmmfglacGreatDoor
