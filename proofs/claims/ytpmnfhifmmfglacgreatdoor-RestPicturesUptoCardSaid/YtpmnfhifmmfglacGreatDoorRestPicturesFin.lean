/- It is proved that the law RestPictures answers true for all its arguments of bulk at most 1048576, and leaves them as they were; the package variables that its row lists are tied to the text of the program. Conditions: that bulk. -/
import Derived.Test.YtpmnfhifmmfglacGreatDoorRestPicturesK4
import Derived.Test.YtpmnfhifmmfglacGreatDoorRestPicturesK8
import Derived.Test.YtpmnfhifmmfglacGreatDoorRestPicturesK14
set_option linter.unusedVariables false
set_option linter.unusedSimpArgs false
set_option linter.unusedSectionVars false
set_option maxRecDepth 100000
set_option maxHeartbeats 8000000
namespace Go.Proofs.YtpmnfhifmmfglacGreatDoor
section
open Go.ChangeAt Go.ChangeShapes Go.Joins Go.RowKit Go.WideShapes
noncomputable def restPictures_world (os:Os):World:={ World.holding Tryz.prog os ⟨#[],#[],[]⟩ with heap:=(((World.holding Tryz.prog os ⟨#[],#[],[]⟩).heap).modify 7 fun | .cells _ t frozen=>.cells (cellsOf Rows.laid_unicode_utf8_acceptRanges).toArray t frozen | o=>o).modify 6 fun | .cells _ t frozen=>.cells (cellsOf Rows.laid_unicode_utf8_first).toArray t frozen | o=>o }
theorem restPictures_met (os:Os):laidMet Tryz.prog Rows.restPicturesUptoRow.laid ((restPictures_world os).forCall (fun _ _=>0) ⟨#[],#[.agg #[.int .i64 0,.int .i64 0,.int .i64 0,.int .i64 0,.int .i64 0,.int .i64 0,.slice none 0 0,.int .i64 0,.int .i64 0,.int .i64 0,.int .i64 0,.int .i64 0,.int .i64 0,.int .i64 0,.int .i64 0,.int .i64 0,.int .i64 0,.int .i64 0,.int .i64 0,.slice none 0 0,.int .i64 0],.agg #[.int .i64 0,.int .i64 0,.slice none 0 0],.int .i64 0,.agg #[.int .i64 0,.int .i64 0,.slice none 0 0],.agg #[.int .i64 0,.int .i64 0,.int .i64 0,.int .i64 0,.int .i64 0,.slice none 0 0,.slice none 0 0,.int .i64 0,.int .i64 0,.int .i64 0,.int .i64 0,.int .i64 0,.int .i64 0,.slice none 0 0,.int .i64 0,.int .i64 0,.int .i64 0,.int .i64 0,.int .i64 0,.int .i64 0,.int .i64 0,.int .i64 0,.int .i64 0,.int .i64 0,.int .i64 0,.int .i64 0,.slice none 0 0,.int .i64 0]],[]⟩).memory:=laidMet_of_run' 8 (by kernel_rfl) (by kernel_rfl)
theorem restPictures_reads (os:Os) {H:Type} (enc:TypeId × Value→H):∃places,DataW.whole enc Tryz.prog ((restPictures_world os).forCall (fun _ _=>0) ⟨#[],#[.agg #[.int .i64 0,.int .i64 0,.int .i64 0,.int .i64 0,.int .i64 0,.int .i64 0,.slice none 0 0,.int .i64 0,.int .i64 0,.int .i64 0,.int .i64 0,.int .i64 0,.int .i64 0,.int .i64 0,.int .i64 0,.int .i64 0,.int .i64 0,.int .i64 0,.int .i64 0,.slice none 0 0,.int .i64 0],.agg #[.int .i64 0,.int .i64 0,.slice none 0 0],.int .i64 0,.agg #[.int .i64 0,.int .i64 0,.slice none 0 0],.agg #[.int .i64 0,.int .i64 0,.int .i64 0,.int .i64 0,.int .i64 0,.slice none 0 0,.slice none 0 0,.int .i64 0,.int .i64 0,.int .i64 0,.int .i64 0,.int .i64 0,.int .i64 0,.slice none 0 0,.int .i64 0,.int .i64 0,.int .i64 0,.int .i64 0,.int .i64 0,.int .i64 0,.int .i64 0,.int .i64 0,.int .i64 0,.int .i64 0,.int .i64 0,.int .i64 0,.slice none 0 0,.int .i64 0]],[]⟩).memory Tryz.f3.params.toList Rows.restPicturesSpec.vars false (#[.agg #[.int .i64 0,.int .i64 0,.int .i64 0,.int .i64 0,.int .i64 0,.int .i64 0,.slice none 0 0,.int .i64 0,.int .i64 0,.int .i64 0,.int .i64 0,.int .i64 0,.int .i64 0,.int .i64 0,.int .i64 0,.int .i64 0,.int .i64 0,.int .i64 0,.int .i64 0,.slice none 0 0,.int .i64 0],.agg #[.int .i64 0,.int .i64 0,.slice none 0 0],.int .i64 0,.agg #[.int .i64 0,.int .i64 0,.slice none 0 0],.agg #[.int .i64 0,.int .i64 0,.int .i64 0,.int .i64 0,.int .i64 0,.slice none 0 0,.slice none 0 0,.int .i64 0,.int .i64 0,.int .i64 0,.int .i64 0,.int .i64 0,.int .i64 0,.slice none 0 0,.int .i64 0,.int .i64 0,.int .i64 0,.int .i64 0,.int .i64 0,.int .i64 0,.int .i64 0,.int .i64 0,.int .i64 0,.int .i64 0,.int .i64 0,.int .i64 0,.slice none 0 0,.int .i64 0]]:Array Value).toList 8=some ([.agg [.lit (.int .i64 0),.agg [.lit (.int .i64 0),.lit (.int .i64 0),.lit (.int .i64 0),.lit (.int .i64 0)],.lit (.int .i64 0),.nil,.agg [.lit (.int .i64 0),.lit (.int .i64 0),.lit (.int .i64 0)],.agg [.lit (.int .i64 0),.lit (.int .i64 0),.lit (.int .i64 0),.lit (.int .i64 0),.lit (.int .i64 0),.lit (.int .i64 0),.lit (.int .i64 0),.lit (.int .i64 0),.lit (.int .i64 0)],.nil,.lit (.int .i64 0)],.agg [.lit (.int .i64 0),.lit (.int .i64 0),.nil],.lit (.int .i64 0),.agg [.lit (.int .i64 0),.lit (.int .i64 0),.nil],.agg [.lit (.int .i64 0),.lit (.int .i64 0),.lit (.int .i64 0),.lit (.int .i64 0),.lit (.int .i64 0),.nil,.nil,.agg [.lit (.int .i64 0),.agg [.lit (.int .i64 0),.lit (.int .i64 0),.lit (.int .i64 0),.lit (.int .i64 0)],.lit (.int .i64 0),.nil,.agg [.lit (.int .i64 0),.lit (.int .i64 0),.lit (.int .i64 0)],.agg [.lit (.int .i64 0),.lit (.int .i64 0),.lit (.int .i64 0),.lit (.int .i64 0),.lit (.int .i64 0),.lit (.int .i64 0),.lit (.int .i64 0),.lit (.int .i64 0),.lit (.int .i64 0)],.nil,.lit (.int .i64 0)]]],[],places):=⟨[],by kernel_rfl⟩
theorem restPictures_lifted (os:Os) (started:os.Started) (H:Type) (enc:TypeId × Value→H) (F:Stop.Interp) :
  ReturnsInHanded {} Tryz.checked os 3 .any ((Rows.OpenSpec.upto Rows.restPicturesSpec).preRow enc Tryz.prog Tryz.f3 Rows.restPicturesUptoRow.domain false Rows.restPicturesUptoRow.laid) (((Rows.OpenSpec.upto Rows.restPicturesSpec).at F).post enc Tryz.prog Tryz.f3 false true false false):=by
 obtain ⟨places,hx⟩:=restPictures_reads os enc
 refine returnsInHanded_of_row (C:=Tryz.checked) (s:=(Rows.OpenSpec.upto Rows.restPicturesSpec)) Tryz.own started (by kernel_rfl) Tryz.func3
  (witness_row_at (enc:=enc) (C:=Tryz.checked) false (restPictures_world os) #[.agg #[.int .i64 0,.int .i64 0,.int .i64 0,.int .i64 0,.int .i64 0,.int .i64 0,.slice none 0 0,.int .i64 0,.int .i64 0,.int .i64 0,.int .i64 0,.int .i64 0,.int .i64 0,.int .i64 0,.int .i64 0,.int .i64 0,.int .i64 0,.int .i64 0,.int .i64 0,.slice none 0 0,.int .i64 0],.agg #[.int .i64 0,.int .i64 0,.slice none 0 0],.int .i64 0,.agg #[.int .i64 0,.int .i64 0,.slice none 0 0],.agg #[.int .i64 0,.int .i64 0,.int .i64 0,.int .i64 0,.int .i64 0,.slice none 0 0,.slice none 0 0,.int .i64 0,.int .i64 0,.int .i64 0,.int .i64 0,.int .i64 0,.int .i64 0,.slice none 0 0,.int .i64 0,.int .i64 0,.int .i64 0,.int .i64 0,.int .i64 0,.int .i64 0,.int .i64 0,.int .i64 0,.int .i64 0,.int .i64 0,.int .i64 0,.int .i64 0,.slice none 0 0,.int .i64 0]] rfl (by kernel_rfl) (by kernel_rfl) (by kernel_rfl)
   (OpenSpec.preRow_of_cond 8 hx (by kernel_rfl) (fun k hk=>by cases hk;kernel_rfl) (by kernel_rfl) (restPictures_met os))) ?_
 intro W base args ds gs before hval0 hW _ hcond hsz hL _ _;have hval:∀(j:Nat) t v,Tryz.f3.params[j]? = some t→args[j]? = some v→Value.okWide Tryz.prog W .any base t v:=hval0;have hW':=hW;obtain ⟨p,q,hA0,hV,rfl,_,_⟩:=hW;have hA:DataW.TrodAll enc Tryz.prog W 0 (fun _=>true) true Tryz.f3.params.toList args.toList ds p:=hA0;rw [Tryz.params3] at hA hval;obtain ⟨rfl,rfl⟩:=trodVars_none hV;clear hA0 hval0;obtain ⟨v0,vs0,d0,ds0,p0,q0,hargs,rfl,rfl,h0,r0⟩:=trodAll_cons hA;obtain ⟨v1,vs1,d1,ds1,p1,q1,rfl,rfl,rfl,h1,r1⟩:=trodAll_cons r0;obtain ⟨v2,vs2,d2,ds2,p2,q2,rfl,rfl,rfl,h2,r2⟩:=trodAll_cons r1;obtain ⟨v3,vs3,d3,ds3,p3,q3,rfl,rfl,rfl,h3,r3⟩:=trodAll_cons r2;obtain ⟨v4,vs4,d4,ds4,p4,q4,rfl,rfl,rfl,h4,r4⟩:=trodAll_cons r3;obtain ⟨rfl,rfl,rfl⟩:=trodAll_nil r4;obtain rfl:args = #[v0,v1,v2,v3,v4]:=by rw [←Array.toList_inj];exact hargs
 clear hargs;obtain ⟨u0,rfl,n0,y0,t0,hy0⟩:=Fl Tryz.underlying28 (hval 0 _ _ rfl rfl) h0;obtain ⟨PP,OB,OC,OD,OE,PQ,IT,PR,PS,OF,OG,OH,Mk,Ml,Mm,Mn,Mo,Mp,Mq,Mr,Ms,IU,PT,PU,OJ,rfl,aFF,aFt,aFu,aFv,aFw,aFG,PV,aFx,aFy,aFz,aDJ,aDK,aDL,aDM,aDN,aDO,aDP,aDQ,aDR,PW,aFA⟩:=aFZ _ _ _ t0;obtain ⟨u1,rfl,n1,y1,t1,hy1⟩:=Fl Tryz.underlying31 (hval 1 _ _ rfl rfl) h1;obtain ⟨aDS,aDT,V2,pP,kW,rfl,aJG,aJH,aDU⟩:=aIS _ _ _ t1;obtain ⟨u2,rfl,n2,y2,t2⟩:=aBk Tryz.underlying3 (hval 2 _ _ rfl rfl) h2;obtain ⟨aHE,e2,aJ0⟩:=HT _ _ _ t2;obtain rfl:=(List.cons.inj e2).1;obtain ⟨u3,rfl,n3,y3,t3,hy3⟩:=Fl Tryz.underlying34 (hval 3 _ _ rfl rfl) h3;obtain ⟨aAZ,aA0,Rs,DR,DS,rfl,aJw,aJx,aA1⟩:=aIX _ _ _ t3;obtain ⟨u4,rfl,n4,y4,t4,hy4⟩:=Fl Tryz.underlying37 (hval 4 _ _ rfl rfl) h4;obtain ⟨aA2,aA3,OK,PX,PY,IV,xN,xO,FE,tM,tN,HH,GI,GJ,GK,GL,HI,AQ,nT,nU,GM,GN,GO,FF,FG,FH,FI,FJ,FK,FL,FM,FN,AR,nV,nW,GP,rfl,aJy,aJz,aFB,aFH,aFI,PZ,Mt,XG,Xk,Xl,Xm,Xn,XH,HJ,Xo,Xp,Xq,V3,V4,V5,V6,V7,V8,V9,Wa,Wb,HM,Xr⟩:=aIu _ _ _ t4;have hb0:Rows.uptoBulk y0.1≤1048576:=by rw [hy0];exact GT (hcond _ rfl) (by simp)
 have aFJ:IT.length≤1048576:=by
  obtain ⟨_,ya0,US,ba0⟩:=tL (i:=3) Tryz.underlying28 t0 rfl;have hs:=yL (A:=PR) (m:=IT.length) (c:=PS) Tryz.underlying23 (by show List.take (Tryz.prog.cellsOf 23) (List.drop 6 _)=_;simp only [aD6];rfl) US
  omega
 have aFK:IU.length≤1048576:=by
  obtain ⟨_,ya0,US,ba0⟩:=tL (i:=6) Tryz.underlying28 t0 rfl;have hs:=yL (A:=PT) (m:=IU.length) (c:=PU) Tryz.underlying26 (by show List.take (Tryz.prog.cellsOf 26) (List.drop 19 _)=_;simp only [aD7];rfl) US
  omega
 have hb1:Rows.uptoBulk y1.1≤1048576:=by rw [hy1];exact GT (hcond _ rfl) (by simp)
 have aHF:V2.length≤1048576:=by
  obtain ⟨_,ya0,US,ba0⟩:=tL (i:=2) Tryz.underlying31 t1 rfl;have hs:=yL (A:=pP) (m:=V2.length) (c:=kW) Tryz.underlying29 (by show List.take (Tryz.prog.cellsOf 29) (List.drop 2 _)=_;simp only [aBl];rfl) US
  omega
 have hb3:Rows.uptoBulk y3.1≤1048576:=by rw [hy3];exact GT (hcond _ rfl) (by simp)
 have aFC:Rs.length≤1048576:=by
  obtain ⟨_,ya0,US,ba0⟩:=tL (i:=2) Tryz.underlying34 t3 rfl;have hs:=yL (A:=DR) (m:=Rs.length) (c:=DS) Tryz.underlying32 (by show List.take (Tryz.prog.cellsOf 32) (List.drop 2 _)=_;simp only [aGo];rfl) US
  omega
 have hb4:Rows.uptoBulk y4.1≤1048576:=by rw [hy4];exact GT (hcond _ rfl) (by simp)
 have aFL:IV.length≤1048576:=by
  obtain ⟨_,ya0,US,ba0⟩:=tL (i:=5) Tryz.underlying37 t4 rfl;have hs:=yL (A:=xN) (m:=IV.length) (c:=xO) Tryz.underlying29 (by show List.take (Tryz.prog.cellsOf 29) (List.drop 5 _)=_;simp only [aBl];rfl) US
  omega
 have Ti:FE.length≤1048576:=by
  obtain ⟨_,ya0,US,ba0⟩:=tL (i:=6) Tryz.underlying37 t4 rfl;have hs:=yL (A:=tM) (m:=FE.length) (c:=tN) Tryz.underlying35 (by show List.take (Tryz.prog.cellsOf 35) (List.drop 6 _)=_;simp only [aFV];rfl) US
  omega
 have XI:AQ.length≤1048576:=by
  obtain ⟨_,ya0,US,ba0⟩:=tL (i:=7) Tryz.underlying37 t4 rfl;obtain ⟨_,ya1,ta1,ba1⟩:=tL (i:=3) Tryz.underlying28 US rfl;have hs:=yL (A:=nT) (m:=AQ.length) (c:=nU) Tryz.underlying23 (by show List.take (Tryz.prog.cellsOf 23) (List.drop 6 (List.take (Tryz.prog.cellsOf 28) (List.drop 7 _)))=_;simp only [aBm,aD6];rfl) ta1
  omega
 have XJ:AR.length≤1048576:=by
  obtain ⟨_,ya0,US,ba0⟩:=tL (i:=7) Tryz.underlying37 t4 rfl;obtain ⟨_,ya1,ta1,ba1⟩:=tL (i:=6) Tryz.underlying28 US rfl;have hs:=yL (A:=nV) (m:=AR.length) (c:=nW) Tryz.underlying26 (by show List.take (Tryz.prog.cellsOf 26) (List.drop 19 (List.take (Tryz.prog.cellsOf 28) (List.drop 7 _)))=_;simp only [aBm,aD7];rfl) ta1
  omega
 refine (Eo 8589934592 PP OB OC OD OE PQ IT PR PS OF OG OH Mk Ml Mm Mn Mo Mp Mq Mr Ms IU PT PU OJ aDS aDT V2 pP kW aHE aAZ aA0 Rs DR DS aA2 aA3 OK PX PY IV xN xO FE tM tN HH GI GJ GK GL HI AQ nT nU GM GN GO FF FG FH FI FJ FK FL FM FN AR nV nW GP W PV.1 PV.2.1 PW.1 PW.2.1 aDU.1 aDU.2.1 aA1.1 aA1.2.1 PZ.1 PZ.2.1 Mt.1 Mt.2.1 HJ.1 HJ.2.1 HM.1 HM.2.1 true (W9 PP OB OC OD OE PQ IT OF OG OH Mk Ml Mm Mn Mo Mp Mq Mr Ms IU OJ aDS aDT V2 aHE aAZ aA0 Rs aA2 aA3 OK PX PY IV FE HH GI GJ GK GL HI AQ GM GN GO FF FG FH FI FJ FK FL FM FN AR GP aHF aFC Ti)).mono fun e W' ⟨v,he,hv,hM⟩=>?_
 subst hv;subst he;have hw:=hM.low;exact ⟨_,rfl,aA5 (s:=Rows.restPicturesSpec) (tb:=4) Tryz.laid (by kernel_rfl) rfl Tryz.underlying4 rfl hW' rfl rfl rfl hw⟩
theorem restPictures_said:Rows.RestPicturesUptoSaid:=
 OpenClaim.holds_of_cond 3 Tryz.f3 rfl rfl rfl rfl rfl rfl rfl ⟨rfl,rfl,rfl,rfl,rfl⟩ rfl rfl rfl rfl rfl (by kernel_rfl) Tryz.func3 (by kernel_rfl)
  (of_decide_eq_true (by kernel_rfl)) (by unfold Func.isWrapper;first | (rw [if_pos (by decide +kernel)];kernel_rfl) | (rw [if_neg (by decide +kernel)];exact ⟨rfl,rfl⟩))
  (fun os started H enc _ F=>by rw [OpenClaim.pre_eq_preRow];exact restPictures_lifted os started H enc F)
theorem restPictures_plain (f:FuncId) (fn:Func) (hf:Tryz.pinned.checked.prog.funcNamed "darkslide/darkslidelaw.RestPictures" = some f) (hfn:Tryz.pinned.checked.prog.funcs[f]? = some fn) :
  true=Tryz.pinned.checked.prog.looks []∧∀(j:Nat) t,fn.params[j]? = some t→Tryz.pinned.checked.prog.wantsStandIn t=false:=by
 obtain rfl:f=3:=Option.some.inj ((show Tryz.prog.funcNamed "darkslide/darkslidelaw.RestPictures" = some 3 by kernel_rfl).symm.trans hf) |>.symm;obtain rfl:fn=Tryz.f3:=(Option.some.inj (Tryz.func3.symm.trans hfn)).symm;refine ⟨by kernel_rfl,fun j t ht=>?_⟩;rw [Tryz.params3] at ht;have hm:=Array.mem_of_getElem? ht;simp only [List.mem_toArray,List.mem_cons,List.not_mem_nil,or_false] at hm
 rcases hm with rfl | rfl | rfl | rfl | rfl
 ·exact (show Tryz.prog.wantsStandIn 28=false by kernel_rfl)
 ·exact (show Tryz.prog.wantsStandIn 31=false by kernel_rfl)
 ·exact (show Tryz.prog.wantsStandIn 3=false by kernel_rfl)
 ·exact (show Tryz.prog.wantsStandIn 34=false by kernel_rfl)
 ·exact (show Tryz.prog.wantsStandIn 37=false by kernel_rfl)
theorem restPictures_holds:Rows.RestPicturesUptoCardSaid:=
 Claim7.holds_tied_plain_at .later [] _ _ _ _ restPictures_said (fun _ h=>by cases h) (by kernel_rfl) (fun _ h=>by cases h) restPicturesUpto_row_tie rfl ⟨rfl,rfl⟩ (by kernel_rfl) rfl restPictures_plain (by kernel_rfl)
#print axioms restPictures_holds
end
end Go.Proofs.YtpmnfhifmmfglacGreatDoor
