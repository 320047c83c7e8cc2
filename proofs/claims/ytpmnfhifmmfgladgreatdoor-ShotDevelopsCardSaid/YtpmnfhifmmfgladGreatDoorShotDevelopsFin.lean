/- It is proved that the law ShotDevelops answers true for all its arguments, and leaves them as they were; the package variables that its row lists are tied to the text of the program. Conditions: none. -/
import Derived.Test.YtpmnfhifmmfgladGreatDoorShotDevelopsK4
import Derived.Test.YtpmnfhifmmfgladGreatDoorShotDevelopsK9
import Derived.Test.YtpmnfhifmmfgladGreatDoorShotDevelopsK19
set_option linter.unusedVariables false
set_option linter.unusedSimpArgs false
set_option linter.unusedSectionVars false
set_option maxRecDepth 100000
set_option maxHeartbeats 8000000
namespace Go.Proofs.YtpmnfhifmmfgladGreatDoor
section
open Go.ChangeAt Go.ChangeShapes Go.Joins Go.RowKit Go.WideShapes
noncomputable def shotDevelops_world (os:Os):World:={ World.holding Tryz.prog os ⟨#[.cells #[.string (bs ([118,97,108,117,101,32,111,117,116,32,111,102,32,114,97,110,103,101]:aR))] 267,.cells #[.string (bs ([105,110,118,97,108,105,100,32,115,121,110,116,97,120]:aR))] 267],#[],[]⟩ with heap:=((((((((World.holding Tryz.prog os ⟨#[.cells #[.string (bs ([118,97,108,117,101,32,111,117,116,32,111,102,32,114,97,110,103,101]:aR))] 267,.cells #[.string (bs ([105,110,118,97,108,105,100,32,115,121,110,116,97,120]:aR))] 267],#[],[]⟩).heap).modify 4 fun | .cells _ t frozen=>.cells (cellsOf Rows.laid_math_bits_deBruijn32tab).toArray t frozen|o=>o).modify 5 fun | .cells _ t frozen=>.cells (cellsOf Rows.laid_math_bits_deBruijn64tab).toArray t frozen|o=>o).modify 0 fun | .cells _ t frozen=>.cells (cellsOf Rows.laid_internal_strconv_uint64pow10).toArray t frozen|o=>o).modify 7 fun | .cells _ t frozen=>.cells (cellsOf Rows.laid_unicode_utf8_acceptRanges).toArray t frozen|o=>o).modify 3 fun | .cells _ t frozen=>.cells #[.iface 265 (.pointer (some ⟨(World.holding Tryz.prog os ⟨#[],#[],[]⟩).heap.size+0,0,none⟩))] t frozen|o=>o).modify 2 fun | .cells _ t frozen=>.cells #[.iface 265 (.pointer (some ⟨(World.holding Tryz.prog os ⟨#[],#[],[]⟩).heap.size+1,0,none⟩))] t frozen|o=>o).modify 6 fun | .cells _ t frozen=>.cells (cellsOf Rows.laid_unicode_utf8_first).toArray t frozen|o=>o }
theorem shotDevelops_met (os:Os):laidMet Tryz.prog Rows.shotDevelopsRow.laid ((shotDevelops_world os).forCall (fun _ _=>0) ⟨#[],#[.string (bs ([]:aR)),.agg #[.int .i64 0,.int .i64 0,.int .i64 0,.int .i64 0,.int .i64 0,.int .i64 0,.bool false]],[]⟩).memory:=laidMet_of_run' 8 aQ aQ
theorem shotDevelops_reads (os:Os) {H:Type} (enc:TypeId×Value→H):∃places,DataW.whole enc Tryz.prog ((shotDevelops_world os).forCall (fun _ _=>0) ⟨#[],#[.string (bs ([]:aR)),.agg #[.int .i64 0,.int .i64 0,.int .i64 0,.int .i64 0,.int .i64 0,.int .i64 0,.bool false]],[]⟩).memory Tryz.f3.params.toList Rows.shotDevelopsSpec.vars false (#[.string (bs ([]:aR)),.agg #[.int .i64 0,.int .i64 0,.int .i64 0,.int .i64 0,.int .i64 0,.int .i64 0,.bool false]]:Array Value).toList 8=some ([.lit (.string []),.agg [.lit (.int .i64 0),.agg [.lit (.int .i64 0),.lit (.int .i64 0),.lit (.int .i64 0),.lit (.int .i64 0)],.lit (.int .i64 0),.lit (.bool false)]],[],places):=⟨[],by kernel_rfl⟩
theorem shotDevelops_lifted (os:Os) (started:os.Started) (H:Type) (enc:TypeId×Value→H) (F:Stop.Interp) :
  ReturnsInHanded {} Tryz.checked os 3 .any ((OpenSpec.ofChange Rows.shotDevelopsSpec).preRow enc Tryz.prog Tryz.f3 Rows.shotDevelopsRow.domain false Rows.shotDevelopsRow.laid) (((OpenSpec.ofChange Rows.shotDevelopsSpec).at F).post enc Tryz.prog Tryz.f3 false true false false):=by
 obtain ⟨places,hx⟩:=shotDevelops_reads os enc
 refine returnsInHanded_of_row (C:=Tryz.checked) (s:=(OpenSpec.ofChange Rows.shotDevelopsSpec)) Tryz.own started aQ Tryz.func3
  (witness_row_at (enc:=enc) (C:=Tryz.checked) false (shotDevelops_world os) #[.string (bs ([]:aR)),.agg #[.int .i64 0,.int .i64 0,.int .i64 0,.int .i64 0,.int .i64 0,.int .i64 0,.bool false]] rfl aQ aQ aQ
   (OpenSpec.preRow_of_cond 8 hx aQ (fun k hk=>by cases hk) aQ (shotDevelops_met os))) ?_
 intro W base args ds gs before hval0 hW _ hcond hsz hL _ _;have hval:∀(j:Nat) t v,Tryz.f3.params[j]? = some t→args[j]? = some v→Value.okWide Tryz.prog W .any base t v:=hval0;have hW':=hW;obtain ⟨p,q,hA0,hV,rfl,_,_⟩:=hW;have hA:DataW.TrodAll enc Tryz.prog W 0 (fun _=>true) true Tryz.f3.params.toList args.toList ds p:=hA0;rw [Tryz.params3] at hA hval;obtain ⟨rfl,rfl⟩:=trodVars_none hV;clear hA0 hval0;obtain ⟨v0,vs0,d0,ds0,p0,q0,hargs,rfl,rfl,h0,r0⟩:=trodAll_cons hA;obtain ⟨v1,vs1,d1,ds1,p1,q1,rfl,rfl,rfl,h1,r1⟩:=trodAll_cons r0;obtain ⟨rfl,rfl,rfl⟩:=trodAll_nil r1;obtain rfl:args = #[v0,v1]:=by rw [←Array.toList_inj];exact hargs
 clear hargs;obtain ⟨z_s,rfl,rfl,rfl,f_s⟩:=Go.ChangeMaps.open_string Tryz.underlying9 (hval 0 _ _ rfl rfl) h0;obtain ⟨u1,rfl,n1,y1,t1⟩:=YG Tryz.underlying25 (hval 1 _ _ rfl rfl) h1;obtain ⟨Yl,UA,UB,UC,UD,Ym,Yn,rfl,aOV,aL1,aL2,aCW,aCX,aOW,aOX⟩:=aPa _ _ _ t1;have u_s:z_s.data.toList.length≤140737488355328:=Nat.le_of_lt (Nat.lt_of_le_of_lt (sized_string hsz (j:=0) (t:=9) rfl rfl) reachBytes_lt);have hL':laidMet Tryz.prog Rows.shotDevelopsRow.laid W:=hL
 have HG:Glob W:=by
  refine ⟨Lib.tabIs_of_head (g:=0) (t:=246) (e:=226) (n:=20) aQ aQ aQ aQ aQ aQ (show laidMet _ (("internal/strconv.uint64pow10",Lib.tabData .u64 Lib.pow10Tab)::_) W from hL'.tail.tail),?_,?_⟩
  ·exact Qt (g:=2) (ti:=107) (show laidMet _ (("strconv.ErrSyntax",.iface _ _)::_) W from hL'.tail.tail.tail.tail.tail) aQ aQ Tryz.underlying107
  ·exact Qt (g:=3) (ti:=107) (show laidMet _ (("strconv.ErrRange",.iface _ _)::_) W from hL'.tail.tail.tail.tail) aQ aQ Tryz.underlying107
 refine (F9 8589934592 z_s.data.toList Yl UA UB UC UD Ym Yn W HG true (Nv z_s.data.toList Yl UA UB UC UD Ym Yn aCW aCX u_s)).mono fun e W' ⟨v,he,hv,hM⟩=>?_
 subst hv;subst he;have hw:=hM.low;exact ⟨_,rfl,aF8 (s:=Rows.shotDevelopsSpec) (tb:=4) Tryz.laid aQ rfl Tryz.underlying4 rfl hW' rfl rfl rfl hw⟩
theorem shotDevelops_said:Rows.ShotDevelopsSaid:=
 OpenClaim.holds_of_cond 3 Tryz.f3 rfl rfl rfl rfl rfl rfl rfl ⟨rfl,rfl,rfl,rfl,rfl⟩ rfl rfl rfl rfl rfl aQ Tryz.func3 aQ
  (bW aQ) (by unfold Func.isWrapper;first|(rw [aF (by decide +kernel)];kernel_rfl)|(rw [aE (by decide +kernel)];exact ⟨rfl,rfl⟩))
  (fun os started H enc _ F=>by rw [OpenClaim.pre_eq_preRow];exact shotDevelops_lifted os started H enc F)
theorem shotDevelops_plain (f:FuncId) (fn:Func) (hf:Tryz.pinned.checked.prog.funcNamed "darkslide/darkslidelaw.ShotDevelops" = some f) (hfn:Tryz.pinned.checked.prog.funcs[f]? = some fn) :
  true=Tryz.pinned.checked.prog.looks []∧∀(j:Nat) t,fn.params[j]? = some t→Tryz.pinned.checked.prog.wantsStandIn t=false:=by
 obtain rfl:f=3:=Option.some.inj ((show Tryz.prog.funcNamed "darkslide/darkslidelaw.ShotDevelops" = some 3 by kernel_rfl).symm.trans hf) |>.symm;obtain rfl:fn=Tryz.f3:=(Option.some.inj (Tryz.func3.symm.trans hfn)).symm;refine ⟨by kernel_rfl,fun j t ht=>?_⟩;rw [Tryz.params3] at ht;have hm:=Array.mem_of_getElem? ht;simp only [List.mem_toArray,List.mem_cons,List.not_mem_nil,or_false] at hm
 rcases hm with rfl|rfl
 ·exact (show Tryz.prog.wantsStandIn 9=false by kernel_rfl)
 ·exact (show Tryz.prog.wantsStandIn 25=false by kernel_rfl)
theorem shotDevelops_holds:Rows.ShotDevelopsCardSaid:=
 Claim7.holds_tied_plain_at .later [] _ _ _ _ shotDevelops_said (fun _ h=>by cases h) aQ (fun _ h=>by cases h) shotDevelops_row_tie rfl ⟨rfl,rfl⟩ aQ rfl shotDevelops_plain aQ
#print axioms shotDevelops_holds
end
end Go.Proofs.YtpmnfhifmmfgladGreatDoor
