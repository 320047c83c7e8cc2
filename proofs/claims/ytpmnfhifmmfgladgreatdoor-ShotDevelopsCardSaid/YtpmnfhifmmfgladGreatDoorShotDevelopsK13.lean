/- Parts of the proof. -/
import Derived.Test.YtpmnfhifmmfgladGreatDoorShotDevelopsK5
import Derived.Test.YtpmnfhifmmfgladGreatDoorShotDevelopsK10
import Derived.Test.YtpmnfhifmmfgladGreatDoorShotDevelopsK12
set_option linter.unusedVariables false
set_option linter.unusedSimpArgs false
set_option linter.unusedSectionVars false
set_option maxRecDepth 100000
set_option maxHeartbeats 8000000
open Go.IntKind renaming i64→aC
namespace Go.Proofs.YtpmnfhifmmfgladGreatDoor
section
open Go.RowKit
section
variable {kK Jy:Option Addr} {N kW Jz BC:Nat} {lK gF Fc Dt y:Int} {gG D6:List bU} {w0:World}
theorem Av {p:Prop} (h:p:=by exact eB 5 (((Mem.cC 65 3 dJ M)).pick [0] aL)):p:=h
theorem aAd {eA fY:Int} {fZ:List bU} {kY:Option Addr} {kZ:Nat} {o_X o_Y C8 GJ:Int} {r:yH} (h:C9 N eA fY fZ o_X o_Y C8 GJ=some r) (AN:SL w0 dJ kY fZ) (IG:fZ.length≤kZ) :
  lL 10 #[.agg #[I eA,I fY,.slice kY fZ.length kZ],.agg #[I o_X,I o_Y,I C8,I GJ]] w0 (JN r w0):=by
 refine gE Tryz.func10 Tryz.ntmps10 ?_;intro M;unfold C9 at h;refine eE 2 ?_;intro jM w M;refine eE 0 ?_;intro dY w M;refine eE 0 ?_;intro fN w M;obtain ⟨r2,cR,h⟩:=aB h;refine fP 7 (AD cR) ?_;intro A c w M;refine eE 3 ?_;intro vM w M;refine cV 0 ?_;intro w M;refine cB 9 h ?_ ?_
 ·intro hb h;refine cV 4 ?_;intro w M;exact Av
 intro hb h;refine kJ 9 23 h ?_ ?_
 ·intro hb h;refine cV 54 ?_;intro w M;exact Av
 intro hb h;refine kJ 5 28 h ?_ ?_
 ·intro hb h;refine cV 49 ?_;intro w M;exact Av
 intro hb h;refine kJ 7 35 h ?_ ?_
 ·intro hb h;refine cV 42 ?_;intro w M;exact Av
 intro hb h;refine kJ 7 42 h ?_ ?_
 ·intro hb h;refine cV 35 ?_;intro w M;exact Av
 intro hb h;refine kJ 5 47 h ?_ ?_
 ·intro hb h;refine cV 30 ?_;intro w M;exact Av
 intro hb h;refine kJ 5 52 h ?_ ?_
 ·intro hb h;refine cV 25 ?_;intro w M;exact Av
 intro hb h;refine kJ 10 62 h ?_ ?_
 ·intro hb h;refine cV 15 ?_;intro w M;exact Av
 intro hb h;refine cB 11 h ?_ ?_
 ·intro hb h;refine cV 3 ?_;intro w M;exact Av
 intro hb h;refine aH 8 ?_;refine jO (fun _ K=>bQ rfl K (vs:=[(0,I C8),(1,I GJ)]) (cs:=[I C8,I GJ,.slice none (([]:List bU)).length 0]) rfl aQ) M ?_;refine eE 0 ?_;intro D8 w M;refine cV 0 ?_;intro w M;refine aH 11 ?_;replace M:=Mem.cC 65 3 dJ M;refine pM 0 0 [2,3,4,8,79] [4,5,6] (fun ZL ZM (⟨tE,i⟩:pN) a w=>∃(A2:Option Addr) (c2:Nat),Kn a 107 ((80,I i)::ZL)∧jL w0 w (.row 65 3 A2 tE.length c2 (dJ.all tE) :: .blk D8 50 [I C8,I GJ,.slice A2 tE.length c2]::ZM)) (M.pick [0,1,4,5,6] aL) ?_ ?_
 ·rintro ⟨sZ,i2⟩ a w ⟨A5,c5,K,M⟩ h
  revert a;refine cV 5 ?_;intro w M;exact eB 4 M.oQ
 rintro kk aA ⟨tE,i⟩ a w hk1 ⟨A2,c2,K,M⟩ h;unfold AB at h;revert a;refine cB 6 h ?_ ?_
 ·intro hb h;obtain ⟨x3,hx,h⟩:=cL h;refine kN 22 hx ?_;refine aH 2 ?_;intro a K;refine aK (fun w=>Mem _ _ w _) [0,0,0,0,0,0,0,0,0,0,1,0,2] aQ aQ (M.pick [1,2,3,4] aL).drew ?_;replace M:=M.drew;revert a;obtain ⟨l3,Ih,h⟩:=aB h;refine aH 9 ?_;refine G4 (fun _ K=>Fa (C:=dJ) (k:=.i64) (k':=.i64) rfl wU rfl K rfl IG rfl rfl Ih) ?_;obtain ⟨Ak,Ju,h⟩:=aB h;refine Gf (fun _ K=>fQ (C:=dJ) (xs:=tE) (ys:=l3) rfl wU rfl z65 rfl rfl K rfl rfl 0 M rfl ((fun w M=>(I4 Ih IG) w ((Cc AN) w M)) _ M) Ju) ?_;rintro _ w ⟨A4,c4,rfl,M⟩;refine ⟨M.toS,?_⟩;refine aH 1 ?_;refine z7 (fun _ K=>jX M K 1) ?_;intro _ w M;exact iG 8 (Ak,aC.wrap (i+1)) (M.pick [0,1,2,3,4] aL)
 intro hb h;exact jY 3 (hk1 (tE,i)) (M.pick [0,1,2,3,4] aL)
theorem V3 {r:Bool×Bool×Bool×Bool×Bool×Bool×Bool×Bool×Bool×Bool×Bool×Bool×Bool×Bool×Bool×Bool×Bool×Bool×Bool×Bool×Bool×Bool×Bool×Bool×Bool×Bool×Bool} (h:I8 N  = some r) :
  lL 43 #[] w0 fun v w'=>v = .agg #[.bool r.1,.bool r.2.1,.bool r.2.2.1,.bool r.2.2.2.1,.bool r.2.2.2.2.1,.bool r.2.2.2.2.2.1,.bool r.2.2.2.2.2.2.1,.bool r.2.2.2.2.2.2.2.1,.bool r.2.2.2.2.2.2.2.2.1,.bool r.2.2.2.2.2.2.2.2.2.1,.bool r.2.2.2.2.2.2.2.2.2.2.1,.bool r.2.2.2.2.2.2.2.2.2.2.2.1,.bool r.2.2.2.2.2.2.2.2.2.2.2.2.1,.bool r.2.2.2.2.2.2.2.2.2.2.2.2.2.1,.bool r.2.2.2.2.2.2.2.2.2.2.2.2.2.2.1,.bool r.2.2.2.2.2.2.2.2.2.2.2.2.2.2.2.1,.bool r.2.2.2.2.2.2.2.2.2.2.2.2.2.2.2.2.1,.bool r.2.2.2.2.2.2.2.2.2.2.2.2.2.2.2.2.2.1,.bool r.2.2.2.2.2.2.2.2.2.2.2.2.2.2.2.2.2.2.1,.bool r.2.2.2.2.2.2.2.2.2.2.2.2.2.2.2.2.2.2.2.1,.bool r.2.2.2.2.2.2.2.2.2.2.2.2.2.2.2.2.2.2.2.2.1,.bool r.2.2.2.2.2.2.2.2.2.2.2.2.2.2.2.2.2.2.2.2.2.1,.bool r.2.2.2.2.2.2.2.2.2.2.2.2.2.2.2.2.2.2.2.2.2.2.1,.bool r.2.2.2.2.2.2.2.2.2.2.2.2.2.2.2.2.2.2.2.2.2.2.2.1,.bool r.2.2.2.2.2.2.2.2.2.2.2.2.2.2.2.2.2.2.2.2.2.2.2.2.1,.bool r.2.2.2.2.2.2.2.2.2.2.2.2.2.2.2.2.2.2.2.2.2.2.2.2.2.1,.bool r.2.2.2.2.2.2.2.2.2.2.2.2.2.2.2.2.2.2.2.2.2.2.2.2.2.2]∧jL w0 w' []:=by
 refine gE Tryz.func43 Tryz.ntmps43 ?_;intro M;unfold I8 at h;refine eE 2 ?_;intro jM w M;refine aH 5 ?_;refine jO (fun _ K=>bQ rfl K (vs:=[(1,.bool true)]) (cs:=[.bool false,.bool true,.bool false]) rfl aQ) M ?_;refine jO (fun _ K=>bQ rfl K (vs:=[(1,.bool true),(2,.bool true)]) (cs:=[.bool false,.bool true,.bool true]) rfl aQ) M ?_;refine jO (fun _ K=>bQ rfl K (vs:=[(2,.bool true)]) (cs:=[.bool false,.bool false,.bool true]) rfl aQ) M ?_;refine jO (fun _ K=>bQ rfl K (vs:=[(0,.bool true)]) (cs:=[.bool true,.bool false,.bool false]) rfl aQ) M ?_;refine jO (fun _ K=>bQ rfl K (vs:=[(0,.bool true),(1,.bool true)]) (cs:=[.bool true,.bool true,.bool false]) rfl aQ) M ?_;refine jO (fun _ K=>bQ rfl K (vs:=[(0,.bool true),(1,.bool true),(2,.bool true)]) (cs:=[.bool true,.bool true,.bool true]) rfl aQ) M ?_;refine jO (fun _ K=>bQ rfl K (vs:=[(0,.bool true),(2,.bool true)]) (cs:=[.bool true,.bool false,.bool true]) rfl aQ) M ?_;refine jO (fun _ K=>bQ rfl K (vs:=[(1,.agg #[.bool false,.bool false,.bool false]),(2,.agg #[.bool false,.bool true,.bool false]),(3,.agg #[.bool false,.bool true,.bool true]),(4,.agg #[.bool false,.bool false,.bool true]),(5,.agg #[.bool true,.bool false,.bool false]),(6,.agg #[.bool true,.bool true,.bool false]),(7,.agg #[.bool true,.bool true,.bool true]),(8,.agg #[.bool true,.bool false,.bool true])]) (cs:=[.bool false,.bool false,.bool false,.bool false,.bool false,.bool false,.bool false,.bool true,.bool false,.bool false,.bool true,.bool true,.bool false,.bool false,.bool true,.bool true,.bool false,.bool false,.bool true,.bool true,.bool false,.bool true,.bool true,.bool true,.bool true,.bool false,.bool true]) rfl aQ) M ?_;refine cV 0 ?_;intro w M;exact bP 3 M.nQ
theorem N7 {p:Prop} (h:p:=by exact iG 8 (l4,aC.wrap (i+1)) (M.pick [1,2,3,4] aL)):p:=h
theorem N8 {p:Prop} (h:p:=by exact jY 3 (hk1 (cJ,i)) (M.pick [0,1,2,3] aL)):p:=h
theorem N9 {p:Prop} (h:p:=by exact iG 8 (l7,aC.wrap (i3+1)) (M.pick [1,2,3,4] aL)):p:=h
theorem Oa {p:Prop} (h:p:=by exact jY 3 (hk1 (gA,i3)) (M.pick [0,1,2,3] aL)):p:=h
theorem Sp {r:nJ} (h:wD N gF lK gG=some r) (Ar:SL w0 dJ kK gG) (zT:gG.length≤kW) :
  lL 44 #[.agg #[I gF,I lK,.slice kK gG.length kW]] w0 (KZ r w0):=by
 refine gE Tryz.func44 Tryz.ntmps44 ?_;intro M;unfold wD at h;refine eE 2 ?_;intro LK w M;refine eE 0 ?_;intro jM w M;refine aH 3 ?_;refine Jr [0,0,0,0,0,0,0,1,0,1,2] 11 [0,1,2,3,4,5,6,7,8,9,10] M ?_;replace M:=M.drew;obtain ⟨x2,hx,h⟩:=cL h;refine aH 6 ?_;refine Ce 6 rfl (fun _ K=>V4 hx (AV rfl SX K rfl)) ?_;refine MX 7 9 ?_ ?_
 ·obtain ⟨l2,z8,h⟩:=aB h;refine rD rfl (fun _ K=>sJ (C:=dJ) (z:=(0,0,0)) rfl wU rfl z65 rfl K rfl rfl M z8) ?_;rintro _ w ⟨A,c,rfl,M⟩;refine ⟨fun _=>M.toS,?_⟩;refine Ce 8 rfl (fun _ K=>bQ rfl K (vs:=[(0,I lK),(1,I gF),(2,.slice A l2.length c)]) (cs:=[I lK,I gF,.slice A l2.length c]) rfl aQ) ?_;refine nK 9 ?_;refine rD rfl (fun _ K=>Ka M) ?_;rintro _ w ⟨vF,rfl,M⟩;refine ⟨fun _=>M.toS,?_⟩;refine nK 10 ?_;refine D3 rfl (fun _ K=>oO M K 0) ?_;intro _ w M;refine ⟨fun h=>absurd h aL,?_⟩;refine pM 12 0 [1,2,3,16,17] [2,3] (fun ZL ZM (⟨cJ,i⟩:pN) a w=>Kn a 41 ((18,I i)::ZL)∧jL w0 w (.blk vF 50 [I lK,I gF,.slice A cJ.length c] :: .row 65 3 A cJ.length c (dJ.all cJ)::ZM)) (M.pick [0,1,2,3] aL) ?_ ?_
  ·rintro ⟨uJ,i2⟩ a w ⟨K,M⟩ h
   revert a;refine cV 5 ?_;intro w M;exact bP 3 (M.pick [1] aL)
  rintro kk aA ⟨cJ,i⟩ a w hk1 ⟨K,M⟩ h;unfold sK at h;revert a;refine cB 6 h ?_ ?_
  ·intro hb h;obtain ⟨e3,_,h⟩:=aB h;refine eE 9 ?_;intro XW w M;refine cV 1 ?_;intro w M;refine aH 2 ?_;intro a K;refine aK (fun w=>Mem _ _ w _) [0,0,0,0,0,0,0,0,0,0,0,0,0,0,0,0,2] aQ aQ M.drew ?_;replace M:=M.drew;revert a;refine aH 5 ?_;obtain ⟨_,h0,h⟩:=aB h;have h0:=dG h0;refine aH 7 ?_;obtain ⟨_,h0,h⟩:=aB h;have h0:=dG h0;refine aH 3 ?_;obtain ⟨e4,_,h⟩:=aB h;refine aH 1 ?_;obtain ⟨l4,Cy,h⟩:=aB h;refine z7 (fun _ K=>gD (el:=(e3.1,e3.2.1,e3.2.2)) rfl ML rfl rfl K rfl rfl rfl 2 M rfl Cy) ?_;intro _ w M;have hl:=jI Cy;intro a K;try rw [hl] at M
   try rw [hl] at K
   clear hl;revert a;exact N7
  intro hb h;exact N8
 ·refine rD rfl (fun _ K=>Ka M) ?_;rintro _ w ⟨BD,rfl,M⟩;refine ⟨fun _=>M.toS,?_⟩;refine nK 7 ?_;obtain ⟨l5,B9,h⟩:=aB h;refine rD rfl (fun _ K=>sJ (C:=dJ) (z:=(0,0,0)) rfl wU rfl z65 rfl K rfl rfl M B9) ?_;rintro _ w ⟨A2,c2,rfl,M⟩;refine ⟨fun _=>M.toS,?_⟩;refine Ce 8 rfl (fun _ K=>bQ rfl K (vs:=[(0,I lK),(1,I gF),(2,.slice A2 l5.length c2)]) (cs:=[I lK,I gF,.slice A2 l5.length c2]) rfl aQ) ?_;refine nK 10 ?_;refine D3 rfl (fun _ K=>oO M K 1) ?_;intro _ w M;refine ⟨fun h=>absurd h aL,?_⟩;refine pM 12 0 [1,2,3,16,17] [2,3] (fun ZL ZM (⟨gA,i3⟩:pN) a w=>Kn a 41 ((18,I i3)::ZL)∧jL w0 w (.row 65 3 A2 gA.length c2 (dJ.all gA) :: .blk BD 50 [I lK,I gF,.slice A2 gA.length c2]::ZM)) (M.pick [0,1,2,3] aL) ?_ ?_
  ·rintro ⟨nD,i4⟩ a w ⟨K,M⟩ h
   revert a;refine cV 5 ?_;intro w M;exact bP 3 M.oQ
  rintro kk aA ⟨gA,i3⟩ a w hk1 ⟨K,M⟩ h;unfold sK at h;revert a;refine cB 6 h ?_ ?_
  ·intro hb h;obtain ⟨e7,_,h⟩:=aB h;refine eE 9 ?_;intro aCR w M;refine cV 1 ?_;intro w M;refine aH 2 ?_;intro a K;refine aK (fun w=>Mem _ _ w _) [0,0,0,0,0,0,0,0,0,0,0,0,0,0,0,0,2] aQ aQ M.drew ?_;replace M:=M.drew;revert a;refine aH 5 ?_;obtain ⟨_,h0,h⟩:=aB h;have h0:=dG h0;refine aH 7 ?_;obtain ⟨_,h0,h⟩:=aB h;have h0:=dG h0;refine aH 3 ?_;obtain ⟨e8,_,h⟩:=aB h;refine aH 1 ?_;obtain ⟨l7,Ao,h⟩:=aB h;refine z7 (fun _ K=>gD (el:=(e7.1,e7.2.1,e7.2.2)) rfl ML rfl rfl K rfl rfl rfl 1 M rfl Ao) ?_;intro _ w M;have hl:=jI Ao;intro a K;try rw [hl] at M
   try rw [hl] at K
   clear hl;revert a;exact N9
  intro hb h;exact Oa
theorem Mg {x2:Int} {r:Int} (h:E0 N x2 y Dt Fc D6=some r) (Z4:SL w0 dJ Jy D6) (Z5:D6.length≤Jz) (Aa:kX w0 BC 50 #[I Dt,I Fc,.slice Jy D6.length Jz]) :
  lL 46 #[I x2,I y,pQ BC] w0 (zO r w0):=by
 refine gE Tryz.func46 Tryz.ntmps46 ?_;intro M;unfold E0 at h;exact bP 21 M.nQ
theorem AQ {Da Db:Int} {zX:List bU} {Ob:Option Addr} {Oc Sq:Nat} {r:nJ} (h:iA N gF lK gG Da Db zX=some r) (Ar:SL w0 dJ kK gG) (zT:gG.length≤kW) (aIz:SL w0 dJ Ob zX) (aIA:zX.length≤Oc) (aIB:kX w0 Sq 50 #[I Da,I Db,.slice Ob zX.length Oc]) :
  lL 45 #[.agg #[I gF,I lK,.slice kK gG.length kW],.func (.func 46) #[] #[pQ Sq]] w0 (KZ r w0):=by
 refine gE Tryz.func45 Tryz.ntmps45 ?_;intro M;unfold iA at h;refine eE 2 ?_;intro LK w M;refine eE 0 ?_;intro jM w M;refine aH 3 ?_;refine Jr [0,0,0,0,0,0,0,1,0,1,2] 11 [0,1,2,3,4,5,6,7,8,9,10] M ?_;replace M:=M.drew;obtain ⟨x2,hx,h⟩:=cL h;refine aH 6 ?_;refine Ce 6 rfl (fun _ K=>V4 hx (AV rfl SX K rfl)) ?_;refine MX 7 9 ?_ ?_
 ·obtain ⟨l2,z8,h⟩:=aB h;refine rD rfl (fun _ K=>sJ (C:=dJ) (z:=(0,0,0)) rfl wU rfl z65 rfl K rfl rfl M z8) ?_;rintro _ w ⟨A,c,rfl,M⟩;refine ⟨fun _=>M.toS,?_⟩;refine Ce 8 rfl (fun _ K=>bQ rfl K (vs:=[(0,I gF),(1,I lK),(2,.slice A l2.length c)]) (cs:=[I gF,I lK,.slice A l2.length c]) rfl aQ) ?_;refine nK 9 ?_;refine rD rfl (fun _ K=>Ka M) ?_;rintro _ w ⟨vF,rfl,M⟩;refine ⟨fun _=>M.toS,?_⟩;refine nK 10 ?_;refine D3 rfl (fun _ K=>oO M K 0) ?_;intro _ w M;refine ⟨fun h=>absurd h aL,?_⟩;refine pM 12 0 [1,2,4,5,18,19] [2,3] (fun ZL ZM (⟨cJ,i⟩:pN) a w=>Kn a 41 ((20,I i)::ZL)∧jL w0 w (.blk vF 50 [I gF,I lK,.slice A cJ.length c] :: .row 65 3 A cJ.length c (dJ.all cJ)::ZM)) (M.pick [0,1,2,3] aL) ?_ ?_
  ·rintro ⟨uJ,i2⟩ a w ⟨K,M⟩ h
   revert a;refine cV 5 ?_;intro w M;exact bP 3 (M.pick [1] aL)
  rintro kk aA ⟨cJ,i⟩ a w hk1 ⟨K,M⟩ h;unfold iD at h;revert a;refine cB 6 h ?_ ?_
  ·intro hb h;obtain ⟨e3,_,h⟩:=aB h;refine eE 9 ?_;intro XW w M;refine cV 1 ?_;intro w M;refine aH 2 ?_;intro a K;refine aK (fun w=>Mem _ _ w _) [0,0,0,0,0,0,0,0,0,0,0,1,0,0,2] aQ aQ M.drew ?_;replace M:=M.drew;revert a;refine aH 6 ?_;obtain ⟨_,h0,h⟩:=aB h;have h0:=dG h0;refine aH 4 ?_;obtain ⟨_,h0,h⟩:=aB h;have h0:=dG h0;refine aH 1 ?_;obtain ⟨r3,gP,h⟩:=aB h;refine rU 0 (Mg gP) ?_;intro w M;obtain ⟨e4,_,h⟩:=aB h;refine aH 2 ?_;obtain ⟨l4,Cy,h⟩:=aB h;refine z7 (fun _ K=>gD (el:=(e3.1,e3.2.1,e3.2.2)) rfl ML rfl rfl K rfl rfl rfl 2 M rfl Cy) ?_;intro _ w M;have hl:=jI Cy;intro a K;try rw [hl] at M
   try rw [hl] at K
   clear hl;revert a;exact N7
  intro hb h;exact N8
 ·refine rD rfl (fun _ K=>Ka M) ?_;rintro _ w ⟨BD,rfl,M⟩;refine ⟨fun _=>M.toS,?_⟩;refine nK 7 ?_;obtain ⟨l5,B9,h⟩:=aB h;refine rD rfl (fun _ K=>sJ (C:=dJ) (z:=(0,0,0)) rfl wU rfl z65 rfl K rfl rfl M B9) ?_;rintro _ w ⟨A2,c2,rfl,M⟩;refine ⟨fun _=>M.toS,?_⟩;refine Ce 8 rfl (fun _ K=>bQ rfl K (vs:=[(0,I gF),(1,I lK),(2,.slice A2 l5.length c2)]) (cs:=[I gF,I lK,.slice A2 l5.length c2]) rfl aQ) ?_;refine nK 10 ?_;refine D3 rfl (fun _ K=>oO M K 1) ?_;intro _ w M;refine ⟨fun h=>absurd h aL,?_⟩;refine pM 12 0 [1,2,4,5,18,19] [2,3] (fun ZL ZM (⟨gA,i3⟩:pN) a w=>Kn a 41 ((20,I i3)::ZL)∧jL w0 w (.row 65 3 A2 gA.length c2 (dJ.all gA) :: .blk BD 50 [I gF,I lK,.slice A2 gA.length c2]::ZM)) (M.pick [0,1,2,3] aL) ?_ ?_
  ·rintro ⟨nD,i4⟩ a w ⟨K,M⟩ h
   revert a;refine cV 5 ?_;intro w M;exact bP 3 M.oQ
  rintro kk aA ⟨gA,i3⟩ a w hk1 ⟨K,M⟩ h;unfold iD at h;revert a;refine cB 6 h ?_ ?_
  ·intro hb h;obtain ⟨e7,_,h⟩:=aB h;refine eE 9 ?_;intro aCR w M;refine cV 1 ?_;intro w M;refine aH 2 ?_;intro a K;refine aK (fun w=>Mem _ _ w _) [0,0,0,0,0,0,0,0,0,0,0,1,0,0,2] aQ aQ M.drew ?_;replace M:=M.drew;revert a;refine aH 6 ?_;obtain ⟨_,h0,h⟩:=aB h;have h0:=dG h0;refine aH 4 ?_;obtain ⟨_,h0,h⟩:=aB h;have h0:=dG h0;refine aH 1 ?_;obtain ⟨r5,qA,h⟩:=aB h;refine rU 0 (Mg qA) ?_;intro w M;obtain ⟨e8,_,h⟩:=aB h;refine aH 2 ?_;obtain ⟨l7,Ao,h⟩:=aB h;refine z7 (fun _ K=>gD (el:=(e7.1,e7.2.1,e7.2.2)) rfl ML rfl rfl K rfl rfl rfl 1 M rfl Ao) ?_;intro _ w M;have hl:=jI Ao;intro a K;try rw [hl] at M
   try rw [hl] at K
   clear hl;revert a;exact N9
  intro hb h;exact Oa
theorem Mh {x2:Int} {r:Int} (h:E1 N x2 y Dt Fc D6=some r) (Z4:SL w0 dJ Jy D6) (Z5:D6.length≤Jz) (Aa:kX w0 BC 50 #[I Dt,I Fc,.slice Jy D6.length Jz]) :
  lL 47 #[I x2,I y,pQ BC] w0 (zO r w0):=by
 refine gE Tryz.func47 Tryz.ntmps47 ?_;intro M;unfold E1 at h;exact bP 21 M.nQ
theorem sF {Dc Dd:Int} {zY:List bU} {Od:Option Addr} {Oe Sr:Nat} {r:nJ} (h:eP N gF lK gG Dc Dd zY=some r) (Ar:SL w0 dJ kK gG) (zT:gG.length≤kW) (aIC:SL w0 dJ Od zY) (aID:zY.length≤Oe) (aIE:kX w0 Sr 50 #[I Dc,I Dd,.slice Od zY.length Oe]) :
  lL 45 #[.agg #[I gF,I lK,.slice kK gG.length kW],.func (.func 47) #[] #[pQ Sr]] w0 (KZ r w0):=by
 refine gE Tryz.func45 Tryz.ntmps45 ?_;intro M;unfold eP at h;refine eE 2 ?_;intro LK w M;refine eE 0 ?_;intro jM w M;refine aH 3 ?_;refine Jr [0,0,0,0,0,0,0,1,0,1,2] 11 [0,1,2,3,4,5,6,7,8,9,10] M ?_;replace M:=M.drew;obtain ⟨x2,hx,h⟩:=cL h;refine aH 6 ?_;refine Ce 6 rfl (fun _ K=>V4 hx (AV rfl SX K rfl)) ?_;refine MX 7 9 ?_ ?_
 ·obtain ⟨l2,z8,h⟩:=aB h;refine rD rfl (fun _ K=>sJ (C:=dJ) (z:=(0,0,0)) rfl wU rfl z65 rfl K rfl rfl M z8) ?_;rintro _ w ⟨A,c,rfl,M⟩;refine ⟨fun _=>M.toS,?_⟩;refine Ce 8 rfl (fun _ K=>bQ rfl K (vs:=[(0,I gF),(1,I lK),(2,.slice A l2.length c)]) (cs:=[I gF,I lK,.slice A l2.length c]) rfl aQ) ?_;refine nK 9 ?_;refine rD rfl (fun _ K=>Ka M) ?_;rintro _ w ⟨vF,rfl,M⟩;refine ⟨fun _=>M.toS,?_⟩;refine nK 10 ?_;refine D3 rfl (fun _ K=>oO M K 0) ?_;intro _ w M;refine ⟨fun h=>absurd h aL,?_⟩;refine pM 12 0 [1,2,4,5,18,19] [2,3] (fun ZL ZM (⟨cJ,i⟩:pN) a w=>Kn a 41 ((20,I i)::ZL)∧jL w0 w (.blk vF 50 [I gF,I lK,.slice A cJ.length c] :: .row 65 3 A cJ.length c (dJ.all cJ)::ZM)) (M.pick [0,1,2,3] aL) ?_ ?_
  ·rintro ⟨uJ,i2⟩ a w ⟨K,M⟩ h
   revert a;refine cV 5 ?_;intro w M;exact bP 3 (M.pick [1] aL)
  rintro kk aA ⟨cJ,i⟩ a w hk1 ⟨K,M⟩ h;unfold iE at h;revert a;refine cB 6 h ?_ ?_
  ·intro hb h;obtain ⟨e3,_,h⟩:=aB h;refine eE 9 ?_;intro XW w M;refine cV 1 ?_;intro w M;refine aH 2 ?_;intro a K;refine aK (fun w=>Mem _ _ w _) [0,0,0,0,0,0,0,0,0,0,0,1,0,0,2] aQ aQ M.drew ?_;replace M:=M.drew;revert a;refine aH 6 ?_;obtain ⟨_,h0,h⟩:=aB h;have h0:=dG h0;refine aH 4 ?_;obtain ⟨_,h0,h⟩:=aB h;have h0:=dG h0;refine aH 1 ?_;obtain ⟨r3,gP,h⟩:=aB h;refine rU 0 (Mh gP) ?_;intro w M;obtain ⟨e4,_,h⟩:=aB h;refine aH 2 ?_;obtain ⟨l4,Cy,h⟩:=aB h;refine z7 (fun _ K=>gD (el:=(e3.1,e3.2.1,e3.2.2)) rfl ML rfl rfl K rfl rfl rfl 2 M rfl Cy) ?_;intro _ w M;have hl:=jI Cy;intro a K;try rw [hl] at M
   try rw [hl] at K
   clear hl;revert a;exact N7
  intro hb h;exact N8
 ·refine rD rfl (fun _ K=>Ka M) ?_;rintro _ w ⟨BD,rfl,M⟩;refine ⟨fun _=>M.toS,?_⟩;refine nK 7 ?_;obtain ⟨l5,B9,h⟩:=aB h;refine rD rfl (fun _ K=>sJ (C:=dJ) (z:=(0,0,0)) rfl wU rfl z65 rfl K rfl rfl M B9) ?_;rintro _ w ⟨A2,c2,rfl,M⟩;refine ⟨fun _=>M.toS,?_⟩;refine Ce 8 rfl (fun _ K=>bQ rfl K (vs:=[(0,I gF),(1,I lK),(2,.slice A2 l5.length c2)]) (cs:=[I gF,I lK,.slice A2 l5.length c2]) rfl aQ) ?_;refine nK 10 ?_;refine D3 rfl (fun _ K=>oO M K 1) ?_;intro _ w M;refine ⟨fun h=>absurd h aL,?_⟩;refine pM 12 0 [1,2,4,5,18,19] [2,3] (fun ZL ZM (⟨gA,i3⟩:pN) a w=>Kn a 41 ((20,I i3)::ZL)∧jL w0 w (.row 65 3 A2 gA.length c2 (dJ.all gA) :: .blk BD 50 [I gF,I lK,.slice A2 gA.length c2]::ZM)) (M.pick [0,1,2,3] aL) ?_ ?_
  ·rintro ⟨nD,i4⟩ a w ⟨K,M⟩ h
   revert a;refine cV 5 ?_;intro w M;exact bP 3 M.oQ
  rintro kk aA ⟨gA,i3⟩ a w hk1 ⟨K,M⟩ h;unfold iE at h;revert a;refine cB 6 h ?_ ?_
  ·intro hb h;obtain ⟨e7,_,h⟩:=aB h;refine eE 9 ?_;intro aCR w M;refine cV 1 ?_;intro w M;refine aH 2 ?_;intro a K;refine aK (fun w=>Mem _ _ w _) [0,0,0,0,0,0,0,0,0,0,0,1,0,0,2] aQ aQ M.drew ?_;replace M:=M.drew;revert a;refine aH 6 ?_;obtain ⟨_,h0,h⟩:=aB h;have h0:=dG h0;refine aH 4 ?_;obtain ⟨_,h0,h⟩:=aB h;have h0:=dG h0;refine aH 1 ?_;obtain ⟨r5,qA,h⟩:=aB h;refine rU 0 (Mh qA) ?_;intro w M;obtain ⟨e8,_,h⟩:=aB h;refine aH 2 ?_;obtain ⟨l7,Ao,h⟩:=aB h;refine z7 (fun _ K=>gD (el:=(e7.1,e7.2.1,e7.2.2)) rfl ML rfl rfl K rfl rfl rfl 1 M rfl Ao) ?_;intro _ w M;have hl:=jI Ao;intro a K;try rw [hl] at M
   try rw [hl] at K
   clear hl;revert a;exact N9
  intro hb h;exact Oa
theorem Mi {x2:Int} {r:Int} (h:E2 N x2 y Dt Fc D6=some r) (Z4:SL w0 dJ Jy D6) (Z5:D6.length≤Jz) (Aa:kX w0 BC 50 #[I Dt,I Fc,.slice Jy D6.length Jz]) :
  lL 48 #[I x2,I y,pQ BC] w0 (zO r w0):=by
 refine gE Tryz.func48 Tryz.ntmps48 ?_;intro M;unfold E2 at h;exact bP 17 M.nQ
theorem iB {De Df:Int} {zZ:List bU} {Of:Option Addr} {Og Ss:Nat} {r:nJ} (h:cZ N gF lK gG De Df zZ=some r) (Ar:SL w0 dJ kK gG) (zT:gG.length≤kW) (aIF:SL w0 dJ Of zZ) (aIG:zZ.length≤Og) (aIH:kX w0 Ss 50 #[I De,I Df,.slice Of zZ.length Og]) :
  lL 45 #[.agg #[I gF,I lK,.slice kK gG.length kW],.func (.func 48) #[] #[pQ Ss]] w0 (KZ r w0):=by
 refine gE Tryz.func45 Tryz.ntmps45 ?_;intro M;unfold cZ at h;refine eE 2 ?_;intro LK w M;refine eE 0 ?_;intro jM w M;refine aH 3 ?_;refine Jr [0,0,0,0,0,0,0,1,0,1,2] 11 [0,1,2,3,4,5,6,7,8,9,10] M ?_;replace M:=M.drew;obtain ⟨x2,hx,h⟩:=cL h;refine aH 6 ?_;refine Ce 6 rfl (fun _ K=>V4 hx (AV rfl SX K rfl)) ?_;refine MX 7 9 ?_ ?_
 ·obtain ⟨l2,z8,h⟩:=aB h;refine rD rfl (fun _ K=>sJ (C:=dJ) (z:=(0,0,0)) rfl wU rfl z65 rfl K rfl rfl M z8) ?_;rintro _ w ⟨A,c,rfl,M⟩;refine ⟨fun _=>M.toS,?_⟩;refine Ce 8 rfl (fun _ K=>bQ rfl K (vs:=[(0,I gF),(1,I lK),(2,.slice A l2.length c)]) (cs:=[I gF,I lK,.slice A l2.length c]) rfl aQ) ?_;refine nK 9 ?_;refine rD rfl (fun _ K=>Ka M) ?_;rintro _ w ⟨vF,rfl,M⟩;refine ⟨fun _=>M.toS,?_⟩;refine nK 10 ?_;refine D3 rfl (fun _ K=>oO M K 0) ?_;intro _ w M;refine ⟨fun h=>absurd h aL,?_⟩;refine pM 12 0 [1,2,4,5,18,19] [2,3] (fun ZL ZM (⟨cJ,i⟩:pN) a w=>Kn a 41 ((20,I i)::ZL)∧jL w0 w (.blk vF 50 [I gF,I lK,.slice A cJ.length c] :: .row 65 3 A cJ.length c (dJ.all cJ)::ZM)) (M.pick [0,1,2,3] aL) ?_ ?_
  ·rintro ⟨uJ,i2⟩ a w ⟨K,M⟩ h
   revert a;refine cV 5 ?_;intro w M;exact bP 3 (M.pick [1] aL)
  rintro kk aA ⟨cJ,i⟩ a w hk1 ⟨K,M⟩ h;unfold iF at h;revert a;refine cB 6 h ?_ ?_
  ·intro hb h;obtain ⟨e3,_,h⟩:=aB h;refine eE 9 ?_;intro XW w M;refine cV 1 ?_;intro w M;refine aH 2 ?_;intro a K;refine aK (fun w=>Mem _ _ w _) [0,0,0,0,0,0,0,0,0,0,0,1,0,0,2] aQ aQ M.drew ?_;replace M:=M.drew;revert a;refine aH 6 ?_;obtain ⟨_,h0,h⟩:=aB h;have h0:=dG h0;refine aH 4 ?_;obtain ⟨_,h0,h⟩:=aB h;have h0:=dG h0;refine aH 1 ?_;obtain ⟨r3,gP,h⟩:=aB h;refine rU 0 (Mi gP) ?_;intro w M;obtain ⟨e4,_,h⟩:=aB h;refine aH 2 ?_;obtain ⟨l4,Cy,h⟩:=aB h;refine z7 (fun _ K=>gD (el:=(e3.1,e3.2.1,e3.2.2)) rfl ML rfl rfl K rfl rfl rfl 2 M rfl Cy) ?_;intro _ w M;have hl:=jI Cy;intro a K;try rw [hl] at M
   try rw [hl] at K
   clear hl;revert a;exact N7
  intro hb h;exact N8
 ·refine rD rfl (fun _ K=>Ka M) ?_;rintro _ w ⟨BD,rfl,M⟩;refine ⟨fun _=>M.toS,?_⟩;refine nK 7 ?_;obtain ⟨l5,B9,h⟩:=aB h;refine rD rfl (fun _ K=>sJ (C:=dJ) (z:=(0,0,0)) rfl wU rfl z65 rfl K rfl rfl M B9) ?_;rintro _ w ⟨A2,c2,rfl,M⟩;refine ⟨fun _=>M.toS,?_⟩;refine Ce 8 rfl (fun _ K=>bQ rfl K (vs:=[(0,I gF),(1,I lK),(2,.slice A2 l5.length c2)]) (cs:=[I gF,I lK,.slice A2 l5.length c2]) rfl aQ) ?_;refine nK 10 ?_;refine D3 rfl (fun _ K=>oO M K 1) ?_;intro _ w M;refine ⟨fun h=>absurd h aL,?_⟩;refine pM 12 0 [1,2,4,5,18,19] [2,3] (fun ZL ZM (⟨gA,i3⟩:pN) a w=>Kn a 41 ((20,I i3)::ZL)∧jL w0 w (.row 65 3 A2 gA.length c2 (dJ.all gA) :: .blk BD 50 [I gF,I lK,.slice A2 gA.length c2]::ZM)) (M.pick [0,1,2,3] aL) ?_ ?_
  ·rintro ⟨nD,i4⟩ a w ⟨K,M⟩ h
   revert a;refine cV 5 ?_;intro w M;exact bP 3 M.oQ
  rintro kk aA ⟨gA,i3⟩ a w hk1 ⟨K,M⟩ h;unfold iF at h;revert a;refine cB 6 h ?_ ?_
  ·intro hb h;obtain ⟨e7,_,h⟩:=aB h;refine eE 9 ?_;intro aCR w M;refine cV 1 ?_;intro w M;refine aH 2 ?_;intro a K;refine aK (fun w=>Mem _ _ w _) [0,0,0,0,0,0,0,0,0,0,0,1,0,0,2] aQ aQ M.drew ?_;replace M:=M.drew;revert a;refine aH 6 ?_;obtain ⟨_,h0,h⟩:=aB h;have h0:=dG h0;refine aH 4 ?_;obtain ⟨_,h0,h⟩:=aB h;have h0:=dG h0;refine aH 1 ?_;obtain ⟨r5,qA,h⟩:=aB h;refine rU 0 (Mi qA) ?_;intro w M;obtain ⟨e8,_,h⟩:=aB h;refine aH 2 ?_;obtain ⟨l7,Ao,h⟩:=aB h;refine z7 (fun _ K=>gD (el:=(e7.1,e7.2.1,e7.2.2)) rfl ML rfl rfl K rfl rfl rfl 1 M rfl Ao) ?_;intro _ w M;have hl:=jI Ao;intro a K;try rw [hl] at M
   try rw [hl] at K
   clear hl;revert a;exact N9
  intro hb h;exact Oa
theorem Ln {how:Int} {r:yH} (h:pD N gF lK gG how=some r) (Ar:SL w0 dJ kK gG) (zT:gG.length≤kW) :
  lL 11 #[.agg #[I gF,I lK,.slice kK gG.length kW],I how] w0 (JN r w0):=by
 refine gE Tryz.func11 Tryz.ntmps11 ?_;intro M;unfold pD at h;refine eE 2 ?_;intro LK w M;refine eE 0 ?_;intro jM w M;obtain ⟨r2,cR,h⟩:=aB h;refine fP 7 (AD cR) ?_;intro A c w M;refine eE 3 ?_;intro g__ w M;refine cV 0 ?_;intro w M;refine cB 9 h ?_ ?_
 ·intro hb h;refine cV 4 ?_;intro w M;exact Av
 intro hb h;refine kJ 8 20 h ?_ ?_
 ·intro hb h;refine cV 9 ?_;intro w M;exact Av
 intro hb h;refine cB 5 h ?_ ?_
 ·intro hb h;refine cV 3 ?_;intro w M;exact Av
 intro hb h;obtain ⟨r3,gP,h⟩:=aB h;refine fP 4 (V3 gP) ?_;intro w M;obtain ⟨e,h_e,h⟩:=aB h;refine aH 1 ?_;refine jO (fun _ K=>aGm (C:=aO7) (es:=[(r3.1,r3.2.1,r3.2.2.1),(r3.2.2.2.1,r3.2.2.2.2.1,r3.2.2.2.2.2.1),(r3.2.2.2.2.2.2.1,r3.2.2.2.2.2.2.2.1,r3.2.2.2.2.2.2.2.2.1),(r3.2.2.2.2.2.2.2.2.2.1,r3.2.2.2.2.2.2.2.2.2.2.1,r3.2.2.2.2.2.2.2.2.2.2.2.1),(r3.2.2.2.2.2.2.2.2.2.2.2.2.1,r3.2.2.2.2.2.2.2.2.2.2.2.2.2.1,r3.2.2.2.2.2.2.2.2.2.2.2.2.2.2.1),(r3.2.2.2.2.2.2.2.2.2.2.2.2.2.2.2.1,r3.2.2.2.2.2.2.2.2.2.2.2.2.2.2.2.2.1,r3.2.2.2.2.2.2.2.2.2.2.2.2.2.2.2.2.2.1),(r3.2.2.2.2.2.2.2.2.2.2.2.2.2.2.2.2.2.2.1,r3.2.2.2.2.2.2.2.2.2.2.2.2.2.2.2.2.2.2.2.1,r3.2.2.2.2.2.2.2.2.2.2.2.2.2.2.2.2.2.2.2.2.1),(r3.2.2.2.2.2.2.2.2.2.2.2.2.2.2.2.2.2.2.2.2.2.1,r3.2.2.2.2.2.2.2.2.2.2.2.2.2.2.2.2.2.2.2.2.2.2.1,r3.2.2.2.2.2.2.2.2.2.2.2.2.2.2.2.2.2.2.2.2.2.2.2.1),(r3.2.2.2.2.2.2.2.2.2.2.2.2.2.2.2.2.2.2.2.2.2.2.2.2.1,r3.2.2.2.2.2.2.2.2.2.2.2.2.2.2.2.2.2.2.2.2.2.2.2.2.2.1,r3.2.2.2.2.2.2.2.2.2.2.2.2.2.2.2.2.2.2.2.2.2.2.2.2.2.2)]) rfl aNC aNB rfl K rfl rfl rfl h_e) M ?_;refine eE 0 ?_;intro g_m w M;refine cV 0 ?_;intro w M;refine cB 9 h ?_ ?_
 ·intro hb h;obtain ⟨r4,lJ,h⟩:=aB h;refine fP 2 (Sp lJ) ?_;intro A2 c2 w M;refine cV 0 ?_;intro w M;refine cB 9 h ?_ ?_
  ·intro hb h;obtain ⟨r5,qA,h⟩:=aB h;refine fP 3 (AQ qA) ?_;intro A3 c3 w M;refine cV 0 ?_;intro w M;refine cB 9 h ?_ ?_
   ·intro hb h;obtain ⟨r6,tA,h⟩:=aB h;refine fP 3 (sF tA) ?_;intro A4 c4 w M;refine cV 0 ?_;intro w M;obtain ⟨r7,zG,h⟩:=aB h;refine fP 6 (iB zG) ?_;intro A5 c5 w M;refine cV 0 ?_;intro w M;exact eB 4 M.oQ
   intro hb h;obtain ⟨r8,BF,h⟩:=aB h;refine fP 6 (iB BF) ?_;intro A6 c6 w M;refine cV 0 ?_;intro w M;exact eB 4 M.oQ
  intro hb h;refine cB 9 h ?_ ?_
  ·intro hb h;obtain ⟨r9,EK,h⟩:=aB h;refine fP 3 (sF EK) ?_;intro A7 c7 w M;refine cV 0 ?_;intro w M;obtain ⟨Cd,BG,h⟩:=aB h;refine fP 6 (iB BG) ?_;intro A8 c8 w M;refine cV 0 ?_;intro w M;exact eB 4 M.oQ
  intro hb h;obtain ⟨Al,Ap,h⟩:=aB h;refine fP 6 (iB Ap) ?_;intro A9 c9 w M;refine cV 0 ?_;intro w M;exact eB 4 M.oQ
 intro hb h;refine cB 9 h ?_ ?_
 ·intro hb h;obtain ⟨AE,Fl,h⟩:=aB h;refine fP 3 (AQ Fl) ?_;intro Us c10 w M;refine cV 0 ?_;intro w M;refine cB 9 h ?_ ?_
  ·intro hb h;obtain ⟨B1,Cx,h⟩:=aB h;refine fP 3 (sF Cx) ?_;intro A11 c11 w M;refine cV 0 ?_;intro w M;obtain ⟨IX,Fm,h⟩:=aB h;refine fP 6 (iB Fm) ?_;intro A12 c12 w M;refine cV 0 ?_;intro w M;exact eB 4 M.oQ
  intro hb h;obtain ⟨J5,G6,h⟩:=aB h;refine fP 6 (iB G6) ?_;intro Yv c13 w M;refine cV 0 ?_;intro w M;exact eB 4 M.oQ
 intro hb h;refine cB 9 h ?_ ?_
 ·intro hb h;obtain ⟨r16,DS,h⟩:=aB h;refine fP 3 (sF DS) ?_;intro A14 c14 w M;refine cV 0 ?_;intro w M;obtain ⟨Lw,K9,h⟩:=aB h;refine fP 6 (iB K9) ?_;intro A15 c15 w M;refine cV 0 ?_;intro w M;exact eB 4 M.oQ
 intro hb h;obtain ⟨Mr,IH,h⟩:=aB h;refine fP 6 (iB IH) ?_;intro A16 c16 w M;refine cV 0 ?_;intro w M;exact eB 4 M.oQ
end
end
end Go.Proofs.YtpmnfhifmmfgladGreatDoor
