/- Parts of the proof. -/
import Derived.Test.YtpmnfhifmmfgladGreatDoorShotDevelopsK5
import Derived.Test.YtpmnfhifmmfgladGreatDoorShotDevelopsK10
import Derived.Test.YtpmnfhifmmfgladGreatDoorShotDevelopsK14
set_option linter.unusedVariables false
set_option linter.unusedSimpArgs false
set_option linter.unusedSectionVars false
set_option maxRecDepth 100000
set_option maxHeartbeats 8000000
open Go.IntKind renaming i64→aC
open Int renaming tdiv→gI
namespace Go.Proofs.YtpmnfhifmmfgladGreatDoor
section
open Go.RowKit
theorem xQ {N:Nat} {SI SJ SK:Int} {w0:World} {r:bU} (h:j6 N SI SJ SK=some r) :
  lL 69 #[.agg #[I SI,I SJ,I SK]] w0 (Ur r w0):=by
 refine gE Tryz.func69 Tryz.ntmps69 ?_;intro M;unfold j6 at h;refine eE 2 ?_;intro g_c w M;refine eE 0 ?_;intro jM w M;refine aH 10 ?_;refine jO (fun _ K=>bQ rfl K (vs:=[(0,I SI),(1,I SJ),(2,I SK)]) (cs:=[I SI,I SJ,I SK]) rfl aQ) M ?_;refine cV 0 ?_;intro w M;exact bP 3 M.nQ
theorem zM {N:Nat} {aI x2 y:Int} {w0:World} {r:Int} (h:mI N aI x2 y=some r) :
  lL 107 #[I aI,I x2,I y] w0 (zO r w0):=by
 refine gE Tryz.func107 Tryz.ntmps107 ?_;intro M;unfold mI at h;obtain ⟨a2,hx,h⟩:=cL h;refine kN 17 hx ?_;obtain ⟨b,hx,h⟩:=cL h;refine kN 0 hx ?_;refine kJ 9 22 h ?_ ?_
 ·intro hb h;refine cB 6 h ?_ ?_
  ·intro hb h;exact bP 8 M.nQ
  intro hb h;refine kJ 5 29 h ?_ ?_
  ·intro hb h;refine cB 6 h ?_ ?_
   ·intro hb h;exact bP 8 M.nQ
   intro hb h;exact bP 9 M.nQ
  intro hb h;exact bP 16 M.nQ
 intro hb h;refine kJ 12 29 h ?_ ?_
 ·intro hb h;refine cB 6 h ?_ ?_
  ·intro hb h;exact bP 8 M.nQ
  intro hb h;exact bP 9 M.nQ
 intro hb h;exact bP 16 M.nQ
theorem uV {N:Nat} {l0 l1 l2:Int} {w0:World} {r:bU} (h:j3 N l0 l1 l2=some r) :
  lL 111 #[.agg #[I l0,I l1,I l2]] w0 (Ur r w0):=by
 refine gE Tryz.func111 Tryz.ntmps111 ?_;intro M;unfold j3 at h;refine eE 2 ?_;intro g_l w M;refine eE 0 ?_;intro jM w M;refine aH 10 ?_;refine jO (fun _ K=>bQ rfl K (vs:=[(0,I l0),(1,I l1),(2,I l2)]) (cs:=[I l0,I l1,I l2]) rfl aQ) M ?_;refine cV 0 ?_;intro w M;exact bP 3 M.nQ
theorem wS {N:Nat} {eA fY:Int} {fZ:List Int} {kY:Option Addr} {kZ:Nat} {o:Int} {w0:World} {r:nJ} (h:qO N eA fY fZ o=some r) (AN:SL w0 (cI .i64) kY fZ) (IG:fZ.length≤kZ) :
  lL 66 #[.agg #[I eA,I fY,.slice kY fZ.length kZ],I o] w0 (KZ r w0):=by
 refine gE Tryz.func66 Tryz.ntmps66 ?_;intro M;unfold qO at h;refine eE 2 ?_;intro jM w M;refine eE 0 ?_;intro dY w M;refine aH 8 ?_;refine jO (fun _ K=>bQ rfl K (vs:=[(0,I eA),(1,I fY)]) (cs:=[I eA,I fY,.slice none (([]:List bU)).length 0]) rfl aQ) M ?_;refine eE 0 ?_;intro fN w M;refine cV 0 ?_;intro w M;refine aH 9 ?_;replace M:=Mem.cC 65 3 dJ M;refine pM 0 0 [1,2,4,5] [2,3] (fun ZL ZM (⟨tE,i⟩:pN) a w=>∃(A:Option Addr) (c:Nat),Kn a 108 ((6,I i)::ZL)∧jL w0 w (.row 65 3 A tE.length c (dJ.all tE) :: .blk fN 50 [I eA,I fY,.slice A tE.length c]::ZM)) (M.pick [0,1,2,3] aL) ?_ ?_
 ·rintro ⟨aIV,i18⟩ a w ⟨A14,c14,K,M⟩ h
  revert a;refine cV 5 ?_;intro w M;exact bP 3 M.oQ
 rintro kk aA ⟨tE,i⟩ a w hk1 ⟨A,c,K,M⟩ h;unfold nY at h;revert a;refine cB 9 h ?_ ?_
 ·intro hb h;refine pM 10 2 [1,2,4,5,6] [2,3] (fun ZL ZM (⟨FZ,i6⟩:pN) a w=>∃(A6:Option Addr) (c6:Nat),Kn a 108 ((7,I i6)::ZL)∧jL w0 w (.row 65 3 A6 FZ.length c6 (dJ.all FZ) :: .blk fN 50 [I eA,I fY,.slice A6 FZ.length c6]::ZM)) (M.pick [0,1,2,3] aL) ?_ ?_
  ·rintro ⟨aDL,i17⟩ a w ⟨Yv,c13,K,M⟩ h
   revert a;obtain ⟨x62,hx,h⟩:=cL h;refine kN 6 hx ?_;exact iG 2 (aDL,x62) (M.pick [0,1,2,3] aL)
  rintro kk aA ⟨FZ,i6⟩ a w hk2 ⟨A6,c6,K,M⟩ h;unfold iO at h;revert a;refine cB 9 h ?_ ?_
  ·intro hb h;refine eE 6 ?_;intro aJ2 w M;refine eE 0 ?_;intro aJ3 w M;obtain ⟨x39,hx,h⟩:=cL h;refine kN 8 hx ?_;refine pM 3 4 [1,2,4,5,6,7,8,9] [2,3,4,5] (fun ZL ZM (⟨aBK,x115,aBL,OB,aBM,aBN,EV⟩:To) a w=>Kn a 108 ((10,I EV)::ZL)∧jL w0 w (.blk aJ3 35 [I aBK,I x115,I aBL] :: .blk aJ2 35 [I OB,I aBM,I aBN]::ZM)) (M.pick [0,1,2,3,4,5] aL) ?_ ?_
   ·rintro ⟨PL,UY,Jd,Wu,Wv,QX,Yo⟩ a w ⟨K,M⟩ h
    revert a;refine eE 4 ?_;intro aOG w M;refine pM 9 8 [1,2,4,5,6,7,8,9,13] [1,2,3,4,5,6] (fun ZL ZM (⟨UZ,U0,U1,D2⟩:yN) a w=>Kn a 108 ((14,I D2)::ZL)∧jL w0 w (.blk aOG 35 [I UZ,I U0,I U1]::ZM)) (M.pick [0,1,2,3,4,5,6] aL) ?_ ?_
    ·rintro ⟨aKr,aKs,aKt,i16⟩ a w ⟨K,M⟩ h
     revert a;refine aH 3 ?_;intro a K;refine aK (fun w=>Mem _ _ w _) [0,0,0,1,0,0,0,1,0,2] aQ aQ M.drew ?_;replace M:=M.drew;revert a;obtain ⟨r32,Yg,h⟩:=aB h;refine rU 3 (zM Yg) ?_;intro w M;obtain ⟨UR,Yf,h⟩:=aB h;refine rU 3 (eG Yf) ?_;intro w M;refine J9 h ?_ ?_
     ·intro aFY h;refine F4 aFY 0 ?_;refine z7 (fun _ K=>jX M K 0) ?_;intro _ w M;refine aH 2 ?_;intro a K;refine aK (fun w=>Mem _ _ w _) [0,0,0,1,1,1,0,2] aQ aQ (M.pick [0,1,2,4,5,6] aL).drew ?_;replace M:=M.drew;revert a;obtain ⟨PK,aFZ,h⟩:=aB h;refine rU 3 (uV aFZ) ?_;intro w M;refine Gf (fun _ K=>bS rfl wU z65 K (vs:=[(0,.agg #[I PK.1,I PK.2.1,I PK.2.2])]) (cs:=[I PK.1,I PK.2.1,I PK.2.2]) rfl aQ rfl rfl M) ?_;rintro _ w ⟨gs7,rfl,M⟩;replace M:=M.fX 0 rfl dJ ([(PK.1,PK.2.1,PK.2.2)]:List bU) (n:=1) rfl rfl rfl;refine ⟨M.toS,?_⟩;obtain ⟨QW,aII,h⟩:=aB h;refine Gf (fun _ K=>fQ (C:=dJ) (xs:=FZ) (ys:=([(PK.1,PK.2.1,PK.2.2)]:List bU)) rfl wU rfl z65 rfl rfl K rfl rfl 4 M rfl ((p9 (C:=dJ) 0 rfl rfl) _ M) aII) ?_;rintro _ w ⟨Us,c10,rfl,M⟩;refine ⟨M.toS,?_⟩;refine aH 1 ?_;refine z7 (fun _ K=>jX M K 5) ?_;intro _ w M;obtain ⟨x59,hx,h⟩:=cL h;refine kN 6 hx ?_;exact iG 2 (QW,x59) (M.pick [4,5,6,7] aL)
     intro h;refine J9 h ?_ ?_
     ·intro aFY h;refine F4 aFY 1 ?_;refine z7 (fun _ K=>jX M K 0) ?_;intro _ w M;refine aH 2 ?_;intro a K;refine aK (fun w=>Mem _ _ w _) [0,0,0,1,1,1,0,2] aQ aQ (M.pick [0,1,2,4,5,6] aL).drew ?_;replace M:=M.drew;revert a;obtain ⟨Pi,aF0,h⟩:=aB h;refine rU 3 (uV aF0) ?_;intro w M;refine Gf (fun _ K=>bS rfl wU z65 K (vs:=[(0,.agg #[I Pi.1,I Pi.2.1,I Pi.2.2])]) (cs:=[I Pi.1,I Pi.2.1,I Pi.2.2]) rfl aQ rfl rfl M) ?_;rintro _ w ⟨gs8,rfl,M⟩;replace M:=M.fX 0 rfl dJ ([(Pi.1,Pi.2.1,Pi.2.2)]:List bU) (n:=1) rfl rfl rfl;refine ⟨M.toS,?_⟩;obtain ⟨TX,aIJ,h⟩:=aB h;refine Gf (fun _ K=>fQ (C:=dJ) (xs:=FZ) (ys:=([(Pi.1,Pi.2.1,Pi.2.2)]:List bU)) rfl wU rfl z65 rfl rfl K rfl rfl 4 M rfl ((p9 (C:=dJ) 0 rfl rfl) _ M) aIJ) ?_;rintro _ w ⟨A11,c11,rfl,M⟩;refine ⟨M.toS,?_⟩;refine aH 1 ?_;refine z7 (fun _ K=>jX M K 5) ?_;intro _ w M;obtain ⟨x60,hx,h⟩:=cL h;refine kN 6 hx ?_;exact iG 2 (TX,x60) (M.pick [4,5,6,7] aL)
     intro h;refine J9 h ?_ ?_
     ·intro aFY h;refine F4 aFY 2 ?_;refine z7 (fun _ K=>jX M K 0) ?_;intro _ w M;refine aH 2 ?_;intro a K;refine aK (fun w=>Mem _ _ w _) [0,0,0,1,1,1,0,2] aQ aQ (M.pick [0,1,2,4,5,6] aL).drew ?_;replace M:=M.drew;revert a;obtain ⟨I7,aF1,h⟩:=aB h;refine rU 3 (uV aF1) ?_;intro w M;refine Gf (fun _ K=>bS rfl wU z65 K (vs:=[(0,.agg #[I I7.1,I I7.2.1,I I7.2.2])]) (cs:=[I I7.1,I I7.2.1,I I7.2.2]) rfl aQ rfl rfl M) ?_;rintro _ w ⟨gs9,rfl,M⟩;replace M:=M.fX 0 rfl dJ ([(I7.1,I7.2.1,I7.2.2)]:List bU) (n:=1) rfl rfl rfl;refine ⟨M.toS,?_⟩;obtain ⟨aDK,aIK,h⟩:=aB h;refine Gf (fun _ K=>fQ (C:=dJ) (xs:=FZ) (ys:=([(I7.1,I7.2.1,I7.2.2)]:List bU)) rfl wU rfl z65 rfl rfl K rfl rfl 4 M rfl ((p9 (C:=dJ) 0 rfl rfl) _ M) aIK) ?_;rintro _ w ⟨A12,c12,rfl,M⟩;refine ⟨M.toS,?_⟩;refine aH 1 ?_;refine z7 (fun _ K=>jX M K 5) ?_;intro _ w M;obtain ⟨x61,hx,h⟩:=cL h;refine kN 6 hx ?_;exact iG 2 (aDK,x61) (M.pick [4,5,6,7] aL)
     intro h;intro a K;cases h
    rintro kk aA ⟨UZ,U0,U1,D2⟩ a w hk5 ⟨K,M⟩ h;unfold nX at h;revert a;refine cB 7 h ?_ ?_
    ·intro hb h;refine aH 4 ?_;intro a K;refine aK (fun w=>Mem _ _ w _) [0,0,0,0,0,0,0,0,0,0,2] aQ aQ M.drew ?_;replace M:=M.drew;revert a;refine aH 2 ?_;refine J9 h ?_ ?_
     ·intro Su h;refine F4 Su 0 ?_;refine aH 2 ?_;refine F4 Su 0 ?_;obtain ⟨_,h0,h⟩:=aB h;have h0:=dG h0;refine aH 3 ?_;refine F4 Su 0 ?_;refine z7 (fun _ K=>jX M K 0) ?_;intro _ w M;obtain ⟨x56,hx,h⟩:=cL h;refine kN 6 hx ?_;exact iG 2 (aC.wrap (gI Wu (max PL 1)),U0,U1,x56) (M.pick [0,1,2,3,4,5,6] aL)
     intro h;refine J9 h ?_ ?_
     ·intro Su h;refine F4 Su 1 ?_;refine aH 2 ?_;refine F4 Su 1 ?_;obtain ⟨_,h0,h⟩:=aB h;have h0:=dG h0;refine aH 3 ?_;refine F4 Su 1 ?_;refine z7 (fun _ K=>jX M K 0) ?_;intro _ w M;obtain ⟨x57,hx,h⟩:=cL h;refine kN 6 hx ?_;exact iG 2 (UZ,aC.wrap (gI Wv (max UY 1)),U1,x57) (M.pick [0,1,2,3,4,5,6] aL)
     intro h;refine J9 h ?_ ?_
     ·intro Su h;refine F4 Su 2 ?_;refine aH 2 ?_;refine F4 Su 2 ?_;obtain ⟨_,h0,h⟩:=aB h;have h0:=dG h0;refine aH 3 ?_;refine F4 Su 2 ?_;refine z7 (fun _ K=>jX M K 0) ?_;intro _ w M;obtain ⟨x58,hx,h⟩:=cL h;refine kN 6 hx ?_;exact iG 2 (UZ,U0,aC.wrap (gI QX (max Jd 1)),x58) (M.pick [0,1,2,3,4,5,6] aL)
     intro h;intro a K;cases h
    intro hb h;exact jY 3 (hk5 (UZ,U0,U1,D2)) (M.pick [0,1,2,3,4,5,6] aL)
   rintro kk aA ⟨aBK,x115,aBL,OB,aBM,aBN,EV⟩ a w hk3 ⟨K,M⟩ h;unfold j5 at h;revert a;refine cB 13 h ?_ ?_
   ·intro hb h;obtain ⟨x45,hx,h⟩:=cL h;refine kN 9 hx ?_;refine pM 3 6 [1,2,4,5,6,7,8,9,10] [2,3,4,5] (fun ZL ZM (⟨Ms,Mt,GO,Mu,Jc,Mv,i12⟩:To) a w=>Kn a 108 ((11,I i12)::ZL)∧jL w0 w (.blk aJ3 35 [I Ms,I Mt,I GO] :: .blk aJ2 35 [I Mu,I Jc,I Mv]::ZM)) (M.pick [0,1,2,3,4,5] aL) ?_ ?_
    ·rintro ⟨OC,Mw,U2,Mx,Ww,OD,Na⟩ a w ⟨K,M⟩ h
     revert a;obtain ⟨x52,hx,h⟩:=cL h;refine kN 6 hx ?_;exact iG 2 (OC,Mw,U2,Mx,Ww,OD,x52) (M.pick [0,1,2,3,4,5] aL)
    rintro kk aA ⟨Ms,Mt,GO,Mu,Jc,Mv,i12⟩ a w hk4 ⟨K,M⟩ h;unfold iN at h;revert a;refine cB 13 h ?_ ?_
    ·intro hb h;obtain ⟨MU,aFX,h⟩:=aB h;refine fP 9 (zM aFX) ?_;intro w M;refine aH 4 ?_;intro a K;refine aK (fun w=>Mem _ _ w _) [0,0,0,0,0,0,0,1,0,0,2] aQ aQ M.drew ?_;replace M:=M.drew;revert a;refine aH 2 ?_;refine J9 h ?_ ?_
     ·intro hj9 h;refine F4 hj9 0 ?_;obtain ⟨Yq,aOH,h⟩:=aB h;refine rU 4 (eG aOH) ?_;intro w M;refine aH 1 ?_;refine F4 hj9 0 ?_;refine z7 (fun _ K=>jX M K 1) ?_;intro _ w M;refine aH 4 ?_;refine yjQ hj9 0 M ?_;refine aH 2 ?_;refine yjQ hj9 0 M ?_;refine cV 0 ?_;intro w M;obtain ⟨x49,hx,h⟩:=cL h;refine kN 6 hx ?_;exact iG 2 (aC.wrap (Ms+1),Mt,GO,aC.wrap (Mu+Yq),Jc,Mv,x49) (M.pick [0,1,2,3,4,5] aL)
     intro h;refine J9 h ?_ ?_
     ·intro hj9 h;refine F4 hj9 1 ?_;obtain ⟨L4,Yh,h⟩:=aB h;refine rU 4 (eG Yh) ?_;intro w M;refine aH 1 ?_;refine F4 hj9 1 ?_;refine z7 (fun _ K=>jX M K 1) ?_;intro _ w M;refine aH 4 ?_;refine yjQ hj9 1 M ?_;refine aH 2 ?_;refine yjQ hj9 1 M ?_;refine cV 0 ?_;intro w M;obtain ⟨x50,hx,h⟩:=cL h;refine kN 6 hx ?_;exact iG 2 (Ms,aC.wrap (Mt+1),GO,Mu,aC.wrap (Jc+L4),Mv,x50) (M.pick [0,1,2,3,4,5] aL)
     intro h;refine J9 h ?_ ?_
     ·intro hj9 h;refine F4 hj9 2 ?_;obtain ⟨r31,aF2,h⟩:=aB h;refine rU 4 (eG aF2) ?_;intro w M;refine aH 1 ?_;refine F4 hj9 2 ?_;refine z7 (fun _ K=>jX M K 1) ?_;intro _ w M;refine aH 4 ?_;refine yjQ hj9 2 M ?_;refine aH 2 ?_;refine yjQ hj9 2 M ?_;refine cV 0 ?_;intro w M;obtain ⟨x51,hx,h⟩:=cL h;refine kN 6 hx ?_;exact iG 2 (Ms,Mt,aC.wrap (GO+1),Mu,Jc,aC.wrap (Mv+r31),x51) (M.pick [0,1,2,3,4,5] aL)
     intro h;intro a K;cases h
    intro hb h;exact jY 3 (hk4 (Ms,Mt,GO,Mu,Jc,Mv,i12)) (M.pick [0,1,2,3,4,5] aL)
   intro hb h;exact jY 3 (hk3 (aBK,x115,aBL,OB,aBM,aBN,EV)) (M.pick [0,1,2,3,4,5] aL)
  intro hb h;exact jY 3 (hk2 (FZ,i6)) (M.pick [0,1,2,3] aL)
 intro hb h;exact jY 3 (hk1 (tE,i)) (M.pick [0,1,2,3] aL)
theorem sD {N:Nat} {n:Int} {w0:World} {r:Int} (h:dD N n=some r) :
  lL 106 #[I n] w0 (zO r w0):=by
 refine gE Tryz.func106 Tryz.ntmps106 ?_;intro M;unfold dD at h;exact bP 14 M.nQ
theorem xR {N:Nat} {eA fY:Int} {fZ:List bU} {kY:Option Addr} {kZ:Nat} {o0 o1 o2 o3 o4 o5 o6 o7 o8:Int} {w0:World} {r:nJ} (h:uP N eA fY fZ o0 o1 o2 o3 o4 o5 o6 o7 o8=some r) (AN:SL w0 dJ kY fZ) (IG:fZ.length≤kZ) :
  lL 65 #[.agg #[I eA,I fY,.slice kY fZ.length kZ],.agg #[I o0,I o1,I o2,I o3,I o4,I o5,I o6,I o7,I o8]] w0 (KZ r w0):=by
 refine gE Tryz.func65 Tryz.ntmps65 ?_;intro M;unfold uP at h;refine eE 2 ?_;intro jM w M;refine eE 0 ?_;intro dY w M;refine eE 0 ?_;intro fN w M;refine aH 8 ?_;refine jO (fun _ K=>bQ rfl K (vs:=[(0,I eA),(1,I fY)]) (cs:=[I eA,I fY,.slice none (([]:List bU)).length 0]) rfl aQ) M ?_;refine eE 0 ?_;intro vM w M;refine cV 0 ?_;intro w M;refine aH 9 ?_;replace M:=Mem.cC 65 3 dJ M;refine pM 0 0 [2,3,4,5] [2,3,4] (fun ZL ZM (⟨tE,i⟩:pN) a w=>∃(A:Option Addr) (c:Nat),Kn a 69 ((6,I i)::ZL)∧jL w0 w (.row 65 3 A tE.length c (dJ.all tE) :: .blk vM 50 [I eA,I fY,.slice A tE.length c]::ZM)) (M.pick [0,1,2,3,4] aL) ?_ ?_
 ·rintro ⟨sZ,i5⟩ a w ⟨A4,c4,K,M⟩ h
  revert a;refine cV 5 ?_;intro w M;exact bP 3 M.oQ
 rintro kk aA ⟨tE,i⟩ a w hk1 ⟨A,c,K,M⟩ h;unfold oU at h;revert a;refine cB 10 h ?_ ?_
 ·intro hb h;obtain ⟨e5,_,h⟩:=aB h;refine aH 11 ?_;obtain ⟨r6,tA,h⟩:=aB h;refine fP 0 (xQ tA) ?_;intro w M;refine eE 0 ?_;intro aIx w M;refine cV 0 ?_;intro w M;refine eE 4 ?_;intro aOk w M;refine pM 9 2 [2,3,4,5,6,7,8] [1,2,3,4,5,6] (fun ZL ZM (⟨Oj,FX,JJ,i3⟩:yN) a w=>Kn a 69 ((9,I i3)::ZL)∧jL w0 w (.blk aOk 35 [I Oj,I FX,I JJ]::ZM)) (M.pick [0,1,2,3,4,5,6] aL) ?_ ?_
  ·rintro ⟨x03,x14,x23,i4⟩ a w ⟨K,M⟩ h
   revert a;refine aH 2 ?_;intro a K;refine aK (fun w=>Mem _ _ w _) [0,0,0,1,1,1,0,2] aQ aQ (M.pick [0,1,3,4,5,6] aL).drew ?_;replace M:=M.drew;revert a;obtain ⟨Al,Ap,h⟩:=aB h;refine rU 3 (uV Ap) ?_;intro w M;refine Gf (fun _ K=>bS rfl wU z65 K (vs:=[(0,.agg #[I Al.1,I Al.2.1,I Al.2.2])]) (cs:=[I Al.1,I Al.2.1,I Al.2.2]) rfl aQ rfl rfl M) ?_;rintro _ w ⟨gs2,rfl,M⟩;replace M:=M.fX 0 rfl dJ ([(Al.1,Al.2.1,Al.2.2)]:List bU) (n:=1) rfl rfl rfl;refine ⟨M.toS,?_⟩;obtain ⟨Ak,Ju,h⟩:=aB h;refine Gf (fun _ K=>fQ (C:=dJ) (xs:=tE) (ys:=([(Al.1,Al.2.1,Al.2.2)]:List bU)) rfl wU rfl z65 rfl rfl K rfl rfl 3 M rfl ((p9 (C:=dJ) 0 rfl rfl) _ M) Ju) ?_;rintro _ w ⟨A3,c3,rfl,M⟩;refine ⟨M.toS,?_⟩;refine aH 1 ?_;refine z7 (fun _ K=>jX M K 4) ?_;intro _ w M;obtain ⟨x15,hx,h⟩:=cL h;refine kN 6 hx ?_;exact iG 2 (Ak,x15) (M.pick [3,4,5,6,7] aL)
  rintro kk aA ⟨Oj,FX,JJ,i3⟩ a w hk2 ⟨K,M⟩ h;unfold oT at h;revert a;refine cB 7 h ?_ ?_
  ·intro hb h;refine aH 4 ?_;intro a K;refine aK (fun w=>Mem _ _ w _) [0,0,0,0,0,0,0,0,0,0,0,0,0,0,0,0,0,0,0,0,0,0,0,0,0,0,1,1,0,2] aQ aQ M.drew ?_;replace M:=M.drew;revert a;obtain ⟨_,h0,h⟩:=aB h;have h0:=mQ h0;refine aH 4 ?_;obtain ⟨e9,aIv,h⟩:=aB h;refine G4 (fun _ K=>qD rfl Hc K rfl (Aw 5 rfl) rfl rfl aIv) ?_;obtain ⟨_,h0,h⟩:=aB h;have h0:=mQ h0;refine aH 7 ?_;obtain ⟨e10,aFU,h⟩:=aB h;refine G4 (fun _ K=>qD rfl Hc K rfl (Aw 5 rfl) rfl rfl aFU) ?_;obtain ⟨_,h0,h⟩:=aB h;have h0:=mQ h0;refine aH 8 ?_;obtain ⟨e11,aOI,h⟩:=aB h;refine G4 (fun _ K=>qD rfl Hc K rfl (Aw 5 rfl) rfl rfl aOI) ?_;obtain ⟨r9,EK,h⟩:=aB h;refine rU 4 (fO EK) ?_;intro w M;obtain ⟨Cd,BG,h⟩:=aB h;refine rU 0 (sD BG) ?_;intro w M;refine J9 h ?_ ?_
   ·intro hj3 h;refine F4 hj3 0 ?_;refine z7 (fun _ K=>jX M K 0) ?_;intro _ w M;obtain ⟨x10,hx,h⟩:=cL h;refine kN 6 hx ?_;exact iG 2 (Cd,FX,JJ,x10) (M.pick [0,1,2,3,4,5,6] aL)
   intro h;refine J9 h ?_ ?_
   ·intro hj3 h;refine F4 hj3 1 ?_;refine z7 (fun _ K=>jX M K 0) ?_;intro _ w M;obtain ⟨US,hx,h⟩:=cL h;refine kN 6 hx ?_;exact iG 2 (Oj,Cd,JJ,US) (M.pick [0,1,2,3,4,5,6] aL)
   intro h;refine J9 h ?_ ?_
   ·intro hj3 h;refine F4 hj3 2 ?_;refine z7 (fun _ K=>jX M K 0) ?_;intro _ w M;obtain ⟨Sv,hx,h⟩:=cL h;refine kN 6 hx ?_;exact iG 2 (Oj,FX,Cd,Sv) (M.pick [0,1,2,3,4,5,6] aL)
   intro h;intro a K;cases h
  intro hb h;exact jY 3 (hk2 (Oj,FX,JJ,i3)) (M.pick [0,1,2,3,4,5,6] aL)
 intro hb h;exact jY 3 (hk1 (tE,i)) (M.pick [0,1,2,3,4] aL)
theorem Ei {N:Nat} {l2:List aN} {BW:Option Addr} {BX:Nat} {x2 y:Int} {w0:World} {r:Bool} (h:qM N l2 x2 y=some r) (O9:SL w0 jG BW l2) (R8:l2.length≤BX) :
  lL 108 #[.slice BW l2.length BX,I x2,I y] w0 (DQ r w0):=by
 refine gE Tryz.func108 Tryz.ntmps108 ?_;intro M;unfold qM at h;refine pM 12 0 [0,1,2] [] (fun ZL ZM (i:Int) a w=>Kn a 30 ((7,I i)::ZL)∧jL w0 w []) M.nQ ?_ ?_
 ·rintro i6 a w ⟨K,M⟩ h
  revert a;exact bP 8 M.nQ
 rintro kk aA i a w hk1 ⟨K,M⟩ h;unfold lO at h;revert a;refine cB 9 h ?_ ?_
 ·intro hb h;obtain ⟨e3,_,h⟩:=aB h;refine kJ 14 21 h ?_ ?_
  ·intro hb h;obtain ⟨e4,_,h⟩:=aB h;refine cB 10 h ?_ ?_
   ·intro hb h;exact bP 11 M.nQ
   intro hb h;obtain ⟨i4,hx,h⟩:=cL h;refine kN 6 hx ?_;exact iG 2 i4 M.nQ
  intro hb h;obtain ⟨i5,hx,h⟩:=cL h;refine kN 17 hx ?_;exact iG 2 i5 M.nQ
 intro hb h;exact jY 3 (hk1 i) M.nQ
theorem IW {p:Prop} (h:p:=by exact jY 9 (hj1 (decide (i48=(aC.wrap (i17+2))))) (M.pick [0,1,2,3] aL)):p:=h
theorem zN {N:Nat} {eA fY:Int} {fZ:List Int} {kY:Option Addr} {kZ:Nat} {o:List aN} {A_o:Option Addr} {c_o:Nat} {w0:World} {r:qP} (h:oS N eA fY fZ o=some r) (AN:SL w0 (cI .i64) kY fZ) (IG:fZ.length≤kZ) (R_o:SL w0 jG A_o o) (C_o:o.length≤c_o) :
  lL 61 #[.agg #[I eA,I fY,.slice kY fZ.length kZ],.slice A_o o.length c_o] w0 (aCK r w0):=by
 refine gE Tryz.func61 Tryz.ntmps61 ?_;intro M;unfold oS at h;refine eE 2 ?_;intro jM w M;refine eE 0 ?_;intro dY w M;refine aH 8 ?_;refine jO (fun _ K=>bQ rfl K (vs:=[(0,I eA),(1,I fY)]) (cs:=[I eA,I fY,.slice none ([]:List Int).length 0]) rfl aQ) M ?_;refine eE 0 ?_;intro fN w M;refine cV 0 ?_;intro w M;refine aH 9 ?_;replace M:=Mem.cC 3 1 (cI .i64) M;refine pM 0 0 [1,2,4,5] [2,3] (fun ZL ZM (⟨tE,i⟩:gL) a w=>∃(A:Option Addr) (c:Nat),Kn a 132 ((6,I i)::ZL)∧jL w0 w (.row 3 1 A tE.length c ((cI .i64).all tE) :: .blk fN 45 [I eA,I fY,.slice A tE.length c]::ZM)) (M.pick [0,1,2,3] aL) ?_ ?_
 ·rintro ⟨TX,i72⟩ a w ⟨A11,c11,K,M⟩ h;try dsimp only at h
  revert a;refine cV 5 ?_;intro w M;exact bP 3 M.oQ
 rintro kk aA ⟨tE,i⟩ a w hk1 ⟨A,c,K,M⟩ h;unfold mH at h;revert a;refine cB 9 h ?_ ?_
 ·intro hb h;refine pM 10 2 [1,2,4,5,6] [2,3] (fun ZL ZM (⟨Hu,i17⟩:gL) a w=>∃(A5:Option Addr) (c5:Nat),Kn a 132 ((7,I i17)::ZL)∧jL w0 w (.row 3 1 A5 Hu.length c5 ((cI .i64).all Hu) :: .blk fN 45 [I eA,I fY,.slice A5 Hu.length c5]::ZM)) (M.pick [0,1,2,3] aL) ?_ ?_
  ·rintro ⟨QW,i71⟩ a w ⟨Us,c10,K,M⟩ h;try dsimp only at h
   revert a;obtain ⟨x27,hx,h⟩:=cL h;refine kN 6 hx ?_;exact iG 2 (QW,x27) (M.pick [0,1,2,3] aL)
  rintro kk aA ⟨Hu,i17⟩ a w hk2 ⟨A5,c5,K,M⟩ h;unfold kI at h;revert a;refine cB 9 h ?_ ?_
  ·intro hb h;obtain ⟨r6,tA,h⟩:=aB h;refine fP 10 (Ei tA) ?_;intro w M;refine cB 3 h ?_ ?_
   ·intro hb h;refine aH 1 ?_;intro a K;refine aK (fun w=>Mem _ _ w _) [0,0,0,0,0,1,1,1,0,2] aQ aQ (M.pick [1,2,3] aL).drew ?_;replace M:=M.drew;revert a;obtain ⟨r7,zG,h⟩:=aB h;refine rU 5 (eG zG) ?_;intro w M;refine Gf (fun _ K=>bS rfl pI z3 K (vs:=[(0,I r7)]) (cs:=[I r7]) rfl aQ rfl rfl M) ?_;rintro _ w ⟨gs5,rfl,M⟩;replace M:=M.fX 0 rfl (cI .i64) ([r7]:List Int) (n:=1) rfl rfl rfl;refine ⟨M.toS,?_⟩;obtain ⟨UX,aLX,h⟩:=aB h;refine Gf (fun _ K=>fQ (C:=(cI .i64)) (xs:=Hu) (ys:=([r7]:List Int)) rfl pI rfl z3 rfl rfl K rfl rfl 1 M rfl ((p9 (C:=(cI .i64)) 0 rfl rfl) _ M) aLX) ?_;rintro _ w ⟨A8,c8,rfl,M⟩;refine ⟨M.toS,?_⟩;refine aH 1 ?_;refine z7 (fun _ K=>jX M K 2) ?_;intro _ w M;obtain ⟨x15,hx,h⟩:=cL h;refine kN 9 hx ?_;exact iG 2 (UX,x15) (M.pick [1,2,3,4] aL)
   intro hb h;obtain ⟨Oh,hx,h⟩:=cL h;refine kN 13 hx ?_;refine pM 3 4 [1,2,4,5,6,7] [0,1,2,3] (fun ZL ZM (⟨i32,i33,i34⟩:bU) a w=>Kn a 132 ((8,I i32)::(9,I i33)::(10,I i34)::ZL)∧jL w0 w ZM) (M.pick [0,1,2,3] aL) ?_ ?_
   ·rintro ⟨i68,i69,i70⟩ a w ⟨K,M⟩ h;try dsimp only at h
    revert a;refine aH 2 ?_;intro a K;refine aK (fun w=>Mem _ _ w _) [0,0,0,0,0,0,1,1,0,2] aQ aQ (M.pick [1,2,3] aL).drew ?_;replace M:=M.drew;revert a;obtain ⟨_,h0,h⟩:=aB h;have h0:=dG h0;refine aH 6 ?_;refine Gf (fun _ K=>bS rfl pI z3 K (vs:=[(0,I (aC.wrap (gI i68 (max i69 1))))]) (cs:=[I (aC.wrap (gI i68 (max i69 1)))]) rfl aQ rfl rfl M) ?_;rintro _ w ⟨gs6,rfl,M⟩;replace M:=M.fX 0 rfl (cI .i64) ([aC.wrap (gI i68 (max i69 1))]:List Int) (n:=1) rfl rfl rfl;refine ⟨M.toS,?_⟩;obtain ⟨aKq,aLY,h⟩:=aB h;refine Gf (fun _ K=>fQ (C:=(cI .i64)) (xs:=Hu) (ys:=([aC.wrap (gI i68 (max i69 1))]:List Int)) rfl pI rfl z3 rfl rfl K rfl rfl 1 M rfl ((p9 (C:=(cI .i64)) 0 rfl rfl) _ M) aLY) ?_;rintro _ w ⟨A9,c9,rfl,M⟩;refine ⟨M.toS,?_⟩;refine aH 1 ?_;refine z7 (fun _ K=>jX M K 2) ?_;intro _ w M;obtain ⟨x26,hx,h⟩:=cL h;refine kN 6 hx ?_;exact iG 2 (aKq,x26) (M.pick [1,2,3,4] aL)
   rintro kk aA ⟨i32,i33,i34⟩ a w hk3 ⟨K,M⟩ h;unfold jB at h;revert a;refine cB 9 h ?_ ?_
   ·intro hb h;obtain ⟨x20,hx,h⟩:=cL h;refine kN 8 hx ?_;refine pM 3 6 [1,2,4,5,6,7,10] [0,1,2,3] (fun ZL ZM (⟨i46,i47,i48⟩:bU) a w=>Kn a 132 ((8,I i46)::(9,I i47)::(11,I i48)::ZL)∧jL w0 w ZM) (M.pick [0,1,2,3] aL) ?_ ?_
    ·rintro ⟨i65,i66,i67⟩ a w ⟨K,M⟩ h;try dsimp only at h
     revert a;obtain ⟨x25,hx,h⟩:=cL h;refine kN 6 hx ?_;exact iG 2 (i65,i66,x25) (M.pick [0,1,2,3] aL)
    rintro kk aA ⟨i46,i47,i48⟩ a w hk4 ⟨K,M⟩ h;unfold jA at h;revert a;refine cB 9 h ?_ ?_
    ·intro hb h;refine aH 5 ?_;intro a K;refine w8 (Rel:=fun (i57:Bool) a w=>Kn a 132 [(1,.slice A_o o.length c_o),(2,pQ jM),(4,pQ dY),(5,pQ fN),(6,I i),(7,I i17),(8,I i46),(9,I i47),(10,I i34),(11,I i48),(12,.bool i57)]∧jL w0 w [.row 3 1 A5 Hu.length c5 ((cI .i64).all Hu),.blk fN 45 [I eA,I fY,.slice A5 Hu.length c5],.blk dY 45 [I 0,I 0,.slice none ([]:List Int).length 0],.blk jM 45 [I eA,I fY,.slice kY fZ.length kZ]]) h ?_ ?_
     ·clear K M h;rintro i58 a w ⟨K,M⟩ h;try dsimp only at h
      revert a;refine aH 2 ?_;intro a K;refine w8 (Rel:=fun (i59:Bool) a w=>Kn a 132 [(1,.slice A_o o.length c_o),(2,pQ jM),(4,pQ dY),(5,pQ fN),(6,I i),(7,I i17),(8,I i46),(9,I i47),(10,I i34),(11,I i48),(113,.bool i59)]∧jL w0 w [.row 3 1 A5 Hu.length c5 ((cI .i64).all Hu),.blk fN 45 [I eA,I fY,.slice A5 Hu.length c5],.blk dY 45 [I 0,I 0,.slice none ([]:List Int).length 0],.blk jM 45 [I eA,I fY,.slice kY fZ.length kZ]]) h ?_ ?_
      ·clear K M h;rintro i60 a w ⟨K,M⟩ h;try dsimp only at h
       revert a;refine aH 1 ?_;intro a K;refine w8 (Rel:=fun (⟨i61,i62⟩:aN) a w=>Kn a 132 [(1,.slice A_o o.length c_o),(2,pQ jM),(4,pQ dY),(5,pQ fN),(6,I i),(7,I i17),(8,I i61),(9,I i62),(10,I i34),(11,I i48)]∧jL w0 w [.row 3 1 A5 Hu.length c5 ((cI .i64).all Hu),.blk fN 45 [I eA,I fY,.slice A5 Hu.length c5],.blk dY 45 [I 0,I 0,.slice none ([]:List Int).length 0],.blk jM 45 [I eA,I fY,.slice kY fZ.length kZ]]) h ?_ ?_
       ·clear K M h;rintro ⟨i63,i64⟩ a w ⟨K,M⟩ h;try dsimp only at h
        revert a;obtain ⟨x24,hx,h⟩:=cL h;refine kN 5 hx ?_;exact iG 2 (i63,i64,x24) (M.pick [0,1,2,3] aL)
       clear h;rintro vJ hj3 h;unfold wI at h;revert a;refine cB 0 h ?_ ?_
       ·intro hb h;obtain ⟨Al,Ap,h⟩:=aB h;refine fP 6 (eG Ap) ?_;intro w M;obtain ⟨JJ,hx,h⟩:=cL h;refine kN 1 hx ?_;obtain ⟨x23,hx,h⟩:=cL h;refine kN 5 hx ?_;exact jY 1 (hj3 (JJ,x23)) (M.pick [0,1,2,3] aL)
       intro hb h;exact jY 1 (hj3 (i46,i47)) (M.pick [0,1,2,3] aL)
      clear h;rintro oM hj2 h;unfold sP at h;revert a;refine kJ 3 93 h ?_ ?_
      ·intro hb h;obtain ⟨r8,BF,h⟩:=aB h;refine fP 4 (aT BF) ?_;intro w M;refine kJ 2 100 h ?_ ?_
       ·intro hb h;obtain ⟨r9,EK,h⟩:=aB h;refine fP 4 (aT EK) ?_;intro w M;refine kJ 2 107 h ?_ ?_
        ·intro hb h;obtain ⟨Cd,BG,h⟩:=aB h;refine fP 3 (Ei BG) ?_;intro w M;exact jY 3 (hj2 (!(Cd))) (M.pick [0,1,2,3] aL)
        intro hb h;exact jY 7 (hj2 false) (M.pick [0,1,2,3] aL)
       intro hb h;exact jY 14 (hj2 false) (M.pick [0,1,2,3] aL)
      intro hb h;exact jY 21 (hj2 false) (M.pick [0,1,2,3] aL)
     clear h;rintro fU hj1 h;unfold sR at h;revert a;refine kJ 5 63 h ?_ ?_
     ·intro hb h;refine kJ 5 68 h ?_ ?_
      ·intro hb h;exact jY 25 (hj1 true) (M.pick [0,1,2,3] aL)
      intro hb h;refine kJ 7 75 h ?_ ?_
      ·intro hb h;exact jY 18 (hj1 true) (M.pick [0,1,2,3] aL)
      intro hb h;refine kJ 4 79 h ?_ ?_
      ·intro hb h;refine kJ 5 84 h ?_ ?_
       ·intro hb h;exact jY 9 (hj1 true) (M.pick [0,1,2,3] aL)
       intro hb h;exact IW
      intro hb h;exact jY 14 (hj1 false) (M.pick [0,1,2,3] aL)
     intro hb h;refine kJ 16 79 h ?_ ?_
     ·intro hb h;refine kJ 5 84 h ?_ ?_
      ·intro hb h;exact jY 9 (hj1 true) (M.pick [0,1,2,3] aL)
      intro hb h;exact IW
     intro hb h;exact jY 14 (hj1 false) (M.pick [0,1,2,3] aL)
    intro hb h;exact jY 3 (hk4 (i46,i47,i48)) (M.pick [0,1,2,3] aL)
   intro hb h;exact jY 3 (hk3 (i32,i33,i34)) (M.pick [0,1,2,3] aL)
  intro hb h;exact jY 3 (hk2 (Hu,i17)) (M.pick [0,1,2,3] aL)
 intro hb h;exact jY 3 (hk1 (tE,i)) (M.pick [0,1,2,3] aL)
end
end Go.Proofs.YtpmnfhifmmfgladGreatDoor
